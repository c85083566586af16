/- A crash of the disk. -/
import Derived.Test.YtcbpgnjlbbjieaaDoorD3
set_option linter.unusedVariables false
set_option linter.unusedSimpArgs false
set_option maxRecDepth 100000
namespace Go.Proofs.YtcbpgnjlbbjieaaDoor
open Go.Sx
abbrev intV (l : List Int) : List Value := l.map (Value.int .i64)

theorem crash_bs {D : Dk} {tl : List Int} {z : Int} {S : List Nm} {i : Nat} {bsn : List (Bo × OwnP)} {y : Bo × OwnP} (h : bsn.map Prod.fst = (List.range i).map (crashB D tl z S)) (hy : y.1 = crashB D tl z S i) : (bsn ++ [y]).map Prod.fst = (List.range (i + 1)).map (crashB D tl z S) := by
  rw [List.map_append, h, List.range_succ, List.map_append, List.map_singleton, List.map_singleton, hy]
theorem row_next (bsn : List (Bo × OwnP)) (l : List Int) (q : OwnP) {m : Nat} (h : l.length = m) : boR bsn ++ [pV q m, .int .i64 m] = boR (bsn ++ [((l, l.length), q)]) := by
  subst h
  rw [boR_app]
  rfl
theorem byt_next (bsn : List (Bo × OwnP)) (y : Bo × OwnP) : bytM (bsn ++ [y]) = bytM bsn ++ pM 5 y.2 (dg y.1.1) := by
  rw [bytM_app]
  show _ ++ (_ ++ []) = _
  rw [List.append_nil]
theorem bsK (q : OwnP) (m : Nat) (w : World) : (Instr.buildSlice 58 1 [(0, .agg [pV q m, .int .i64 m].toArray)].toArray).run Tryd.prog w = .ok (.slice (some ⟨w.heap.size, 0, none⟩) 1 1) (w.alloc (row 65 [pV q m, .int .i64 m])) := by kernel_rfl
theorem nm_at {S : List Nm} {i : Nat} (h : i < S.length) : (nmV S)[((i : Nat) : Int).toNat * (0 + 1)]? = some (.string (S.getD i (e0, 0)).1) := by
  show (S.map _)[i * 1]? = _
  rw [Nat.mul_one]
  rw [List.getElem?_map, List.getElem?_eq_getElem h, List.getD_eq_getElem?_getD, List.getElem?_eq_getElem h]
  rfl
theorem ch_at {l : List Ch} {i : Nat} (h : i < l.length) (k : Nat) (u : Value) (hu : (chV (l.getD i (e0, e0, 0)))[k]? = some u) : (chR l)[i * 3 + k]? = some u := by
  have hk : k < 3 := (List.getElem?_eq_some_iff.1 hu).1
  rw [← hu]
  exact flat_get' (f := chV) (fun _ => rfl) (e0, e0, 0) k h hk
theorem bo_at {l : List (Bo × OwnP)} {i : Nat} {x : Bo × OwnP} (h : l[i]? = some x) (k : Nat) (u : Value) (hu : (boV x)[k]? = some u) : (boR l)[i * 2 + k]? = some u := by
  have hk : k < 2 := (List.getElem?_eq_some_iff.1 hu).1
  rw [← hu]
  exact boR_at h k hk
theorem crash_good {D : Dk} {H : DkH} {n : Int} {tl : List Int} {z : Int} {m ck : Nat} {es : Array MapEntry} {ls : List Nm} {qn : OwnP} {bsn : List (Bo × OwnP)} (hm : MapIs es ck ls) (hp : ls.Perm (sfI (crashS D n) (crashS D n).length)) (hb : bsn.map Prod.fst = (List.range (crashS D n).length).map (crashB D tl z (crashS D n))) (hq : PC 2 qn bsn.length (boR bsn)) (hx : ∀ x ∈ bsn, PC 1 x.2 x.1.1.length (dg x.1.1)) :
    Good (crashD D n tl z) { H with mn := m, en := es, cn := ck, ln := ls, es := es, cs := ck, ls := ls, qb := qn, qc := none, bs := bsn } := by
  rw [sfI_end] at hp
  exact ⟨hm, hp, hm, hp, ⟨rfl, rfl⟩, hq, hb, hx⟩
/-- These bytes are left of a body. -/
abbrev tkB (D : Dk) (n : Int) (tl : List Int) (i : Nat) : List Int := (D.bo.getD ((crashS D n).getD i (e0, 0)).2 bo0).1.take ((D.bo.getD ((crashS D n).getD i (e0, 0)).2 bo0).2 + tailK (D.bo.getD ((crashS D n).getD i (e0, 0)).2 bo0) tl i)
theorem tk_len (D : Dk) (n : Int) (tl : List Int) (i : Nat) (h : ((D.bo.getD ((crashS D n).getD i (e0, 0)).2 bo0).2 + tailK (D.bo.getD ((crashS D n).getD i (e0, 0)).2 bo0) tl i) ≤ (D.bo.getD ((crashS D n).getD i (e0, 0)).2 bo0).1.length) : (tkB D n tl i).length = ((D.bo.getD ((crashS D n).getD i (e0, 0)).2 bo0).2 + tailK (D.bo.getD ((crashS D n).getD i (e0, 0)).2 bo0) tl i) := by
  rw [List.length_take]
  omega
theorem tk_clone (D : Dk) (n : Int) (tl : List Int) (i : Nat) (qx : OwnP) (w : World) (h : ((D.bo.getD ((crashS D n).getD i (e0, 0)).2 bo0).2 + tailK (D.bo.getD ((crashS D n).getD i (e0, 0)).2 bo0) tl i) ≤ (D.bo.getD ((crashS D n).getD i (e0, 0)).2 bo0).1.length) (hv : SlB w (.slice (pA qx) ((D.bo.getD ((crashS D n).getD i (e0, 0)).2 bo0).2 + tailK (D.bo.getD ((crashS D n).getD i (e0, 0)).2 bo0) tl i) (pC qx)) (tkB D n tl i)) (hl : (D.bo.getD ((crashS D n).getD i (e0, 0)).2 bo0).1.length ≤ 1099511627776) :
    Calls Tryd.prog 38 #[.slice (pA qx) ((D.bo.getD ((crashS D n).getD i (e0, 0)).2 bo0).2 + tailK (D.bo.getD ((crashS D n).getD i (e0, 0)).2 bo0) tl i) (pC qx)] w fun e w' => ∃ q : OwnP, e = .returned (pV q ((D.bo.getD ((crashS D n).getD i (e0, 0)).2 bo0).2 + tailK (D.bo.getD ((crashS D n).getD i (e0, 0)).2 bo0) tl i)) ∧ PC 1 q ((D.bo.getD ((crashS D n).getD i (e0, 0)).2 bo0).2 + tailK (D.bo.getD ((crashS D n).getD i (e0, 0)).2 bo0) tl i) (dg (tkB D n tl i)) ∧ Upd [] w w' (pM 5 q (dg (tkB D n tl i))) [] := by
  have hl2 := tk_len D n tl i h
  have h1 := cloneB_w (pA qx) (pC qx) (tkB D n tl i) w (by rw [hl2]; exact hv) (by omega)
  rw [hl2] at h1
  refine h1.mono ?_
  rintro e w' ⟨q, he, hq, hU⟩
  rw [hl2] at he hq
  exact ⟨q, he, hq, hU⟩
theorem dg_at {l : List Int} {i : Nat} (h : i < l.length) : (dg l)[((i : Nat) : Int).toNat * (0 + 1)]? = some (.int .u8 (l.getD i 0)) := rows_1 h
theorem sz3dd : (Tryd.prog.info? 3).map (·.size) = some 1 := by kernel_rfl
theorem sz4dd : (Tryd.prog.info? 4).map (·.size) = some 1 := by kernel_rfl
theorem sz5dd : (Tryd.prog.info? 5).map (·.size) = some 1 := by kernel_rfl
theorem sz9dd : (Tryd.prog.info? 9).map (·.size) = some 1 := by kernel_rfl
theorem sz22dd : (Tryd.prog.info? 22).map (·.size) = some 1 := by kernel_rfl
theorem sz57dd : (Tryd.prog.info? 57).map (·.size) = some 1 := by kernel_rfl
theorem sz58dd : (Tryd.prog.info? 58).map (·.size) = some 1 := by kernel_rfl
theorem sz59dd : (Tryd.prog.info? 59).map (·.size) = some 1 := by kernel_rfl
theorem sz65dd : (Tryd.prog.info? 65).map (·.size) = some 2 := by kernel_rfl
theorem sz68dd : (Tryd.prog.info? 68).map (·.size) = some 3 := by kernel_rfl
theorem tx34dd : Txt Tryd.prog 34 := txt_of Tryd.func34 rfl (by kernel_rfl)
theorem tx35dd : Txt Tryd.prog 35 := txt_of Tryd.func35 rfl (by kernel_rfl)
theorem tx36dd : Txt Tryd.prog 36 := txt_of Tryd.func36 rfl (by kernel_rfl)
theorem tx37dd : Txt Tryd.prog 37 := txt_of Tryd.func37 rfl (by kernel_rfl)
theorem tx38dd : Txt Tryd.prog 38 := txt_of Tryd.func38 rfl (by kernel_rfl)
theorem z3dd : (Tryd.prog.info? 3).bind (·.zero) = some (.int .i64 0) := by kernel_rfl
theorem z65dd : (Tryd.prog.info? 65).bind (·.zero) = some (.agg [.slice none 0 0, .int .i64 0].toArray) := by kernel_rfl
theorem z68dd : (Tryd.prog.info? 68).bind (·.zero) = some (.agg [.string ByteArray.empty, .string ByteArray.empty, .int .i64 0].toArray) := by kernel_rfl

set_option maxHeartbeats 20000000 in
theorem crash_w (b1 : Nat) (D : Dk) (H : DkH) (n : Int) (at_ : Option Addr) (ct : Nat) (tl : List Int) (z : Int) (w : World) {k : Nat} (hM : MemAt w (dkM b1 D H)) (hG : Good D H) (hW : WfD D k) (hk : k ≤ 549755813888) (hF : ∀ f ∈ [factC 1 (.slice at_ tl.length ct) tl.length (intV tl)], f.p w ∧ ∀ k, f.fp k → k < w.heap.size ∧ k ∉ (dkM b1 D H).map (·.1)) :
    Calls Tryd.prog 15 #[.pointer (some ⟨b1, 0, none⟩), .int .i64 n, .slice at_ tl.length ct, .int .u8 z] w fun e w' => DkP b1 D H w (crashD D n tl z) (.int .i64 0) e w' := by
  have hn2 := hW.n2
  have hsS : Srt (crashS D n) := hW.csrt n
  have hcl := hG.c.le
  have hbl := bs_len hG
  refine calls_of (args := [.pointer (some ⟨b1, 0, none⟩), .int .i64 n, .slice at_ tl.length ct, .int .u8 z]) ((dkM b1 D H).map (·.1)) (dkM b1 D H) ([factC 1 (.slice at_ tl.length ct) tl.length (intV tl)]) Tryd.func15 rfl rfl (okMem hM hF) ?_
  refine J_seq ?_
  refine J_region ?_
  refine L_v rfl rfl rfl (V_assign rfl rfl) ?_
  refine L_nil ?_
  change J _ _ _ _
  refine J_seq ?_
  refine J_seq ?_
  refine J_region ?_
  refine L_v rfl rfl rfl (V_move rfl rfl) ?_
  refine L_v rfl rfl rfl (V_eqP rfl rfl rfl Tryd.underlying24 rfl) ?_
  refine L_nil ?_
  change J _ _ _ _
  refine J_false rfl ?_
  refine J_skip ?_
  change J _ _ _ _
  refine J_seq ?_
  refine J_seq ?_
  refine J_regionQ rfl (by kernel_rfl) ?_
  refine LQ_v rfl rfl rfl (V_move rfl rfl) ?_
  refine LQ_v rfl rfl rfl (V_nilCheck rfl rfl) ?_
  refine LQ_v rfl rfl rfl (V_fieldAddr rfl rfl Tryd.underlying61 rfl sz59dd rfl) ?_
  refine LQ_v rfl rfl rfl (V_load1 0 rfl rfl rfl Tryd.underlying59 rfl (by rfl)) ?_
  refine LQ_v rfl rfl rfl (V_move rfl rfl) ?_
  refine LQ_v rfl rfl rfl (V_max (r := max n 0) rfl rfl rfl (by show (if n < 0 then (0 : Int) else n) = max n 0; split <;> omega)) ?_
  refine LQ_v rfl rfl rfl (V_move rfl rfl) ?_
  refine LQ_v rfl rfl rfl (V_nilCheck rfl rfl) ?_
  refine LQ_v rfl rfl rfl (V_fieldAddr rfl rfl Tryd.underlying61 rfl sz59dd rfl) ?_
  refine LQ_v rfl rfl rfl (V_load1 0 rfl rfl rfl Tryd.underlying59 rfl (by rfl)) ?_
  refine LQ_v rfl rfl rfl (V_len rfl rfl Tryd.underlying59 rfl) ?_
  refine LQ_v rfl rfl rfl (V_min (r := (((min (max n 0) D.ch.length).toNat : Nat) : Int)) rfl rfl rfl (by show (if (D.ch.length : Int) < max n 0 then (D.ch.length : Int) else max n 0) = _; split <;> omega)) ?_
  refine LQ_v rfl rfl rfl (V_slice0 (h := (min (max n 0) D.ch.length).toNat) rfl rfl Tryd.underlying59 sz68dd (Bd.at rfl rfl) rfl rfl (by omega) (Nat.le_refl _)) ?_
  refine LQ_v rfl rfl rfl (V_len rfl rfl Tryd.underlying59 rfl) ?_
  refine LQ_v rfl rfl rfl (V_move rfl rfl) ?_
  refine LQ_nil ?_
  change J _ _ _ _
  refine J_block ?_
  refine J_loop (X := Nat × Array MapEntry × Nat × List Nm) (fun x => { env := [(0, .pointer (some ⟨b1, 0, none⟩)), (2, .slice at_ tl.length ct), (3, .int .u8 z), (31, .slice (pA H.qc) ((min (max n 0) D.ch.length).toNat) (pC H.qc)), (32, .int .i64 (((min (max n 0) D.ch.length).toNat : Nat) : Int)), (33, .int .i64 (x.1 : Int))], mem := (b1, row 61 (dkC D H)) :: (H.mn, .map H.en H.cn) :: (H.ms, .map x.2.1 x.2.2.1) :: dkR D H, facts := [factC 1 (.slice at_ tl.length ct) tl.length (intV tl)] }) (fun x => x.1 ≤ (min (max n 0) D.ch.length).toNat ∧ MapIs x.2.1 x.2.2.1 x.2.2.2 ∧ x.2.2.2.Perm ((D.ch.take x.1).foldl doN D.sf)) (fun x => (min (max n 0) D.ch.length).toNat - x.1) (0, H.es, H.cs, H.ls) ⟨Nat.zero_le _, hG.s, hG.sp⟩ ⟨⟨rfl, rfl, rfl, rfl, rfl, rfl, trivial⟩, List.Sublist.refl _, fun f hf => hf, rfl⟩ ?_
  rintro ⟨i, es, ck, ls⟩ ⟨hik, hms, hls⟩
  try simp only at hik hms hls ⊢
  refine J_seq ?_
  refine J_region ?_
  refine L_v rfl rfl rfl (V_lss rfl rfl rfl rfl) ?_
  refine L_nil ?_
  change J _ _ _ _
  refine J_seq ?_
  refine J_cond rfl (fun h1 => ?_) (fun h1 => ?_)
  ·
    first | (have h1 := of_decide_eq_true h1) | (have h1 := of_decide_eq_false h1) | skip
    have hi3 : i < (min (max n 0) D.ch.length).toNat := by omega
    have hic : i < D.ch.length := by omega
    have hAc : ∃ b off, pA H.qc = some ⟨b, off, none⟩ := hG.c.at (by omega)
    refine J_skip ?_
    change J _ _ _ _
    refine J_seq ?_
    refine J_block ?_
    refine J_seq ?_
    refine J_region ?_
    refine L_v rfl rfl rfl (V_indexN rfl rfl rfl Tryd.underlying59 sz68dd hAc (by omega) (by omega)) ?_
    refine L_v rfl rfl rfl (V_loadCN (vs := chV (D.ch.getD i (e0, e0, 0))) rfl rfl Tryd.underlying68 rfl (szd sz68dd (by kernel_rfl)) (fun w hw => (hG.slH hw (fun p hp => List.mem_cons_of_mem _ (List.mem_cons_of_mem _ (List.mem_cons_of_mem _ hp))))) (by exact Nat.zero_lt_succ _) (ch_at hic)) ?_
    refine L_alloc rfl rfl rfl rfl z68dd (fun b0 => ?_)
    refine L_pk ((b0, row 68 [.string ByteArray.empty, .string ByteArray.empty, .int .i64 0]) :: (b1, row 61 (dkC D H)) :: (H.mn, .map H.en H.cn) :: (H.ms, .map es ck) :: dkR D H) (Pk.front _ _) ?_
    refine L_storeW 0 rfl rfl rfl rfl rfl rfl (szd sz68dd (by kernel_rfl)) (all_one (by kernel_rfl)) (by kernel_rfl) ?_
    refine L_nil ?_
    change J _ _ _ _
    refine J_regionO (.pure 0 (.pure 1 (.pure 2 (.pure 3 (.pure 4 (.one 5 (.nil))))))) ([(b0, row 68 (chV (D.ch.getD i (e0, e0, 0)))), (b1, row 61 (dkC D H))]) _ (Pk.of_sub (List.Sublist.cons_cons _ (List.Sublist.cons_cons _ (List.nil_sublist _)))) (fun f hf => hf) rfl rfl (by kernel_rfl) ?_
    refine LO_v rfl rfl rfl rfl (V_loadT 0 (vs := chV (D.ch.getD i (e0, e0, 0))) rfl rfl rfl Tryd.underlying68 rfl sz68dd (by kernel_rfl) (by kernel_rfl)) ?_
    refine LO_v rfl rfl rfl rfl (V_move rfl rfl) ?_
    refine LO_v rfl rfl rfl rfl (V_nilCheck rfl rfl) ?_
    refine LO_v rfl rfl rfl rfl (V_fieldAddr rfl rfl Tryd.underlying61 rfl sz57dd rfl) ?_
    refine LO_v rfl rfl rfl rfl (V_load1 1 rfl rfl rfl Tryd.underlying57 rfl (by rfl)) ?_
    refine LO_s rfl rfl rfl (S_call rfl rfl rfl tx35dd (fun w1 hw => (do_w H.ms es ck ls (D.ch.getD i (e0, e0, 0)) w1 (hw.at (i := 3) rfl) hms).mono ?_))
    rintro e w' ⟨en', cn', rfl, hfr, hm', hI'⟩
    refine ⟨_, _, _, rfl, hw.set (i := 3) rfl hfr hm', rfl, (Pk.of_sub (List.Sublist.cons_cons _ (List.Sublist.cons_cons _ (List.nil_sublist _)))), (fun f hf => hf), ?_⟩
    refine LO_nil ?_
    change J _ _ _ _
    refine J_region ?_
    refine L_v rfl rfl rfl (V_add (r := ((i + 1 : Nat) : Int)) rfl rfl rfl (by rw [IntKind.wrap_i64]; omega)) ?_
    refine L_v rfl rfl rfl (V_move rfl rfl) ?_
    refine L_nil ?_
    exact ⟨(i + 1, en', cn', doM ls (D.ch.getD i (e0, e0, 0))), ⟨by show i + 1 ≤ _; omega, hI', by show (doM ls _).Perm ((D.ch.take (i + 1)).foldl doN D.sf); rw [crashS_take D i hic]; exact doM_perm hls (hW.srt.dos _) _⟩, by show (min (max n 0) D.ch.length).toNat - (i + 1) < (min (max n 0) D.ch.length).toNat - i; omega, ⟨rfl, rfl, rfl, rfl, rfl, rfl, trivial⟩, List.Sublist.cons _ (List.Sublist.refl _), fun f hf => hf, rfl⟩
  ·
    first | (have h1 := of_decide_eq_true h1) | (have h1 := of_decide_eq_false h1) | skip
    obtain rfl : i = (min (max n 0) D.ch.length).toNat := by omega
    have hls : ls.Perm (crashS D n) := hls
    refine J_exit ?_
    change J _ _ _ _
    refine J_seq ?_
    refine J_region ?_
    refine L_v rfl rfl rfl (V_assign rfl rfl) ?_
    refine L_nil ?_
    change J _ _ _ _
    refine J_seq ?_
    refine J_seq ?_
    refine J_region ?_
    refine L_v rfl rfl rfl (V_move rfl rfl) ?_
    refine L_v rfl rfl rfl (V_nilCheck rfl rfl) ?_
    refine L_v rfl rfl rfl (V_fieldAddr rfl rfl Tryd.underlying61 rfl sz57dd rfl) ?_
    refine L_v rfl rfl rfl (V_load1 0 rfl rfl rfl Tryd.underlying57 rfl (by rfl)) ?_
    refine L_call rfl rfl rfl rfl tx37dd (fun w1 hw => (Go.Proofs.Tryd.keys_w _ w1).mono ?_)
    rintro e w' ⟨rfl, rfl⟩
    refine ⟨_, _, _, rfl, hw.alloc _, rfl, ?_⟩
    generalize hmm : w1.heap.size = m
    refine L_call rfl rfl rfl rfl tx36dd (fun w1 hw => (sorted_w m H.ms es ck ls (crashS D n) w1 (hw.mem m _ (List.mem_append_right _ (List.mem_singleton.2 rfl))) (hw.at (i := 2) rfl) hms (fun p hp => ?_) (by rw [hls.length_eq]; have := hW.clen n; omega) hls hsS).mono ?_)
    · have hp := hls.mem_iff.1 hp
      have := hW.clt n p hp
      have := hW.n1
      exact ⟨hW.cnm n p hp, by omega⟩
    rintro e w' ⟨q, rfl, hfr, hq, hn⟩
    refine ⟨_, _, _, rfl, hw.addL hfr hn, rfl, ?_⟩
    refine L_pk ((b1, row 61 (dkC D H)) :: (H.mn, .map H.en H.cn) :: (H.ms, .map es ck) :: (dkR D H ++ pM 9 q (nmV (crashS D n)))) (Pk.of_sub (List.Sublist.append (List.sublist_append_left (_ :: _ :: _ :: dkR D H) [_]) (List.Sublist.refl _))) ?_
    refine L_v rfl rfl rfl (V_len rfl rfl Tryd.underlying36 rfl) ?_
    refine L_v rfl rfl rfl (V_move rfl rfl) ?_
    refine L_nil ?_
    change J _ _ _ _
    refine J_block ?_
    refine J_loop (X := Nat × Array MapEntry × Nat × List Nm × OwnP × List (Bo × OwnP)) (fun x => { env := [(0, .pointer (some ⟨b1, 0, none⟩)), (2, .slice at_ tl.length ct), (3, .int .u8 z), (11, pV x.2.2.2.2.1 x.2.2.2.2.2.length), (49, pV q (crashS D n).length), (50, .int .i64 ((crashS D n).length : Int)), (51, .int .i64 (x.1 : Int))], mem := (b1, row 61 (dkC D H)) :: (H.mn, .map H.en H.cn) :: (H.ms, .map x.2.1 x.2.2.1) :: (dkR D H ++ (pM 9 q (nmV (crashS D n)) ++ (pM 65 x.2.2.2.2.1 (boR x.2.2.2.2.2) ++ (bytM x.2.2.2.2.2)))), facts := [factC 1 (.slice at_ tl.length ct) tl.length (intV tl)] }) (fun x => x.1 ≤ (crashS D n).length ∧ MapIs x.2.1 x.2.2.1 x.2.2.2.1 ∧ x.2.2.2.1.Perm (sfI (crashS D n) x.1) ∧ PC 2 x.2.2.2.2.1 x.2.2.2.2.2.length (boR x.2.2.2.2.2) ∧ x.2.2.2.2.2.length = x.1 ∧ x.2.2.2.2.2.map Prod.fst = (List.range x.1).map (crashB D tl z (crashS D n)) ∧ ∀ y ∈ x.2.2.2.2.2, PC 1 y.2 y.1.1.length (dg y.1.1)) (fun x => (crashS D n).length - x.1) (0, es, ck, ls, none, []) ⟨Nat.zero_le _, hms, by rw [sfI_0]; exact hls, ⟨rfl, rfl⟩, rfl, rfl, fun y hy => (by cases hy)⟩ ⟨⟨rfl, rfl, rfl, rfl, rfl, rfl, rfl, trivial⟩, (by show List.Sublist (_ :: _ :: _ :: (dkR D H ++ (pM 9 q (nmV (crashS D n)) ++ []))) _; rw [List.append_nil]; exact List.Sublist.refl _), fun f hf => List.mem_append_left _ hf, rfl⟩ ?_
    rintro ⟨i, es, ck, ls, qn, bsn⟩ ⟨hin, hms, hls, hqn, hbl2, hbs, hbx⟩
    try simp only at hin hms hls hqn hbl2 hbs hbx ⊢
    refine J_seq ?_
    refine J_region ?_
    refine L_v rfl rfl rfl (V_lss rfl rfl rfl rfl) ?_
    refine L_nil ?_
    change J _ _ _ _
    refine J_seq ?_
    refine J_cond rfl (fun h2 => ?_) (fun h2 => ?_)
    ·
      first | (have h2 := of_decide_eq_true h2) | (have h2 := of_decide_eq_false h2) | skip
      have hin2 : i < (crashS D n).length := by omega
      have hAq := hq.at (by omega)
      have hold : (crashS D n).getD i (e0, 0) ∈ crashS D n := getD_mem hin2
      have hil := hW.clt n _ hold
      obtain ⟨qx, hqx⟩ := bs_get hG hil
      have hAt : ∃ b off, pA H.qb = some ⟨b, off, none⟩ := hG.b.at (by omega)
      have hod := hW.bod ((crashS D n).getD i (e0, 0)).2
      have ht2 : ((D.bo.getD ((crashS D n).getD i (e0, 0)).2 bo0).2 + tailK (D.bo.getD ((crashS D n).getD i (e0, 0)).2 bo0) tl i) ≤ (D.bo.getD ((crashS D n).getD i (e0, 0)).2 bo0).1.length := tailK_le _ tl i hod.1
      have hl99 : (D.bo.getD ((crashS D n).getD i (e0, 0)).2 bo0).1.length ≤ 1099511627776 := by have := hod.2.1; omega
      have hqxp := hG.q _ (List.mem_of_getElem? hqx)
      have hqxl : (D.bo.getD ((crashS D n).getD i (e0, 0)).2 bo0).1.length ≤ pC qx := hqxp.le
      have hod1 := hod.1
      have hod2 := hod.2.1
      have hn1 := hW.n1
      have hcl2 := hW.clen n
      refine J_skip ?_
      change J _ _ _ _
      refine J_seq ?_
      refine J_block ?_
      refine J_seq ?_
      refine J_region ?_
      refine L_v rfl rfl rfl (V_move rfl rfl) ?_
      refine L_v rfl rfl rfl (V_indexN rfl rfl rfl Tryd.underlying36 sz9dd hAq (by omega) (by omega)) ?_
      refine L_v rfl rfl rfl (V_loadC rfl rfl Tryd.underlying9 rfl (fun w hw => hq.slC (e := 9) hw (fun p hp => List.mem_cons_of_mem _ (List.mem_cons_of_mem _ (List.mem_cons_of_mem _ (List.mem_append_right _ (List.mem_append_left _ hp)))))) (nm_at hin2)) ?_
      refine L_v rfl rfl rfl (V_assign rfl rfl) ?_
      refine L_v rfl rfl rfl (V_assign rfl rfl) ?_
      refine L_nil ?_
      change J _ _ _ _
      refine J_seq ?_
      refine J_regionO (.pure 0 (.pure 1 (.pure 2 (.pure 3 (.pure 4 (.pure 5 (.pure 6 (.pure 7 (.pure 8 (.pure 9 (.pure 10 (.pure 11 (.one 12 (.one 13 (.nil))))))))))))))) ((b1, row 61 (dkC D H)) :: (H.mn, .map H.en H.cn) :: (H.ms, .map es ck) :: (dkR D H ++ (pM 9 q (nmV (crashS D n)) ++ (pM 65 qn (boR bsn) ++ (bytM bsn))))) _ (Pk.refl _) (fun f hf => hf) rfl rfl (by kernel_rfl) ?_
      refine LO_v rfl rfl rfl rfl (V_move rfl rfl) ?_
      refine LO_v rfl rfl rfl rfl (V_nilCheck rfl rfl) ?_
      refine LO_v rfl rfl rfl rfl (V_fieldAddr rfl rfl Tryd.underlying61 rfl sz58dd rfl) ?_
      refine LO_v rfl rfl rfl rfl (V_load1 0 rfl rfl rfl Tryd.underlying58 rfl (by rfl)) ?_
      refine LO_v rfl rfl rfl rfl (V_move rfl rfl) ?_
      refine LO_v rfl rfl rfl rfl (V_nilCheck rfl rfl) ?_
      refine LO_v rfl rfl rfl rfl (V_fieldAddr rfl rfl Tryd.underlying61 rfl sz57dd rfl) ?_
      refine LO_v rfl rfl rfl rfl (V_load1 0 rfl rfl rfl Tryd.underlying57 rfl (by rfl)) ?_
      refine LO_v rfl rfl rfl rfl (V_move rfl rfl) ?_
      refine LO_v rfl rfl rfl rfl (V_lookup1 2 rfl rfl rfl Tryd.underlying57 Tryd.underlying9 z3dd rfl hms (sfI_get hsS hls hin2)) ?_
      refine LO_v rfl rfl rfl rfl (V_indexN rfl rfl rfl Tryd.underlying58 sz65dd hAt (by omega) (by omega)) ?_
      refine LO_v rfl rfl rfl rfl (V_loadCN (vs := boV ((D.bo.getD ((crashS D n).getD i (e0, 0)).2 bo0), qx)) rfl rfl Tryd.underlying65 rfl (szd sz65dd (by kernel_rfl)) (fun w hw => (hG.slB hw (fun p hp => List.mem_cons_of_mem _ (List.mem_cons_of_mem _ (List.mem_cons_of_mem _ (List.mem_append_left _ hp)))))) (by exact Nat.zero_lt_succ _) (bo_at hqx)) ?_
      refine LO_s rfl rfl rfl (S_alloc rfl rfl rfl z65dd (fun b0 => ⟨Pk.app (Pk.refl _) _, (fun f hf => hf), ?_⟩))
      refine LO_pk ((b0, row 65 [.slice none 0 0, .int .i64 0]) :: (b1, row 61 (dkC D H)) :: (H.mn, .map H.en H.cn) :: (H.ms, .map es ck) :: (dkR D H ++ (pM 9 q (nmV (crashS D n)) ++ (pM 65 qn (boR bsn) ++ (bytM bsn))))) (Pk.front _ _) ?_
      refine LO_s rfl rfl rfl (S_storeW 0 rfl rfl rfl rfl rfl (szd sz65dd (by kernel_rfl)) (all_one (by kernel_rfl)) (by kernel_rfl) ⟨Pk.of_sub (List.Sublist.cons _ (List.Sublist.refl _)), (fun f hf => hf), ?_⟩)
      refine LO_nil ?_
      change J _ _ _ _
      refine J_seq ?_
      refine J_region ?_
      refine L_v rfl rfl rfl (V_assign rfl rfl) ?_
      refine L_nil ?_
      change J _ _ _ _
      refine J_seq ?_
      refine J_seq ?_
      refine J_region ?_
      refine L_v rfl rfl rfl (V_move rfl rfl) ?_
      refine L_v rfl rfl rfl (V_move rfl rfl) ?_
      refine L_v rfl rfl rfl (V_len rfl rfl Tryd.underlying23 rfl) ?_
      refine L_v rfl rfl rfl (V_lss rfl rfl rfl rfl) ?_
      refine L_nil ?_
      change J _ _ _ _
      refine J_cond rfl (fun h3 => ?_) (fun h3 => ?_)
      ·
        first | (have h3 := of_decide_eq_true h3) | (have h3 := of_decide_eq_false h3) | skip
        refine J_regionQ rfl (by kernel_rfl) ?_
        refine LQ_v rfl rfl rfl (V_move rfl rfl) ?_
        refine LQ_v rfl rfl rfl (V_move rfl rfl) ?_
        refine LQ_v rfl rfl rfl (V_indexC rfl rfl rfl Tryd.underlying23 sz3dd (fun w hw => (hw.fa 0 rfl).1) (by omega) (by omega)) ?_
        refine LQ_v rfl rfl rfl (V_loadC rfl rfl Tryd.underlying3 rfl (fun w hw => (hw.fa 0 rfl).1) (rows_1 (by omega))) ?_
        refine LQ_v rfl rfl rfl (V_max (r := max (tl.getD i 0) 0) rfl rfl rfl (by show (if tl.getD i 0 < 0 then (0 : Int) else tl.getD i 0) = _; split <;> omega)) ?_
        refine LQ_v rfl rfl rfl (V_fieldAddr rfl rfl Tryd.underlying65 rfl sz22dd rfl) ?_
        refine LQ_v rfl rfl rfl (V_load1 0 rfl rfl rfl Tryd.underlying22 rfl (by rfl)) ?_
        refine LQ_v rfl rfl rfl (V_len rfl rfl Tryd.underlying22 rfl) ?_
        refine LQ_v rfl rfl rfl (V_fieldAddr rfl rfl Tryd.underlying65 rfl sz3dd rfl) ?_
        refine LQ_v rfl rfl rfl (V_load1 0 rfl rfl rfl Tryd.underlying3 rfl (by rfl)) ?_
        refine LQ_v rfl rfl rfl (V_sub (r := (((D.bo.getD ((crashS D n).getD i (e0, 0)).2 bo0).1.length - (D.bo.getD ((crashS D n).getD i (e0, 0)).2 bo0).2 : Nat) : Int)) rfl rfl rfl (by show IntKind.i64.wrap (((D.bo.getD ((crashS D n).getD i (e0, 0)).2 bo0).1.length : Int) - ((D.bo.getD ((crashS D n).getD i (e0, 0)).2 bo0).2 : Int)) = _; rw [IntKind.wrap_i64]; omega)) ?_
        refine LQ_v rfl rfl rfl (V_min (r := ((tailK (D.bo.getD ((crashS D n).getD i (e0, 0)).2 bo0) tl i : Nat) : Int)) rfl rfl rfl (by rw [tailK_T (by omega)]; show (if (((D.bo.getD ((crashS D n).getD i (e0, 0)).2 bo0).1.length - (D.bo.getD ((crashS D n).getD i (e0, 0)).2 bo0).2 : Nat) : Int) < max (tl.getD i 0) 0 then _ else _) = _; split <;> omega)) ?_
        refine LQ_v rfl rfl rfl (V_assign rfl rfl) ?_
        refine LQ_nil ?_
        change J _ _ _ _
        refine J_seq ?_
        refine J_le (st' := { env := [(0, .pointer (some ⟨b1, 0, none⟩)), (2, .slice at_ tl.length ct), (3, .int .u8 z), (11, pV qn bsn.length), (12, .int .i64 (i : Int)), (13, .string ((crashS D n).getD i (e0, 0)).1), (14, .pointer (some ⟨b0, 0, none⟩)), (15, .int .i64 ((tailK (D.bo.getD ((crashS D n).getD i (e0, 0)).2 bo0) tl i : Nat) : Int)), (49, pV q (crashS D n).length), (50, .int .i64 ((crashS D n).length : Int)), (51, .int .i64 (i : Int))], mem := (b0, row 65 (boV ((D.bo.getD ((crashS D n).getD i (e0, 0)).2 bo0), qx))) :: (b1, row 61 (dkC D H)) :: (H.mn, .map H.en H.cn) :: (H.ms, .map es ck) :: (dkR D H ++ (pM 9 q (nmV (crashS D n)) ++ (pM 65 qn (boR bsn) ++ (bytM bsn)))), facts := [factC 1 (.slice at_ tl.length ct) tl.length (intV tl)] }) ⟨⟨rfl, rfl, rfl, rfl, rfl, rfl, rfl, rfl, rfl, rfl, rfl, trivial⟩, List.Sublist.refl _, fun f hf => hf, rfl⟩ ?_
        refine J_region ?_
        refine L_v rfl rfl rfl (V_fieldAddr rfl rfl Tryd.underlying65 rfl sz22dd rfl) ?_
        refine L_v rfl rfl rfl (V_load1 0 rfl rfl rfl Tryd.underlying22 rfl (by rfl)) ?_
        refine L_v rfl rfl rfl (V_fieldAddr rfl rfl Tryd.underlying65 rfl sz3dd rfl) ?_
        refine L_v rfl rfl rfl (V_load1 0 rfl rfl rfl Tryd.underlying3 rfl (by rfl)) ?_
        refine L_v rfl rfl rfl (V_move rfl rfl) ?_
        refine L_v rfl rfl rfl (V_add (r := (((D.bo.getD ((crashS D n).getD i (e0, 0)).2 bo0).2 + tailK (D.bo.getD ((crashS D n).getD i (e0, 0)).2 bo0) tl i : Nat) : Int)) rfl rfl rfl (by show IntKind.i64.wrap (((D.bo.getD ((crashS D n).getD i (e0, 0)).2 bo0).2 : Int) + ((tailK (D.bo.getD ((crashS D n).getD i (e0, 0)).2 bo0) tl i : Nat) : Int)) = _; rw [IntKind.wrap_i64]; omega)) ?_
        refine L_v rfl rfl rfl (V_slice0 (h := (D.bo.getD ((crashS D n).getD i (e0, 0)).2 bo0).2 + tailK (D.bo.getD ((crashS D n).getD i (e0, 0)).2 bo0) tl i) rfl rfl Tryd.underlying22 sz5dd (Bd.at rfl rfl) rfl rfl (show _ ≤ pC qx by omega) (Nat.le_refl _)) ?_
        refine L_call rfl rfl rfl rfl tx38dd (fun w1 hw => (tk_clone D n tl i qx w1 ht2 (SlB.take (hG.slX hw (fun p hp => List.mem_cons_of_mem _ (List.mem_cons_of_mem _ (List.mem_cons_of_mem _ (List.mem_cons_of_mem _ (List.mem_append_left _ hp))))) hqx) ht2 _) hl99).mono ?_)
        rintro e w' ⟨q2, rfl, hq2, hU⟩
        refine ⟨_, _, _, rfl, hw.addL hU.fr hU.newL, rfl, ?_⟩
        have hl2 := tk_len D n tl i ht2
        refine L_v rfl rfl rfl (V_assign rfl rfl) ?_
        refine L_nil ?_
        change J _ _ _ _
        refine J_seq ?_
        refine J_seq ?_
        refine J_region ?_
        refine L_v rfl rfl rfl (V_move rfl rfl) ?_
        refine L_v rfl rfl rfl (V_gtr rfl rfl rfl rfl) ?_
        refine L_nil ?_
        change J _ _ _ _
        refine J_cond rfl (fun h4 => ?_) (fun h4 => ?_)
        ·
          first | (have h4 := of_decide_eq_true h4) | (have h4 := of_decide_eq_false h4) | skip
          have hA2 : ∃ b off, pA q2 = some ⟨b, off, none⟩ := hq2.at (by omega)
          refine J_region ?_
          refine L_v rfl rfl rfl (V_move rfl rfl) ?_
          refine L_v rfl rfl rfl (V_move rfl rfl) ?_
          refine L_v rfl rfl rfl (V_len rfl rfl Tryd.underlying22 rfl) ?_
          refine L_v rfl rfl rfl (V_sub (r := (((D.bo.getD ((crashS D n).getD i (e0, 0)).2 bo0).2 + tailK (D.bo.getD ((crashS D n).getD i (e0, 0)).2 bo0) tl i - 1 : Nat) : Int)) rfl rfl rfl (by show IntKind.i64.wrap ((((D.bo.getD ((crashS D n).getD i (e0, 0)).2 bo0).2 + tailK (D.bo.getD ((crashS D n).getD i (e0, 0)).2 bo0) tl i : Nat) : Int) - 1) = _; rw [IntKind.wrap_i64]; omega)) ?_
          refine L_v rfl rfl rfl (V_indexN rfl rfl rfl Tryd.underlying22 sz5dd hA2 (by omega) (by omega)) ?_
          refine L_v rfl rfl rfl (V_loadC rfl rfl Tryd.underlying5 rfl (fun w hw => hq2.slC (e := 5) hw (fun p hp => List.mem_append_right _ hp)) (dg_at (by omega))) ?_
          refine L_v rfl rfl rfl (V_move rfl rfl) ?_
          refine L_v rfl rfl rfl (V_xor rfl rfl rfl rfl) ?_
          refine L_v rfl rfl rfl (V_indexN rfl rfl rfl Tryd.underlying22 sz5dd hA2 (by omega) (by omega)) ?_
          refine L_cons rfl (S_storeP (e := 5) ((b0, row 65 (boV ((D.bo.getD ((crashS D n).getD i (e0, 0)).2 bo0), qx))) :: (b1, row 61 (dkC D H)) :: (H.mn, .map H.en H.cn) :: (H.ms, .map es ck) :: (dkR D H ++ (pM 9 q (nmV (crashS D n)) ++ (pM 65 qn (boR bsn) ++ (bytM bsn))))) [] q2 (dg (tkB D n tl i)) rfl rfl rfl rfl (by show ((_ :: _) ++ _) = _; rw [List.append_nil]) hq2 (by rw [dg_length, hl2]; omega) rfl sz5dd ?_)
          refine L_nil ?_
          change J _ _ _ _
          refine J_seq ?_
          refine J_pk ((b0, row 65 (boV ((D.bo.getD ((crashS D n).getD i (e0, 0)).2 bo0), qx))) :: ((b1, row 61 (dkC D H)) :: (H.mn, .map H.en H.cn) :: (H.ms, .map es ck) :: (dkR D H ++ (pM 9 q (nmV (crashS D n)) ++ (pM 65 qn (boR bsn) ++ (bytM bsn)))) ++ pM 5 q2 (dg (leftB (D.bo.getD ((crashS D n).getD i (e0, 0)).2 bo0) (tailK (D.bo.getD ((crashS D n).getD i (e0, 0)).2 bo0) tl i) z)))) (Pk.of_sub (by rw [leftB_1 _ _ (by omega), ← dg_xor, hl2]; show List.Sublist _ (((_ :: _) ++ (pM _ _ ((dg _).set (((D.bo.getD ((crashS D n).getD i (e0, 0)).2 bo0).2 + tailK (D.bo.getD ((crashS D n).getD i (e0, 0)).2 bo0) tl i - 1) * (0 + 1)) _) ++ []))); rw [List.append_nil, Nat.zero_add, Nat.mul_one]; exact List.Sublist.refl _)) ?_
          refine J_le (st' := { env := [(0, .pointer (some ⟨b1, 0, none⟩)), (2, .slice at_ tl.length ct), (3, .int .u8 z), (11, pV qn bsn.length), (12, .int .i64 (i : Int)), (13, .string ((crashS D n).getD i (e0, 0)).1), (16, pV q2 ((D.bo.getD ((crashS D n).getD i (e0, 0)).2 bo0).2 + tailK (D.bo.getD ((crashS D n).getD i (e0, 0)).2 bo0) tl i)), (49, pV q (crashS D n).length), (50, .int .i64 ((crashS D n).length : Int)), (51, .int .i64 (i : Int))], mem := (b0, row 65 (boV ((D.bo.getD ((crashS D n).getD i (e0, 0)).2 bo0), qx))) :: ((b1, row 61 (dkC D H)) :: (H.mn, .map H.en H.cn) :: (H.ms, .map es ck) :: (dkR D H ++ (pM 9 q (nmV (crashS D n)) ++ (pM 65 qn (boR bsn) ++ (bytM bsn)))) ++ pM 5 q2 (dg (leftB (D.bo.getD ((crashS D n).getD i (e0, 0)).2 bo0) (tailK (D.bo.getD ((crashS D n).getD i (e0, 0)).2 bo0) tl i) z))), facts := [factC 1 (.slice at_ tl.length ct) tl.length (intV tl)] }) ⟨⟨rfl, rfl, rfl, rfl, rfl, rfl, rfl, rfl, rfl, rfl, trivial⟩, List.Sublist.refl _, fun f hf => List.mem_append_left _ hf, rfl⟩ ?_
          refine J_region ?_
          refine L_v rfl rfl rfl (V_move rfl rfl) ?_
          refine L_v rfl rfl rfl (V_nilCheck rfl rfl) ?_
          refine L_v rfl rfl rfl (V_fieldAddr rfl rfl Tryd.underlying61 rfl sz57dd rfl) ?_
          refine L_v rfl rfl rfl (V_load1 1 rfl rfl rfl Tryd.underlying57 rfl (by rfl)) ?_
          refine L_v rfl rfl rfl (V_move rfl rfl) ?_
          refine L_v rfl rfl rfl (V_move rfl rfl) ?_
          refine L_mapUpdate 3 rfl rfl rfl rfl rfl rfl Tryd.underlying57 Tryd.underlying9 rfl hms (fun es2 ck2 hm2 => ?_)
          refine L_nil ?_
          change J _ _ _ _
          refine J_region ?_
          refine L_v rfl rfl rfl (V_move rfl rfl) ?_
          refine L_v rfl rfl rfl (V_move rfl rfl) ?_
          refine L_v rfl rfl rfl (V_move rfl rfl) ?_
          refine L_v rfl rfl rfl (V_len rfl rfl Tryd.underlying22 rfl) ?_
          refine L_v rfl rfl rfl (V_buildE (v := .agg ([pV q2 ((D.bo.getD ((crashS D n).getD i (e0, 0)).2 bo0).2 + tailK (D.bo.getD ((crashS D n).getD i (e0, 0)).2 bo0) tl i), .int .i64 ((((D.bo.getD ((crashS D n).getD i (e0, 0)).2 bo0).2 + tailK (D.bo.getD ((crashS D n).getD i (e0, 0)).2 bo0) tl i) : Nat) : Int)]).toArray) rfl rfl (fun w => by kernel_rfl)) ?_
          refine L_buildSlice (e := 65) (vs := [(0, .agg [pV q2 ((D.bo.getD ((crashS D n).getD i (e0, 0)).2 bo0).2 + tailK (D.bo.getD ((crashS D n).getD i (e0, 0)).2 bo0) tl i), .int .i64 ((((D.bo.getD ((crashS D n).getD i (e0, 0)).2 bo0).2 + tailK (D.bo.getD ((crashS D n).getD i (e0, 0)).2 bo0) tl i) : Nat) : Int)].toArray)]) (l := [pV q2 ((D.bo.getD ((crashS D n).getD i (e0, 0)).2 bo0).2 + tailK (D.bo.getD ((crashS D n).getD i (e0, 0)).2 bo0) tl i), .int .i64 ((((D.bo.getD ((crashS D n).getD i (e0, 0)).2 bo0).2 + tailK (D.bo.getD ((crashS D n).getD i (e0, 0)).2 bo0) tl i) : Nat) : Int)]) rfl rfl rfl rfl rfl (bsK _ _) (fun b9 => ?_)
          refine L_cons rfl (S_appendP (e := 65) ((b0, row 65 (boV ((D.bo.getD ((crashS D n).getD i (e0, 0)).2 bo0), qx))) :: (b1, row 61 (dkC D H)) :: (H.mn, .map H.en H.cn) :: (H.ms, .map es2 ck2) :: (dkR D H ++ pM 9 q (nmV (crashS D n)))) (bytM bsn ++ (pM 5 q2 (dg (leftB (D.bo.getD ((crashS D n).getD i (e0, 0)).2 bo0) (tailK (D.bo.getD ((crashS D n).getD i (e0, 0)).2 bo0) tl i) z)) ++ [(b9, row 65 [pV q2 ((D.bo.getD ((crashS D n).getD i (e0, 0)).2 bo0).2 + tailK (D.bo.getD ((crashS D n).getD i (e0, 0)).2 bo0) tl i), .int .i64 ((((D.bo.getD ((crashS D n).getD i (e0, 0)).2 bo0).2 + tailK (D.bo.getD ((crashS D n).getD i (e0, 0)).2 bo0) tl i) : Nat) : Int)])])) qn (boR bsn) (n := bsn.length) (m := 1) (news := [pV q2 ((D.bo.getD ((crashS D n).getD i (e0, 0)).2 bo0).2 + tailK (D.bo.getD ((crashS D n).getD i (e0, 0)).2 bo0) tl i), .int .i64 ((((D.bo.getD ((crashS D n).getD i (e0, 0)).2 bo0).2 + tailK (D.bo.getD ((crashS D n).getD i (e0, 0)).2 bo0) tl i) : Nat) : Int)]) rfl rfl rfl rfl Tryd.underlying58 elB (by show (_ :: _ :: _ :: _ :: ((dkR D H ++ (_ ++ (_ ++ _))) ++ _)) ++ [_] = _; simp only [List.cons_append, List.append_assoc, List.nil_append]) hqn (fun w1 hw => src_C Tryd.underlying58 (SlC.in (r := []) (fz := (0, 0)) hw (List.mem_append_right _ (List.mem_singleton.2 rfl)) rfl 1) (all_one (by kernel_rfl))) (by omega) (by omega) (fun q' hq' => ?_))
          refine L_v rfl rfl rfl (V_assign rfl rfl) ?_
          refine L_nil ?_
          change J _ _ _ _
          refine J_region ?_
          refine L_v rfl rfl rfl (V_add (r := ((i + 1 : Nat) : Int)) rfl rfl rfl (by rw [IntKind.wrap_i64]; omega)) ?_
          refine L_v rfl rfl rfl (V_move rfl rfl) ?_
          refine L_nil ?_
          have hlb : (leftB (D.bo.getD ((crashS D n).getD i (e0, 0)).2 bo0) (tailK (D.bo.getD ((crashS D n).getD i (e0, 0)).2 bo0) tl i) z).length = ((D.bo.getD ((crashS D n).getD i (e0, 0)).2 bo0).2 + tailK (D.bo.getD ((crashS D n).getD i (e0, 0)).2 bo0) tl i) := leftB_len _ _ _ ht2
          have e8 := row_next bsn (leftB (D.bo.getD ((crashS D n).getD i (e0, 0)).2 bo0) (tailK (D.bo.getD ((crashS D n).getD i (e0, 0)).2 bo0) tl i) z) q2 hlb
          rw [e8] at hq'
          have hq2' : PC 1 q2 (leftB (D.bo.getD ((crashS D n).getD i (e0, 0)).2 bo0) (tailK (D.bo.getD ((crashS D n).getD i (e0, 0)).2 bo0) tl i) z).length (dg (leftB (D.bo.getD ((crashS D n).getD i (e0, 0)).2 bo0) (tailK (D.bo.getD ((crashS D n).getD i (e0, 0)).2 bo0) tl i) z)) := by
            rw [hlb]
            rcases q2 with _ | ⟨g2, p2, c2, r2⟩
            · have := hq2.1
              refine ⟨this, List.length_eq_zero_iff.1 (by rw [dg_length, hlb]; exact this)⟩
            · exact ⟨by rw [dg_length, hlb, Nat.mul_one], hq2.2⟩
          exact ⟨(i + 1, es2, ck2, putN ls ((crashS D n).getD i (e0, 0)).1 i, q', bsn ++ [((leftB (D.bo.getD ((crashS D n).getD i (e0, 0)).2 bo0) (tailK (D.bo.getD ((crashS D n).getD i (e0, 0)).2 bo0) tl i) z, (leftB (D.bo.getD ((crashS D n).getD i (e0, 0)).2 bo0) (tailK (D.bo.getD ((crashS D n).getD i (e0, 0)).2 bo0) tl i) z).length), q2)]), ⟨by show i + 1 ≤ _; omega, hm2, sfI_put hsS hls hin2, by show PC 2 q' (bsn ++ [_]).length _; rw [List.length_append]; exact hq', by show (bsn ++ [_]).length = i + 1; rw [List.length_append, hbl2]; rfl, crash_bs hbs rfl, fun y hy => (List.mem_append.1 hy).elim (hbx y) (fun h => by obtain rfl := List.mem_singleton.1 h; exact hq2')⟩, by show (crashS D n).length - (i + 1) < (crashS D n).length - i; omega,
            ⟨rfl, rfl, rfl, by show _ = some (pV q' (bsn ++ [_]).length); rw [List.length_append]; rfl, rfl, rfl, rfl, trivial⟩, by
              show List.Sublist (_ :: _ :: _ :: (dkR D H ++ (pM 9 q _ ++ (pM 65 q' (boR (bsn ++ [_])) ++ bytM (bsn ++ [_]))))) _
              rw [← e8, byt_next]
              show List.Sublist _ (((_ :: _ :: _ :: _ :: (dkR D H ++ _)) ++ (_ ++ (_ ++ (_ ++ [_])))))
              simp only [List.cons_append, List.append_assoc, List.nil_append]
              exact List.Sublist.cons _ (List.Sublist.cons_cons _ (List.Sublist.cons_cons _ (List.Sublist.cons_cons _ (List.Sublist.append (List.Sublist.refl _) (List.Sublist.append (List.Sublist.refl _) (List.Sublist.append (List.Sublist.refl _) (List.Sublist.append (List.Sublist.refl _) (List.Sublist.append (List.Sublist.refl _) (List.Sublist.append (List.Sublist.refl _) (List.sublist_append_left _ _)))))))))), fun f hf => hf, rfl⟩
        ·
          first | (have h4 := of_decide_eq_true h4) | (have h4 := of_decide_eq_false h4) | skip
          refine J_skip ?_
          change J _ _ _ _
          refine J_seq ?_
          refine J_pk ((b0, row 65 (boV ((D.bo.getD ((crashS D n).getD i (e0, 0)).2 bo0), qx))) :: ((b1, row 61 (dkC D H)) :: (H.mn, .map H.en H.cn) :: (H.ms, .map es ck) :: (dkR D H ++ (pM 9 q (nmV (crashS D n)) ++ (pM 65 qn (boR bsn) ++ (bytM bsn)))) ++ pM 5 q2 (dg (leftB (D.bo.getD ((crashS D n).getD i (e0, 0)).2 bo0) (tailK (D.bo.getD ((crashS D n).getD i (e0, 0)).2 bo0) tl i) z)))) (Pk.of_sub (by rw [leftB_0 _ _ (by omega)]; exact List.Sublist.refl _)) ?_
          refine J_le (st' := { env := [(0, .pointer (some ⟨b1, 0, none⟩)), (2, .slice at_ tl.length ct), (3, .int .u8 z), (11, pV qn bsn.length), (12, .int .i64 (i : Int)), (13, .string ((crashS D n).getD i (e0, 0)).1), (16, pV q2 ((D.bo.getD ((crashS D n).getD i (e0, 0)).2 bo0).2 + tailK (D.bo.getD ((crashS D n).getD i (e0, 0)).2 bo0) tl i)), (49, pV q (crashS D n).length), (50, .int .i64 ((crashS D n).length : Int)), (51, .int .i64 (i : Int))], mem := (b0, row 65 (boV ((D.bo.getD ((crashS D n).getD i (e0, 0)).2 bo0), qx))) :: ((b1, row 61 (dkC D H)) :: (H.mn, .map H.en H.cn) :: (H.ms, .map es ck) :: (dkR D H ++ (pM 9 q (nmV (crashS D n)) ++ (pM 65 qn (boR bsn) ++ (bytM bsn)))) ++ pM 5 q2 (dg (leftB (D.bo.getD ((crashS D n).getD i (e0, 0)).2 bo0) (tailK (D.bo.getD ((crashS D n).getD i (e0, 0)).2 bo0) tl i) z))), facts := [factC 1 (.slice at_ tl.length ct) tl.length (intV tl)] }) ⟨⟨rfl, rfl, rfl, rfl, rfl, rfl, rfl, rfl, rfl, rfl, trivial⟩, List.Sublist.refl _, fun f hf => List.mem_append_left _ hf, rfl⟩ ?_
          refine J_region ?_
          refine L_v rfl rfl rfl (V_move rfl rfl) ?_
          refine L_v rfl rfl rfl (V_nilCheck rfl rfl) ?_
          refine L_v rfl rfl rfl (V_fieldAddr rfl rfl Tryd.underlying61 rfl sz57dd rfl) ?_
          refine L_v rfl rfl rfl (V_load1 1 rfl rfl rfl Tryd.underlying57 rfl (by rfl)) ?_
          refine L_v rfl rfl rfl (V_move rfl rfl) ?_
          refine L_v rfl rfl rfl (V_move rfl rfl) ?_
          refine L_mapUpdate 3 rfl rfl rfl rfl rfl rfl Tryd.underlying57 Tryd.underlying9 rfl hms (fun es2 ck2 hm2 => ?_)
          refine L_nil ?_
          change J _ _ _ _
          refine J_region ?_
          refine L_v rfl rfl rfl (V_move rfl rfl) ?_
          refine L_v rfl rfl rfl (V_move rfl rfl) ?_
          refine L_v rfl rfl rfl (V_move rfl rfl) ?_
          refine L_v rfl rfl rfl (V_len rfl rfl Tryd.underlying22 rfl) ?_
          refine L_v rfl rfl rfl (V_buildE (v := .agg ([pV q2 ((D.bo.getD ((crashS D n).getD i (e0, 0)).2 bo0).2 + tailK (D.bo.getD ((crashS D n).getD i (e0, 0)).2 bo0) tl i), .int .i64 ((((D.bo.getD ((crashS D n).getD i (e0, 0)).2 bo0).2 + tailK (D.bo.getD ((crashS D n).getD i (e0, 0)).2 bo0) tl i) : Nat) : Int)]).toArray) rfl rfl (fun w => by kernel_rfl)) ?_
          refine L_buildSlice (e := 65) (vs := [(0, .agg [pV q2 ((D.bo.getD ((crashS D n).getD i (e0, 0)).2 bo0).2 + tailK (D.bo.getD ((crashS D n).getD i (e0, 0)).2 bo0) tl i), .int .i64 ((((D.bo.getD ((crashS D n).getD i (e0, 0)).2 bo0).2 + tailK (D.bo.getD ((crashS D n).getD i (e0, 0)).2 bo0) tl i) : Nat) : Int)].toArray)]) (l := [pV q2 ((D.bo.getD ((crashS D n).getD i (e0, 0)).2 bo0).2 + tailK (D.bo.getD ((crashS D n).getD i (e0, 0)).2 bo0) tl i), .int .i64 ((((D.bo.getD ((crashS D n).getD i (e0, 0)).2 bo0).2 + tailK (D.bo.getD ((crashS D n).getD i (e0, 0)).2 bo0) tl i) : Nat) : Int)]) rfl rfl rfl rfl rfl (bsK _ _) (fun b9 => ?_)
          refine L_cons rfl (S_appendP (e := 65) ((b0, row 65 (boV ((D.bo.getD ((crashS D n).getD i (e0, 0)).2 bo0), qx))) :: (b1, row 61 (dkC D H)) :: (H.mn, .map H.en H.cn) :: (H.ms, .map es2 ck2) :: (dkR D H ++ pM 9 q (nmV (crashS D n)))) (bytM bsn ++ (pM 5 q2 (dg (leftB (D.bo.getD ((crashS D n).getD i (e0, 0)).2 bo0) (tailK (D.bo.getD ((crashS D n).getD i (e0, 0)).2 bo0) tl i) z)) ++ [(b9, row 65 [pV q2 ((D.bo.getD ((crashS D n).getD i (e0, 0)).2 bo0).2 + tailK (D.bo.getD ((crashS D n).getD i (e0, 0)).2 bo0) tl i), .int .i64 ((((D.bo.getD ((crashS D n).getD i (e0, 0)).2 bo0).2 + tailK (D.bo.getD ((crashS D n).getD i (e0, 0)).2 bo0) tl i) : Nat) : Int)])])) qn (boR bsn) (n := bsn.length) (m := 1) (news := [pV q2 ((D.bo.getD ((crashS D n).getD i (e0, 0)).2 bo0).2 + tailK (D.bo.getD ((crashS D n).getD i (e0, 0)).2 bo0) tl i), .int .i64 ((((D.bo.getD ((crashS D n).getD i (e0, 0)).2 bo0).2 + tailK (D.bo.getD ((crashS D n).getD i (e0, 0)).2 bo0) tl i) : Nat) : Int)]) rfl rfl rfl rfl Tryd.underlying58 elB (by show (_ :: _ :: _ :: _ :: ((dkR D H ++ (_ ++ (_ ++ _))) ++ _)) ++ [_] = _; simp only [List.cons_append, List.append_assoc, List.nil_append]) hqn (fun w1 hw => src_C Tryd.underlying58 (SlC.in (r := []) (fz := (0, 0)) hw (List.mem_append_right _ (List.mem_singleton.2 rfl)) rfl 1) (all_one (by kernel_rfl))) (by omega) (by omega) (fun q' hq' => ?_))
          refine L_v rfl rfl rfl (V_assign rfl rfl) ?_
          refine L_nil ?_
          change J _ _ _ _
          refine J_region ?_
          refine L_v rfl rfl rfl (V_add (r := ((i + 1 : Nat) : Int)) rfl rfl rfl (by rw [IntKind.wrap_i64]; omega)) ?_
          refine L_v rfl rfl rfl (V_move rfl rfl) ?_
          refine L_nil ?_
          have hlb : (leftB (D.bo.getD ((crashS D n).getD i (e0, 0)).2 bo0) (tailK (D.bo.getD ((crashS D n).getD i (e0, 0)).2 bo0) tl i) z).length = ((D.bo.getD ((crashS D n).getD i (e0, 0)).2 bo0).2 + tailK (D.bo.getD ((crashS D n).getD i (e0, 0)).2 bo0) tl i) := leftB_len _ _ _ ht2
          have e8 := row_next bsn (leftB (D.bo.getD ((crashS D n).getD i (e0, 0)).2 bo0) (tailK (D.bo.getD ((crashS D n).getD i (e0, 0)).2 bo0) tl i) z) q2 hlb
          rw [e8] at hq'
          have hq2' : PC 1 q2 (leftB (D.bo.getD ((crashS D n).getD i (e0, 0)).2 bo0) (tailK (D.bo.getD ((crashS D n).getD i (e0, 0)).2 bo0) tl i) z).length (dg (leftB (D.bo.getD ((crashS D n).getD i (e0, 0)).2 bo0) (tailK (D.bo.getD ((crashS D n).getD i (e0, 0)).2 bo0) tl i) z)) := by
            rw [hlb]
            rcases q2 with _ | ⟨g2, p2, c2, r2⟩
            · have := hq2.1
              refine ⟨this, List.length_eq_zero_iff.1 (by rw [dg_length, hlb]; exact this)⟩
            · exact ⟨by rw [dg_length, hlb, Nat.mul_one], hq2.2⟩
          exact ⟨(i + 1, es2, ck2, putN ls ((crashS D n).getD i (e0, 0)).1 i, q', bsn ++ [((leftB (D.bo.getD ((crashS D n).getD i (e0, 0)).2 bo0) (tailK (D.bo.getD ((crashS D n).getD i (e0, 0)).2 bo0) tl i) z, (leftB (D.bo.getD ((crashS D n).getD i (e0, 0)).2 bo0) (tailK (D.bo.getD ((crashS D n).getD i (e0, 0)).2 bo0) tl i) z).length), q2)]), ⟨by show i + 1 ≤ _; omega, hm2, sfI_put hsS hls hin2, by show PC 2 q' (bsn ++ [_]).length _; rw [List.length_append]; exact hq', by show (bsn ++ [_]).length = i + 1; rw [List.length_append, hbl2]; rfl, crash_bs hbs rfl, fun y hy => (List.mem_append.1 hy).elim (hbx y) (fun h => by obtain rfl := List.mem_singleton.1 h; exact hq2')⟩, by show (crashS D n).length - (i + 1) < (crashS D n).length - i; omega,
            ⟨rfl, rfl, rfl, by show _ = some (pV q' (bsn ++ [_]).length); rw [List.length_append]; rfl, rfl, rfl, rfl, trivial⟩, by
              show List.Sublist (_ :: _ :: _ :: (dkR D H ++ (pM 9 q _ ++ (pM 65 q' (boR (bsn ++ [_])) ++ bytM (bsn ++ [_]))))) _
              rw [← e8, byt_next]
              show List.Sublist _ (((_ :: _ :: _ :: _ :: (dkR D H ++ _)) ++ (_ ++ (_ ++ (_ ++ [_])))))
              simp only [List.cons_append, List.append_assoc, List.nil_append]
              exact List.Sublist.cons _ (List.Sublist.cons_cons _ (List.Sublist.cons_cons _ (List.Sublist.cons_cons _ (List.Sublist.append (List.Sublist.refl _) (List.Sublist.append (List.Sublist.refl _) (List.Sublist.append (List.Sublist.refl _) (List.Sublist.append (List.Sublist.refl _) (List.Sublist.append (List.Sublist.refl _) (List.Sublist.append (List.Sublist.refl _) (List.sublist_append_left _ _)))))))))), fun f hf => hf, rfl⟩
      ·
        first | (have h3 := of_decide_eq_true h3) | (have h3 := of_decide_eq_false h3) | skip
        refine J_skip ?_
        change J _ _ _ _
        refine J_seq ?_
        refine J_le (st' := { env := [(0, .pointer (some ⟨b1, 0, none⟩)), (2, .slice at_ tl.length ct), (3, .int .u8 z), (11, pV qn bsn.length), (12, .int .i64 (i : Int)), (13, .string ((crashS D n).getD i (e0, 0)).1), (14, .pointer (some ⟨b0, 0, none⟩)), (15, .int .i64 0), (49, pV q (crashS D n).length), (50, .int .i64 ((crashS D n).length : Int)), (51, .int .i64 (i : Int))], mem := (b0, row 65 (boV ((D.bo.getD ((crashS D n).getD i (e0, 0)).2 bo0), qx))) :: (b1, row 61 (dkC D H)) :: (H.mn, .map H.en H.cn) :: (H.ms, .map es ck) :: (dkR D H ++ (pM 9 q (nmV (crashS D n)) ++ (pM 65 qn (boR bsn) ++ (bytM bsn)))), facts := [factC 1 (.slice at_ tl.length ct) tl.length (intV tl)] }) ⟨⟨rfl, rfl, rfl, rfl, rfl, rfl, rfl, rfl, rfl, rfl, rfl, trivial⟩, List.Sublist.refl _, fun f hf => hf, rfl⟩ ?_
        refine J_region ?_
        refine L_v rfl rfl rfl (V_fieldAddr rfl rfl Tryd.underlying65 rfl sz22dd rfl) ?_
        refine L_v rfl rfl rfl (V_load1 0 rfl rfl rfl Tryd.underlying22 rfl (by rfl)) ?_
        refine L_v rfl rfl rfl (V_fieldAddr rfl rfl Tryd.underlying65 rfl sz3dd rfl) ?_
        refine L_v rfl rfl rfl (V_load1 0 rfl rfl rfl Tryd.underlying3 rfl (by rfl)) ?_
        refine L_v rfl rfl rfl (V_move rfl rfl) ?_
        refine L_same 88 rfl ((show Value.int .i64 0 = .int .i64 ((tailK (D.bo.getD ((crashS D n).getD i (e0, 0)).2 bo0) tl i : Nat) : Int) from by rw [tailK_F (by omega)]; rfl)) ?_
        refine L_v rfl rfl rfl (V_add (r := (((D.bo.getD ((crashS D n).getD i (e0, 0)).2 bo0).2 + tailK (D.bo.getD ((crashS D n).getD i (e0, 0)).2 bo0) tl i : Nat) : Int)) rfl rfl rfl (by show IntKind.i64.wrap (((D.bo.getD ((crashS D n).getD i (e0, 0)).2 bo0).2 : Int) + ((tailK (D.bo.getD ((crashS D n).getD i (e0, 0)).2 bo0) tl i : Nat) : Int)) = _; rw [IntKind.wrap_i64]; omega)) ?_
        refine L_v rfl rfl rfl (V_slice0 (h := (D.bo.getD ((crashS D n).getD i (e0, 0)).2 bo0).2 + tailK (D.bo.getD ((crashS D n).getD i (e0, 0)).2 bo0) tl i) rfl rfl Tryd.underlying22 sz5dd (Bd.at rfl rfl) rfl rfl (show _ ≤ pC qx by omega) (Nat.le_refl _)) ?_
        refine L_call rfl rfl rfl rfl tx38dd (fun w1 hw => (tk_clone D n tl i qx w1 ht2 (SlB.take (hG.slX hw (fun p hp => List.mem_cons_of_mem _ (List.mem_cons_of_mem _ (List.mem_cons_of_mem _ (List.mem_cons_of_mem _ (List.mem_append_left _ hp))))) hqx) ht2 _) hl99).mono ?_)
        rintro e w' ⟨q2, rfl, hq2, hU⟩
        refine ⟨_, _, _, rfl, hw.addL hU.fr hU.newL, rfl, ?_⟩
        have hl2 := tk_len D n tl i ht2
        refine L_v rfl rfl rfl (V_assign rfl rfl) ?_
        refine L_nil ?_
        change J _ _ _ _
        refine J_seq ?_
        refine J_seq ?_
        refine J_region ?_
        refine L_v rfl rfl rfl (V_move rfl rfl) ?_
        refine L_same 92 rfl ((show Value.int .i64 0 = .int .i64 ((tailK (D.bo.getD ((crashS D n).getD i (e0, 0)).2 bo0) tl i : Nat) : Int) from by rw [tailK_F (by omega)]; rfl)) ?_
        refine L_v rfl rfl rfl (V_gtr rfl rfl rfl rfl) ?_
        refine L_nil ?_
        change J _ _ _ _
        refine J_cond rfl (fun h4 => ?_) (fun h4 => ?_)
        ·
          first | (have h4 := of_decide_eq_true h4) | (have h4 := of_decide_eq_false h4) | skip
          have hA2 : ∃ b off, pA q2 = some ⟨b, off, none⟩ := hq2.at (by omega)
          refine J_region ?_
          refine L_v rfl rfl rfl (V_move rfl rfl) ?_
          refine L_v rfl rfl rfl (V_move rfl rfl) ?_
          refine L_v rfl rfl rfl (V_len rfl rfl Tryd.underlying22 rfl) ?_
          refine L_v rfl rfl rfl (V_sub (r := (((D.bo.getD ((crashS D n).getD i (e0, 0)).2 bo0).2 + tailK (D.bo.getD ((crashS D n).getD i (e0, 0)).2 bo0) tl i - 1 : Nat) : Int)) rfl rfl rfl (by show IntKind.i64.wrap ((((D.bo.getD ((crashS D n).getD i (e0, 0)).2 bo0).2 + tailK (D.bo.getD ((crashS D n).getD i (e0, 0)).2 bo0) tl i : Nat) : Int) - 1) = _; rw [IntKind.wrap_i64]; omega)) ?_
          refine L_v rfl rfl rfl (V_indexN rfl rfl rfl Tryd.underlying22 sz5dd hA2 (by omega) (by omega)) ?_
          refine L_v rfl rfl rfl (V_loadC rfl rfl Tryd.underlying5 rfl (fun w hw => hq2.slC (e := 5) hw (fun p hp => List.mem_append_right _ hp)) (dg_at (by omega))) ?_
          refine L_v rfl rfl rfl (V_move rfl rfl) ?_
          refine L_v rfl rfl rfl (V_xor rfl rfl rfl rfl) ?_
          refine L_v rfl rfl rfl (V_indexN rfl rfl rfl Tryd.underlying22 sz5dd hA2 (by omega) (by omega)) ?_
          refine L_cons rfl (S_storeP (e := 5) ((b0, row 65 (boV ((D.bo.getD ((crashS D n).getD i (e0, 0)).2 bo0), qx))) :: (b1, row 61 (dkC D H)) :: (H.mn, .map H.en H.cn) :: (H.ms, .map es ck) :: (dkR D H ++ (pM 9 q (nmV (crashS D n)) ++ (pM 65 qn (boR bsn) ++ (bytM bsn))))) [] q2 (dg (tkB D n tl i)) rfl rfl rfl rfl (by show ((_ :: _) ++ _) = _; rw [List.append_nil]) hq2 (by rw [dg_length, hl2]; omega) rfl sz5dd ?_)
          refine L_nil ?_
          change J _ _ _ _
          refine J_seq ?_
          refine J_pk ((b0, row 65 (boV ((D.bo.getD ((crashS D n).getD i (e0, 0)).2 bo0), qx))) :: ((b1, row 61 (dkC D H)) :: (H.mn, .map H.en H.cn) :: (H.ms, .map es ck) :: (dkR D H ++ (pM 9 q (nmV (crashS D n)) ++ (pM 65 qn (boR bsn) ++ (bytM bsn)))) ++ pM 5 q2 (dg (leftB (D.bo.getD ((crashS D n).getD i (e0, 0)).2 bo0) (tailK (D.bo.getD ((crashS D n).getD i (e0, 0)).2 bo0) tl i) z)))) (Pk.of_sub (by rw [leftB_1 _ _ (by omega), ← dg_xor, hl2]; show List.Sublist _ (((_ :: _) ++ (pM _ _ ((dg _).set (((D.bo.getD ((crashS D n).getD i (e0, 0)).2 bo0).2 + tailK (D.bo.getD ((crashS D n).getD i (e0, 0)).2 bo0) tl i - 1) * (0 + 1)) _) ++ []))); rw [List.append_nil, Nat.zero_add, Nat.mul_one]; exact List.Sublist.refl _)) ?_
          refine J_le (st' := { env := [(0, .pointer (some ⟨b1, 0, none⟩)), (2, .slice at_ tl.length ct), (3, .int .u8 z), (11, pV qn bsn.length), (12, .int .i64 (i : Int)), (13, .string ((crashS D n).getD i (e0, 0)).1), (16, pV q2 ((D.bo.getD ((crashS D n).getD i (e0, 0)).2 bo0).2 + tailK (D.bo.getD ((crashS D n).getD i (e0, 0)).2 bo0) tl i)), (49, pV q (crashS D n).length), (50, .int .i64 ((crashS D n).length : Int)), (51, .int .i64 (i : Int))], mem := (b0, row 65 (boV ((D.bo.getD ((crashS D n).getD i (e0, 0)).2 bo0), qx))) :: ((b1, row 61 (dkC D H)) :: (H.mn, .map H.en H.cn) :: (H.ms, .map es ck) :: (dkR D H ++ (pM 9 q (nmV (crashS D n)) ++ (pM 65 qn (boR bsn) ++ (bytM bsn)))) ++ pM 5 q2 (dg (leftB (D.bo.getD ((crashS D n).getD i (e0, 0)).2 bo0) (tailK (D.bo.getD ((crashS D n).getD i (e0, 0)).2 bo0) tl i) z))), facts := [factC 1 (.slice at_ tl.length ct) tl.length (intV tl)] }) ⟨⟨rfl, rfl, rfl, rfl, rfl, rfl, rfl, rfl, rfl, rfl, trivial⟩, List.Sublist.refl _, fun f hf => List.mem_append_left _ hf, rfl⟩ ?_
          refine J_region ?_
          refine L_v rfl rfl rfl (V_move rfl rfl) ?_
          refine L_v rfl rfl rfl (V_nilCheck rfl rfl) ?_
          refine L_v rfl rfl rfl (V_fieldAddr rfl rfl Tryd.underlying61 rfl sz57dd rfl) ?_
          refine L_v rfl rfl rfl (V_load1 1 rfl rfl rfl Tryd.underlying57 rfl (by rfl)) ?_
          refine L_v rfl rfl rfl (V_move rfl rfl) ?_
          refine L_v rfl rfl rfl (V_move rfl rfl) ?_
          refine L_mapUpdate 3 rfl rfl rfl rfl rfl rfl Tryd.underlying57 Tryd.underlying9 rfl hms (fun es2 ck2 hm2 => ?_)
          refine L_nil ?_
          change J _ _ _ _
          refine J_region ?_
          refine L_v rfl rfl rfl (V_move rfl rfl) ?_
          refine L_v rfl rfl rfl (V_move rfl rfl) ?_
          refine L_v rfl rfl rfl (V_move rfl rfl) ?_
          refine L_v rfl rfl rfl (V_len rfl rfl Tryd.underlying22 rfl) ?_
          refine L_v rfl rfl rfl (V_buildE (v := .agg ([pV q2 ((D.bo.getD ((crashS D n).getD i (e0, 0)).2 bo0).2 + tailK (D.bo.getD ((crashS D n).getD i (e0, 0)).2 bo0) tl i), .int .i64 ((((D.bo.getD ((crashS D n).getD i (e0, 0)).2 bo0).2 + tailK (D.bo.getD ((crashS D n).getD i (e0, 0)).2 bo0) tl i) : Nat) : Int)]).toArray) rfl rfl (fun w => by kernel_rfl)) ?_
          refine L_buildSlice (e := 65) (vs := [(0, .agg [pV q2 ((D.bo.getD ((crashS D n).getD i (e0, 0)).2 bo0).2 + tailK (D.bo.getD ((crashS D n).getD i (e0, 0)).2 bo0) tl i), .int .i64 ((((D.bo.getD ((crashS D n).getD i (e0, 0)).2 bo0).2 + tailK (D.bo.getD ((crashS D n).getD i (e0, 0)).2 bo0) tl i) : Nat) : Int)].toArray)]) (l := [pV q2 ((D.bo.getD ((crashS D n).getD i (e0, 0)).2 bo0).2 + tailK (D.bo.getD ((crashS D n).getD i (e0, 0)).2 bo0) tl i), .int .i64 ((((D.bo.getD ((crashS D n).getD i (e0, 0)).2 bo0).2 + tailK (D.bo.getD ((crashS D n).getD i (e0, 0)).2 bo0) tl i) : Nat) : Int)]) rfl rfl rfl rfl rfl (bsK _ _) (fun b9 => ?_)
          refine L_cons rfl (S_appendP (e := 65) ((b0, row 65 (boV ((D.bo.getD ((crashS D n).getD i (e0, 0)).2 bo0), qx))) :: (b1, row 61 (dkC D H)) :: (H.mn, .map H.en H.cn) :: (H.ms, .map es2 ck2) :: (dkR D H ++ pM 9 q (nmV (crashS D n)))) (bytM bsn ++ (pM 5 q2 (dg (leftB (D.bo.getD ((crashS D n).getD i (e0, 0)).2 bo0) (tailK (D.bo.getD ((crashS D n).getD i (e0, 0)).2 bo0) tl i) z)) ++ [(b9, row 65 [pV q2 ((D.bo.getD ((crashS D n).getD i (e0, 0)).2 bo0).2 + tailK (D.bo.getD ((crashS D n).getD i (e0, 0)).2 bo0) tl i), .int .i64 ((((D.bo.getD ((crashS D n).getD i (e0, 0)).2 bo0).2 + tailK (D.bo.getD ((crashS D n).getD i (e0, 0)).2 bo0) tl i) : Nat) : Int)])])) qn (boR bsn) (n := bsn.length) (m := 1) (news := [pV q2 ((D.bo.getD ((crashS D n).getD i (e0, 0)).2 bo0).2 + tailK (D.bo.getD ((crashS D n).getD i (e0, 0)).2 bo0) tl i), .int .i64 ((((D.bo.getD ((crashS D n).getD i (e0, 0)).2 bo0).2 + tailK (D.bo.getD ((crashS D n).getD i (e0, 0)).2 bo0) tl i) : Nat) : Int)]) rfl rfl rfl rfl Tryd.underlying58 elB (by show (_ :: _ :: _ :: _ :: ((dkR D H ++ (_ ++ (_ ++ _))) ++ _)) ++ [_] = _; simp only [List.cons_append, List.append_assoc, List.nil_append]) hqn (fun w1 hw => src_C Tryd.underlying58 (SlC.in (r := []) (fz := (0, 0)) hw (List.mem_append_right _ (List.mem_singleton.2 rfl)) rfl 1) (all_one (by kernel_rfl))) (by omega) (by omega) (fun q' hq' => ?_))
          refine L_v rfl rfl rfl (V_assign rfl rfl) ?_
          refine L_nil ?_
          change J _ _ _ _
          refine J_region ?_
          refine L_v rfl rfl rfl (V_add (r := ((i + 1 : Nat) : Int)) rfl rfl rfl (by rw [IntKind.wrap_i64]; omega)) ?_
          refine L_v rfl rfl rfl (V_move rfl rfl) ?_
          refine L_nil ?_
          have hlb : (leftB (D.bo.getD ((crashS D n).getD i (e0, 0)).2 bo0) (tailK (D.bo.getD ((crashS D n).getD i (e0, 0)).2 bo0) tl i) z).length = ((D.bo.getD ((crashS D n).getD i (e0, 0)).2 bo0).2 + tailK (D.bo.getD ((crashS D n).getD i (e0, 0)).2 bo0) tl i) := leftB_len _ _ _ ht2
          have e8 := row_next bsn (leftB (D.bo.getD ((crashS D n).getD i (e0, 0)).2 bo0) (tailK (D.bo.getD ((crashS D n).getD i (e0, 0)).2 bo0) tl i) z) q2 hlb
          rw [e8] at hq'
          have hq2' : PC 1 q2 (leftB (D.bo.getD ((crashS D n).getD i (e0, 0)).2 bo0) (tailK (D.bo.getD ((crashS D n).getD i (e0, 0)).2 bo0) tl i) z).length (dg (leftB (D.bo.getD ((crashS D n).getD i (e0, 0)).2 bo0) (tailK (D.bo.getD ((crashS D n).getD i (e0, 0)).2 bo0) tl i) z)) := by
            rw [hlb]
            rcases q2 with _ | ⟨g2, p2, c2, r2⟩
            · have := hq2.1
              refine ⟨this, List.length_eq_zero_iff.1 (by rw [dg_length, hlb]; exact this)⟩
            · exact ⟨by rw [dg_length, hlb, Nat.mul_one], hq2.2⟩
          exact ⟨(i + 1, es2, ck2, putN ls ((crashS D n).getD i (e0, 0)).1 i, q', bsn ++ [((leftB (D.bo.getD ((crashS D n).getD i (e0, 0)).2 bo0) (tailK (D.bo.getD ((crashS D n).getD i (e0, 0)).2 bo0) tl i) z, (leftB (D.bo.getD ((crashS D n).getD i (e0, 0)).2 bo0) (tailK (D.bo.getD ((crashS D n).getD i (e0, 0)).2 bo0) tl i) z).length), q2)]), ⟨by show i + 1 ≤ _; omega, hm2, sfI_put hsS hls hin2, by show PC 2 q' (bsn ++ [_]).length _; rw [List.length_append]; exact hq', by show (bsn ++ [_]).length = i + 1; rw [List.length_append, hbl2]; rfl, crash_bs hbs rfl, fun y hy => (List.mem_append.1 hy).elim (hbx y) (fun h => by obtain rfl := List.mem_singleton.1 h; exact hq2')⟩, by show (crashS D n).length - (i + 1) < (crashS D n).length - i; omega,
            ⟨rfl, rfl, rfl, by show _ = some (pV q' (bsn ++ [_]).length); rw [List.length_append]; rfl, rfl, rfl, rfl, trivial⟩, by
              show List.Sublist (_ :: _ :: _ :: (dkR D H ++ (pM 9 q _ ++ (pM 65 q' (boR (bsn ++ [_])) ++ bytM (bsn ++ [_]))))) _
              rw [← e8, byt_next]
              show List.Sublist _ (((_ :: _ :: _ :: _ :: (dkR D H ++ _)) ++ (_ ++ (_ ++ (_ ++ [_])))))
              simp only [List.cons_append, List.append_assoc, List.nil_append]
              exact List.Sublist.cons _ (List.Sublist.cons_cons _ (List.Sublist.cons_cons _ (List.Sublist.cons_cons _ (List.Sublist.append (List.Sublist.refl _) (List.Sublist.append (List.Sublist.refl _) (List.Sublist.append (List.Sublist.refl _) (List.Sublist.append (List.Sublist.refl _) (List.Sublist.append (List.Sublist.refl _) (List.Sublist.append (List.Sublist.refl _) (List.sublist_append_left _ _)))))))))), fun f hf => hf, rfl⟩
        ·
          first | (have h4 := of_decide_eq_true h4) | (have h4 := of_decide_eq_false h4) | skip
          refine J_skip ?_
          change J _ _ _ _
          refine J_seq ?_
          refine J_pk ((b0, row 65 (boV ((D.bo.getD ((crashS D n).getD i (e0, 0)).2 bo0), qx))) :: ((b1, row 61 (dkC D H)) :: (H.mn, .map H.en H.cn) :: (H.ms, .map es ck) :: (dkR D H ++ (pM 9 q (nmV (crashS D n)) ++ (pM 65 qn (boR bsn) ++ (bytM bsn)))) ++ pM 5 q2 (dg (leftB (D.bo.getD ((crashS D n).getD i (e0, 0)).2 bo0) (tailK (D.bo.getD ((crashS D n).getD i (e0, 0)).2 bo0) tl i) z)))) (Pk.of_sub (by rw [leftB_0 _ _ (by omega)]; exact List.Sublist.refl _)) ?_
          refine J_le (st' := { env := [(0, .pointer (some ⟨b1, 0, none⟩)), (2, .slice at_ tl.length ct), (3, .int .u8 z), (11, pV qn bsn.length), (12, .int .i64 (i : Int)), (13, .string ((crashS D n).getD i (e0, 0)).1), (16, pV q2 ((D.bo.getD ((crashS D n).getD i (e0, 0)).2 bo0).2 + tailK (D.bo.getD ((crashS D n).getD i (e0, 0)).2 bo0) tl i)), (49, pV q (crashS D n).length), (50, .int .i64 ((crashS D n).length : Int)), (51, .int .i64 (i : Int))], mem := (b0, row 65 (boV ((D.bo.getD ((crashS D n).getD i (e0, 0)).2 bo0), qx))) :: ((b1, row 61 (dkC D H)) :: (H.mn, .map H.en H.cn) :: (H.ms, .map es ck) :: (dkR D H ++ (pM 9 q (nmV (crashS D n)) ++ (pM 65 qn (boR bsn) ++ (bytM bsn)))) ++ pM 5 q2 (dg (leftB (D.bo.getD ((crashS D n).getD i (e0, 0)).2 bo0) (tailK (D.bo.getD ((crashS D n).getD i (e0, 0)).2 bo0) tl i) z))), facts := [factC 1 (.slice at_ tl.length ct) tl.length (intV tl)] }) ⟨⟨rfl, rfl, rfl, rfl, rfl, rfl, rfl, rfl, rfl, rfl, trivial⟩, List.Sublist.refl _, fun f hf => List.mem_append_left _ hf, rfl⟩ ?_
          refine J_region ?_
          refine L_v rfl rfl rfl (V_move rfl rfl) ?_
          refine L_v rfl rfl rfl (V_nilCheck rfl rfl) ?_
          refine L_v rfl rfl rfl (V_fieldAddr rfl rfl Tryd.underlying61 rfl sz57dd rfl) ?_
          refine L_v rfl rfl rfl (V_load1 1 rfl rfl rfl Tryd.underlying57 rfl (by rfl)) ?_
          refine L_v rfl rfl rfl (V_move rfl rfl) ?_
          refine L_v rfl rfl rfl (V_move rfl rfl) ?_
          refine L_mapUpdate 3 rfl rfl rfl rfl rfl rfl Tryd.underlying57 Tryd.underlying9 rfl hms (fun es2 ck2 hm2 => ?_)
          refine L_nil ?_
          change J _ _ _ _
          refine J_region ?_
          refine L_v rfl rfl rfl (V_move rfl rfl) ?_
          refine L_v rfl rfl rfl (V_move rfl rfl) ?_
          refine L_v rfl rfl rfl (V_move rfl rfl) ?_
          refine L_v rfl rfl rfl (V_len rfl rfl Tryd.underlying22 rfl) ?_
          refine L_v rfl rfl rfl (V_buildE (v := .agg ([pV q2 ((D.bo.getD ((crashS D n).getD i (e0, 0)).2 bo0).2 + tailK (D.bo.getD ((crashS D n).getD i (e0, 0)).2 bo0) tl i), .int .i64 ((((D.bo.getD ((crashS D n).getD i (e0, 0)).2 bo0).2 + tailK (D.bo.getD ((crashS D n).getD i (e0, 0)).2 bo0) tl i) : Nat) : Int)]).toArray) rfl rfl (fun w => by kernel_rfl)) ?_
          refine L_buildSlice (e := 65) (vs := [(0, .agg [pV q2 ((D.bo.getD ((crashS D n).getD i (e0, 0)).2 bo0).2 + tailK (D.bo.getD ((crashS D n).getD i (e0, 0)).2 bo0) tl i), .int .i64 ((((D.bo.getD ((crashS D n).getD i (e0, 0)).2 bo0).2 + tailK (D.bo.getD ((crashS D n).getD i (e0, 0)).2 bo0) tl i) : Nat) : Int)].toArray)]) (l := [pV q2 ((D.bo.getD ((crashS D n).getD i (e0, 0)).2 bo0).2 + tailK (D.bo.getD ((crashS D n).getD i (e0, 0)).2 bo0) tl i), .int .i64 ((((D.bo.getD ((crashS D n).getD i (e0, 0)).2 bo0).2 + tailK (D.bo.getD ((crashS D n).getD i (e0, 0)).2 bo0) tl i) : Nat) : Int)]) rfl rfl rfl rfl rfl (bsK _ _) (fun b9 => ?_)
          refine L_cons rfl (S_appendP (e := 65) ((b0, row 65 (boV ((D.bo.getD ((crashS D n).getD i (e0, 0)).2 bo0), qx))) :: (b1, row 61 (dkC D H)) :: (H.mn, .map H.en H.cn) :: (H.ms, .map es2 ck2) :: (dkR D H ++ pM 9 q (nmV (crashS D n)))) (bytM bsn ++ (pM 5 q2 (dg (leftB (D.bo.getD ((crashS D n).getD i (e0, 0)).2 bo0) (tailK (D.bo.getD ((crashS D n).getD i (e0, 0)).2 bo0) tl i) z)) ++ [(b9, row 65 [pV q2 ((D.bo.getD ((crashS D n).getD i (e0, 0)).2 bo0).2 + tailK (D.bo.getD ((crashS D n).getD i (e0, 0)).2 bo0) tl i), .int .i64 ((((D.bo.getD ((crashS D n).getD i (e0, 0)).2 bo0).2 + tailK (D.bo.getD ((crashS D n).getD i (e0, 0)).2 bo0) tl i) : Nat) : Int)])])) qn (boR bsn) (n := bsn.length) (m := 1) (news := [pV q2 ((D.bo.getD ((crashS D n).getD i (e0, 0)).2 bo0).2 + tailK (D.bo.getD ((crashS D n).getD i (e0, 0)).2 bo0) tl i), .int .i64 ((((D.bo.getD ((crashS D n).getD i (e0, 0)).2 bo0).2 + tailK (D.bo.getD ((crashS D n).getD i (e0, 0)).2 bo0) tl i) : Nat) : Int)]) rfl rfl rfl rfl Tryd.underlying58 elB (by show (_ :: _ :: _ :: _ :: ((dkR D H ++ (_ ++ (_ ++ _))) ++ _)) ++ [_] = _; simp only [List.cons_append, List.append_assoc, List.nil_append]) hqn (fun w1 hw => src_C Tryd.underlying58 (SlC.in (r := []) (fz := (0, 0)) hw (List.mem_append_right _ (List.mem_singleton.2 rfl)) rfl 1) (all_one (by kernel_rfl))) (by omega) (by omega) (fun q' hq' => ?_))
          refine L_v rfl rfl rfl (V_assign rfl rfl) ?_
          refine L_nil ?_
          change J _ _ _ _
          refine J_region ?_
          refine L_v rfl rfl rfl (V_add (r := ((i + 1 : Nat) : Int)) rfl rfl rfl (by rw [IntKind.wrap_i64]; omega)) ?_
          refine L_v rfl rfl rfl (V_move rfl rfl) ?_
          refine L_nil ?_
          have hlb : (leftB (D.bo.getD ((crashS D n).getD i (e0, 0)).2 bo0) (tailK (D.bo.getD ((crashS D n).getD i (e0, 0)).2 bo0) tl i) z).length = ((D.bo.getD ((crashS D n).getD i (e0, 0)).2 bo0).2 + tailK (D.bo.getD ((crashS D n).getD i (e0, 0)).2 bo0) tl i) := leftB_len _ _ _ ht2
          have e8 := row_next bsn (leftB (D.bo.getD ((crashS D n).getD i (e0, 0)).2 bo0) (tailK (D.bo.getD ((crashS D n).getD i (e0, 0)).2 bo0) tl i) z) q2 hlb
          rw [e8] at hq'
          have hq2' : PC 1 q2 (leftB (D.bo.getD ((crashS D n).getD i (e0, 0)).2 bo0) (tailK (D.bo.getD ((crashS D n).getD i (e0, 0)).2 bo0) tl i) z).length (dg (leftB (D.bo.getD ((crashS D n).getD i (e0, 0)).2 bo0) (tailK (D.bo.getD ((crashS D n).getD i (e0, 0)).2 bo0) tl i) z)) := by
            rw [hlb]
            rcases q2 with _ | ⟨g2, p2, c2, r2⟩
            · have := hq2.1
              refine ⟨this, List.length_eq_zero_iff.1 (by rw [dg_length, hlb]; exact this)⟩
            · exact ⟨by rw [dg_length, hlb, Nat.mul_one], hq2.2⟩
          exact ⟨(i + 1, es2, ck2, putN ls ((crashS D n).getD i (e0, 0)).1 i, q', bsn ++ [((leftB (D.bo.getD ((crashS D n).getD i (e0, 0)).2 bo0) (tailK (D.bo.getD ((crashS D n).getD i (e0, 0)).2 bo0) tl i) z, (leftB (D.bo.getD ((crashS D n).getD i (e0, 0)).2 bo0) (tailK (D.bo.getD ((crashS D n).getD i (e0, 0)).2 bo0) tl i) z).length), q2)]), ⟨by show i + 1 ≤ _; omega, hm2, sfI_put hsS hls hin2, by show PC 2 q' (bsn ++ [_]).length _; rw [List.length_append]; exact hq', by show (bsn ++ [_]).length = i + 1; rw [List.length_append, hbl2]; rfl, crash_bs hbs rfl, fun y hy => (List.mem_append.1 hy).elim (hbx y) (fun h => by obtain rfl := List.mem_singleton.1 h; exact hq2')⟩, by show (crashS D n).length - (i + 1) < (crashS D n).length - i; omega,
            ⟨rfl, rfl, rfl, by show _ = some (pV q' (bsn ++ [_]).length); rw [List.length_append]; rfl, rfl, rfl, rfl, trivial⟩, by
              show List.Sublist (_ :: _ :: _ :: (dkR D H ++ (pM 9 q _ ++ (pM 65 q' (boR (bsn ++ [_])) ++ bytM (bsn ++ [_]))))) _
              rw [← e8, byt_next]
              show List.Sublist _ (((_ :: _ :: _ :: _ :: (dkR D H ++ _)) ++ (_ ++ (_ ++ (_ ++ [_])))))
              simp only [List.cons_append, List.append_assoc, List.nil_append]
              exact List.Sublist.cons _ (List.Sublist.cons_cons _ (List.Sublist.cons_cons _ (List.Sublist.cons_cons _ (List.Sublist.append (List.Sublist.refl _) (List.Sublist.append (List.Sublist.refl _) (List.Sublist.append (List.Sublist.refl _) (List.Sublist.append (List.Sublist.refl _) (List.Sublist.append (List.Sublist.refl _) (List.Sublist.append (List.Sublist.refl _) (List.sublist_append_left _ _)))))))))), fun f hf => hf, rfl⟩
    ·
      first | (have h2 := of_decide_eq_true h2) | (have h2 := of_decide_eq_false h2) | skip
      refine J_exit ?_
      change J _ _ _ _
      refine J_seq ?_
      refine J_region ?_
      refine L_v rfl rfl rfl (V_move rfl rfl) ?_
      refine L_v rfl rfl rfl (V_move rfl rfl) ?_
      refine L_v rfl rfl rfl (V_nilCheck rfl rfl) ?_
      refine L_v rfl rfl rfl (V_fieldAddr rfl rfl Tryd.underlying61 rfl sz58dd rfl) ?_
      refine L_store1 0 (l' := dkT D.room (pV qn bsn.length) (.map (some H.mn)) (.map (some H.ms)) (pV H.qc D.ch.length) D.down D.stops D.left) rfl rfl rfl rfl rfl rfl rfl sz58dd (Nat.le_of_ble_eq_true (by kernel_rfl)) (by kernel_rfl) ?_
      refine L_nil ?_
      change J _ _ _ _
      refine J_seq ?_
      refine J_region ?_
      refine L_v rfl rfl rfl (V_move rfl rfl) ?_
      refine L_v rfl rfl rfl (V_move rfl rfl) ?_
      refine L_v rfl rfl rfl (V_move rfl rfl) ?_
      refine L_v rfl rfl rfl (V_move rfl rfl) ?_
      refine L_v rfl rfl rfl (V_move rfl rfl) ?_
      refine L_v rfl rfl rfl (V_nilCheck rfl rfl) ?_
      refine L_v rfl rfl rfl (V_fieldAddr rfl rfl Tryd.underlying61 rfl sz57dd rfl) ?_
      refine L_v rfl rfl rfl (V_load1 0 rfl rfl rfl Tryd.underlying57 rfl (by rfl)) ?_
      refine L_call rfl rfl rfl rfl tx34dd (fun w1 hw => (Go.Proofs.Tryd.clone_w _ _ _ w1 (hw.at (i := 2) rfl)).mono ?_)
      rintro e w' ⟨rfl, rfl⟩
      refine ⟨_, _, _, rfl, hw.alloc _, rfl, ?_⟩
      generalize hmm2 : w1.heap.size = m2
      refine L_v rfl rfl rfl (V_nilCheck rfl rfl) ?_
      refine L_v rfl rfl rfl (V_fieldAddr rfl rfl Tryd.underlying61 rfl sz57dd rfl) ?_
      refine L_store1 0 (l' := dkT D.room (pV qn bsn.length) (.map (some m2)) (.map (some H.ms)) (pV H.qc D.ch.length) D.down D.stops D.left) rfl rfl rfl rfl rfl rfl rfl sz57dd (Nat.le_of_ble_eq_true (by kernel_rfl)) (by kernel_rfl) ?_
      refine L_v rfl rfl rfl (V_nilCheck rfl rfl) ?_
      refine L_v rfl rfl rfl (V_fieldAddr rfl rfl Tryd.underlying61 rfl sz59dd rfl) ?_
      refine L_store1 0 (l' := dkT D.room (pV qn bsn.length) (.map (some m2)) (.map (some H.ms)) (.slice none 0 0) D.down D.stops D.left) rfl rfl rfl rfl rfl rfl rfl sz59dd (Nat.le_of_ble_eq_true (by kernel_rfl)) (by kernel_rfl) ?_
      refine L_v rfl rfl rfl (V_nilCheck rfl rfl) ?_
      refine L_v rfl rfl rfl (V_fieldAddr rfl rfl Tryd.underlying61 rfl sz4dd rfl) ?_
      refine L_store1 0 (l' := dkT D.room (pV qn bsn.length) (.map (some m2)) (.map (some H.ms)) (.slice none 0 0) false D.stops D.left) rfl rfl rfl rfl rfl rfl rfl sz4dd (Nat.le_of_ble_eq_true (by kernel_rfl)) (by kernel_rfl) ?_
      refine L_v rfl rfl rfl (V_nilCheck rfl rfl) ?_
      refine L_v rfl rfl rfl (V_fieldAddr rfl rfl Tryd.underlying61 rfl sz4dd rfl) ?_
      refine L_store1 0 (l' := dkT D.room (pV qn bsn.length) (.map (some m2)) (.map (some H.ms)) (.slice none 0 0) false false D.left) rfl rfl rfl rfl rfl rfl rfl sz4dd (Nat.le_of_ble_eq_true (by kernel_rfl)) (by kernel_rfl) ?_
      refine L_nil ?_
      change J _ _ _ _
      refine J_seq ?_
      refine J_region ?_
      refine L_v rfl rfl rfl (V_assign rfl rfl) ?_
      refine L_nil ?_
      change J _ _ _ _
      refine J_ret ?_
      change Kret _ _ _ Exit.ret _
      refine ret1 rfl rfl (RV_t rfl) ?_
      obtain rfl : i = (crashS D n).length := by omega
      have e7 : dkM b1 (crashD D n tl z) { H with mn := m2, en := es, cn := ck, ln := ls, es := es, cs := ck, ls := ls, qb := qn, qc := none, bs := bsn } = (b1, row 61 (dkT D.room (pV qn bsn.length) (.map (some m2)) (.map (some H.ms)) (.slice none 0 0) false false D.left)) :: (m2, .map es ck) :: (H.ms, .map es ck) :: (pM 65 qn (boR bsn) ++ bytM bsn) := rfl
      refine fun w' h => ⟨{ H with mn := m2, en := es, cn := ck, ln := ls, es := es, cs := ck, ls := ls, qb := qn, qc := none, bs := bsn }, rfl, crash_good hms hls hbs hqn hbx, Upd.of h rfl ?_ (fun f hf => by cases hf) (fun f hf => by cases hf)⟩
      rw [e7]
      refine Pk.of_perm (l := _ :: _ :: ((pM 65 qn (boR bsn) ++ bytM bsn) ++ [(m2, .map es ck)])) ?_ (show List.Sublist _ (_ :: _ :: _ :: ((dkR D H ++ (pM 9 q (nmV (crashS D n)) ++ (pM 65 qn (boR bsn) ++ bytM bsn))) ++ [(m2, .map es ck)])) from List.Sublist.cons_cons _ (List.Sublist.cons _ (List.Sublist.cons_cons _ (List.Sublist.append ((List.sublist_append_right _ _).trans (List.sublist_append_right _ _)) (List.Sublist.refl _)))))
      exact List.Perm.cons _ ((List.Perm.cons _ (List.perm_append_singleton _ _)).trans (List.Perm.swap _ _ _))

theorem crash_0 (n : Int) (v : Value) (z : Int) (w : World) :
    Calls Tryd.prog 15 #[.pointer none, .int .i64 n, v, .int .u8 z] w fun e w' => e = .returned (.int .i64 3) ∧ Fr [] w w' := by
  refine calls_of (args := [.pointer none, .int .i64 n, v, .int .u8 z]) ([]) ([]) ([]) Tryd.func15 rfl rfl (okW0 _ _ _ _) ?_
  refine J_seq ?_
  refine J_region ?_
  refine L_v rfl rfl rfl (V_assign rfl rfl) ?_
  refine L_nil ?_
  change J _ _ _ _
  refine J_seq ?_
  refine J_seq ?_
  refine J_region ?_
  refine L_v rfl rfl rfl (V_move rfl rfl) ?_
  refine L_v rfl rfl rfl (V_eqP rfl rfl rfl Tryd.underlying24 rfl) ?_
  refine L_nil ?_
  change J _ _ _ _
  refine J_true rfl ?_
  refine J_seq ?_
  refine J_region ?_
  refine L_v rfl rfl rfl (V_assign rfl rfl) ?_
  refine L_nil ?_
  change J _ _ _ _
  refine J_ret ?_
  change Kret _ _ _ Exit.ret _
  refine ret1 rfl rfl (RV_t rfl) ?_
  exact fun w' h => ⟨rfl, h.fr⟩

end Go.Proofs.YtcbpgnjlbbjieaaDoor
