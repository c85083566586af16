/- What layer 2 and its reference make of bytes. -/
import Derived.Test.YtejhcdjfcopphaaDoorSha2
import Derived.Test.YtejhcdjfcopphaaDoorShaPure2
set_option linter.unusedVariables false
set_option linter.unusedSimpArgs false
set_option maxRecDepth 100000
namespace Go.Proofs.YtejhcdjfcopphaaDoor
open Go.Sx
theorem elj : ElemOf Tryd.prog 5 1 1 (.int .u8 0) := elem_of (by kernel_rfl) rfl
theorem sz3j : (Tryd.prog.info? 3).map (·.size) = some 1 := by kernel_rfl
theorem sz5j : (Tryd.prog.info? 5).map (·.size) = some 1 := by kernel_rfl
theorem sz26j : (Tryd.prog.info? 26).map (·.size) = some 32 := by kernel_rfl
theorem sz40j : (Tryd.prog.info? 40).map (·.size) = some 1 := by kernel_rfl
theorem sz41j : (Tryd.prog.info? 41).map (·.size) = some 8 := by kernel_rfl
theorem sz46j : (Tryd.prog.info? 46).map (·.size) = some 64 := by kernel_rfl
theorem sz48j : (Tryd.prog.info? 48).map (·.size) = some 73 := by kernel_rfl
theorem tx15j : Txt Tryd.prog 15 := txt_of Tryd.func15 rfl (by kernel_rfl)
theorem tx23j : Txt Tryd.prog 23 := txt_of Tryd.func23 rfl (by kernel_rfl)
theorem bz5j : (Tryd.prog.info? 5).map (fun i => (i.zero, i.size)) = some (some (.int .u8 0), 1) := by kernel_rfl
theorem z26j : (Tryd.prog.info? 26).bind (·.zero) = some (.agg (dg zd).toArray) := by kernel_rfl
theorem z48j : (Tryd.prog.info? 48).bind (·.zero) = some (.agg (hL (List.replicate 8 0) (List.replicate 64 0) 0).toArray) := by kernel_rfl
theorem z49j : (Tryd.prog.info? 49).bind (·.zero) = some (.agg (dg (List.replicate 72 0)).toArray) := by kernel_rfl

theorem write_w (b : Nat) (ws : R8) (bl m : List Int) (L : List Int) (a : Option Addr) (n c : Nat) (w : World) (hb : w.heap[b]? = some (row 48 (hL ws.l bl (m.length : Int)))) (hs : HS m ws bl) (hu : SlB w (.slice a n c) L) (hap : ∀ k, (factB (.slice a n c) L).fp k → k ≠ b) (hLb : Byt L) (hcn : n ≤ c) (hK : TabK KT 1 w) (hbg : b ≠ 1) (hsz : m.length + L.length ≤ 1099511627775) :
    Calls Tryd.prog 15 #[.pointer (some ⟨b, 0, none⟩), .slice a n c] w fun e w' => ∃ ws' bl', e = .returned (.int .i64 0) ∧ Fr [b] w w' ∧ w'.heap[b]? = some (row 48 (hL ws'.l bl' ((m.length + L.length : Nat) : Int))) ∧ HS (m ++ L) ws' bl' := by
  have hul := hu.size
  refine calls_of (args := [.pointer (some ⟨b, 0, none⟩), .slice a n c]) ([b]) ([(b, row 48 (hL ws.l bl (m.length : Int)))]) ([factB (.slice a n c) L]) Tryd.func15 rfl rfl (okM1 hb (fun f hf => by simp only [List.mem_singleton] at hf; subst hf; exact ⟨hu, fun k hk => ⟨factB_lt hu k hk, hap k hk⟩⟩)) ?_
  refine J_seq ?_
  refine J_region ?_
  refine L_v rfl rfl rfl (V_assign rfl rfl) ?_
  refine L_nil ?_
  change J _ _ _ _
  refine J_seq ?_
  refine J_seq ?_
  refine J_region ?_
  refine L_v rfl rfl rfl (V_move rfl rfl) ?_
  refine L_v rfl rfl rfl (V_eqP rfl rfl rfl Tryd.underlying31 rfl) ?_
  refine L_nil ?_
  change J _ _ _ _
  refine J_false rfl ?_
  refine J_skip ?_
  change J _ _ _ _
  refine J_seq ?_
  refine J_block ?_
  refine J_loop (X := Nat × R8 × List Int × Option Addr × Nat × Nat) (fun x => { env := [(0, .pointer (some ⟨b, 0, none⟩)), (1, .slice x.2.2.2.1 x.2.2.2.2.1 x.2.2.2.2.2)], mem := [(b, row 48 (hL x.2.1.l x.2.2.1 ((m.length + x.1 : Nat) : Int)))], facts := [factB (.slice a n c) L] }) (fun x => x.1 ≤ L.length ∧ HS (m ++ L.take x.1) x.2.1 x.2.2.1 ∧ x.2.2.2.2.1 = L.length - x.1 ∧ x.2.2.2.2.1 ≤ x.2.2.2.2.2 ∧ ∀ W, SlB W (.slice a n c) L → SlB W (.slice x.2.2.2.1 x.2.2.2.2.1 x.2.2.2.2.2) (L.drop x.1)) (fun x => L.length - x.1) (0, ws, bl, a, n, c) ⟨Nat.zero_le _, by rw [List.take_zero, List.append_nil]; exact hs, by show n = L.length - 0; omega, hcn, fun W h => h⟩ ⟨⟨rfl, rfl, trivial⟩, List.Sublist.refl _, fun f hf => hf, rfl⟩ ?_
  rintro ⟨k, ws', bl', a', n', c'⟩ ⟨hk, hs', hn', hc', hS⟩
  simp only at hk hs' hn' hc' hS ⊢
  refine J_seq ?_
  refine J_seq ?_
  refine J_region ?_
  refine L_v rfl rfl rfl (V_move rfl rfl) ?_
  refine L_v rfl rfl rfl (V_len rfl rfl Tryd.underlying22 rfl) ?_
  refine L_v rfl rfl rfl (V_gtr rfl rfl rfl (by first | exact decide_eq_true (by omega) | exact decide_eq_false (by omega) | rfl)) ?_
  refine L_nil ?_
  change J _ _ _ _
  refine J_cond rfl (fun h1 => ?_) (fun h1 => ?_)
  ·
    first | (have h1 := h1; rw [decide_eq_true_eq] at h1) | (have h1 := h1; rw [decide_eq_false_iff_not] at h1) | skip
    have hk1 : k < L.length := by omega
    have hml : (m ++ L.take k).length = m.length + k := by rw [List.length_append, List.length_take]; omega
    obtain ⟨r, hr⟩ : ∃ r, (m.length + k) % 64 = r := ⟨_, rfl⟩
    have hr' : r < 64 := by omega
    have hx : (L.drop k).length = L.length - k := List.length_drop
    have hst := hs_step hs' (L.drop k) (hLb.drop k) (by rw [hx]; omega)
    obtain ⟨cc, hcc⟩ : ∃ cc, min (L.drop k).length (64 - r) = cc := ⟨_, rfl⟩
    rw [hml, hr, hcc] at hst
    have hbl' := hs'.len
    have hbn := blN_len (m := m ++ L.take k) (L.drop k) hbl'
    have hta : (m ++ L.take k) ++ (L.drop k).take cc = m ++ L.take (k + cc) := by rw [List.append_assoc, List.take_add]
    rw [hta] at hst
    refine J_skip ?_
    change J _ _ _ _
    refine J_block ?_
    refine J_seq ?_
    refine J_regionT 10 rfl (by kernel_rfl) ?_
    refine LQ_v rfl rfl rfl (V_move rfl rfl) ?_
    refine LQ_v rfl rfl rfl (V_nilCheck rfl rfl) ?_
    refine LQ_v rfl rfl rfl (V_fieldAddr rfl rfl Tryd.underlying48 rfl sz46j rfl) ?_
    refine LQ_v rfl rfl rfl (V_move rfl rfl) ?_
    refine LQ_v rfl rfl rfl (V_nilCheck rfl rfl) ?_
    refine LQ_v rfl rfl rfl (V_fieldAddr rfl rfl Tryd.underlying48 rfl sz3j rfl) ?_
    refine LQ_v rfl rfl rfl (V_load1 0 rfl rfl rfl Tryd.underlying3 rfl (hL_n rfl hbl')) ?_
    refine LQ_v rfl rfl rfl (V_rem (r := (r : Int)) rfl rfl rfl (by omega) (by rw [r64 (by omega)]; omega)) ?_
    refine LQ_v rfl rfl rfl (V_sliceArrS (l := r) (h := 64) (v := .slice (some ⟨b, 8 + r, none⟩) (64 - r) (64 - r)) rfl rfl Tryd.underlying46 sz5j (Bd.at rfl rfl) rfl (by omega) (Nat.le_refl _) (by show Value.slice (some (if 64 = r then _ else ⟨b, 8 + r * 1, none⟩)) _ _ = _; rw [if_neg (by omega), Nat.mul_one])) ?_
    refine LQ_v rfl rfl rfl (V_move rfl rfl) ?_
    refine LQ_nil ?_
    refine L_copyD 0 (hL ws'.l (blN (m ++ L.take k) bl' (L.drop k)) ((m.length + k : Nat) : Int)) rfl rfl rfl rfl rfl Tryd.underlying22 sz5j rfl (fun w hw => hS w (fB hw 0 rfl)) (by rw [hL_len _ rfl hbl']; omega) (by have e := copy_hL (ws := ws'.l) (m := m ++ L.take k) (bl := bl') (x := L.drop k) (n := ((m.length + k : Nat) : Int)) rfl hbl'; rw [hml, hr] at e; exact e) ?_
    refine L_same 21 rfl (congrArg (fun z : Nat => Value.int .i64 (z : Int)) hcc) ?_
    refine L_v rfl rfl rfl (V_assign rfl rfl) ?_
    refine L_nil ?_
    change J _ _ _ _
    refine J_seq ?_
    refine J_region ?_
    refine L_v rfl rfl rfl (V_move rfl rfl) ?_
    refine L_v rfl rfl rfl (V_nilCheck rfl rfl) ?_
    refine L_v rfl rfl rfl (V_fieldAddr rfl rfl Tryd.underlying48 rfl sz3j rfl) ?_
    refine L_v rfl rfl rfl (V_load1 0 rfl rfl rfl Tryd.underlying3 rfl (hL_n rfl hbn)) ?_
    refine L_v rfl rfl rfl (V_move rfl rfl) ?_
    refine L_v rfl rfl rfl (V_add (r := ((m.length + (k + cc) : Nat) : Int)) rfl rfl rfl (by rw [Go.IntWalk.i64_in _ (by omega)]; omega)) ?_
    refine L_v rfl rfl rfl (V_nilCheck rfl rfl) ?_
    refine L_v rfl rfl rfl (V_fieldAddr rfl rfl Tryd.underlying48 rfl sz3j rfl) ?_
    refine L_store1 0 rfl rfl rfl rfl rfl rfl rfl sz3j (by rw [hL_len _ rfl hbn]; decide) (hL_setn _ rfl hbn) ?_
    refine L_nil ?_
    change J _ _ _ _
    refine J_seq ?_
    refine J_region ?_
    refine L_v rfl rfl rfl (V_move rfl rfl) ?_
    refine L_v rfl rfl rfl (V_move rfl rfl) ?_
    refine L_v rfl rfl rfl (V_sliceS (l := cc) rfl rfl Tryd.underlying22 sz5j (Bd.at rfl rfl) rfl rfl rfl (by omega) hc' (Nat.le_refl _) rfl) ?_
    refine L_v rfl rfl rfl (V_assign rfl rfl) ?_
    refine L_nil ?_
    change J _ _ _ _
    refine J_seq ?_
    refine J_region ?_
    refine L_v rfl rfl rfl (V_move rfl rfl) ?_
    refine L_v rfl rfl rfl (V_nilCheck rfl rfl) ?_
    refine L_v rfl rfl rfl (V_fieldAddr rfl rfl Tryd.underlying48 rfl sz3j rfl) ?_
    refine L_v rfl rfl rfl (V_load1 0 rfl rfl rfl Tryd.underlying3 rfl (hL_n rfl hbn)) ?_
    refine L_v rfl rfl rfl (V_rem rfl rfl rfl (by omega) (r64 (by omega))) ?_
    refine L_v rfl rfl rfl (V_eql rfl rfl rfl (by first | exact decide_eq_true (by omega) | exact decide_eq_false (by omega) | rfl)) ?_
    refine L_nil ?_
    change J _ _ _ _
    refine J_cond rfl (fun h2 => ?_) (fun h2 => ?_)
    ·
      first | (have h2 := h2; rw [decide_eq_true_eq] at h2) | (have h2 := h2; rw [decide_eq_false_iff_not] at h2) | skip
      refine J_region ?_
      refine L_v rfl rfl rfl (V_move rfl rfl) ?_
      refine L_callM 0 rfl rfl rfl rfl tx23j rfl (fun w hw => mix_w b ws' (blN (m ++ L.take k) bl' (L.drop k)) _ w (hw.at (i := 0) rfl) hbn (blN_byt hs'.byt (hLb.drop k)) (TabK.later hw (by intro hx; simp at hx; exact hbg hx.symm) hK) hbg) ⟨rfl, ?_⟩
      refine L_nil ?_
      exact ⟨(k + cc, blk KT ws' (blN (m ++ L.take k) bl' (L.drop k)), (blN (m ++ L.take k) bl' (L.drop k)), _, n' - cc, c' - cc), ⟨by show k + cc ≤ L.length; omega, hst.2 (by omega), by show n' - cc = L.length - (k + cc); omega, by show n' - cc ≤ c' - cc; omega, fun W h => by have := (hS W h).from (l := cc) (by omega) hc'; rwa [List.drop_drop] at this⟩, by show L.length - (k + cc) < L.length - k; omega, ⟨rfl, rfl, trivial⟩, List.Sublist.refl _, fun f hf => hf, rfl⟩
    ·
      first | (have h2 := h2; rw [decide_eq_true_eq] at h2) | (have h2 := h2; rw [decide_eq_false_iff_not] at h2) | skip
      refine J_skip ?_
      exact ⟨(k + cc, ws', (blN (m ++ L.take k) bl' (L.drop k)), _, n' - cc, c' - cc), ⟨by show k + cc ≤ L.length; omega, hst.1 (by omega), by show n' - cc = L.length - (k + cc); omega, by show n' - cc ≤ c' - cc; omega, fun W h => by have := (hS W h).from (l := cc) (by omega) hc'; rwa [List.drop_drop] at this⟩, by show L.length - (k + cc) < L.length - k; omega, ⟨rfl, rfl, trivial⟩, List.Sublist.refl _, fun f hf => hf, rfl⟩
  ·
    first | (have h1 := h1; rw [decide_eq_true_eq] at h1) | (have h1 := h1; rw [decide_eq_false_iff_not] at h1) | skip
    refine J_exit ?_
    change J _ _ _ _
    refine J_seq ?_
    refine J_region ?_
    refine L_v rfl rfl rfl (V_assign rfl rfl) ?_
    refine L_nil ?_
    change J _ _ _ _
    refine J_ret ?_
    change Kret _ _ _ Exit.ret _
    refine ret1 rfl rfl (RV_t rfl) ?_
    obtain rfl : k = L.length := by omega
    rw [List.take_length] at hs'
    exact fun w' h => ⟨ws', bl', rfl, h.fr, h.at (i := 0) rfl, hs'⟩

theorem hsum_w (b : Nat) (ws : R8) (bl m : List Int) (w : World) (hb : w.heap[b]? = some (row 48 (hL ws.l bl (m.length : Int)))) (hs : HS m ws bl) (hK : TabK KT 1 w) (hsz : m.length ≤ 1099511627000) :
    Calls Tryd.prog 16 #[.pointer (some ⟨b, 0, none⟩)] w fun e w' => e = .returned (.agg (dg (shaP m)).toArray) ∧ Fr [] w w' := by
  have h128 : ([128] : List Int).length = 1 := rfl
  refine calls_of (args := [.pointer (some ⟨b, 0, none⟩)]) ([]) ([]) ([]) Tryd.func16 rfl rfl (okW0 _ _ _ _) ?_
  refine J_seq ?_
  refine J_region ?_
  refine L_alloc rfl rfl rfl rfl z26j (fun b0 => ?_)
  refine L_nil ?_
  change J _ _ _ _
  refine J_seq ?_
  refine J_region ?_
  refine L_alloc rfl rfl rfl rfl z26j (fun b1 => ?_)
  refine L_nil ?_
  change J _ _ _ _
  refine J_seq ?_
  refine J_seq ?_
  refine J_region ?_
  refine L_v rfl rfl rfl (V_move rfl rfl) ?_
  refine L_v rfl rfl rfl (V_eqP rfl rfl rfl Tryd.underlying31 rfl) ?_
  refine L_nil ?_
  change J _ _ _ _
  refine J_false rfl ?_
  refine J_skip ?_
  change J _ _ _ _
  refine J_seq ?_
  refine J_region ?_
  refine L_v rfl rfl rfl (V_move rfl rfl) ?_
  refine L_v rfl rfl rfl (V_nilCheck rfl rfl) ?_
  refine L_v rfl rfl rfl (V_loadWF rfl rfl Tryd.underlying48 rfl (fun w hw => OkW.later hw rfl hb) (szd sz48j (by first | exact hL_len _ rfl hs.len | exact (hL_len _ rfl hs.len).symm | exact hL_len _ rfl rfl))) ?_
  refine L_alloc rfl rfl rfl rfl z48j (fun b2 => ?_)
  refine L_storeW 2 rfl rfl rfl rfl rfl rfl (szd sz48j (by first | exact hL_len _ rfl hs.len | exact (hL_len _ rfl hs.len).symm | exact hL_len _ rfl rfl)) (by first | exact wl_one _ | exact hL_one _ _ _ | exact dg_one _) (by first | exact hL_len _ rfl hs.len | exact (hL_len _ rfl hs.len).symm | exact hL_len _ rfl rfl) ?_
  refine L_nil ?_
  change J _ _ _ _
  refine J_seq ?_
  refine J_region ?_
  refine L_bs1 rfl rfl rfl rfl rfl Tryd.underlying22 bz5j rfl rfl (fun b3 => ?_)
  refine L_call rfl rfl rfl rfl tx15j (fun w1 hw => (write_w b2 ws bl m [128] (some ⟨b3, 0, none⟩) 1 1 w1 (hw.at (i := 2) rfl) hs (SlB.of_own hw (i := 3) (l := [128]) (r := []) rfl rfl 1) (apB (hw.ne (i := 3) (j := 2) rfl rfl (by decide))) (fun x hx => by simp at hx; omega) (Nat.le_refl 1) (TabK.later hw (by simp) hK) fun e => by have h1 : w.heap.size ≤ b2 := hw.ge rfl (i := 2) rfl; have h2 := hK.lt; omega (by show m.length + 1 ≤ _; omega)).mono ?_)
  rintro e w' ⟨ws1, bl1, rfl, hfr1, hb1, hs1⟩
  refine ⟨_, _, _, rfl, hw.set (i := 2) rfl hfr1 hb1, rfl, ?_⟩
  refine L_nil ?_
  change J _ _ _ _
  refine J_seq ?_
  refine J_region ?_
  refine L_alloc rfl rfl rfl rfl z49j (fun b4 => ?_)
  refine L_nil ?_
  change J _ _ _ _
  refine J_seq ?_
  refine J_region ?_
  refine L_v rfl rfl rfl (V_fieldAddr rfl rfl Tryd.underlying48 rfl sz3j rfl) ?_
  refine L_v rfl rfl rfl (V_load1 2 rfl rfl rfl Tryd.underlying3 rfl (hL_n rfl hs1.len)) ?_
  refine L_v rfl rfl rfl (V_rem rfl rfl rfl (by omega) (r64 (by omega))) ?_
  refine L_v rfl rfl rfl (V_sub rfl rfl rfl (by first | exact Go.IntWalk.i64_in _ (by omega) | rfl)) ?_
  refine L_v rfl rfl rfl (V_rem (r := (padN m.length : Int)) rfl rfl rfl (by omega) (by rw [r64 (by omega)]; unfold padN; omega)) ?_
  refine L_v rfl rfl rfl (V_assign rfl rfl) ?_
  refine L_nil ?_
  change J _ _ _ _
  refine J_seq ?_
  refine J_seq ?_
  refine J_region ?_
  refine L_v rfl rfl rfl (V_move rfl rfl) ?_
  refine L_nil ?_
  change J _ _ _ _
  refine J_block ?_
  have hm1 : (m ++ [128]).length = m.length + 1 := by simp
  obtain ⟨p, hpp⟩ : ∃ p, padN m.length = p := ⟨_, rfl⟩
  have hp : p < 64 := by rw [← hpp]; unfold padN; omega
  rw [hpp]
  have ht0 : List.replicate 72 (0 : Int) = (List.replicate p (0 : Int) ++ beL (m.length : Int) 0 ++ List.replicate (72 - p - 0) 0) := by unfold beL; rw [show 72 = p + (72 - p - 0) by omega, List.replicate_append_replicate.symm]; first | (simp; done) | (simp; omega)
  refine J_loop (X := Nat) (fun i => { env := [(0, .pointer (some ⟨b, 0, none⟩)), (2, .pointer (some ⟨b0, 0, none⟩)), (3, .pointer (some ⟨b1, 0, none⟩)), (4, .pointer (some ⟨b2, 0, none⟩)), (5, .pointer (some ⟨b4, 0, none⟩)), (6, .int .i64 (p : Int)), (22, .int .i64 (i : Int))], mem := [(b0, row 26 (dg zd)), (b1, row 26 (dg zd)), (b2, row 48 (hL ws1.l bl1 ((m.length + 1 : Nat) : Int))), (b3, row 5 [.int .u8 128]), (b4, row 49 (dg (List.replicate p (0 : Int) ++ beL (m.length : Int) i ++ List.replicate (72 - p - i) 0)))] }) (fun i => i ≤ 8) (fun i => 8 - i) 0 (Nat.zero_le _) ⟨⟨rfl, rfl, rfl, rfl, rfl, rfl, rfl, trivial⟩, (by rw [ht0]; exact List.Sublist.refl _), fun f hf => hf, rfl⟩ ?_
  rintro i hi
  refine J_seq ?_
  refine J_region ?_
  refine L_v rfl rfl rfl (V_lss rfl rfl rfl (by first | exact decide_eq_true (by omega) | exact decide_eq_false (by omega) | rfl)) ?_
  refine L_nil ?_
  change J _ _ _ _
  refine J_seq ?_
  refine J_cond rfl (fun h1 => ?_) (fun h1 => ?_)
  ·
    first | (have h1 := h1; rw [decide_eq_true_eq] at h1) | (have h1 := h1; rw [decide_eq_false_iff_not] at h1) | skip
    refine J_skip ?_
    change J _ _ _ _
    refine J_seq ?_
    refine J_block ?_
    refine J_seq ?_
    refine J_region ?_
    refine L_v rfl rfl rfl (V_move rfl rfl) ?_
    refine L_v rfl rfl rfl (V_assign rfl rfl) ?_
    refine L_nil ?_
    change J _ _ _ _
    refine J_region ?_
    refine L_v rfl rfl rfl (V_move rfl rfl) ?_
    refine L_v rfl rfl rfl (V_move rfl rfl) ?_
    refine L_v rfl rfl rfl (V_add rfl rfl rfl (by first | exact Go.IntWalk.i64_in _ (by omega) | rfl)) ?_
    refine L_v rfl rfl rfl (V_move rfl rfl) ?_
    refine L_v rfl rfl rfl (V_nilCheck rfl rfl) ?_
    refine L_v rfl rfl rfl (V_fieldAddr rfl rfl Tryd.underlying48 rfl sz3j rfl) ?_
    refine L_v rfl rfl rfl (V_loadF rfl rfl Tryd.underlying3 rfl (fun w hw => OkW.later hw rfl hb) (hL_n rfl hs.len)) ?_
    refine L_v rfl rfl rfl (V_conv rfl rfl Tryd.underlying3 Tryd.underlying50 (Go.IntWalk.u64_in _ (by omega))) ?_
    refine L_v rfl rfl rfl (V_mul rfl rfl rfl (Go.IntWalk.u64_in _ (by omega))) ?_
    refine L_v rfl rfl rfl (V_move rfl rfl) ?_
    refine L_v rfl rfl rfl (V_mul rfl rfl rfl (by first | exact Go.IntWalk.i64_in _ (by omega) | rfl)) ?_
    refine L_v rfl rfl rfl (V_sub rfl rfl rfl (by first | exact Go.IntWalk.i64_in _ (by omega) | rfl)) ?_
    refine L_v rfl rfl rfl (V_shr rfl rfl rfl (by omega) rfl) ?_
    refine L_v rfl rfl rfl (V_conv rfl rfl Tryd.underlying50 Tryd.underlying5 (shr_be i (by omega) (by omega) (by omega))) ?_
    refine L_v rfl rfl rfl (V_indexArr (off' := p + i) rfl rfl rfl Tryd.underlying49 sz5j (by omega) (by omega) (by show 0 + ((p : Int) + (i : Int)).toNat * 1 = p + i; omega)) ?_
    refine L_store1 4 rfl rfl rfl rfl rfl rfl rfl sz5j (by rw [dg_length]; simp [beL_len]; omega) (by rw [dg_set, tail_set hp (by omega)]) ?_
    refine L_nil ?_
    change J _ _ _ _
    refine J_region ?_
    refine L_v rfl rfl rfl (V_add rfl rfl rfl (by first | exact Go.IntWalk.i64_in _ (by omega) | rfl)) ?_
    refine L_v rfl rfl rfl (V_move rfl rfl) ?_
    refine L_nil ?_
    exact ⟨i + 1, by omega, by omega, ⟨rfl, rfl, rfl, rfl, rfl, rfl, rfl, trivial⟩, List.Sublist.refl _, fun f hf => hf, rfl⟩
  ·
    first | (have h1 := h1; rw [decide_eq_true_eq] at h1) | (have h1 := h1; rw [decide_eq_false_iff_not] at h1) | skip
    obtain rfl : i = 8 := by omega
    have hpL : padL m.length ++ List.replicate (72 - p - 8) 0 = (List.replicate p (0 : Int) ++ beL (m.length : Int) 8 ++ List.replicate (72 - p - 8) 0) := by unfold padL; rw [hpp]
    refine J_exit ?_
    change J _ _ _ _
    refine J_seq ?_
    refine J_region ?_
    refine L_v rfl rfl rfl (V_move rfl rfl) ?_
    refine L_v rfl rfl rfl (V_add rfl rfl rfl (by first | exact Go.IntWalk.i64_in _ (by omega) | rfl)) ?_
    refine L_v rfl rfl rfl (V_sliceArrS (l := 0) (h := p + 8) (v := .slice (some ⟨b4, 0, none⟩) (p + 8) 72) rfl rfl Tryd.underlying49 sz5j rfl (Bd.at rfl rfl) (by omega) (by omega) rfl) ?_
    refine L_call rfl rfl rfl rfl tx15j (fun w1 hw => (write_w b2 ws1 bl1 (m ++ [128]) (padL m.length) (some ⟨b4, 0, none⟩) (p + 8) 72 w1 (by rw [hm1]; exact hw.at (i := 2) rfl) hs1 (SlB.of_own hw (i := 4) (l := padL m.length) (r := dg (List.replicate (72 - p - 8) 0)) (by rw [← dg_append, hpL]; rfl) (by rw [padL_len, hpp]) 72) (apB (hw.ne (i := 4) (j := 2) rfl rfl (by decide))) (padL_byt _) (by omega) (TabK.later hw (by simp) hK) fun e => by have h1 : w.heap.size ≤ b2 := hw.ge rfl (i := 2) rfl; have h2 := hK.lt; omega (by rw [hm1, padL_len]; omega)).mono ?_)
    rintro e w' ⟨ws2, bl2, rfl, hfr2, hb2, hs2⟩
    refine ⟨_, _, _, rfl, hw.set (i := 2) rfl hfr2 hb2, rfl, ?_⟩
    refine L_nil ?_
    change J _ _ _ _
    refine J_seq ?_
    refine J_seq ?_
    refine J_region ?_
    refine L_v rfl rfl rfl (V_move rfl rfl) ?_
    refine L_nil ?_
    change J _ _ _ _
    refine J_block ?_
    refine J_loop (X := Nat) (fun i => { env := [(2, .pointer (some ⟨b0, 0, none⟩)), (3, .pointer (some ⟨b1, 0, none⟩)), (4, .pointer (some ⟨b2, 0, none⟩)), (45, .int .i64 (i : Int))], mem := [(b0, row 26 (dg zd)), (b1, row 26 (dg ((dig ws2).take i ++ zd.drop i))), (b2, row 48 (hL ws2.l bl2 (((m ++ [128]).length + (padL m.length).length : Nat) : Int))), (b3, row 5 [.int .u8 128]), (b4, row 49 (dg (List.replicate p (0 : Int) ++ beL (m.length : Int) 8 ++ List.replicate (72 - p - 8) 0)))] }) (fun i => i ≤ 32) (fun i => 32 - i) 0 (Nat.zero_le _) ⟨⟨rfl, rfl, rfl, rfl, trivial⟩, (by show List.Sublist [(b0, _), (b1, row 26 (dg (List.take 0 (dig ws2) ++ List.drop 0 zd))), _, _, _] _; rw [dz0]; exact List.Sublist.refl _), fun f hf => hf, rfl⟩ ?_
    rintro i hi
    refine J_seq ?_
    refine J_region ?_
    refine L_v rfl rfl rfl (V_lss rfl rfl rfl (by first | exact decide_eq_true (by omega) | exact decide_eq_false (by omega) | rfl)) ?_
    refine L_nil ?_
    change J _ _ _ _
    refine J_seq ?_
    refine J_cond rfl (fun h2 => ?_) (fun h2 => ?_)
    ·
      first | (have h2 := h2; rw [decide_eq_true_eq] at h2) | (have h2 := h2; rw [decide_eq_false_iff_not] at h2) | skip
      refine J_skip ?_
      change J _ _ _ _
      refine J_seq ?_
      refine J_block ?_
      refine J_seq ?_
      refine J_region ?_
      refine L_v rfl rfl rfl (V_move rfl rfl) ?_
      refine L_v rfl rfl rfl (V_assign rfl rfl) ?_
      refine L_nil ?_
      change J _ _ _ _
      refine J_region ?_
      refine L_v rfl rfl rfl (V_move rfl rfl) ?_
      refine L_v rfl rfl rfl (V_move rfl rfl) ?_
      refine L_v rfl rfl rfl (V_quo rfl rfl rfl (by omega) (by first | exact q64 (by omega) (by omega) (by omega) | rfl)) ?_
      refine L_v rfl rfl rfl (V_fieldAddr rfl rfl Tryd.underlying48 rfl sz41j rfl) ?_
      refine L_v rfl rfl rfl (V_indexArr (off' := i / 4) rfl rfl rfl Tryd.underlying41 sz40j (by omega) (by omega) (by show 0 + 0 + ((i : Int) / 4).toNat * 1 = i / 4; omega)) ?_
      refine L_v rfl rfl rfl (V_load1 2 rfl rfl rfl Tryd.underlying40 rfl (hL_word (by show i / 4 < 8; omega))) ?_
      refine L_v rfl rfl rfl (V_move rfl rfl) ?_
      refine L_v rfl rfl rfl (V_rem rfl rfl rfl (by omega) (by first | exact r64 (by omega) | rfl)) ?_
      refine L_v rfl rfl rfl (V_mul rfl rfl rfl (by first | exact Go.IntWalk.i64_in _ (by omega) | rfl)) ?_
      refine L_v rfl rfl rfl (V_sub rfl rfl rfl (by first | exact Go.IntWalk.i64_in _ (by omega) | rfl)) ?_
      refine L_v rfl rfl rfl (V_shr rfl rfl rfl (by omega) (shr_db ws2 (by omega))) ?_
      refine L_v rfl rfl rfl (V_conv rfl rfl Tryd.underlying40 Tryd.underlying5 (conv_db ws2 i)) ?_
      refine L_v rfl rfl rfl (V_indexArr (off' := i) rfl rfl rfl Tryd.underlying26 sz5j (by omega) (by omega) (by show 0 + ((i : Nat) : Int).toNat * 1 = i; omega)) ?_
      refine L_store1 1 rfl rfl rfl rfl rfl rfl rfl sz5j (by rw [dg_length]; simp [dig_len, zd_length]; omega) (by rw [dg_set, dig_set (by omega)]) ?_
      refine L_nil ?_
      change J _ _ _ _
      refine J_region ?_
      refine L_v rfl rfl rfl (V_add rfl rfl rfl (by first | exact Go.IntWalk.i64_in _ (by omega) | rfl)) ?_
      refine L_v rfl rfl rfl (V_move rfl rfl) ?_
      refine L_nil ?_
      exact ⟨i + 1, by omega, by omega, ⟨rfl, rfl, rfl, rfl, trivial⟩, List.Sublist.refl _, fun f hf => hf, rfl⟩
    ·
      first | (have h2 := h2; rw [decide_eq_true_eq] at h2) | (have h2 := h2; rw [decide_eq_false_iff_not] at h2) | skip
      obtain rfl : i = 32 := by omega
      have hd32 : (dig ws2).take 32 ++ zd.drop 32 = shaP m := by
        rw [List.take_of_length_le (by rw [dig_len]; exact Nat.le_refl _), show zd.drop 32 = [] from rfl, List.append_nil]
        unfold shaP
        rw [hs2.w]
        rfl
      rw [hd32]
      have hd33 := shaP_len m
      refine J_exit ?_
      change J _ _ _ _
      refine J_seq ?_
      refine J_region ?_
      refine L_v rfl rfl rfl (V_loadW 1 rfl rfl rfl Tryd.underlying26 rfl (szd sz26j (by first | rfl | (rw [dg_length]; simp [dig_len, zd_length]; done) | (rw [dg_length]; assumption)))) ?_
      refine L_storeW 0 rfl rfl rfl rfl rfl rfl (szd sz26j (by first | rfl | (rw [dg_length]; simp [dig_len, zd_length]; done) | (rw [dg_length]; assumption))) (by first | exact wl_one _ | exact hL_one _ _ _ | exact dg_one _) (by first | rfl | (rw [dg_length]; simp [dig_len, zd_length]; done) | (rw [dg_length]; assumption)) ?_
      refine L_nil ?_
      change J _ _ _ _
      refine J_ret ?_
      change Kret _ _ _ Exit.ret _
      refine ret1 rfl rfl (RV_c 0 rfl rfl Tryd.underlying26 rfl (szd sz26j (by first | rfl | (rw [dg_length]; simp [dig_len, zd_length]; done) | (rw [dg_length]; assumption)))) ?_
      exact fun w' h => ⟨rfl, h.fr⟩

end Go.Proofs.YtejhcdjfcopphaaDoor
