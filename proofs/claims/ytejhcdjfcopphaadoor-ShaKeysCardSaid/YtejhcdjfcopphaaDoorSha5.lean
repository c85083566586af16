/- The words of layer 2's reference, made of the primes' cube roots. -/
import Derived.Test.YtejhcdjfcopphaaDoorSha4
import Derived.Test.YtejhcdjfcopphaaDoorKeyK0
import Derived.Test.YtejhcdjfcopphaaDoorKeyK1
import Derived.Test.YtejhcdjfcopphaaDoorKeyK2
import Derived.Test.YtejhcdjfcopphaaDoorKeyK3
set_option linter.unusedVariables false
set_option linter.unusedSimpArgs false
set_option maxRecDepth 100000
namespace Go.Proofs.YtejhcdjfcopphaaDoor
open Go.Sx
theorem bdA (x : Nat) (w : World) : (Instr.build 56 [(0, .int .u64 ((x % 4294967296 : Nat) : Int)), (1, .int .u64 ((x / 4294967296 : Nat) : Int)), (2, .int .u64 0), (3, .int .u64 0)].toArray).run Tryd.prog w = .ok (.agg (ul (limbs x)).toArray) w := by kernel_rfl
theorem bdC (w : World) : (Instr.build 57 [(0, .int .u64 1)].toArray).run Tryd.prog w = .ok (.agg (ul [1, 0, 0, 0, 0, 0, 0, 0]).toArray) w := by kernel_rfl
theorem ul_lenL {n : Nat} {l : List Nat} (h : Lim n l) : (ul l).length = n := by rw [ul_len]; exact h.1
theorem fin_t {c : List Nat} {p : Nat} (h : (¬ (0 < c.getD 4 0 ∨ 0 < c.getD 5 0 ∨ 0 < c.getD 6 0 ∨ 0 < c.getD 7 0) ∧ (c.getD 3 0 < p ∨ (c.getD 3 0 = p ∧ c.getD 0 0 = 0 ∧ c.getD 1 0 = 0 ∧ c.getD 2 0 = 0)))) : finN c p = true := by
  unfold finN
  exact decide_eq_true h
theorem fin_f {c : List Nat} {p : Nat} (h : ¬ (¬ (0 < c.getD 4 0 ∨ 0 < c.getD 5 0 ∨ 0 < c.getD 6 0 ∨ 0 < c.getD 7 0) ∧ (c.getD 3 0 < p ∨ (c.getD 3 0 = p ∧ c.getD 0 0 = 0 ∧ c.getD 1 0 = 0 ∧ c.getD 2 0 = 0)))) : finN c p = false := by
  unfold finN
  exact decide_eq_false h
theorem fits_t {x p : Nat} (h : (¬ (0 < (cubeN (limbs x) 3).getD 4 0 ∨ 0 < (cubeN (limbs x) 3).getD 5 0 ∨ 0 < (cubeN (limbs x) 3).getD 6 0 ∨ 0 < (cubeN (limbs x) 3).getD 7 0) ∧ ((cubeN (limbs x) 3).getD 3 0 < p ∨ ((cubeN (limbs x) 3).getD 3 0 = p ∧ (cubeN (limbs x) 3).getD 0 0 = 0 ∧ (cubeN (limbs x) 3).getD 1 0 = 0 ∧ (cubeN (limbs x) 3).getD 2 0 = 0)))) : fitsN x p = true := fin_t h
theorem fits_f {x p : Nat} (h : ¬ (¬ (0 < (cubeN (limbs x) 3).getD 4 0 ∨ 0 < (cubeN (limbs x) 3).getD 5 0 ∨ 0 < (cubeN (limbs x) 3).getD 6 0 ∨ 0 < (cubeN (limbs x) 3).getD 7 0) ∧ ((cubeN (limbs x) 3).getD 3 0 < p ∨ ((cubeN (limbs x) 3).getD 3 0 = p ∧ (cubeN (limbs x) 3).getD 0 0 = 0 ∧ (cubeN (limbs x) 3).getD 1 0 = 0 ∧ (cubeN (limbs x) 3).getD 2 0 = 0)))) : fitsN x p = false := fin_f h
theorem d_lt {d n : Nat} (h : d ≤ 20) (h1 : d * d ≤ n) (h2 : n < 400) : d < 20 := by
  rcases Nat.lt_or_ge d 20 with h3 | h3
  · exact h3
  · have : 20 * 20 ≤ d * d := Nat.mul_le_mul h3 h3
    omega
theorem eqK64 (w : World) : (Op.equal 44 (.agg (wl KT).toArray) (.agg (wl KT).toArray)).run Tryd.prog w = .ok true w := by kernel_rfl
theorem egK64 : Tryd.prog.eqGuardType Tryd.prog.depth 44 = false := by kernel_rfl
theorem keysT : ∀ t, t < 64 → rootN (PL.getD t 0) 36 % 4294967296 = (KT.getD t 0).toNat := by
  intro t h
  by_cases h0 : t < 16
  · have := keys0 t h0; rwa [Nat.zero_add] at this
  · by_cases h1 : t < 32
    · have := keys1 (t - 16) (by omega); rwa [show 16 + (t - 16) = t by omega] at this
    · by_cases h2 : t < 48
      · have := keys2 (t - 32) (by omega); rwa [show 32 + (t - 32) = t by omega] at this
      · have := keys3 (t - 48) (by omega); rwa [show 48 + (t - 48) = t by omega] at this
def kz : List Wd := List.replicate 64 0
theorem kz_len : (wl kz).length = 64 := by kernel_rfl
def kt (t : Nat) : List Wd := KT.take t ++ kz.drop t
theorem kt_len {t : Nat} (h : t ≤ 64) : (kt t).length = 64 := by
  unfold kt
  rw [List.length_append, List.length_take, List.length_drop, show KT.length = 64 from rfl, show kz.length = 64 from rfl]
  omega
theorem kt_set {t : Nat} (h : t < 64) : (wl (kt t)).set t (wv (KT.getD t 0)) = wl (kt (t + 1)) := by
  unfold wl
  rw [← List.map_set]
  congr 1
  unfold kt
  have h1 : (KT.take t).length = t := by rw [List.length_take]; exact Nat.min_eq_left (by have : KT.length = 64 := rfl; omega)
  have h2 : kz.drop t = kz.getD t 0 :: kz.drop (t + 1) := by
    have hk : t < kz.length := h
    rw [List.getD_eq_getElem?_getD, List.getElem?_eq_getElem hk]
    exact List.drop_eq_getElem_cons hk
  rw [List.set_append_right _ _ (by omega), h1, Nat.sub_self, h2, List.set_cons_zero, List.take_add_one, List.append_assoc]
  congr 1
  rw [List.getD_eq_getElem?_getD, List.getElem?_eq_getElem (show t < KT.length from h)]
  rfl
theorem kt_end : kt 64 = KT := by kernel_rfl
theorem wl_len' (l : List Wd) : (wl l).length = l.length := by simp [wl]
theorem wl_one' (l : List Wd) : ∀ u ∈ wl l, u.oneCell' = true := by
  intro u hu
  obtain ⟨x, _, rfl⟩ := List.mem_map.1 hu
  rfl
theorem sz40n : (Tryd.prog.info? 40).map (·.size) = some 1 := by kernel_rfl
theorem sz44n : (Tryd.prog.info? 44).map (·.size) = some 64 := by kernel_rfl
theorem sz50n : (Tryd.prog.info? 50).map (·.size) = some 1 := by kernel_rfl
theorem sz56n : (Tryd.prog.info? 56).map (·.size) = some 4 := by kernel_rfl
theorem sz57n : (Tryd.prog.info? 57).map (·.size) = some 8 := by kernel_rfl
theorem tx22n : Txt Tryd.prog 22 := txt_of Tryd.func22 rfl (by kernel_rfl)
theorem tx25n : Txt Tryd.prog 25 := txt_of Tryd.func25 rfl (by kernel_rfl)
theorem tx26n : Txt Tryd.prog 26 := txt_of Tryd.func26 rfl (by kernel_rfl)
theorem tx28n : Txt Tryd.prog 28 := txt_of Tryd.func28 rfl (by kernel_rfl)
theorem z44n : (Tryd.prog.info? 44).bind (·.zero) = some (.agg (wl kz).toArray) := by kernel_rfl
theorem z56n : (Tryd.prog.info? 56).bind (·.zero) = some (.agg [.int .u64 0, .int .u64 0, .int .u64 0, .int .u64 0].toArray) := by kernel_rfl
theorem z57n : (Tryd.prog.info? 57).bind (·.zero) = some (.agg (ul z8).toArray) := by kernel_rfl

set_option maxHeartbeats 2000000 in
theorem fits_w (x p : Nat) (w : World) (hx : x < 68719476736) (hp : p < 1048576) :
    Calls Tryd.prog 28 #[.int .u64 (x : Int), .int .i64 (p : Int)] w fun e w' => e = .returned (.bool (fitsN x p)) ∧ Fr [] w w' := by
  have hA := limbs_lim hx
  refine calls_of (args := [.int .u64 (x : Int), .int .i64 (p : Int)]) ([]) ([]) ([]) Tryd.func28 rfl rfl (okW0 _ _ _ _) ?_
  refine J_seq ?_
  refine J_region ?_
  refine L_v rfl rfl rfl (V_assign rfl rfl) ?_
  refine L_nil ?_
  change J _ _ _ _
  refine J_seq ?_
  refine J_region ?_
  refine L_v rfl rfl rfl (V_move rfl rfl) ?_
  refine L_v rfl rfl rfl (V_rem rfl rfl rfl (by decide) (u64_mod _)) ?_
  refine L_v rfl rfl rfl (V_move rfl rfl) ?_
  refine L_v rfl rfl rfl (V_shr rfl rfl rfl (by decide) (u64_hi _)) ?_
  refine L_v rfl rfl rfl (V_build (vs := [(0, .int .u64 ((x % 4294967296 : Nat) : Int)), (1, .int .u64 ((x / 4294967296 : Nat) : Int)), (2, .int .u64 0), (3, .int .u64 0)]) rfl rfl (bdA x)) ?_
  refine L_alloc rfl rfl rfl rfl z56n (fun b0 => ?_)
  refine L_storeW 0 rfl rfl rfl rfl rfl rfl (szd sz56n (by first | rfl | exact ul_lenL hA | exact ul_lenL hC | (rw [ul_len]; rfl) | (rw [wl_len', kt_len (by omega)]) | (rw [wl_len', wl_len']; rfl))) (by first | exact ul_one _ | exact wl_one' _) (by first | rfl | exact ul_lenL hA | exact ul_lenL hC | (rw [ul_len]; rfl) | (rw [wl_len', kt_len (by omega)]) | (rw [wl_len', wl_len']; rfl)) ?_
  refine L_nil ?_
  change J _ _ _ _
  refine J_seq ?_
  refine J_region ?_
  refine L_v rfl rfl rfl (V_build (vs := [(0, .int .u64 1)]) rfl rfl bdC) ?_
  refine L_alloc rfl rfl rfl rfl z57n (fun b1 => ?_)
  refine L_storeW 1 rfl rfl rfl rfl rfl rfl (szd sz57n (by first | rfl | exact ul_lenL hA | exact ul_lenL hC | (rw [ul_len]; rfl) | (rw [wl_len', kt_len (by omega)]) | (rw [wl_len', wl_len']; rfl))) (by first | exact ul_one _ | exact wl_one' _) (by first | rfl | exact ul_lenL hA | exact ul_lenL hC | (rw [ul_len]; rfl) | (rw [wl_len', kt_len (by omega)]) | (rw [wl_len', wl_len']; rfl)) ?_
  refine L_nil ?_
  change J _ _ _ _
  refine J_seq ?_
  refine J_seq ?_
  refine J_region ?_
  refine L_v rfl rfl rfl (V_assign rfl rfl) ?_
  refine L_nil ?_
  change J _ _ _ _
  refine J_block ?_
  refine J_loop (X := Nat) (fun k => { env := [(1, .int .i64 (p : Int)), (5, .pointer (some ⟨b0, 0, none⟩)), (6, .pointer (some ⟨b1, 0, none⟩)), (7, .int .i64 (k : Int))], mem := [(b0, row 56 (ul (limbs x))), (b1, row 57 (ul (cubeN (limbs x) k)))] }) (fun k => k ≤ 3) (fun k => 3 - k) 0 (Nat.zero_le _) ⟨⟨rfl, rfl, rfl, rfl, trivial⟩, List.Sublist.refl _, fun f hf => hf, rfl⟩ ?_
  rintro k hk
  have hC := cube_lim hA k
  refine J_seq ?_
  refine J_seq ?_
  refine J_region ?_
  refine L_v rfl rfl rfl (V_move rfl rfl) ?_
  refine L_v rfl rfl rfl (V_lss rfl rfl rfl (by first | exact decide_eq_true (by omega) | exact decide_eq_false (by omega) | rfl)) ?_
  refine L_nil ?_
  change J _ _ _ _
  refine J_cond rfl (fun h1 => ?_) (fun h1 => ?_)
  ·
    first | (have h1 := h1; rw [decide_eq_true_eq] at h1) | (have h1 := h1; rw [decide_eq_false_iff_not] at h1) | skip
    refine J_skip ?_
    change J _ _ _ _
    refine J_seq ?_
    refine J_block ?_
    refine J_seq ?_
    refine J_region ?_
    refine L_alloc rfl rfl rfl rfl z57n (fun b2 => ?_)
    refine L_nil ?_
    change J _ _ _ _
    refine J_seq ?_
    refine J_seq ?_
    refine J_region ?_
    refine L_v rfl rfl rfl (V_assign rfl rfl) ?_
    refine L_nil ?_
    change J _ _ _ _
    refine J_block ?_
    refine J_loop (X := Nat) (fun i => { env := [(1, .int .i64 (p : Int)), (5, .pointer (some ⟨b0, 0, none⟩)), (6, .pointer (some ⟨b1, 0, none⟩)), (7, .int .i64 (k : Int)), (8, .pointer (some ⟨b2, 0, none⟩)), (9, .int .i64 (i : Int))], mem := [(b0, row 56 (ul (limbs x))), (b1, row 57 (ul (cubeN (limbs x) k))), (b2, row 57 (ul (mall (limbs x) (cubeN (limbs x) k) i)))] }) (fun i => i ≤ 5) (fun i => 5 - i) 0 (Nat.zero_le _) ⟨⟨rfl, rfl, rfl, rfl, rfl, rfl, trivial⟩, List.Sublist.refl _, fun f hf => hf, rfl⟩ ?_
    rintro i hi
    have hO := mall_lim hA hC i
    refine J_seq ?_
    refine J_seq ?_
    refine J_region ?_
    refine L_v rfl rfl rfl (V_move rfl rfl) ?_
    refine L_v rfl rfl rfl (V_lss rfl rfl rfl (by first | exact decide_eq_true (by omega) | exact decide_eq_false (by omega) | rfl)) ?_
    refine L_nil ?_
    change J _ _ _ _
    refine J_cond rfl (fun h2 => ?_) (fun h2 => ?_)
    ·
      first | (have h2 := h2; rw [decide_eq_true_eq] at h2) | (have h2 := h2; rw [decide_eq_false_iff_not] at h2) | skip
      refine J_skip ?_
      change J _ _ _ _
      refine J_seq ?_
      refine J_block ?_
      refine J_seq ?_
      refine J_region ?_
      refine L_v rfl rfl rfl (V_assign rfl rfl) ?_
      refine L_nil ?_
      change J _ _ _ _
      refine J_seq ?_
      refine J_region ?_
      refine L_v rfl rfl rfl (V_assign rfl rfl) ?_
      refine L_nil ?_
      change J _ _ _ _
      refine J_block ?_
      refine J_loop (X := Nat) (fun j => { env := [(1, .int .i64 (p : Int)), (5, .pointer (some ⟨b0, 0, none⟩)), (6, .pointer (some ⟨b1, 0, none⟩)), (7, .int .i64 (k : Int)), (8, .pointer (some ⟨b2, 0, none⟩)), (9, .int .i64 (i : Int)), (10, .int .u64 ((mrow (limbs x) (cubeN (limbs x) k) i j ((mall (limbs x) (cubeN (limbs x) k) i), 0)).2 : Int)), (11, .int .i64 (j : Int))], mem := [(b0, row 56 (ul (limbs x))), (b1, row 57 (ul (cubeN (limbs x) k))), (b2, row 57 (ul (mrow (limbs x) (cubeN (limbs x) k) i j ((mall (limbs x) (cubeN (limbs x) k) i), 0)).1))] }) (fun j => j ≤ 4) (fun j => 4 - j) 0 (Nat.zero_le _) ⟨⟨rfl, rfl, rfl, rfl, rfl, rfl, rfl, rfl, trivial⟩, List.Sublist.refl _, fun f hf => hf, rfl⟩ ?_
      rintro j hj
      have hR := mrow_lim (i := i) (s := ((mall (limbs x) (cubeN (limbs x) k) i), 0)) hA hC ⟨hO, (show (0 : Nat) < 4294967296 by decide)⟩ j
      have hlen2 := ul_lenL hR.1
      refine J_seq ?_
      refine J_seq ?_
      refine J_region ?_
      refine L_v rfl rfl rfl (V_move rfl rfl) ?_
      refine L_v rfl rfl rfl (V_lss rfl rfl rfl (by first | exact decide_eq_true (by omega) | exact decide_eq_false (by omega) | rfl)) ?_
      refine L_nil ?_
      change J _ _ _ _
      refine J_cond rfl (fun h3 => ?_) (fun h3 => ?_)
      ·
        first | (have h3 := h3; rw [decide_eq_true_eq] at h3) | (have h3 := h3; rw [decide_eq_false_iff_not] at h3) | skip
        have hv := mval_lt (i := i) (j := j) hA hC hR.1 hR.2
        have hv0 := hR.1.get (i + j)
        refine J_skip ?_
        change J _ _ _ _
        refine J_seq ?_
        refine J_block ?_
        refine J_seq ?_
        refine J_regionQ rfl (by kernel_rfl) ?_
        refine LQ_v rfl rfl rfl (V_move rfl rfl) ?_
        refine LQ_v rfl rfl rfl (V_move rfl rfl) ?_
        refine LQ_v rfl rfl rfl (V_add (r := ((i + j : Nat) : Int)) rfl rfl rfl (by rw [Go.IntWalk.i64_in _ (by omega)]; omega)) ?_
        refine LQ_v rfl rfl rfl (V_indexArr (off' := i + j) rfl rfl rfl Tryd.underlying57 sz50n (by omega) (by omega) (by show 0 + (((i + j : Nat) : Int) : Int).toNat * 1 = i + j; omega)) ?_
        refine LQ_v rfl rfl rfl (V_load1 2 rfl rfl rfl Tryd.underlying50 rfl (ul_get (by rw [hR.1.1]; omega))) ?_
        refine LQ_v rfl rfl rfl (V_move rfl rfl) ?_
        refine LQ_v rfl rfl rfl (V_indexArr (off' := i) rfl rfl rfl Tryd.underlying57 sz50n (by omega) (by omega) (by show 0 + (((i : Nat) : Int) : Int).toNat * 1 = i; omega)) ?_
        refine LQ_v rfl rfl rfl (V_load1 1 rfl rfl rfl Tryd.underlying50 rfl (ul_get (by rw [hC.1]; omega))) ?_
        refine LQ_v rfl rfl rfl (V_move rfl rfl) ?_
        refine LQ_v rfl rfl rfl (V_indexArr (off' := j) rfl rfl rfl Tryd.underlying56 sz50n (by omega) (by omega) (by show 0 + (((j : Nat) : Int) : Int).toNat * 1 = j; omega)) ?_
        refine LQ_v rfl rfl rfl (V_load1 0 rfl rfl rfl Tryd.underlying50 rfl (ul_get (by rw [hA.1]; omega))) ?_
        refine LQ_v rfl rfl rfl (V_mul (r := (((cubeN (limbs x) k).getD i 0 * (limbs x).getD j 0 : Nat) : Int)) rfl rfl rfl (by rw [Go.IntWalk.u64_in _ (by rw [← Int.natCast_mul]; omega)]; exact (Int.natCast_mul _ _).symm)) ?_
        refine LQ_v rfl rfl rfl (V_add (r := (((mrow (limbs x) (cubeN (limbs x) k) i j ((mall (limbs x) (cubeN (limbs x) k) i), 0)).1.getD (i + j) 0 + (cubeN (limbs x) k).getD i 0 * (limbs x).getD j 0 : Nat) : Int)) rfl rfl rfl (by rw [← Int.natCast_add]; exact Go.IntWalk.u64_in _ (by omega))) ?_
        refine LQ_v rfl rfl rfl (V_move rfl rfl) ?_
        refine LQ_v rfl rfl rfl (V_add (r := ((mval (limbs x) (cubeN (limbs x) k) i j (mrow (limbs x) (cubeN (limbs x) k) i j ((mall (limbs x) (cubeN (limbs x) k) i), 0))) : Int)) rfl rfl rfl (by rw [← Int.natCast_add]; exact Go.IntWalk.u64_in _ (by have := hv.2; unfold mval at this; omega))) ?_
        refine LQ_v rfl rfl rfl (V_assign rfl rfl) ?_
        refine LQ_nil ?_
        change J _ _ _ _
        refine J_seq ?_
        refine J_region ?_
        refine L_v rfl rfl rfl (V_move rfl rfl) ?_
        refine L_v rfl rfl rfl (V_move rfl rfl) ?_
        refine L_v rfl rfl rfl (V_add (r := ((i + j : Nat) : Int)) rfl rfl rfl (by rw [Go.IntWalk.i64_in _ (by omega)]; omega)) ?_
        refine L_v rfl rfl rfl (V_move rfl rfl) ?_
        refine L_v rfl rfl rfl (V_rem rfl rfl rfl (by decide) (u64_mod _)) ?_
        refine L_v rfl rfl rfl (V_indexArr (off' := i + j) rfl rfl rfl Tryd.underlying57 sz50n (by omega) (by omega) (by show 0 + (((i + j : Nat) : Int) : Int).toNat * 1 = i + j; omega)) ?_
        refine L_store1 2 rfl rfl rfl rfl rfl rfl rfl sz50n (by rw [hlen2]; omega) (ul_set _ _ _) ?_
        refine L_nil ?_
        change J _ _ _ _
        refine J_region ?_
        refine L_v rfl rfl rfl (V_move rfl rfl) ?_
        refine L_v rfl rfl rfl (V_shr rfl rfl rfl (by decide) (u64_hi _)) ?_
        refine L_v rfl rfl rfl (V_assign rfl rfl) ?_
        refine L_nil ?_
        change J _ _ _ _
        refine J_region ?_
        refine L_v rfl rfl rfl (V_move rfl rfl) ?_
        refine L_v rfl rfl rfl (V_add rfl rfl rfl (by first | exact Go.IntWalk.i64_in _ (by omega) | rfl)) ?_
        refine L_v rfl rfl rfl (V_assign rfl rfl) ?_
        refine L_nil ?_
        exact ⟨j + 1, by omega, by omega, ⟨rfl, rfl, rfl, rfl, rfl, rfl, rfl, rfl, trivial⟩, List.Sublist.refl _, fun f hf => hf, rfl⟩
      ·
        first | (have h3 := h3; rw [decide_eq_true_eq] at h3) | (have h3 := h3; rw [decide_eq_false_iff_not] at h3) | skip
        obtain rfl : j = 4 := by omega
        refine J_exit ?_
        change J _ _ _ _
        refine J_region ?_
        refine L_v rfl rfl rfl (V_move rfl rfl) ?_
        refine L_v rfl rfl rfl (V_add rfl rfl rfl (by first | exact Go.IntWalk.i64_in _ (by omega) | rfl)) ?_
        refine L_v rfl rfl rfl (V_assign rfl rfl) ?_
        refine L_nil ?_
        exact ⟨i + 1, by omega, by omega, ⟨rfl, rfl, rfl, rfl, rfl, rfl, trivial⟩, List.Sublist.refl _, fun f hf => hf, rfl⟩
    ·
      first | (have h2 := h2; rw [decide_eq_true_eq] at h2) | (have h2 := h2; rw [decide_eq_false_iff_not] at h2) | skip
      obtain rfl : i = 5 := by omega
      refine J_exit ?_
      change J _ _ _ _
      refine J_region ?_
      refine L_v rfl rfl rfl (V_loadW 2 rfl rfl rfl Tryd.underlying57 rfl (szd sz57n (ul_lenL (mall_lim hA hC 5)))) ?_
      refine L_storeW 1 rfl rfl rfl rfl rfl rfl (szd sz57n (ul_lenL (mall_lim hA hC 5))) (ul_one _) (by rw [ul_lenL (mall_lim hA hC 5), ul_lenL hC]) ?_
      refine L_nil ?_
      change J _ _ _ _
      refine J_region ?_
      refine L_v rfl rfl rfl (V_move rfl rfl) ?_
      refine L_v rfl rfl rfl (V_add rfl rfl rfl (by first | exact Go.IntWalk.i64_in _ (by omega) | rfl)) ?_
      refine L_v rfl rfl rfl (V_assign rfl rfl) ?_
      refine L_nil ?_
      exact ⟨k + 1, by omega, by omega, ⟨rfl, rfl, rfl, rfl, trivial⟩, List.Sublist.cons_cons _ (List.Sublist.cons_cons _ (List.nil_sublist _)), fun f hf => hf, rfl⟩
  ·
    first | (have h1 := h1; rw [decide_eq_true_eq] at h1) | (have h1 := h1; rw [decide_eq_false_iff_not] at h1) | skip
    obtain rfl : k = 3 := by omega
    refine J_exit ?_
    change J _ _ _ _
    refine J_seq ?_
    refine J_seq ?_
    refine J_region ?_
    refine L_v rfl rfl rfl (V_indexArr (off' := 4) rfl rfl rfl Tryd.underlying57 sz50n (by decide) (by decide) rfl) ?_
    refine L_v rfl rfl rfl (V_load1 1 rfl rfl rfl Tryd.underlying50 rfl (ul_get (by rw [hC.1]; decide))) ?_
    refine L_v rfl rfl rfl (V_gtr rfl rfl rfl (by first | exact decide_eq_true (by omega) | exact decide_eq_false (by omega) | rfl)) ?_
    refine L_v rfl rfl rfl (V_move rfl rfl) ?_
    refine L_split 58 rfl (fun h2 => ?_) (fun h2 => ?_)
    ·
      first | (have h2 := h2; rw [decide_eq_true_eq] at h2) | (have h2 := h2; rw [decide_eq_false_iff_not] at h2) | skip
      refine L_skip rfl rfl rfl rfl rfl rfl rfl ?_
      refine L_skip rfl rfl rfl rfl rfl rfl rfl ?_
      refine L_skip rfl rfl rfl rfl rfl rfl rfl ?_
      first | refine L_v rfl rfl rfl (V_pickT rfl rfl rfl) ?_ | refine L_v rfl rfl rfl (V_pickF rfl rfl rfl) ?_
      refine L_v rfl rfl rfl (V_move rfl rfl) ?_
      refine L_skip rfl rfl rfl rfl rfl rfl rfl ?_
      refine L_skip rfl rfl rfl rfl rfl rfl rfl ?_
      refine L_skip rfl rfl rfl rfl rfl rfl rfl ?_
      first | refine L_v rfl rfl rfl (V_pickT rfl rfl rfl) ?_ | refine L_v rfl rfl rfl (V_pickF rfl rfl rfl) ?_
      refine L_v rfl rfl rfl (V_move rfl rfl) ?_
      refine L_skip rfl rfl rfl rfl rfl rfl rfl ?_
      refine L_skip rfl rfl rfl rfl rfl rfl rfl ?_
      refine L_skip rfl rfl rfl rfl rfl rfl rfl ?_
      first | refine L_v rfl rfl rfl (V_pickT rfl rfl rfl) ?_ | refine L_v rfl rfl rfl (V_pickF rfl rfl rfl) ?_
      refine L_nil ?_
      change J _ _ _ _
      refine J_true rfl ?_
      refine J_seq ?_
      refine J_region ?_
      refine L_v rfl rfl rfl (V_assign rfl rfl) ?_
      refine L_nil ?_
      change J _ _ _ _
      refine J_ret ?_
      change Kret _ _ _ Exit.ret _
      refine ret1 rfl rfl (RV_t rfl) ?_
      have hf := fits_f (x := x) (p := p) (by omega)
      exact fun w' h => ⟨by rw [hf], h.fr⟩
    ·
      first | (have h2 := h2; rw [decide_eq_true_eq] at h2) | (have h2 := h2; rw [decide_eq_false_iff_not] at h2) | skip
      refine L_wv rfl rfl rfl rfl rfl rfl (V_indexArr (off' := 5) rfl rfl rfl Tryd.underlying57 sz50n (by decide) (by decide) rfl) ?_
      refine L_wv rfl rfl rfl rfl rfl rfl (V_load1 1 rfl rfl rfl Tryd.underlying50 rfl (ul_get (by rw [hC.1]; decide))) ?_
      refine L_wv rfl rfl rfl rfl rfl rfl (V_gtr rfl rfl rfl (by first | exact decide_eq_true (by omega) | exact decide_eq_false (by omega) | rfl)) ?_
      first | refine L_v rfl rfl rfl (V_pickT rfl rfl rfl) ?_ | refine L_v rfl rfl rfl (V_pickF rfl rfl rfl) ?_
      refine L_v rfl rfl rfl (V_move rfl rfl) ?_
      refine L_split 63 rfl (fun h3 => ?_) (fun h3 => ?_)
      ·
        first | (have h3 := h3; rw [decide_eq_true_eq] at h3) | (have h3 := h3; rw [decide_eq_false_iff_not] at h3) | skip
        refine L_skip rfl rfl rfl rfl rfl rfl rfl ?_
        refine L_skip rfl rfl rfl rfl rfl rfl rfl ?_
        refine L_skip rfl rfl rfl rfl rfl rfl rfl ?_
        first | refine L_v rfl rfl rfl (V_pickT rfl rfl rfl) ?_ | refine L_v rfl rfl rfl (V_pickF rfl rfl rfl) ?_
        refine L_v rfl rfl rfl (V_move rfl rfl) ?_
        refine L_skip rfl rfl rfl rfl rfl rfl rfl ?_
        refine L_skip rfl rfl rfl rfl rfl rfl rfl ?_
        refine L_skip rfl rfl rfl rfl rfl rfl rfl ?_
        first | refine L_v rfl rfl rfl (V_pickT rfl rfl rfl) ?_ | refine L_v rfl rfl rfl (V_pickF rfl rfl rfl) ?_
        refine L_nil ?_
        change J _ _ _ _
        refine J_true rfl ?_
        refine J_seq ?_
        refine J_region ?_
        refine L_v rfl rfl rfl (V_assign rfl rfl) ?_
        refine L_nil ?_
        change J _ _ _ _
        refine J_ret ?_
        change Kret _ _ _ Exit.ret _
        refine ret1 rfl rfl (RV_t rfl) ?_
        have hf := fits_f (x := x) (p := p) (by omega)
        exact fun w' h => ⟨by rw [hf], h.fr⟩
      ·
        first | (have h3 := h3; rw [decide_eq_true_eq] at h3) | (have h3 := h3; rw [decide_eq_false_iff_not] at h3) | skip
        refine L_wv rfl rfl rfl rfl rfl rfl (V_indexArr (off' := 6) rfl rfl rfl Tryd.underlying57 sz50n (by decide) (by decide) rfl) ?_
        refine L_wv rfl rfl rfl rfl rfl rfl (V_load1 1 rfl rfl rfl Tryd.underlying50 rfl (ul_get (by rw [hC.1]; decide))) ?_
        refine L_wv rfl rfl rfl rfl rfl rfl (V_gtr rfl rfl rfl (by first | exact decide_eq_true (by omega) | exact decide_eq_false (by omega) | rfl)) ?_
        first | refine L_v rfl rfl rfl (V_pickT rfl rfl rfl) ?_ | refine L_v rfl rfl rfl (V_pickF rfl rfl rfl) ?_
        refine L_v rfl rfl rfl (V_move rfl rfl) ?_
        refine L_split 68 rfl (fun h4 => ?_) (fun h4 => ?_)
        ·
          first | (have h4 := h4; rw [decide_eq_true_eq] at h4) | (have h4 := h4; rw [decide_eq_false_iff_not] at h4) | skip
          refine L_skip rfl rfl rfl rfl rfl rfl rfl ?_
          refine L_skip rfl rfl rfl rfl rfl rfl rfl ?_
          refine L_skip rfl rfl rfl rfl rfl rfl rfl ?_
          first | refine L_v rfl rfl rfl (V_pickT rfl rfl rfl) ?_ | refine L_v rfl rfl rfl (V_pickF rfl rfl rfl) ?_
          refine L_nil ?_
          change J _ _ _ _
          refine J_true rfl ?_
          refine J_seq ?_
          refine J_region ?_
          refine L_v rfl rfl rfl (V_assign rfl rfl) ?_
          refine L_nil ?_
          change J _ _ _ _
          refine J_ret ?_
          change Kret _ _ _ Exit.ret _
          refine ret1 rfl rfl (RV_t rfl) ?_
          have hf := fits_f (x := x) (p := p) (by omega)
          exact fun w' h => ⟨by rw [hf], h.fr⟩
        ·
          first | (have h4 := h4; rw [decide_eq_true_eq] at h4) | (have h4 := h4; rw [decide_eq_false_iff_not] at h4) | skip
          refine L_wv rfl rfl rfl rfl rfl rfl (V_indexArr (off' := 7) rfl rfl rfl Tryd.underlying57 sz50n (by decide) (by decide) rfl) ?_
          refine L_wv rfl rfl rfl rfl rfl rfl (V_load1 1 rfl rfl rfl Tryd.underlying50 rfl (ul_get (by rw [hC.1]; decide))) ?_
          refine L_wv rfl rfl rfl rfl rfl rfl (V_gtr rfl rfl rfl (by first | exact decide_eq_true (by omega) | exact decide_eq_false (by omega) | rfl)) ?_
          first | refine L_v rfl rfl rfl (V_pickT rfl rfl rfl) ?_ | refine L_v rfl rfl rfl (V_pickF rfl rfl rfl) ?_
          refine L_nil ?_
          change J _ _ _ _
          refine J_cond rfl (fun h5 => ?_) (fun h5 => ?_)
          ·
            first | (have h5 := h5; rw [decide_eq_true_eq] at h5) | (have h5 := h5; rw [decide_eq_false_iff_not] at h5) | skip
            refine J_seq ?_
            refine J_region ?_
            refine L_v rfl rfl rfl (V_assign rfl rfl) ?_
            refine L_nil ?_
            change J _ _ _ _
            refine J_ret ?_
            change Kret _ _ _ Exit.ret _
            refine ret1 rfl rfl (RV_t rfl) ?_
            have hf := fits_f (x := x) (p := p) (by omega)
            exact fun w' h => ⟨by rw [hf], h.fr⟩
          ·
            first | (have h5 := h5; rw [decide_eq_true_eq] at h5) | (have h5 := h5; rw [decide_eq_false_iff_not] at h5) | skip
            refine J_skip ?_
            change J _ _ _ _
            refine J_seq ?_
            refine J_region ?_
            refine L_v rfl rfl rfl (V_indexArr (off' := 3) rfl rfl rfl Tryd.underlying57 sz50n (by decide) (by decide) rfl) ?_
            refine L_v rfl rfl rfl (V_load1 1 rfl rfl rfl Tryd.underlying50 rfl (ul_get (by rw [hC.1]; decide))) ?_
            refine L_v rfl rfl rfl (V_move rfl rfl) ?_
            refine L_v rfl rfl rfl (V_conv rfl rfl Tryd.underlying3 Tryd.underlying50 (Go.IntWalk.u64_in _ (by omega))) ?_
            refine L_v rfl rfl rfl (V_lss rfl rfl rfl (by first | exact decide_eq_true (by omega) | exact decide_eq_false (by omega) | rfl)) ?_
            refine L_v rfl rfl rfl (V_move rfl rfl) ?_
            refine L_split 78 rfl (fun h6 => ?_) (fun h6 => ?_)
            ·
              first | (have h6 := h6; rw [decide_eq_true_eq] at h6) | (have h6 := h6; rw [decide_eq_false_iff_not] at h6) | skip
              refine L_skip rfl rfl rfl rfl rfl rfl rfl ?_
              refine L_skip rfl rfl rfl rfl rfl rfl rfl ?_
              refine L_skip rfl rfl rfl rfl rfl rfl rfl ?_
              refine L_skip rfl rfl rfl rfl rfl rfl rfl ?_
              refine L_skip rfl rfl rfl rfl rfl rfl rfl ?_
              refine L_skip rfl rfl rfl rfl rfl rfl rfl ?_
              refine L_skip rfl rfl rfl rfl rfl rfl rfl ?_
              refine L_skip rfl rfl rfl rfl rfl rfl rfl ?_
              refine L_skip rfl rfl rfl rfl rfl rfl rfl ?_
              refine L_skip rfl rfl rfl rfl rfl rfl rfl ?_
              refine L_skip rfl rfl rfl rfl rfl rfl rfl ?_
              refine L_skip rfl rfl rfl rfl rfl rfl rfl ?_
              refine L_skip rfl rfl rfl rfl rfl rfl rfl ?_
              refine L_skip rfl rfl rfl rfl rfl rfl rfl ?_
              refine L_skip rfl rfl rfl rfl rfl rfl rfl ?_
              refine L_skip rfl rfl rfl rfl rfl rfl rfl ?_
              refine L_skip rfl rfl rfl rfl rfl rfl rfl ?_
              refine L_skip rfl rfl rfl rfl rfl rfl rfl ?_
              refine L_skip rfl rfl rfl rfl rfl rfl rfl ?_
              refine L_skip rfl rfl rfl rfl rfl rfl rfl ?_
              first | refine L_v rfl rfl rfl (V_pickT rfl rfl rfl) ?_ | refine L_v rfl rfl rfl (V_pickF rfl rfl rfl) ?_
              refine L_v rfl rfl rfl (V_assign rfl rfl) ?_
              refine L_nil ?_
              change J _ _ _ _
              refine J_ret ?_
              change Kret _ _ _ Exit.ret _
              refine ret1 rfl rfl (RV_t rfl) ?_
              have hf := fits_t (x := x) (p := p) (by omega)
              exact fun w' h => ⟨by rw [hf], h.fr⟩
            ·
              first | (have h6 := h6; rw [decide_eq_true_eq] at h6) | (have h6 := h6; rw [decide_eq_false_iff_not] at h6) | skip
              refine L_wv rfl rfl rfl rfl rfl rfl (V_indexArr (off' := 3) rfl rfl rfl Tryd.underlying57 sz50n (by decide) (by decide) rfl) ?_
              refine L_wv rfl rfl rfl rfl rfl rfl (V_load1 1 rfl rfl rfl Tryd.underlying50 rfl (ul_get (by rw [hC.1]; decide))) ?_
              refine L_wv rfl rfl rfl rfl rfl rfl (V_move rfl rfl) ?_
              refine L_wv rfl rfl rfl rfl rfl rfl (V_conv rfl rfl Tryd.underlying3 Tryd.underlying50 (Go.IntWalk.u64_in _ (by omega))) ?_
              refine L_wv rfl rfl rfl rfl rfl rfl (V_eql rfl rfl rfl (by first | exact decide_eq_true (by omega) | exact decide_eq_false (by omega) | rfl)) ?_
              refine L_wv rfl rfl rfl rfl rfl rfl (V_move rfl rfl) ?_
              refine L_split 84 rfl (fun h7 => ?_) (fun h7 => ?_)
              ·
                first | (have h7 := h7; rw [decide_eq_true_eq] at h7) | (have h7 := h7; rw [decide_eq_false_iff_not] at h7) | skip
                refine L_wv rfl rfl rfl rfl rfl rfl (V_indexArr (off' := 0) rfl rfl rfl Tryd.underlying57 sz50n (by decide) (by decide) rfl) ?_
                refine L_wv rfl rfl rfl rfl rfl rfl (V_load1 1 rfl rfl rfl Tryd.underlying50 rfl (ul_get (by rw [hC.1]; decide))) ?_
                refine L_wv rfl rfl rfl rfl rfl rfl (V_eql rfl rfl rfl (by first | exact decide_eq_true (by omega) | exact decide_eq_false (by omega) | rfl)) ?_
                first | refine L_wv rfl rfl rfl rfl rfl rfl (V_pickT rfl rfl rfl) ?_ | refine L_wv rfl rfl rfl rfl rfl rfl (V_pickF rfl rfl rfl) ?_
                refine L_wv rfl rfl rfl rfl rfl rfl (V_move rfl rfl) ?_
                refine L_split 89 rfl (fun h8 => ?_) (fun h8 => ?_)
                ·
                  first | (have h8 := h8; rw [decide_eq_true_eq] at h8) | (have h8 := h8; rw [decide_eq_false_iff_not] at h8) | skip
                  refine L_wv rfl rfl rfl rfl rfl rfl (V_indexArr (off' := 1) rfl rfl rfl Tryd.underlying57 sz50n (by decide) (by decide) rfl) ?_
                  refine L_wv rfl rfl rfl rfl rfl rfl (V_load1 1 rfl rfl rfl Tryd.underlying50 rfl (ul_get (by rw [hC.1]; decide))) ?_
                  refine L_wv rfl rfl rfl rfl rfl rfl (V_eql rfl rfl rfl (by first | exact decide_eq_true (by omega) | exact decide_eq_false (by omega) | rfl)) ?_
                  first | refine L_wv rfl rfl rfl rfl rfl rfl (V_pickT rfl rfl rfl) ?_ | refine L_wv rfl rfl rfl rfl rfl rfl (V_pickF rfl rfl rfl) ?_
                  refine L_wv rfl rfl rfl rfl rfl rfl (V_move rfl rfl) ?_
                  refine L_split 94 rfl (fun h9 => ?_) (fun h9 => ?_)
                  ·
                    first | (have h9 := h9; rw [decide_eq_true_eq] at h9) | (have h9 := h9; rw [decide_eq_false_iff_not] at h9) | skip
                    refine L_wv rfl rfl rfl rfl rfl rfl (V_indexArr (off' := 2) rfl rfl rfl Tryd.underlying57 sz50n (by decide) (by decide) rfl) ?_
                    refine L_wv rfl rfl rfl rfl rfl rfl (V_load1 1 rfl rfl rfl Tryd.underlying50 rfl (ul_get (by rw [hC.1]; decide))) ?_
                    refine L_wv rfl rfl rfl rfl rfl rfl (V_eql rfl rfl rfl (by first | exact decide_eq_true (by omega) | exact decide_eq_false (by omega) | rfl)) ?_
                    first | refine L_wv rfl rfl rfl rfl rfl rfl (V_pickT rfl rfl rfl) ?_ | refine L_wv rfl rfl rfl rfl rfl rfl (V_pickF rfl rfl rfl) ?_
                    first | refine L_v rfl rfl rfl (V_pickT rfl rfl rfl) ?_ | refine L_v rfl rfl rfl (V_pickF rfl rfl rfl) ?_
                    refine L_v rfl rfl rfl (V_assign rfl rfl) ?_
                    refine L_nil ?_
                    change J _ _ _ _
                    refine J_ret ?_
                    change Kret _ _ _ Exit.ret _
                    refine ret1 rfl rfl (RV_t rfl) ?_
                    exact fun w' h => ⟨by
                      by_cases h10 : (cubeN (limbs x) 3).getD 2 0 = 0
                      · rw [fits_t (x := x) (p := p) (by omega), decide_eq_true (by omega)]
                      · rw [fits_f (x := x) (p := p) (by omega), decide_eq_false (by omega)], h.fr⟩
                  ·
                    first | (have h9 := h9; rw [decide_eq_true_eq] at h9) | (have h9 := h9; rw [decide_eq_false_iff_not] at h9) | skip
                    refine L_skip rfl rfl rfl rfl rfl rfl rfl ?_
                    refine L_skip rfl rfl rfl rfl rfl rfl rfl ?_
                    refine L_skip rfl rfl rfl rfl rfl rfl rfl ?_
                    first | refine L_wv rfl rfl rfl rfl rfl rfl (V_pickT rfl rfl rfl) ?_ | refine L_wv rfl rfl rfl rfl rfl rfl (V_pickF rfl rfl rfl) ?_
                    first | refine L_v rfl rfl rfl (V_pickT rfl rfl rfl) ?_ | refine L_v rfl rfl rfl (V_pickF rfl rfl rfl) ?_
                    refine L_v rfl rfl rfl (V_assign rfl rfl) ?_
                    refine L_nil ?_
                    change J _ _ _ _
                    refine J_ret ?_
                    change Kret _ _ _ Exit.ret _
                    refine ret1 rfl rfl (RV_t rfl) ?_
                    have hf := fits_f (x := x) (p := p) (by omega)
                    exact fun w' h => ⟨by rw [hf], h.fr⟩
                ·
                  first | (have h8 := h8; rw [decide_eq_true_eq] at h8) | (have h8 := h8; rw [decide_eq_false_iff_not] at h8) | skip
                  refine L_skip rfl rfl rfl rfl rfl rfl rfl ?_
                  refine L_skip rfl rfl rfl rfl rfl rfl rfl ?_
                  refine L_skip rfl rfl rfl rfl rfl rfl rfl ?_
                  first | refine L_wv rfl rfl rfl rfl rfl rfl (V_pickT rfl rfl rfl) ?_ | refine L_wv rfl rfl rfl rfl rfl rfl (V_pickF rfl rfl rfl) ?_
                  refine L_wv rfl rfl rfl rfl rfl rfl (V_move rfl rfl) ?_
                  refine L_skip rfl rfl rfl rfl rfl rfl rfl ?_
                  refine L_skip rfl rfl rfl rfl rfl rfl rfl ?_
                  refine L_skip rfl rfl rfl rfl rfl rfl rfl ?_
                  first | refine L_wv rfl rfl rfl rfl rfl rfl (V_pickT rfl rfl rfl) ?_ | refine L_wv rfl rfl rfl rfl rfl rfl (V_pickF rfl rfl rfl) ?_
                  first | refine L_v rfl rfl rfl (V_pickT rfl rfl rfl) ?_ | refine L_v rfl rfl rfl (V_pickF rfl rfl rfl) ?_
                  refine L_v rfl rfl rfl (V_assign rfl rfl) ?_
                  refine L_nil ?_
                  change J _ _ _ _
                  refine J_ret ?_
                  change Kret _ _ _ Exit.ret _
                  refine ret1 rfl rfl (RV_t rfl) ?_
                  have hf := fits_f (x := x) (p := p) (by omega)
                  exact fun w' h => ⟨by rw [hf], h.fr⟩
              ·
                first | (have h7 := h7; rw [decide_eq_true_eq] at h7) | (have h7 := h7; rw [decide_eq_false_iff_not] at h7) | skip
                refine L_skip rfl rfl rfl rfl rfl rfl rfl ?_
                refine L_skip rfl rfl rfl rfl rfl rfl rfl ?_
                refine L_skip rfl rfl rfl rfl rfl rfl rfl ?_
                first | refine L_wv rfl rfl rfl rfl rfl rfl (V_pickT rfl rfl rfl) ?_ | refine L_wv rfl rfl rfl rfl rfl rfl (V_pickF rfl rfl rfl) ?_
                refine L_wv rfl rfl rfl rfl rfl rfl (V_move rfl rfl) ?_
                refine L_skip rfl rfl rfl rfl rfl rfl rfl ?_
                refine L_skip rfl rfl rfl rfl rfl rfl rfl ?_
                refine L_skip rfl rfl rfl rfl rfl rfl rfl ?_
                first | refine L_wv rfl rfl rfl rfl rfl rfl (V_pickT rfl rfl rfl) ?_ | refine L_wv rfl rfl rfl rfl rfl rfl (V_pickF rfl rfl rfl) ?_
                refine L_wv rfl rfl rfl rfl rfl rfl (V_move rfl rfl) ?_
                refine L_skip rfl rfl rfl rfl rfl rfl rfl ?_
                refine L_skip rfl rfl rfl rfl rfl rfl rfl ?_
                refine L_skip rfl rfl rfl rfl rfl rfl rfl ?_
                first | refine L_wv rfl rfl rfl rfl rfl rfl (V_pickT rfl rfl rfl) ?_ | refine L_wv rfl rfl rfl rfl rfl rfl (V_pickF rfl rfl rfl) ?_
                first | refine L_v rfl rfl rfl (V_pickT rfl rfl rfl) ?_ | refine L_v rfl rfl rfl (V_pickF rfl rfl rfl) ?_
                refine L_v rfl rfl rfl (V_assign rfl rfl) ?_
                refine L_nil ?_
                change J _ _ _ _
                refine J_ret ?_
                change Kret _ _ _ Exit.ret _
                refine ret1 rfl rfl (RV_t rfl) ?_
                have hf := fits_f (x := x) (p := p) (by omega)
                exact fun w' h => ⟨by rw [hf], h.fr⟩

theorem fits_b {x p : Nat} {b : Bool} (hb : fitsN x p = b) (w : World) (hx : x < 68719476736) (hp : p < 1048576) : Calls Tryd.prog 28 #[.int .u64 (x : Int), .int .i64 (p : Int)] w fun e w' => e = .returned (.bool b) ∧ Fr [] w w' := by
  subst hb
  exact fits_w x p w hx hp

theorem root_w (p : Nat) (w : World) (hp : p < 1048576) :
    Calls Tryd.prog 26 #[.int .i64 (p : Int)] w fun e w' => e = .returned (.int .u32 ((rootN p 36 % 4294967296 : Nat) : Int)) ∧ Fr [] w w' := by
  refine calls_of (args := [.int .i64 (p : Int)]) ([]) ([]) ([]) Tryd.func26 rfl rfl (okW0 _ _ _ _) ?_
  refine J_seq ?_
  refine J_region ?_
  refine L_v rfl rfl rfl (V_assign rfl rfl) ?_
  refine L_nil ?_
  change J _ _ _ _
  refine J_seq ?_
  refine J_region ?_
  refine L_v rfl rfl rfl (V_assign rfl rfl) ?_
  refine L_nil ?_
  change J _ _ _ _
  refine J_seq ?_
  refine J_seq ?_
  refine J_region ?_
  refine L_v rfl rfl rfl (V_assign rfl rfl) ?_
  refine L_nil ?_
  change J _ _ _ _
  refine J_block ?_
  refine J_loop (X := Nat) (fun b => { env := [(0, .int .i64 (p : Int)), (3, .int .u64 (rootN p b : Int)), (4, .int .i64 (35 - (b : Int)))] }) (fun b => b ≤ 36) (fun b => 36 - b) 0 (Nat.zero_le _) ⟨⟨rfl, rfl, rfl, trivial⟩, List.Sublist.refl _, fun f hf => hf, rfl⟩ ?_
  rintro b hb
  have hrl := root_le p b hb
  refine J_seq ?_
  refine J_seq ?_
  refine J_region ?_
  refine L_v rfl rfl rfl (V_move rfl rfl) ?_
  refine L_v rfl rfl rfl (V_geq rfl rfl rfl (by first | exact decide_eq_true (by omega) | exact decide_eq_false (by omega) | rfl)) ?_
  refine L_nil ?_
  change J _ _ _ _
  refine J_cond rfl (fun h1 => ?_) (fun h1 => ?_)
  ·
    first | (have h1 := h1; rw [decide_eq_true_eq] at h1) | (have h1 := h1; rw [decide_eq_false_iff_not] at h1) | skip
    have hp2 : 2 ^ (36 - b) = 2 * 2 ^ (35 - b) := by rw [show 36 - b = (35 - b) + 1 by omega, Nat.pow_succ, Nat.mul_comm]
    have hp1 : 1 ≤ 2 ^ (35 - b) := Nat.one_le_two_pow
    refine J_skip ?_
    change J _ _ _ _
    refine J_seq ?_
    refine J_block ?_
    refine J_seq ?_
    refine J_region ?_
    refine L_v rfl rfl rfl (V_move rfl rfl) ?_
    refine L_v rfl rfl rfl (V_move rfl rfl) ?_
    refine L_v rfl rfl rfl (V_shl rfl rfl rfl (by omega) (shl1 (by omega))) ?_
    refine L_v rfl rfl rfl (V_add (r := ((rootN p b + 2 ^ (35 - b) : Nat) : Int)) rfl rfl rfl (by rw [← Int.natCast_add]; exact Go.IntWalk.u64_in _ (by omega))) ?_
    refine L_v rfl rfl rfl (V_assign rfl rfl) ?_
    refine L_nil ?_
    change J _ _ _ _
    refine J_seq ?_
    refine J_region ?_
    refine L_v rfl rfl rfl (V_move rfl rfl) ?_
    refine L_v rfl rfl rfl (V_move rfl rfl) ?_
    obtain ⟨ft, hft⟩ : ∃ ft, fitsN (rootN p b + 2 ^ (35 - b)) p = ft := ⟨_, rfl⟩
    refine L_callV rfl rfl rfl rfl rfl rfl tx28n (fun w1 _ => fits_b hft w1 (by omega) hp) ?_
    refine L_nil ?_
    change J _ _ _ _
    refine J_cond rfl (fun h2 => ?_) (fun h2 => ?_)
    ·
      first | (have h2 := h2; rw [decide_eq_true_eq] at h2) | (have h2 := h2; rw [decide_eq_false_iff_not] at h2) | skip
      have hs : rootN p (b + 1) = rootN p b + 2 ^ (35 - b) := if_pos (hft.trans h2)
      refine J_region ?_
      refine L_v rfl rfl rfl (V_move rfl rfl) ?_
      refine L_v rfl rfl rfl (V_assign rfl rfl) ?_
      refine L_nil ?_
      change J _ _ _ _
      refine J_region ?_
      refine L_v rfl rfl rfl (V_move rfl rfl) ?_
      refine L_v rfl rfl rfl (V_sub (r := 35 - ((b + 1 : Nat) : Int)) rfl rfl rfl (by rw [Go.IntWalk.i64_in _ (by omega)]; omega)) ?_
      refine L_v rfl rfl rfl (V_assign rfl rfl) ?_
      refine L_nil ?_
      exact ⟨b + 1, by omega, by omega, ⟨rfl, by rw [hs]; rfl, rfl, trivial⟩, List.Sublist.refl _, fun f hf => hf, rfl⟩
    ·
      first | (have h2 := h2; rw [decide_eq_true_eq] at h2) | (have h2 := h2; rw [decide_eq_false_iff_not] at h2) | skip
      have hs : rootN p (b + 1) = rootN p b := if_neg (by rw [hft, h2]; decide)
      refine J_skip ?_
      change J _ _ _ _
      refine J_region ?_
      refine L_v rfl rfl rfl (V_move rfl rfl) ?_
      refine L_v rfl rfl rfl (V_sub (r := 35 - ((b + 1 : Nat) : Int)) rfl rfl rfl (by rw [Go.IntWalk.i64_in _ (by omega)]; omega)) ?_
      refine L_v rfl rfl rfl (V_assign rfl rfl) ?_
      refine L_nil ?_
      exact ⟨b + 1, by omega, by omega, ⟨rfl, by rw [hs]; rfl, rfl, trivial⟩, List.Sublist.refl _, fun f hf => hf, rfl⟩
  ·
    first | (have h1 := h1; rw [decide_eq_true_eq] at h1) | (have h1 := h1; rw [decide_eq_false_iff_not] at h1) | skip
    obtain rfl : b = 36 := by omega
    refine J_exit ?_
    change J _ _ _ _
    refine J_seq ?_
    refine J_region ?_
    refine L_v rfl rfl rfl (V_move rfl rfl) ?_
    refine L_v rfl rfl rfl (V_rem rfl rfl rfl (by decide) (u64_mod _)) ?_
    refine L_v rfl rfl rfl (V_conv rfl rfl Tryd.underlying50 Tryd.underlying40 (Go.IntWalk.u32_in _ (by omega))) ?_
    refine L_v rfl rfl rfl (V_assign rfl rfl) ?_
    refine L_nil ?_
    change J _ _ _ _
    refine J_ret ?_
    change Kret _ _ _ Exit.ret _
    refine ret1 rfl rfl (RV_t rfl) ?_
    exact fun w' h => ⟨rfl, h.fr⟩

theorem root_k {t : Nat} (h : t < 64) (w : World) : Calls Tryd.prog 26 #[.int .i64 ((PL.getD t 0 : Nat) : Int)] w fun e w' => e = .returned (wv (KT.getD t 0)) ∧ Fr [] w w' := by
  have h1 := root_w (PL.getD t 0) w (by have := (pl_facts t h).2.2.1; omega)
  rw [keysT t h] at h1
  exact h1

theorem prime_w (n : Nat) (w : World) (h2 : 2 ≤ n) (hn : n < 400) :
    Calls Tryd.prog 25 #[.int .i64 (n : Int)] w fun e w' => e = .returned (.bool (primeB n)) ∧ Fr [] w w' := by
  refine calls_of (args := [.int .i64 (n : Int)]) ([]) ([]) ([]) Tryd.func25 rfl rfl (okW0 _ _ _ _) ?_
  refine J_seq ?_
  refine J_region ?_
  refine L_v rfl rfl rfl (V_assign rfl rfl) ?_
  refine L_nil ?_
  change J _ _ _ _
  refine J_seq ?_
  refine J_seq ?_
  refine J_region ?_
  refine L_v rfl rfl rfl (V_assign rfl rfl) ?_
  refine L_nil ?_
  change J _ _ _ _
  refine J_block ?_
  refine J_loop (X := Nat) (fun d => { env := [(0, .int .i64 (n : Int)), (3, .int .i64 (d : Int))] }) (fun d => 2 ≤ d ∧ d ≤ 20 ∧ ∀ e, e < d → 2 ≤ e → n % e ≠ 0) (fun d => 20 - d) 2 ⟨Nat.le_refl _, by omega, fun e h1 h2 => by omega⟩ ⟨⟨rfl, rfl, trivial⟩, List.Sublist.refl _, fun f hf => hf, rfl⟩ ?_
  rintro d ⟨hd2, hd20, hnd⟩
  have hdd : d * d ≤ 20 * 20 := Nat.mul_le_mul hd20 hd20
  refine J_seq ?_
  refine J_seq ?_
  refine J_region ?_
  refine L_v rfl rfl rfl (V_move rfl rfl) ?_
  refine L_v rfl rfl rfl (V_move rfl rfl) ?_
  refine L_v rfl rfl rfl (V_mul (r := ((d * d : Nat) : Int)) rfl rfl rfl (by rw [← Int.natCast_mul]; exact Go.IntWalk.i64_in _ (by omega))) ?_
  refine L_v rfl rfl rfl (V_move rfl rfl) ?_
  refine L_v rfl rfl rfl (V_leq rfl rfl rfl (by first | exact decide_eq_true (by omega) | exact decide_eq_false (by omega) | rfl)) ?_
  refine L_nil ?_
  change J _ _ _ _
  refine J_cond rfl (fun h1 => ?_) (fun h1 => ?_)
  ·
    first | (have h1 := h1; rw [decide_eq_true_eq] at h1) | (have h1 := h1; rw [decide_eq_false_iff_not] at h1) | skip
    have hdn : d * d ≤ n := Int.ofNat_le.1 h1
    have hdl := d_lt hd20 hdn hn
    refine J_skip ?_
    change J _ _ _ _
    refine J_seq ?_
    refine J_block ?_
    refine J_seq ?_
    refine J_region ?_
    refine L_v rfl rfl rfl (V_move rfl rfl) ?_
    refine L_v rfl rfl rfl (V_move rfl rfl) ?_
    refine L_v rfl rfl rfl (V_rem (r := ((n % d : Nat) : Int)) rfl rfl rfl (by omega) (by rw [r64 (by omega)]; omega)) ?_
    refine L_v rfl rfl rfl (V_eql rfl rfl rfl (by first | exact decide_eq_true (by omega) | exact decide_eq_false (by omega) | rfl)) ?_
    refine L_nil ?_
    change J _ _ _ _
    refine J_cond rfl (fun h2 => ?_) (fun h2 => ?_)
    ·
      first | (have h2 := h2; rw [decide_eq_true_eq] at h2) | (have h2 := h2; rw [decide_eq_false_iff_not] at h2) | skip
      refine J_seq ?_
      refine J_region ?_
      refine L_v rfl rfl rfl (V_assign rfl rfl) ?_
      refine L_nil ?_
      change J _ _ _ _
      refine J_ret ?_
      change Kret _ _ _ Exit.ret _
      refine ret1 rfl rfl (RV_t rfl) ?_
      have hb : primeB n = false := prime_no (d := d) hdl hd2 hdn (by omega)
      exact fun w' h => ⟨by rw [hb], h.fr⟩
    ·
      first | (have h2 := h2; rw [decide_eq_true_eq] at h2) | (have h2 := h2; rw [decide_eq_false_iff_not] at h2) | skip
      refine J_skip ?_
      change J _ _ _ _
      refine J_region ?_
      refine L_v rfl rfl rfl (V_move rfl rfl) ?_
      refine L_v rfl rfl rfl (V_add rfl rfl rfl (by first | exact Go.IntWalk.i64_in _ (by omega) | rfl)) ?_
      refine L_v rfl rfl rfl (V_assign rfl rfl) ?_
      refine L_nil ?_
      exact ⟨d + 1, ⟨by omega, by omega, fun e he h3 => by
        by_cases h9 : e < d
        · exact hnd e h9 h3
        · obtain rfl : e = d := by omega
          omega⟩, by omega, ⟨rfl, rfl, trivial⟩, List.Sublist.refl _, fun f hf => hf, rfl⟩
  ·
    first | (have h1 := h1; rw [decide_eq_true_eq] at h1) | (have h1 := h1; rw [decide_eq_false_iff_not] at h1) | skip
    refine J_exit ?_
    change J _ _ _ _
    refine J_seq ?_
    refine J_region ?_
    refine L_v rfl rfl rfl (V_move rfl rfl) ?_
    refine L_v rfl rfl rfl (V_geq rfl rfl rfl (by first | exact decide_eq_true (by omega) | exact decide_eq_false (by omega) | rfl)) ?_
    refine L_v rfl rfl rfl (V_assign rfl rfl) ?_
    refine L_nil ?_
    change J _ _ _ _
    refine J_ret ?_
    change Kret _ _ _ Exit.ret _
    refine ret1 rfl rfl (RV_t rfl) ?_
    have hb : primeB n = true := prime_yes (d := d) hnd (Nat.lt_of_not_le (fun h => h1 (Int.ofNat_le.2 h)))
    exact fun w' h => ⟨by rw [hb], h.fr⟩

theorem prime_b {n : Nat} {b : Bool} (hb : primeB n = b) (w : World) (h2 : 2 ≤ n) (hn : n < 400) : Calls Tryd.prog 25 #[.int .i64 (n : Int)] w fun e w' => e = .returned (.bool b) ∧ Fr [] w w' := by
  subst hb
  exact prime_w n w h2 hn

theorem keys_w (w : World) :
    Calls Tryd.prog 22 #[] w fun e w' => e = .returned (.agg (wl KT).toArray) ∧ Fr [] w w' := by
  refine calls_of (args := []) ([]) ([]) ([]) Tryd.func22 rfl rfl (okW0 _ _ _ _) ?_
  refine J_seq ?_
  refine J_region ?_
  refine L_alloc rfl rfl rfl rfl z44n (fun b0 => ?_)
  refine L_nil ?_
  change J _ _ _ _
  refine J_seq ?_
  refine J_region ?_
  refine L_alloc rfl rfl rfl rfl z44n (fun b1 => ?_)
  refine L_nil ?_
  change J _ _ _ _
  refine J_seq ?_
  refine J_region ?_
  refine L_v rfl rfl rfl (V_assign rfl rfl) ?_
  refine L_nil ?_
  change J _ _ _ _
  refine J_seq ?_
  refine J_seq ?_
  refine J_region ?_
  refine L_v rfl rfl rfl (V_assign rfl rfl) ?_
  refine L_nil ?_
  change J _ _ _ _
  refine J_block ?_
  refine J_loop (X := Nat) (fun t => { env := [(0, .pointer (some ⟨b0, 0, none⟩)), (1, .pointer (some ⟨b1, 0, none⟩)), (2, .int .i64 (prevP t : Int)), (3, .int .i64 (t : Int))], mem := [(b0, row 44 (wl kz)), (b1, row 44 (wl (kt t)))] }) (fun t => t ≤ 64) (fun t => 64 - t) 0 (Nat.zero_le _) ⟨⟨rfl, rfl, rfl, rfl, trivial⟩, List.Sublist.refl _, fun f hf => hf, rfl⟩ ?_
  rintro t ht
  refine J_seq ?_
  refine J_seq ?_
  refine J_region ?_
  refine L_v rfl rfl rfl (V_move rfl rfl) ?_
  refine L_v rfl rfl rfl (V_lss rfl rfl rfl (by first | exact decide_eq_true (by omega) | exact decide_eq_false (by omega) | rfl)) ?_
  refine L_nil ?_
  change J _ _ _ _
  refine J_cond rfl (fun h1 => ?_) (fun h1 => ?_)
  ·
    first | (have h1 := h1; rw [decide_eq_true_eq] at h1) | (have h1 := h1; rw [decide_eq_false_iff_not] at h1) | skip
    obtain ⟨pf1, pf2, pf3, pf4⟩ := pl_facts t (by omega)
    refine J_skip ?_
    change J _ _ _ _
    refine J_seq ?_
    refine J_block ?_
    refine J_seq ?_
    refine J_region ?_
    refine L_v rfl rfl rfl (V_move rfl rfl) ?_
    refine L_v rfl rfl rfl (V_add (r := ((prevP t + 1 : Nat) : Int)) rfl rfl rfl (by rw [Go.IntWalk.i64_in _ (by omega)]; rfl)) ?_
    refine L_v rfl rfl rfl (V_assign rfl rfl) ?_
    refine L_nil ?_
    change J _ _ _ _
    refine J_seq ?_
    refine J_block ?_
    refine J_loop (X := Nat) (fun q => { env := [(0, .pointer (some ⟨b0, 0, none⟩)), (1, .pointer (some ⟨b1, 0, none⟩)), (2, .int .i64 (q : Int)), (3, .int .i64 (t : Int))], mem := [(b0, row 44 (wl kz)), (b1, row 44 (wl (kt t)))] }) (fun q => prevP t < q ∧ q ≤ PL.getD t 0) (fun q => PL.getD t 0 - q) (prevP t + 1) ⟨Nat.lt_succ_self _, by omega⟩ ⟨⟨rfl, rfl, rfl, rfl, trivial⟩, List.Sublist.refl _, fun f hf => hf, rfl⟩ ?_
    rintro q ⟨hq1, hq2⟩
    refine J_seq ?_
    refine J_seq ?_
    refine J_region ?_
    refine L_v rfl rfl rfl (V_move rfl rfl) ?_
    obtain ⟨pb, hpb⟩ : ∃ pb, primeB q = pb := ⟨_, rfl⟩
    refine L_callV rfl rfl rfl rfl rfl rfl tx25n (fun w1 _ => prime_b hpb w1 (by omega) (by omega)) ?_
    refine L_v rfl rfl rfl (V_not rfl rfl rfl) ?_
    refine L_nil ?_
    change J _ _ _ _
    refine J_cond rfl (fun h2 => ?_) (fun h2 => ?_)
    ·
      first | (have h2 := h2; rw [decide_eq_true_eq] at h2) | (have h2 := h2; rw [decide_eq_false_iff_not] at h2) | skip
      have hne : q ≠ PL.getD t 0 := fun e => by rw [e, pf4] at hpb; rw [← hpb] at h2; cases h2
      refine J_skip ?_
      change J _ _ _ _
      refine J_block ?_
      refine J_region ?_
      refine L_v rfl rfl rfl (V_move rfl rfl) ?_
      refine L_v rfl rfl rfl (V_add rfl rfl rfl (by first | exact Go.IntWalk.i64_in _ (by omega) | rfl)) ?_
      refine L_v rfl rfl rfl (V_assign rfl rfl) ?_
      refine L_nil ?_
      exact ⟨q + 1, ⟨by omega, by omega⟩, by omega, ⟨rfl, rfl, rfl, rfl, trivial⟩, List.Sublist.refl _, fun f hf => hf, rfl⟩
    ·
      first | (have h2 := h2; rw [decide_eq_true_eq] at h2) | (have h2 := h2; rw [decide_eq_false_iff_not] at h2) | skip
      have hqe : q = PL.getD t 0 := by
        by_cases h9 : q = PL.getD t 0
        · exact h9
        · have := pl_gap t (by omega) q (by omega) hq1 (by omega)
          rw [this] at hpb; rw [← hpb] at h2; cases h2
      subst hqe
      refine J_exit ?_
      change J _ _ _ _
      refine J_region ?_
      refine L_v rfl rfl rfl (V_move rfl rfl) ?_
      refine L_v rfl rfl rfl (V_move rfl rfl) ?_
      refine L_callV rfl rfl rfl rfl rfl rfl tx26n (fun w1 _ => root_k (by omega) w1) ?_
      refine L_v rfl rfl rfl (V_indexArr (off' := t) rfl rfl rfl Tryd.underlying44 sz40n (by omega) (by omega) (by show 0 + ((t : Nat) : Int).toNat * 1 = t; omega)) ?_
      refine L_store1 1 rfl rfl rfl rfl rfl rfl rfl sz40n (by rw [wl_len', kt_len (by omega)]; omega) (kt_set (by omega)) ?_
      refine L_nil ?_
      change J _ _ _ _
      refine J_region ?_
      refine L_v rfl rfl rfl (V_move rfl rfl) ?_
      refine L_v rfl rfl rfl (V_add rfl rfl rfl (by first | exact Go.IntWalk.i64_in _ (by omega) | rfl)) ?_
      refine L_v rfl rfl rfl (V_assign rfl rfl) ?_
      refine L_nil ?_
      exact ⟨t + 1, by omega, by omega, ⟨rfl, rfl, rfl, rfl, trivial⟩, List.Sublist.refl _, fun f hf => hf, rfl⟩
  ·
    first | (have h1 := h1; rw [decide_eq_true_eq] at h1) | (have h1 := h1; rw [decide_eq_false_iff_not] at h1) | skip
    obtain rfl : t = 64 := by omega
    rw [kt_end]
    refine J_exit ?_
    change J _ _ _ _
    refine J_seq ?_
    refine J_region ?_
    refine L_v rfl rfl rfl (V_loadW 1 rfl rfl rfl Tryd.underlying44 rfl (szd sz44n (by first | rfl | exact ul_lenL hA | exact ul_lenL hC | (rw [ul_len]; rfl) | (rw [wl_len', kt_len (by omega)]) | (rw [wl_len', wl_len']; rfl)))) ?_
    refine L_storeW 0 rfl rfl rfl rfl rfl rfl (szd sz44n (by first | rfl | exact ul_lenL hA | exact ul_lenL hC | (rw [ul_len]; rfl) | (rw [wl_len', kt_len (by omega)]) | (rw [wl_len', wl_len']; rfl))) (by first | exact ul_one _ | exact wl_one' _) (by first | rfl | exact ul_lenL hA | exact ul_lenL hC | (rw [ul_len]; rfl) | (rw [wl_len', kt_len (by omega)]) | (rw [wl_len', wl_len']; rfl)) ?_
    refine L_nil ?_
    change J _ _ _ _
    refine J_ret ?_
    change Kret _ _ _ Exit.ret _
    refine ret1 rfl rfl (RV_c 0 rfl rfl Tryd.underlying44 rfl (szd sz44n (by first | rfl | exact ul_lenL hA | exact ul_lenL hC | (rw [ul_len]; rfl) | (rw [wl_len', kt_len (by omega)]) | (rw [wl_len', wl_len']; rfl)))) ?_
    exact fun w' h => ⟨rfl, h.fr⟩

theorem tab_cell {g : Nat} {w : World} (h : TabK KT g w) {j : Nat} {v : Value} (hj : (wl KT)[j]? = some v) : w.cell? ⟨g, 0 + j, none⟩ = some v := by
  have h1 := (List.getElem?_eq_some_iff.1 hj).1
  have h2 : j < 64 := h1
  rw [Nat.zero_add, h j h2, ← hj]
  exact (wl_getN h1).symm
theorem ksame_w (w : World) (hR : TabK KT 0 w) :
    Calls Tryd.prog 13 #[] w fun e w' => e = .returned (.bool true) ∧ Fr [] w w' := by
  refine calls_of (args := []) ([]) ([]) ([]) Tryd.func13 rfl rfl (okW0 _ _ _ _) ?_
  refine J_seq ?_
  refine J_region ?_
  refine L_v rfl rfl rfl (V_assign rfl rfl) ?_
  refine L_nil ?_
  change J _ _ _ _
  refine J_seq ?_
  refine J_regionO (.pure 1 (.one 0 (.pure 2 (.pure 3 (.nil))))) _ _ (Pk.refl _) (fun f hf => hf) rfl rfl (by kernel_rfl) ?_
  refine LO_v rfl rfl rfl rfl (V_loadN (vs := wl KT) rfl rfl Tryd.underlying44 rfl (szd sz44n rfl) (fun w1 hw j v hj => tab_cell (TabK.later hw (by simp) hR) hj)) ?_
  refine LO_callV rfl rfl rfl rfl rfl rfl rfl rfl tx22n (fun w1 _ => keys_w w1) (Pk.refl _) (fun f hf => hf) ?_
  refine LO_v rfl rfl rfl rfl (V_eqAgg rfl rfl rfl egK64 eqK64 rfl) ?_
  refine LO_v rfl rfl rfl rfl (V_assign rfl rfl) ?_
  refine LO_nil ?_
  change J _ _ _ _
  refine J_ret ?_
  change Kret _ _ _ Exit.ret _
  refine ret1 rfl rfl (RV_t rfl) ?_
  exact fun w' h => ⟨rfl, h.fr⟩

end Go.Proofs.YtejhcdjfcopphaaDoor
