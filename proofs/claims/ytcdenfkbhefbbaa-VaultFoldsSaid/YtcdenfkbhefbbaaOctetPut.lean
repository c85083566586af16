/- What the functions of layer 1 that put bytes come to: the second part. -/
import Derived.Test.YtcdenfkbhefbbaaOctet
set_option linter.unusedVariables false
set_option linter.unusedSimpArgs false
set_option maxRecDepth 100000
namespace Go.Proofs.Ytcdenfkbhefbbaa
open Go.Sx
def pcM (a : Option Addr) (n : Nat) (l L : List Int) (b0 b1 : Nat) : Nat → Int × Nat × List Value → Mem
  | 0, z => [(b0, row 65 [.slice a n n]), (b1, row 3 [.int .i64 z.1])]
  | k + 1, z => [(b0, row 65 [.slice (some ⟨z.2.1, 0, none⟩) (n + (k + 1)) (n + (k + 1) + z.2.2.length)]), (b1, row 3 [.int .i64 z.1]), (z.2.1, row 5 (dg (l ++ L.take (k + 1)) ++ z.2.2))]
theorem sz5p : (Try.prog.info? 5).map (·.size) = some 1 := by kernel_rfl
theorem sz65p : (Try.prog.info? 65).map (·.size) = some 1 := by kernel_rfl
theorem tx71p : Txt Try.prog 71 := txt_of Try.func71 rfl (by kernel_rfl)
theorem tx87p : Txt Try.prog 87 := txt_of Try.func87 rfl (by kernel_rfl)
theorem tx92p : Txt Try.prog 92 := txt_of Try.func92 rfl (by kernel_rfl)
theorem bz5p : (Try.prog.info? 5).map (fun i => (i.zero, i.size)) = some (some (.int .u8 0), 1) := by kernel_rfl
theorem z65p : (Try.prog.info? 65).bind (·.zero) = some (.slice none 0 0) := by kernel_rfl

theorem putCount_ok (a : Option Addr) (n c : Nat) (l : List Int) (m : Int) (w0 : World) (hu : SlB w0 (.slice a n c) l) (hn : n ≤ 1099511627776) (hcn : n ≤ c) (h0 : 0 ≤ m) (h1 : m ≤ 2147483647) :
    Calls Try.prog 71 #[.slice a n c, .int .i64 m] w0 fun e w' => RetB 5 w0 (l ++ grp m) (n + (grp m).length) (fun s => .tuple #[s, .int .i64 0]) e w' := by
  have hl := hu.size
  have hgl := grp_len m
  obtain ⟨N, hN⟩ : ∃ N, (grp m).length = N + 1 := ⟨(grp m).length - 1, by omega⟩
  rw [hN]
  have htk : (grp m).take (N + 1) = grp m := List.take_of_length_le (by omega)
  refine calls_of_m (args := [.slice a n c, .int .i64 m]) ([]) ([]) ([]) Try.func71 rfl rfl (okW0 _ _ _ _) ?_
  refine J_seq ?_
  refine J_region ?_
  refine L_v rfl rfl rfl (V_assign rfl rfl) ?_
  refine L_v rfl rfl rfl (V_assign rfl rfl) ?_
  refine L_nil ?_
  change J _ _ _ _
  refine J_seq ?_
  refine J_seq ?_
  refine J_region ?_
  refine L_v rfl rfl rfl (V_move rfl rfl) ?_
  refine L_v rfl rfl rfl (V_lss rfl rfl rfl (by first | exact decide_eq_true (by omega) | exact decide_eq_false (by omega) | rfl)) ?_
  refine L_v rfl rfl rfl (V_move rfl rfl) ?_
  refine L_wv rfl rfl rfl rfl rfl rfl (V_move rfl rfl) ?_
  refine L_wv rfl rfl rfl rfl rfl rfl (V_gtr rfl rfl rfl (by first | exact decide_eq_true (by omega) | exact decide_eq_false (by omega) | rfl)) ?_
  first | refine L_v rfl rfl rfl (V_pickT rfl rfl rfl) ?_ | refine L_v rfl rfl rfl (V_pickF rfl rfl rfl) ?_
  refine L_nil ?_
  change J _ _ _ _
  refine J_false rfl ?_
  refine J_skip ?_
  change J _ _ _ _
  refine J_seq ?_
  refine J_region ?_
  refine L_v rfl rfl rfl (V_move rfl rfl) ?_
  refine L_v rfl rfl rfl (V_move rfl rfl) ?_
  refine L_v rfl rfl rfl (V_len rfl rfl Try.underlying65 rfl) ?_
  refine L_v rfl rfl rfl (V_move rfl rfl) ?_
  refine L_v rfl rfl rfl (V_len rfl rfl Try.underlying65 rfl) ?_
  refine L_v rfl rfl rfl (V_slice0 rfl rfl Try.underlying65 sz5p ⟨_, rfl⟩ ⟨_, rfl⟩ rfl (by first | omega | (simp; omega)) (by first | omega | (simp; omega))) ?_
  refine L_alloc rfl rfl rfl rfl z65p (fun b0 => ?_)
  refine L_store1 0 rfl rfl rfl rfl rfl rfl rfl sz65p (by first | exact Nat.zero_lt_succ _ | (simp only [dg_length, List.length_append, List.length_take, List.length_drop, zd_length]; omega) | omega) (by first | rfl | exact dg_set _ _ _) ?_
  refine L_nil ?_
  change J _ _ _ _
  refine J_seq ?_
  refine J_seq ?_
  refine J_region ?_
  refine L_v rfl rfl rfl (V_move rfl rfl) ?_
  refine L_call rfl rfl rfl rfl tx87p (fun w hw => (groups_o m w).mono ?_)
  rintro e w' ⟨b1, rfl, hfr, hsz, hb⟩
  refine ⟨_, _, _, rfl, hw.add hfr hb hsz, rfl, ?_⟩
  refine L_nil ?_
  change J _ _ _ _
  refine J_block ?_
  refine J_rangeFunc0 (pcM a n l (grp m) b0 b1) (fun z => z.1) (m, 0, []) (N + 1) (fun k => [.int .u8 ((grp m).getD k 0)]) rfl rfl rfl tx92p (fun _ => rfl) (by intro p hp; obtain rfl := List.mem_singleton.1 hp; rfl) rfl ?_ ?_ ?_
  · intro D lp r w hR hw
    have h := iter_w w0 Try.f71.ntmps [] [] (pcM a n l (grp m) b0 b1) (pcM a n l (grp m) b0 b1 (N + 1)) (fun z => z.1) .skip D lp r 1 b1 m (m, 0, []) w (by omega) (by omega) (fun k z => by cases k <;> rfl) (fun k z y => ⟨(y, z.2), rfl, by cases k <;> rfl⟩)
    rw [hN] at h
    exact h hR rfl (hw.cast rfl rfl)
  · rintro D lp r k ⟨zx, zg, zr⟩ hk
    refine J_region ?_
    refine L_v rfl rfl rfl (V_assign rfl rfl) ?_
    refine L_nil ?_
    refine ⟨rfl, rfl, rfl, ?_⟩
    refine J_block ?_
    refine J_region ?_
    have hbv : k < (grp m).length := by omega
    cases k with
    | zero =>
      refine L_v rfl rfl rfl (V_load1 0 rfl rfl rfl Try.underlying65 rfl rfl) ?_
      refine L_v rfl rfl rfl (V_move rfl rfl) ?_
      refine L_bs1 rfl rfl rfl rfl rfl Try.underlying65 bz5p rfl rfl (fun b2 => ?_)
      refine L_appG (olds := dg l) (news := dg [(grp m).getD 0 0]) (n' := n + 1) (ks' := dg (l ++ (grp m).take 1)) rfl rfl rfl rfl rfl Try.underlying65 el (fun w hw => ((SlB.later hw rfl hu).recap n).first) (fun w hw => src_bytes' Try.underlying65 (SlB.in hw (l := [(grp m).getD 0 0]) (r := []) (fz := (0, 0)) (List.mem_append_right _ (List.mem_singleton.2 rfl)) rfl 1) rfl) rfl (by rw [take_next hbv, List.take_zero, List.nil_append, dg_append]) (by omega) (by omega) (by omega) (fun g c r hc hr => ?_)
      obtain rfl : c = n + 1 + r.length := by omega
      refine L_store1 0 rfl rfl rfl rfl rfl rfl rfl sz65p (by simp) rfl ?_
      refine L_nil ?_
      exact ⟨rfl, (zx, g, r), rfl, Pk.of_perm (List.Perm.cons _ (List.Perm.cons _ (List.perm_append_comm (l₁ := [_, _]) (l₂ := [_])))) (by repeat (first | exact List.Sublist.slnil | refine List.Sublist.cons_cons _ ?_ | refine List.Sublist.cons _ ?_))⟩
    | succ k =>
      refine L_v rfl rfl rfl (V_load1 0 rfl rfl rfl Try.underlying65 rfl rfl) ?_
      refine L_v rfl rfl rfl (V_move rfl rfl) ?_
      refine L_bs1 rfl rfl rfl rfl rfl Try.underlying65 bz5p rfl rfl (fun b2 => ?_)
      refine L_appO 2 (dg (l ++ (grp m).take (k + 1))) zr (news := dg [(grp m).getD (k + 1) 0]) (n' := n + (k + 1 + 1)) (ks' := dg (l ++ (grp m).take (k + 1 + 1))) rfl rfl rfl rfl rfl Try.underlying65 el rfl (by rw [dg_length, List.length_append, List.length_take, hl, Nat.mul_one, Nat.min_eq_left (by omega)]) (by dsimp only; omega) (by dsimp only; omega) (fun w hw => src_bytes' Try.underlying65 (SlB.in hw (l := [(grp m).getD (k + 1) 0]) (r := []) (fz := (0, 0)) (List.mem_append_right _ (List.mem_singleton.2 rfl)) rfl 1) rfl) (Nat.add_assoc n (k + 1) 1) (by rw [take_next hbv, ← List.append_assoc, dg_append (l ++ _)]) (by omega) (by omega) (fun g c r hc hr => ?_)
      obtain rfl : c = n + (k + 1 + 1) + r.length := by omega
      refine L_store1 0 rfl rfl rfl rfl rfl rfl rfl sz65p (by simp) rfl ?_
      refine L_nil ?_
      exact ⟨rfl, (zx, g, r), rfl, Pk.of_sub (by repeat (first | exact List.Sublist.slnil | refine List.Sublist.cons_cons _ ?_ | refine List.Sublist.cons _ ?_))⟩
  · rintro D ⟨zx, zg, zr⟩
    change J _ _ _ _
    refine J_seq ?_
    refine J_region ?_
    refine L_v rfl rfl rfl (V_load1 0 rfl rfl rfl Try.underlying65 rfl (by first | rfl | exact dg_get (by omega) (by omega))) ?_
    refine L_v rfl rfl rfl (V_assign rfl rfl) ?_
    refine L_v rfl rfl rfl (V_assign rfl rfl) ?_
    refine L_nil ?_
    change J _ _ _ _
    refine J_ret ?_
    change KretM _ _ _ Exit.ret _
    refine KretM_mark 3 rfl rfl ?_
    refine ret2 rfl rfl (RV_t rfl) (RV_t rfl) ?_
    exact fun w' h => RetB.of (c := n + (N + 1) + zr.length) h rfl 2 (by show some (_, row _ (dg (l ++ (grp m).take (N + 1)) ++ _)) = _; rw [htk]) rfl (by rw [List.length_append]; omega) (by omega) (by dsimp only; omega)

theorem putCount_no (u : Value) (m : Int) (w0 : World) (h : ¬ (0 ≤ m ∧ m ≤ 2147483647)) :
    Calls Try.prog 71 #[u, .int .i64 m] w0 fun e w' => e = .returned (.tuple #[.slice none 0 0, .int .i64 1]) ∧ Fr [] w0 w' := by
  refine calls_of_m (args := [u, .int .i64 m]) ([]) ([]) ([]) Try.func71 rfl rfl (okW0 _ _ _ _) ?_
  refine J_seq ?_
  refine J_region ?_
  refine L_v rfl rfl rfl (V_assign rfl rfl) ?_
  refine L_v rfl rfl rfl (V_assign rfl rfl) ?_
  refine L_nil ?_
  change J _ _ _ _
  refine J_seq ?_
  refine J_seq ?_
  refine J_region ?_
  refine L_v rfl rfl rfl (V_move rfl rfl) ?_
  refine L_v rfl rfl rfl (V_lss rfl rfl rfl (by first | exact decide_eq_true (by omega) | exact decide_eq_false (by omega) | rfl)) ?_
  refine L_v rfl rfl rfl (V_move rfl rfl) ?_
  refine L_split 10 rfl (fun h1 => ?_) (fun h1 => ?_)
  ·
    first | (have h1 := of_decide_eq_true h1) | (have h1 := of_decide_eq_false h1) | skip
    refine L_skip rfl rfl rfl rfl rfl rfl rfl ?_
    refine L_skip rfl rfl rfl rfl rfl rfl rfl ?_
    first | refine L_v rfl rfl rfl (V_pickT rfl rfl rfl) ?_ | refine L_v rfl rfl rfl (V_pickF rfl rfl rfl) ?_
    refine L_nil ?_
    change J _ _ _ _
    refine J_true rfl ?_
    refine J_seq ?_
    refine J_region ?_
    refine L_v rfl rfl rfl (V_assign rfl rfl) ?_
    refine L_v rfl rfl rfl (V_assign rfl rfl) ?_
    refine L_nil ?_
    change J _ _ _ _
    refine J_ret ?_
    change KretM _ _ _ Exit.ret _
    refine KretM_plain rfl ?_
    refine ret2 rfl rfl (RV_t rfl) (RV_t rfl) ?_
    exact fun w' h => ⟨rfl, h.fr⟩
  ·
    first | (have h1 := of_decide_eq_true h1) | (have h1 := of_decide_eq_false h1) | skip
    refine L_wv rfl rfl rfl rfl rfl rfl (V_move rfl rfl) ?_
    refine L_wv rfl rfl rfl rfl rfl rfl (V_gtr rfl rfl rfl (by first | exact decide_eq_true (by omega) | exact decide_eq_false (by omega) | rfl)) ?_
    first | refine L_v rfl rfl rfl (V_pickT rfl rfl rfl) ?_ | refine L_v rfl rfl rfl (V_pickF rfl rfl rfl) ?_
    refine L_nil ?_
    change J _ _ _ _
    refine J_true rfl ?_
    refine J_seq ?_
    refine J_region ?_
    refine L_v rfl rfl rfl (V_assign rfl rfl) ?_
    refine L_v rfl rfl rfl (V_assign rfl rfl) ?_
    refine L_nil ?_
    change J _ _ _ _
    refine J_ret ?_
    change KretM _ _ _ Exit.ret _
    refine KretM_plain rfl ?_
    refine ret2 rfl rfl (RV_t rfl) (RV_t rfl) ?_
    exact fun w' h => ⟨rfl, h.fr⟩

theorem putBytes_ok (a : Option Addr) (n c : Nat) (l : List Int) (s : ByteArray) (w0 : World) (hu : SlB w0 (.slice a n c) l) (hn : n ≤ 1099511627776) (hcn : n ≤ c) (hs : s.size ≤ 65536) :
    Calls Try.prog 76 #[.slice a n c, .string s] w0 fun e w' => RetB 5 w0 (l ++ (grp s.size ++ bs s)) (n + (grp s.size).length + s.size) (fun s => .tuple #[s, .int .i64 0]) e w' := by
  have hl := hu.size
  have hgl := grp_len s.size
  have hbl := bs_length s
  refine calls_of (args := [.slice a n c, .string s]) ([]) ([]) ([]) Try.func76 rfl rfl (okW0 _ _ _ _) ?_
  refine J_seq ?_
  refine J_region ?_
  refine L_v rfl rfl rfl (V_assign rfl rfl) ?_
  refine L_v rfl rfl rfl (V_assign rfl rfl) ?_
  refine L_nil ?_
  change J _ _ _ _
  refine J_seq ?_
  refine J_seq ?_
  refine J_region ?_
  refine L_v rfl rfl rfl (V_move rfl rfl) ?_
  refine L_v rfl rfl rfl (V_lenS rfl rfl Try.underlying9 rfl) ?_
  refine L_v rfl rfl rfl (V_gtr rfl rfl rfl (by first | exact decide_eq_true (by omega) | exact decide_eq_false (by omega) | rfl)) ?_
  refine L_nil ?_
  change J _ _ _ _
  refine J_false rfl ?_
  refine J_skip ?_
  change J _ _ _ _
  refine J_seq ?_
  refine J_region ?_
  refine L_v rfl rfl rfl (V_move rfl rfl) ?_
  refine L_v rfl rfl rfl (V_move rfl rfl) ?_
  refine L_v rfl rfl rfl (V_lenS rfl rfl Try.underlying9 rfl) ?_
  refine L_callB rfl rfl rfl rfl rfl rfl tx71p (fun w hw => putCount_ok a n c l s.size w (SlB.later hw rfl hu) hn hcn (by omega) (by omega)) (fun g1 r1 c1 hl1 hc1 hr1 => ?_)
  refine L_v rfl rfl rfl (V_move rfl rfl) ?_
  refine L_v rfl rfl rfl (V_extract rfl rfl rfl) ?_
  refine L_v rfl rfl rfl (V_extract rfl rfl rfl) ?_
  refine L_v rfl rfl rfl (V_assign rfl rfl) ?_
  refine L_v rfl rfl rfl (V_assign rfl rfl) ?_
  refine L_nil ?_
  change J _ _ _ _
  refine J_seq ?_
  refine J_region ?_
  refine L_v rfl rfl rfl (V_move rfl rfl) ?_
  refine L_v rfl rfl rfl (V_move rfl rfl) ?_
  refine L_appO 0 (dg (l ++ grp s.size)) r1 (n' := n + (grp s.size).length + s.size) (ks' := dg (l ++ (grp s.size ++ bs s))) rfl rfl rfl rfl rfl Try.underlying65 el rfl (by rw [dg_length, Nat.mul_one]; exact hl1) (by rw [Nat.mul_one]; exact hr1) hc1 (fun w hw => src_string Try.underlying9 _) rfl (by rw [← List.append_assoc, dg_append (l ++ _)]) (by omega) (by omega) (fun g2 c2 r2 hc2 hr2 => ?_)
  refine L_v rfl rfl rfl (V_move rfl rfl) ?_
  refine L_v rfl rfl rfl (V_assign rfl rfl) ?_
  refine L_v rfl rfl rfl (V_assign rfl rfl) ?_
  refine L_nil ?_
  change J _ _ _ _
  refine J_ret ?_
  change Kret _ _ _ Exit.ret _
  refine ret2 rfl rfl (RV_t rfl) (RV_t rfl) ?_
  exact fun w' h => RetB.of h rfl 0 rfl rfl (by simp only [List.length_append]; omega) hc2 (by omega)

theorem putBytes_no (u : Value) (s : ByteArray) (w : World) (hs : ¬ s.size ≤ 65536) :
    Calls Try.prog 76 #[u, .string s] w fun e w' => e = .returned (.tuple #[.slice none 0 0, .int .i64 2]) ∧ Fr [] w w' := by
  refine calls_of (args := [u, .string s]) ([]) ([]) ([]) Try.func76 rfl rfl (okW0 _ _ _ _) ?_
  refine J_seq ?_
  refine J_region ?_
  refine L_v rfl rfl rfl (V_assign rfl rfl) ?_
  refine L_v rfl rfl rfl (V_assign rfl rfl) ?_
  refine L_nil ?_
  change J _ _ _ _
  refine J_seq ?_
  refine J_seq ?_
  refine J_region ?_
  refine L_v rfl rfl rfl (V_move rfl rfl) ?_
  refine L_v rfl rfl rfl (V_lenS rfl rfl Try.underlying9 rfl) ?_
  refine L_v rfl rfl rfl (V_gtr rfl rfl rfl (by first | exact decide_eq_true (by omega) | exact decide_eq_false (by omega) | rfl)) ?_
  refine L_nil ?_
  change J _ _ _ _
  refine J_true rfl ?_
  refine J_seq ?_
  refine J_region ?_
  refine L_v rfl rfl rfl (V_assign rfl rfl) ?_
  refine L_v rfl rfl rfl (V_assign rfl rfl) ?_
  refine L_nil ?_
  change J _ _ _ _
  refine J_ret ?_
  change Kret _ _ _ Exit.ret _
  refine ret2 rfl rfl (RV_t rfl) (RV_t rfl) ?_
  exact fun w' h => ⟨rfl, h.fr⟩

theorem putDigest_w (a : Option Addr) (n c : Nat) (l : List Int) (d : List Int) (w0 : World) (hu : SlB w0 (.slice a n c) l) (hn : n ≤ 1099511627776) (hcn : n ≤ c) (hd : d.length = 32) :
    Calls Try.prog 88 #[.slice a n c, .agg (dg d).toArray] w0 fun e w' => RetB 5 w0 (l ++ d) (n + 32) id e w' := by
  have hl := hu.size
  refine calls_of (args := [.slice a n c, .agg (dg d).toArray]) ([]) ([]) ([]) Try.func88 rfl rfl (okW0 _ _ _ _) ?_
  refine J_seq ?_
  refine J_region ?_
  refine L_box rfl rfl rfl rfl rfl (fun b0 => ?_)
  refine L_v rfl rfl rfl (V_assign rfl rfl) ?_
  refine L_nil ?_
  change J _ _ _ _
  refine J_seq ?_
  refine J_regionT 7 rfl (by kernel_rfl) ?_
  refine LQ_v rfl rfl rfl (V_move rfl rfl) ?_
  refine LQ_v rfl rfl rfl (V_move rfl rfl) ?_
  refine LQ_v rfl rfl rfl (V_len rfl rfl Try.underlying65 rfl) ?_
  refine LQ_v rfl rfl rfl (V_move rfl rfl) ?_
  refine LQ_v rfl rfl rfl (V_len rfl rfl Try.underlying65 rfl) ?_
  refine LQ_v rfl rfl rfl (V_slice0 rfl rfl Try.underlying65 sz5p ⟨_, rfl⟩ ⟨_, rfl⟩ rfl (by first | omega | (simp; omega)) (by first | omega | (simp; omega))) ?_
  refine LQ_v rfl rfl rfl (V_sliceArr rfl rfl Try.underlying35 sz5p) ?_
  refine LQ_nil ?_
  refine L_appG (olds := dg l) (n' := n + 32) (ks' := dg (l ++ d)) rfl rfl rfl rfl rfl Try.underlying65 el (fun w hw => ((SlB.later hw rfl hu).recap n).first) (fun w hw => src_bytes' Try.underlying65 (SlB.of_mem' hw (i := 0) rfl hd 32) hd) rfl (dg_append _ _).symm (by omega) (by omega) (by omega) (fun g2 c2 r2 hc2 hr2 => ?_)
  refine L_v rfl rfl rfl (V_assign rfl rfl) ?_
  refine L_nil ?_
  change J _ _ _ _
  refine J_ret ?_
  change Kret _ _ _ Exit.ret _
  refine ret1 rfl rfl (RV_t rfl) ?_
  exact fun w' h => RetB.of h rfl 1 rfl rfl (by rw [List.length_append]; omega) hc2 (by omega)

end Go.Proofs.Ytcdenfkbhefbbaa
