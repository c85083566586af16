/- What the functions of layer 1 that put bytes come to. -/
import Derived.Test.YtcdenfkbhefbbaaSx
import Derived.Test.YtcdenfkbhefbbaaOctetPure
import Derived.Test.YtcdenfkbhefbbaaProg
set_option linter.unusedVariables false
set_option linter.unusedSimpArgs false
set_option maxRecDepth 100000
namespace Go.Proofs.Ytcdenfkbhefbbaa
open Go.Sx
theorem el : ElemOf Try.prog 5 1 1 (.int .u8 0) := elem_of (by kernel_rfl) rfl
theorem sz3 : (Try.prog.info? 3).map (·.size) = some 1 := by kernel_rfl
theorem tx89 : Txt Try.prog 89 := txt_of Try.func89 rfl (by kernel_rfl)
theorem tx90 : Txt Try.prog 90 := txt_of Try.func90 rfl (by kernel_rfl)
theorem bz5 : (Try.prog.info? 5).map (fun i => (i.zero, i.size)) = some (some (.int .u8 0), 1) := by kernel_rfl

theorem groups_step (n : Int) (G : List Int) (w : World) (h0 : 0 ≤ n) (h1 : n < 9223372036854775808) (hG : G.length ≤ 100) (ih : 128 ≤ n → ∀ w, Calls Try.prog 90 #[.int .i64 (n / 128)] w (RetB 5 w G G.length id)) :
    Calls Try.prog 90 #[.int .i64 n] w fun e w' => RetB 5 w (if n < 128 then [n] else (128 + n % 128) :: G) (if n < 128 then [n] else (128 + n % 128) :: G).length id e w' := by
  refine calls_of (args := [.int .i64 n]) ([]) ([]) ([]) Try.func90 rfl rfl (okW0 _ _ _ _) ?_
  refine J_seq ?_
  refine J_region ?_
  refine L_v rfl rfl rfl (V_assign rfl rfl) ?_
  refine L_nil ?_
  change J _ _ _ _
  refine J_seq ?_
  refine J_seq ?_
  refine J_region ?_
  refine L_v rfl rfl rfl (V_move rfl rfl) ?_
  refine L_v rfl rfl rfl (V_lss rfl rfl rfl (by first | exact decide_eq_true (by omega) | exact decide_eq_false (by omega) | rfl)) ?_
  refine L_nil ?_
  change J _ _ _ _
  refine J_cond rfl (fun h1 => ?_) (fun h1 => ?_)
  ·
    first | (have h1 := of_decide_eq_true h1) | (have h1 := of_decide_eq_false h1) | skip
    refine J_seq ?_
    refine J_region ?_
    refine L_v rfl rfl rfl (V_move rfl rfl) ?_
    refine L_v rfl rfl rfl (V_conv rfl rfl Try.underlying3 Try.underlying5 (by first | exact Go.IntWalk.u8_in _ (by omega) | rfl)) ?_
    refine L_bs1 rfl rfl rfl rfl rfl Try.underlying65 bz5 rfl rfl (fun b0 => ?_)
    refine L_v rfl rfl rfl (V_assign rfl rfl) ?_
    refine L_nil ?_
    change J _ _ _ _
    refine J_ret ?_
    change Kret _ _ _ Exit.ret _
    refine ret1 rfl rfl (RV_t rfl) ?_
    rw [if_pos h1]
    exact fun w' h => RetB.of (l := [n]) (r := []) h rfl 0 rfl rfl rfl (Nat.le_refl _) rfl
  ·
    first | (have h1 := of_decide_eq_true h1) | (have h1 := of_decide_eq_false h1) | skip
    refine J_skip ?_
    change J _ _ _ _
    refine J_seq ?_
    refine J_region ?_
    refine L_v rfl rfl rfl (V_move rfl rfl) ?_
    refine L_v rfl rfl rfl (V_rem rfl rfl rfl (by omega) (by first | exact r64 (by omega) | rfl)) ?_
    refine L_v rfl rfl rfl (V_add rfl rfl rfl (by first | exact Go.IntWalk.i64_in _ (by omega) | rfl)) ?_
    refine L_v rfl rfl rfl (V_conv rfl rfl Try.underlying3 Try.underlying5 (by first | exact Go.IntWalk.u8_in _ (by omega) | rfl)) ?_
    refine L_bs1 rfl rfl rfl rfl rfl Try.underlying65 bz5 rfl rfl (fun b0 => ?_)
    refine L_v rfl rfl rfl (V_assign rfl rfl) ?_
    refine L_nil ?_
    change J _ _ _ _
    refine J_seq ?_
    refine J_region ?_
    refine L_v rfl rfl rfl (V_move rfl rfl) ?_
    refine L_v rfl rfl rfl (V_quo rfl rfl rfl (by omega) (by first | exact q64 (by omega) (by omega) (by omega) | rfl)) ?_
    refine L_callB rfl rfl rfl rfl rfl rfl tx90 (fun w _ => ih (by omega) w) (fun g r c hgl hc hr => ?_)
    refine L_v rfl rfl rfl (V_assign rfl rfl) ?_
    refine L_nil ?_
    change J _ _ _ _
    refine J_seq ?_
    refine J_region ?_
    refine L_v rfl rfl rfl (V_move rfl rfl) ?_
    refine L_v rfl rfl rfl (V_move rfl rfl) ?_
    refine L_appO 0 [.int .u8 (128 + n % 128)] [] (n := 1) (n' := ((128 + n % 128) :: G).length) (ks' := dg ((128 + n % 128) :: G)) rfl rfl rfl rfl rfl Try.underlying65 el rfl rfl rfl (Nat.le_refl _) (fun w hw => src_bytes' Try.underlying65 (SlB.of_own hw (i := 1) rfl hgl _) hgl) (Nat.add_comm _ _) rfl (by simp only [List.length_cons]; omega) (by simp only [List.length_cons]; omega) (fun g2 c2 r2 hc2 hr2 => ?_)
    refine L_v rfl rfl rfl (V_assign rfl rfl) ?_
    refine L_nil ?_
    change J _ _ _ _
    refine J_seq ?_
    refine J_region ?_
    refine L_v rfl rfl rfl (V_move rfl rfl) ?_
    refine L_v rfl rfl rfl (V_assign rfl rfl) ?_
    refine L_nil ?_
    change J _ _ _ _
    refine J_ret ?_
    change Kret _ _ _ Exit.ret _
    refine ret1 rfl rfl (RV_t rfl) ?_
    rw [if_neg h1]
    exact fun w' h => RetB.of h rfl 0 rfl rfl rfl hc2 (by simpa using hr2)

theorem groups_w : ∀ (f : Nat) (n : Int) (w : World), 0 ≤ n → n < 128 ^ (f + 1) → n < 9223372036854775808 → f ≤ 20 → Calls Try.prog 90 #[.int .i64 n] w (RetB 5 w (grpF f n) (grpF f n).length id)
  | 0, n, w, h0, h1, h2, hf => by
    have h1' : n < 128 := by simpa using h1
    have := groups_step n [] w h0 h2 (by simp) (fun h => by omega)
    rw [if_pos h1'] at this
    exact this
  | f + 1, n, w, h0, h1, h2, hf => groups_step n (grpF f (n / 128)) w h0 h2 (by have := (grpF_len f (n / 128)).2; omega) (fun h w => groups_w f (n / 128) w (by omega) (by rw [Int.pow_succ] at h1; omega) (by omega) (by omega))
theorem grp_w (n : Int) (w : World) (h0 : 0 ≤ n) (h1 : n < 9223372036854775808) : Calls Try.prog 90 #[.int .i64 n] w (RetB 5 w (grp n) (grp n).length id) := groups_w 8 n w h0 (by omega) h1 (by omega)

theorem is_w (n : Int) (r : Bool) (w : World) (hr : decide (0 ≤ n ∧ n ≤ 2147483647) = r) :
    Calls Try.prog 89 #[.int .i64 n] w fun e w' => e = .returned (.bool r) ∧ Fr [] w w' := by
  subst hr
  refine calls_of (args := [.int .i64 n]) ([]) ([]) ([]) Try.func89 rfl rfl (okW0 _ _ _ _) ?_
  refine J_seq ?_
  refine J_region ?_
  refine L_v rfl rfl rfl (V_assign rfl rfl) ?_
  refine L_nil ?_
  change J _ _ _ _
  refine J_seq ?_
  refine J_region ?_
  refine L_v rfl rfl rfl (V_move rfl rfl) ?_
  refine L_v rfl rfl rfl (V_geq rfl rfl rfl (by first | exact decide_eq_true (by omega) | exact decide_eq_false (by omega) | rfl)) ?_
  refine L_v rfl rfl rfl (V_move rfl rfl) ?_
  refine L_split 5 rfl (fun h1 => ?_) (fun h1 => ?_)
  ·
    first | (have h1 := of_decide_eq_true h1) | (have h1 := of_decide_eq_false h1) | skip
    refine L_wv rfl rfl rfl rfl rfl rfl (V_move rfl rfl) ?_
    refine L_wv rfl rfl rfl rfl rfl rfl (V_leq rfl rfl rfl (by first | exact decide_eq_true (by omega) | exact decide_eq_false (by omega) | rfl)) ?_
    first | refine L_v rfl rfl rfl (V_pickT rfl rfl rfl) ?_ | refine L_v rfl rfl rfl (V_pickF rfl rfl rfl) ?_
    refine L_v rfl rfl rfl (V_assign rfl rfl) ?_
    refine L_nil ?_
    change J _ _ _ _
    refine J_ret ?_
    change Kret _ _ _ Exit.ret _
    refine ret1 rfl rfl (RV_t rfl) ?_
    exact fun w' h => ⟨congrArg (fun b => Ending.returned (.bool b)) (decide_eq_decide.2 (by omega)), h.fr⟩
  ·
    first | (have h1 := of_decide_eq_true h1) | (have h1 := of_decide_eq_false h1) | skip
    refine L_skip rfl rfl rfl rfl rfl rfl rfl ?_
    refine L_skip rfl rfl rfl rfl rfl rfl rfl ?_
    first | refine L_v rfl rfl rfl (V_pickT rfl rfl rfl) ?_ | refine L_v rfl rfl rfl (V_pickF rfl rfl rfl) ?_
    refine L_v rfl rfl rfl (V_assign rfl rfl) ?_
    refine L_nil ?_
    change J _ _ _ _
    refine J_ret ?_
    change Kret _ _ _ Exit.ret _
    refine ret1 rfl rfl (RV_t rfl) ?_
    exact fun w' h => ⟨congrArg (fun b => Ending.returned (.bool b)) (decide_eq_false (by omega)).symm, h.fr⟩

theorem count_ok (n : Int) (w : World) (h0 : 0 ≤ n) (h1 : n ≤ 2147483647) :
    Calls Try.prog 80 #[.int .i64 n] w fun e w' => RetB 5 w (grp n) (grp n).length (fun s => .tuple #[s, .int .i64 0]) e w' := by
  refine calls_of (args := [.int .i64 n]) ([]) ([]) ([]) Try.func80 rfl rfl (okW0 _ _ _ _) ?_
  refine J_seq ?_
  refine J_region ?_
  refine L_v rfl rfl rfl (V_assign rfl rfl) ?_
  refine L_v rfl rfl rfl (V_assign rfl rfl) ?_
  refine L_nil ?_
  change J _ _ _ _
  refine J_seq ?_
  refine J_seq ?_
  refine J_region ?_
  refine L_v rfl rfl rfl (V_move rfl rfl) ?_
  refine L_callV rfl rfl rfl rfl rfl rfl tx89 (fun w _ => is_w n _ w (decide_eq_true (by omega))) ?_
  refine L_v rfl rfl rfl (V_not rfl rfl rfl) ?_
  refine L_nil ?_
  change J _ _ _ _
  refine J_false rfl ?_
  refine J_skip ?_
  change J _ _ _ _
  refine J_seq ?_
  refine J_region ?_
  refine L_v rfl rfl rfl (V_move rfl rfl) ?_
  refine L_callB rfl rfl rfl rfl rfl rfl tx90 (fun w _ => grp_w n w (by omega) (by omega)) (fun g1 r1 c1 hl1 hc1 hr1 => ?_)
  refine L_v rfl rfl rfl (V_assign rfl rfl) ?_
  refine L_v rfl rfl rfl (V_assign rfl rfl) ?_
  refine L_nil ?_
  change J _ _ _ _
  refine J_ret ?_
  change Kret _ _ _ Exit.ret _
  refine ret2 rfl rfl (RV_t rfl) (RV_t rfl) ?_
  exact fun w' h => RetB.of h rfl 0 rfl rfl rfl hc1 hr1

theorem count_no (n : Int) (w : World) (h : ¬ (0 ≤ n ∧ n ≤ 2147483647)) :
    Calls Try.prog 80 #[.int .i64 n] w fun e w' => e = .returned (.tuple #[.slice none 0 0, .int .i64 1]) ∧ Fr [] w w' := by
  refine calls_of (args := [.int .i64 n]) ([]) ([]) ([]) Try.func80 rfl rfl (okW0 _ _ _ _) ?_
  refine J_seq ?_
  refine J_region ?_
  refine L_v rfl rfl rfl (V_assign rfl rfl) ?_
  refine L_v rfl rfl rfl (V_assign rfl rfl) ?_
  refine L_nil ?_
  change J _ _ _ _
  refine J_seq ?_
  refine J_seq ?_
  refine J_region ?_
  refine L_v rfl rfl rfl (V_move rfl rfl) ?_
  refine L_callV rfl rfl rfl rfl rfl rfl tx89 (fun w _ => is_w n _ w (decide_eq_false h)) ?_
  refine L_v rfl rfl rfl (V_not rfl rfl rfl) ?_
  refine L_nil ?_
  change J _ _ _ _
  refine J_true rfl ?_
  refine J_seq ?_
  refine J_region ?_
  refine L_v rfl rfl rfl (V_assign rfl rfl) ?_
  refine L_v rfl rfl rfl (V_assign rfl rfl) ?_
  refine L_nil ?_
  change J _ _ _ _
  refine J_ret ?_
  change Kret _ _ _ Exit.ret _
  refine ret2 rfl rfl (RV_t rfl) (RV_t rfl) ?_
  exact fun w' h => ⟨rfl, h.fr⟩

theorem refB_ok (s : ByteArray) (w : World) (h : s.size ≤ 65536) :
    Calls Try.prog 84 #[.string s] w fun e w' => RetB 5 w (grp s.size ++ bs s) (grp s.size ++ bs s).length (fun s => .tuple #[s, .int .i64 0]) e w' := by
  have hgl := grp_len s.size
  have hbl := bs_length s
  refine calls_of (args := [.string s]) ([]) ([]) ([]) Try.func84 rfl rfl (okW0 _ _ _ _) ?_
  refine J_seq ?_
  refine J_region ?_
  refine L_v rfl rfl rfl (V_assign rfl rfl) ?_
  refine L_v rfl rfl rfl (V_assign rfl rfl) ?_
  refine L_nil ?_
  change J _ _ _ _
  refine J_seq ?_
  refine J_seq ?_
  refine J_region ?_
  refine L_v rfl rfl rfl (V_move rfl rfl) ?_
  refine L_v rfl rfl rfl (V_lenS rfl rfl Try.underlying9 rfl) ?_
  refine L_v rfl rfl rfl (V_gtr rfl rfl rfl (by first | exact decide_eq_true (by omega) | exact decide_eq_false (by omega) | rfl)) ?_
  refine L_nil ?_
  change J _ _ _ _
  refine J_false rfl ?_
  refine J_skip ?_
  change J _ _ _ _
  refine J_seq ?_
  refine J_region ?_
  refine L_v rfl rfl rfl (V_move rfl rfl) ?_
  refine L_v rfl rfl rfl (V_lenS rfl rfl Try.underlying9 rfl) ?_
  refine L_callB rfl rfl rfl rfl rfl rfl tx90 (fun w _ => grp_w _ w (by omega) (by omega)) (fun g1 r1 c1 hl1 hc1 hr1 => ?_)
  refine L_v rfl rfl rfl (V_assign rfl rfl) ?_
  refine L_nil ?_
  change J _ _ _ _
  refine J_seq ?_
  refine J_region ?_
  refine L_v rfl rfl rfl (V_move rfl rfl) ?_
  refine L_v rfl rfl rfl (V_move rfl rfl) ?_
  refine L_appO 0 (dg (grp s.size)) r1 (n' := (grp s.size ++ bs s).length) (ks' := dg (grp s.size ++ bs s)) rfl rfl rfl rfl rfl Try.underlying65 el rfl (by rw [dg_length, Nat.mul_one]) (by rw [Nat.mul_one]; exact hr1) hc1 (fun w hw => src_string Try.underlying9 _) (by rw [List.length_append, hbl]) (dg_append _ _).symm (by simp only [List.length_append]; omega) (by simp only [List.length_append]; omega) (fun g2 c2 r2 hc2 hr2 => ?_)
  refine L_v rfl rfl rfl (V_assign rfl rfl) ?_
  refine L_nil ?_
  change J _ _ _ _
  refine J_seq ?_
  refine J_region ?_
  refine L_v rfl rfl rfl (V_move rfl rfl) ?_
  refine L_v rfl rfl rfl (V_assign rfl rfl) ?_
  refine L_v rfl rfl rfl (V_assign rfl rfl) ?_
  refine L_nil ?_
  change J _ _ _ _
  refine J_ret ?_
  change Kret _ _ _ Exit.ret _
  refine ret2 rfl rfl (RV_t rfl) (RV_t rfl) ?_
  exact fun w' h => RetB.of h rfl 0 rfl rfl rfl hc2 (by simpa using hr2)

theorem refB_no (s : ByteArray) (w : World) (h : ¬ s.size ≤ 65536) :
    Calls Try.prog 84 #[.string s] w fun e w' => e = .returned (.tuple #[.slice none 0 0, .int .i64 2]) ∧ Fr [] w w' := by
  refine calls_of (args := [.string s]) ([]) ([]) ([]) Try.func84 rfl rfl (okW0 _ _ _ _) ?_
  refine J_seq ?_
  refine J_region ?_
  refine L_v rfl rfl rfl (V_assign rfl rfl) ?_
  refine L_v rfl rfl rfl (V_assign rfl rfl) ?_
  refine L_nil ?_
  change J _ _ _ _
  refine J_seq ?_
  refine J_seq ?_
  refine J_region ?_
  refine L_v rfl rfl rfl (V_move rfl rfl) ?_
  refine L_v rfl rfl rfl (V_lenS rfl rfl Try.underlying9 rfl) ?_
  refine L_v rfl rfl rfl (V_gtr rfl rfl rfl (by first | exact decide_eq_true (by omega) | exact decide_eq_false (by omega) | rfl)) ?_
  refine L_nil ?_
  change J _ _ _ _
  refine J_true rfl ?_
  refine J_seq ?_
  refine J_region ?_
  refine L_v rfl rfl rfl (V_assign rfl rfl) ?_
  refine L_v rfl rfl rfl (V_assign rfl rfl) ?_
  refine L_nil ?_
  change J _ _ _ _
  refine J_ret ?_
  change Kret _ _ _ Exit.ret _
  refine ret2 rfl rfl (RV_t rfl) (RV_t rfl) ?_
  exact fun w' h => ⟨rfl, h.fr⟩

theorem groups_o (n : Int) (w : World) :
    Calls Try.prog 87 #[.int .i64 n] w fun e w' => ∃ b, e = .returned (.func (.func 92) #[] #[.pointer (some ⟨b, 0, none⟩)]) ∧ Fr [] w w' ∧ w.heap.size ≤ b ∧ w'.heap[b]? = some (row 3 [.int .i64 n]) := by
  refine calls_of (args := [.int .i64 n]) ([]) ([]) ([]) Try.func87 rfl rfl (okW0 _ _ _ _) ?_
  refine J_seq ?_
  refine J_region ?_
  refine L_box rfl rfl rfl rfl rfl (fun b0 => ?_)
  refine L_v rfl rfl rfl (V_assign rfl rfl) ?_
  refine L_nil ?_
  change J _ _ _ _
  refine J_seq ?_
  refine J_region ?_
  refine L_v rfl rfl rfl (V_makeFunc rfl rfl rfl) ?_
  refine L_v rfl rfl rfl (V_assign rfl rfl) ?_
  refine L_nil ?_
  change J _ _ _ _
  refine J_ret ?_
  change Kret _ _ _ Exit.ret _
  refine ret1 rfl rfl (RV_t rfl) ?_
  exact fun w' h => ⟨b0, rfl, h.fr, (by simpa using h.may b0 (List.mem_singleton.2 rfl)), h.at (i := 0) rfl⟩

theorem iter_w {Z : Type} (w0 : World) (nt : Nat) (mods : List Nat) (fs : List Fact) (M : Nat → Z → Mem) (Ms : Z → Mem) (priv : Z → Int) (js : Code) (D l : Nat) (r : Loop) (i b : Nat) (n : Int) (z0 : Z) (w : World) (h0 : 0 ≤ n) (h1 : n < 9223372036854775808)
    (hi : ∀ k z, (M k z)[i]? = some (b, row 3 [.int .i64 (priv z)])) (hs : ∀ k z y, ∃ z', priv z' = y ∧ (M k z).set i (b, row 3 [.int .i64 y]) = M k z')
    (hR : RoundsOk { P := Try.prog, w0 := w0, nt := nt, mods := mods } fs M Ms priv (grp n).length (fun k => [.int .u8 ((grp n).getD k 0)]) js D l r) (hz : priv z0 = n)
    (hw : OkW { P := Try.prog, w0 := w0, nt := nt, mods := mods } (M 0 z0 ++ tl D l r) fs w) :
    Calls Try.prog 92 (#[.func (.yield l) #[] #[]] ++ #[.pointer (some ⟨b, 0, none⟩)]) w (IterR { P := Try.prog, w0 := w0, nt := nt, mods := mods } fs M Ms (grp n).length js D l r) := by
  have hi' : ∀ k z, (M k z ++ tl D l r)[i]? = some (b, row 3 [.int .i64 (priv z)]) := fun k z => by
    have h2 := hi k z
    rw [List.getElem?_append_left (List.getElem?_eq_some_iff.1 h2).1]
    exact h2
  have hs' : ∀ k z y, ∃ z', priv z' = y ∧ (M k z ++ tl D l r).set i (b, row 3 [.int .i64 y]) = M k z' ++ tl D l r := fun k z y => by
    obtain ⟨z', h2, h3⟩ := hs k z y
    refine ⟨z', h2, ?_⟩
    rw [List.set_append_left _ _ (List.getElem?_eq_some_iff.1 (hi k z)).1, h3]
  refine calls_in (args := [.func (.yield l) #[] #[], .pointer (some ⟨b, 0, none⟩)]) mods (M 0 z0 ++ tl D l r) fs Try.func92 rfl rfl (hw.cast rfl rfl) ?_
  refine J_seq ?_
  refine J_block ?_
  refine J_loop (X := Nat × Z) (fun x => { env := [(0, .func (.yield l) #[] #[]), (1, .pointer (some ⟨b, 0, none⟩))], mem := M x.1 x.2 ++ tl D l r, facts := fs }) (fun x => x.1 < (grp n).length ∧ 0 ≤ priv x.2 ∧ ∃ f, priv x.2 < 128 ^ (f + 1) ∧ priv x.2 < 9223372036854775808 ∧ (grp n).drop x.1 = grpF f (priv x.2)) (fun x => (grp n).length - x.1) (0, z0) ⟨by have := (grp_len n).1; show 0 < _; omega, by show 0 ≤ priv z0; omega, 8, by show priv z0 < _; omega, by show priv z0 < _; omega, by show (grp n).drop 0 = _; rw [hz]; rfl⟩ ⟨⟨rfl, rfl, trivial⟩, List.Sublist.refl _, fun f hf => hf, rfl⟩ ?_
  rintro ⟨k, z⟩ ⟨hk, hx0, f, hxf, hx63, hdrop⟩
  simp only at hk hx0 hxf hx63 hdrop ⊢
  have hget : (grp n).getD k 0 = (grpF f (priv z)).getD 0 0 := by
    rw [← hdrop, List.getD_eq_getElem?_getD, List.getD_eq_getElem?_getD, List.getElem?_drop]
    rfl
  refine J_seq ?_
  refine J_seq ?_
  refine J_region ?_
  refine L_v rfl rfl rfl (V_load1 i rfl rfl (hi' k z) Try.underlying3 rfl rfl) ?_
  refine L_v rfl rfl rfl (V_geq rfl rfl rfl rfl) ?_
  refine L_nil ?_
  change J _ _ _ _
  refine J_cond rfl (fun hc => ?_) (fun hc => ?_)
  · have hc := of_decide_eq_true hc
    obtain ⟨f', rfl⟩ : ∃ f', f = f' + 1 := by
      cases f with
      | zero => exact absurd hxf (by omega)
      | succ f' => exact ⟨f', rfl⟩
    have hg : grpF (f' + 1) (priv z) = (128 + priv z % 128) :: grpF f' (priv z / 128) := by
      show (if priv z < 128 then _ else _) = _
      rw [if_neg (by omega)]
    rw [hg] at hdrop hget
    have hlen : (grp n).length = k + 1 + (grpF f' (priv z / 128)).length := by
      have := congrArg List.length hdrop
      simp only [List.length_drop, List.length_cons] at this
      omega
    have hl1 := (grpF_len f' (priv z / 128)).1
    refine J_skip ?_
    change J _ _ _ _
    refine J_block ?_
    refine J_seq ?_
    refine J_seq ?_
    refine J_region ?_
    refine L_v rfl rfl rfl (V_move rfl rfl) ?_
    refine L_v rfl rfl rfl (V_load1 i rfl rfl (hi' k z) Try.underlying3 rfl rfl) ?_
    refine L_v rfl rfl rfl (V_rem rfl rfl rfl (by omega) (by first | exact r64 (by omega) | rfl)) ?_
    refine L_v rfl rfl rfl (V_add rfl rfl rfl (Go.IntWalk.i64_in _ (by omega))) ?_
    refine L_v rfl rfl rfl (V_conv rfl rfl Try.underlying3 Try.underlying5 (Go.IntWalk.u8_in _ (by omega))) ?_
    refine L_yield rfl rfl rfl rfl rfl rfl (vs := [.int .u8 ((grp n).getD k 0)]) (by rw [hget, List.getD_cons_zero, Int.add_comm 128]; rfl) (fun w hw => YieldAt.mono (hR k z w hk (hw.cast rfl rfl)) ?_)
    rintro e w' (⟨rfl, z', hz', hw'⟩ | ⟨rfl, z', hw'⟩)
    · refine ⟨_, _, rfl, hw'.cast rfl rfl, ?_⟩
      refine L_v rfl rfl rfl (V_not rfl rfl rfl) ?_
      refine L_nil ?_
      change J _ _ _ _
      refine J_false rfl ?_
      refine J_skip ?_
      change J _ _ _ _
      refine J_region ?_
      refine L_v rfl rfl rfl (V_load1 i rfl rfl (hi' (k + 1) z') Try.underlying3 rfl rfl) ?_
      refine L_v rfl rfl rfl (V_quo rfl rfl rfl (by omega) (q64 (by omega) (by omega) (by omega))) ?_
      refine L_store1 i rfl rfl rfl rfl rfl (hi' (k + 1) z') rfl sz3 (by simp) rfl ?_
      refine L_nil ?_
      obtain ⟨z2, hz2, hm2⟩ := hs' (k + 1) z' (priv z' / 128)
      refine ⟨(k + 1, z2), ⟨by show k + 1 < _; omega, by show 0 ≤ priv z2; omega, f', ?_, by show priv z2 < _; omega, ?_⟩, by show _ - (k + 1) < _ - k; omega, ⟨rfl, rfl, trivial⟩, ?_, fun f hf => hf, rfl⟩
      · show priv z2 < _
        rw [hz2, hz']
        rw [Int.pow_succ] at hxf
        omega
      · show (grp n).drop (k + 1) = _
        rw [hz2, hz', ← List.drop_drop, hdrop]
        rfl
      · show List.Sublist (M (k + 1) z2 ++ tl D l r) _
        rw [← hm2]
        exact List.Sublist.refl _
    · refine ⟨_, _, rfl, hw'.cast rfl rfl, ?_⟩
      refine L_v rfl rfl rfl (V_not rfl rfl rfl) ?_
      refine L_nil ?_
      change J _ _ _ _
      refine J_true rfl ?_
      refine J_ret ?_
      change Kret _ _ _ Exit.ret _
      exact ret0 rfl rfl (fun w2 h2 => ⟨⟨_, rfl⟩, .inr ⟨z', h2.cast rfl rfl⟩⟩)
  · have hc := of_decide_eq_false hc
    have hg : grpF f (priv z) = [priv z] := by
      cases f with
      | zero => rfl
      | succ f => show (if priv z < 128 then _ else _) = _; rw [if_pos (by omega)]
    rw [hg] at hdrop hget
    have hlen : (grp n).length = k + 1 := by
      have := congrArg List.length hdrop
      simp only [List.length_drop, List.length_singleton] at this
      omega
    refine J_exit ?_
    change J _ _ _ _
    refine J_region ?_
    refine L_v rfl rfl rfl (V_move rfl rfl) ?_
    refine L_v rfl rfl rfl (V_load1 i rfl rfl (hi' k z) Try.underlying3 rfl rfl) ?_
    refine L_v rfl rfl rfl (V_conv rfl rfl Try.underlying3 Try.underlying5 (Go.IntWalk.u8_in _ (by omega))) ?_
    refine L_yield rfl rfl rfl rfl rfl rfl (vs := [.int .u8 ((grp n).getD k 0)]) (by rw [hget, List.getD_cons_zero]; rfl) (fun w hw => YieldAt.mono (hR k z w hk (hw.cast rfl rfl)) ?_)
    rintro e w' (⟨rfl, z', hz', hw'⟩ | ⟨rfl, z', hw'⟩)
    · refine ⟨_, _, rfl, hw'.cast rfl rfl, ?_⟩
      refine L_nil ?_
      change Kret _ _ _ Exit.normal _
      refine Kret_normal ?_
      refine ret0 rfl rfl (fun w2 h2 => ⟨⟨_, rfl⟩, .inl ⟨z', ?_⟩⟩)
      rw [hlen]
      exact h2.cast rfl rfl
    · refine ⟨_, _, rfl, hw'.cast rfl rfl, ?_⟩
      refine L_nil ?_
      change Kret _ _ _ Exit.normal _
      refine Kret_normal ?_
      exact ret0 rfl rfl (fun w2 h2 => ⟨⟨_, rfl⟩, .inr ⟨z', h2.cast rfl rfl⟩⟩)

end Go.Proofs.Ytcdenfkbhefbbaa
