/- What the functions of layer 1 that put bytes come to. -/
import Derived.Test.YtfgcfjojpakpjaaGreatSx
import Derived.Test.YtfgcfjojpakpjaaGreatOctetPure
import Derived.Test.YtfgcfjojpakpjaaGreatProg
set_option linter.unusedVariables false
set_option linter.unusedSimpArgs false
set_option maxRecDepth 100000
namespace Go.Proofs.YtfgcfjojpakpjaaGreat
open Go.Sx
theorem el : ElemOf Tryz.prog 5 1 1 (.int .u8 0) := elem_of (by kernel_rfl) rfl
theorem sz3 : (Tryz.prog.info? 3).map (·.size) = some 1 := by kernel_rfl

theorem groups_o (n : Int) (w : World) :
    Calls Tryz.prog 117 #[.int .i64 n] w fun e w' => ∃ b, e = .returned (.func (.func 118) #[] #[.pointer (some ⟨b, 0, none⟩)]) ∧ Fr [] w w' ∧ w.heap.size ≤ b ∧ w'.heap[b]? = some (row 3 [.int .i64 n]) := by
  refine calls_of (args := [.int .i64 n]) ([]) ([]) ([]) Tryz.func117 rfl rfl (okW0 _ _ _ _) ?_
  refine J_seq ?_
  refine J_region ?_
  refine L_box rfl rfl rfl rfl rfl (fun b0 => ?_)
  refine L_v rfl rfl rfl (V_assign rfl rfl) ?_
  refine L_nil ?_
  change J _ _ _ _
  refine J_seq ?_
  refine J_region ?_
  refine L_v rfl rfl rfl (V_makeFunc rfl rfl rfl) ?_
  refine L_v rfl rfl rfl (V_assign rfl rfl) ?_
  refine L_nil ?_
  change J _ _ _ _
  refine J_ret ?_
  change Kret _ _ _ Exit.ret _
  refine ret1 rfl rfl (RV_t rfl) ?_
  exact fun w' h => ⟨b0, rfl, h.fr, (by simpa using h.may b0 (List.mem_singleton.2 rfl)), h.at (i := 0) rfl⟩

theorem iter_w {Z : Type} (w0 : World) (nt : Nat) (mods : List Nat) (fs : List Fact) (M : Nat → Z → Mem) (Ms : Z → Mem) (priv : Z → Int) (js : Code) (D l : Nat) (r : Loop) (i b : Nat) (n : Int) (z0 : Z) (w : World) (h0 : 0 ≤ n) (h1 : n < 9223372036854775808)
    (hi : ∀ k z, (M k z)[i]? = some (b, row 3 [.int .i64 (priv z)])) (hs : ∀ k z y, ∃ z', priv z' = y ∧ (M k z).set i (b, row 3 [.int .i64 y]) = M k z')
    (hR : RoundsOk { P := Tryz.prog, w0 := w0, nt := nt, mods := mods } fs M Ms priv (grp n).length (fun k => [.int .u8 ((grp n).getD k 0)]) js D l r) (hz : priv z0 = n)
    (hw : OkW { P := Tryz.prog, w0 := w0, nt := nt, mods := mods } (M 0 z0 ++ tl D l r) fs w) :
    Calls Tryz.prog 118 (#[.func (.yield l) #[] #[]] ++ #[.pointer (some ⟨b, 0, none⟩)]) w (IterR { P := Tryz.prog, w0 := w0, nt := nt, mods := mods } fs M Ms (grp n).length js D l r) := by
  have hi' : ∀ k z, (M k z ++ tl D l r)[i]? = some (b, row 3 [.int .i64 (priv z)]) := fun k z => by
    have h2 := hi k z
    rw [List.getElem?_append_left (List.getElem?_eq_some_iff.1 h2).1]
    exact h2
  have hs' : ∀ k z y, ∃ z', priv z' = y ∧ (M k z ++ tl D l r).set i (b, row 3 [.int .i64 y]) = M k z' ++ tl D l r := fun k z y => by
    obtain ⟨z', h2, h3⟩ := hs k z y
    refine ⟨z', h2, ?_⟩
    rw [List.set_append_left _ _ (List.getElem?_eq_some_iff.1 (hi k z)).1, h3]
  refine calls_in (args := [.func (.yield l) #[] #[], .pointer (some ⟨b, 0, none⟩)]) mods (M 0 z0 ++ tl D l r) fs Tryz.func118 rfl rfl (hw.cast rfl rfl) ?_
  refine J_seq ?_
  refine J_block ?_
  refine J_loop (X := Nat × Z) (fun x => { env := [(0, .func (.yield l) #[] #[]), (1, .pointer (some ⟨b, 0, none⟩))], mem := M x.1 x.2 ++ tl D l r, facts := fs }) (fun x => x.1 < (grp n).length ∧ 0 ≤ priv x.2 ∧ ∃ f, priv x.2 < 128 ^ (f + 1) ∧ priv x.2 < 9223372036854775808 ∧ (grp n).drop x.1 = grpF f (priv x.2)) (fun x => (grp n).length - x.1) (0, z0) ⟨by have := (grp_len n).1; show 0 < _; omega, by show 0 ≤ priv z0; omega, 8, by show priv z0 < _; omega, by show priv z0 < _; omega, by show (grp n).drop 0 = _; rw [hz]; rfl⟩ ⟨⟨rfl, rfl, trivial⟩, List.Sublist.refl _, fun f hf => hf, rfl⟩ ?_
  rintro ⟨k, z⟩ ⟨hk, hx0, f, hxf, hx63, hdrop⟩
  simp only at hk hx0 hxf hx63 hdrop ⊢
  have hget : (grp n).getD k 0 = (grpF f (priv z)).getD 0 0 := by
    rw [← hdrop, List.getD_eq_getElem?_getD, List.getD_eq_getElem?_getD, List.getElem?_drop]
    rfl
  refine J_seq ?_
  refine J_seq ?_
  refine J_region ?_
  refine L_v rfl rfl rfl (V_load1 i rfl rfl (hi' k z) Tryz.underlying3 rfl rfl) ?_
  refine L_v rfl rfl rfl (V_geq rfl rfl rfl rfl) ?_
  refine L_nil ?_
  change J _ _ _ _
  refine J_cond rfl (fun hc => ?_) (fun hc => ?_)
  · have hc := of_decide_eq_true hc
    obtain ⟨f', rfl⟩ : ∃ f', f = f' + 1 := by
      cases f with
      | zero => exact absurd hxf (by omega)
      | succ f' => exact ⟨f', rfl⟩
    have hg : grpF (f' + 1) (priv z) = (128 + priv z % 128) :: grpF f' (priv z / 128) := by
      show (if priv z < 128 then _ else _) = _
      rw [if_neg (by omega)]
    rw [hg] at hdrop hget
    have hlen : (grp n).length = k + 1 + (grpF f' (priv z / 128)).length := by
      have := congrArg List.length hdrop
      simp only [List.length_drop, List.length_cons] at this
      omega
    have hl1 := (grpF_len f' (priv z / 128)).1
    refine J_skip ?_
    change J _ _ _ _
    refine J_block ?_
    refine J_seq ?_
    refine J_seq ?_
    refine J_region ?_
    refine L_v rfl rfl rfl (V_move rfl rfl) ?_
    refine L_v rfl rfl rfl (V_load1 i rfl rfl (hi' k z) Tryz.underlying3 rfl rfl) ?_
    refine L_v rfl rfl rfl (V_rem rfl rfl rfl (by omega) (by first | exact r64 (by omega) | rfl)) ?_
    refine L_v rfl rfl rfl (V_add rfl rfl rfl (Go.IntWalk.i64_in _ (by omega))) ?_
    refine L_v rfl rfl rfl (V_conv rfl rfl Tryz.underlying3 Tryz.underlying5 (Go.IntWalk.u8_in _ (by omega))) ?_
    refine L_yield rfl rfl rfl rfl rfl rfl (vs := [.int .u8 ((grp n).getD k 0)]) (by rw [hget, List.getD_cons_zero, Int.add_comm 128]; rfl) (fun w hw => YieldAt.mono (hR k z w hk (hw.cast rfl rfl)) ?_)
    rintro e w' (⟨rfl, z', hz', hw'⟩ | ⟨rfl, z', hw'⟩)
    · refine ⟨_, _, rfl, hw'.cast rfl rfl, ?_⟩
      refine L_v rfl rfl rfl (V_not rfl rfl rfl) ?_
      refine L_nil ?_
      change J _ _ _ _
      refine J_false rfl ?_
      refine J_skip ?_
      change J _ _ _ _
      refine J_region ?_
      refine L_v rfl rfl rfl (V_load1 i rfl rfl (hi' (k + 1) z') Tryz.underlying3 rfl rfl) ?_
      refine L_v rfl rfl rfl (V_quo rfl rfl rfl (by omega) (q64 (by omega) (by omega) (by omega))) ?_
      refine L_store1 i rfl rfl rfl rfl rfl (hi' (k + 1) z') rfl sz3 (by simp) rfl ?_
      refine L_nil ?_
      obtain ⟨z2, hz2, hm2⟩ := hs' (k + 1) z' (priv z' / 128)
      refine ⟨(k + 1, z2), ⟨by show k + 1 < _; omega, by show 0 ≤ priv z2; omega, f', ?_, by show priv z2 < _; omega, ?_⟩, by show _ - (k + 1) < _ - k; omega, ⟨rfl, rfl, trivial⟩, ?_, fun f hf => hf, rfl⟩
      · show priv z2 < _
        rw [hz2, hz']
        rw [Int.pow_succ] at hxf
        omega
      · show (grp n).drop (k + 1) = _
        rw [hz2, hz', ← List.drop_drop, hdrop]
        rfl
      · show List.Sublist (M (k + 1) z2 ++ tl D l r) _
        rw [← hm2]
        exact List.Sublist.refl _
    · refine ⟨_, _, rfl, hw'.cast rfl rfl, ?_⟩
      refine L_v rfl rfl rfl (V_not rfl rfl rfl) ?_
      refine L_nil ?_
      change J _ _ _ _
      refine J_true rfl ?_
      refine J_ret ?_
      change Kret _ _ _ Exit.ret _
      exact ret0 rfl rfl (fun w2 h2 => ⟨⟨_, rfl⟩, .inr ⟨z', h2.cast rfl rfl⟩⟩)
  · have hc := of_decide_eq_false hc
    have hg : grpF f (priv z) = [priv z] := by
      cases f with
      | zero => rfl
      | succ f => show (if priv z < 128 then _ else _) = _; rw [if_pos (by omega)]
    rw [hg] at hdrop hget
    have hlen : (grp n).length = k + 1 := by
      have := congrArg List.length hdrop
      simp only [List.length_drop, List.length_singleton] at this
      omega
    refine J_exit ?_
    change J _ _ _ _
    refine J_region ?_
    refine L_v rfl rfl rfl (V_move rfl rfl) ?_
    refine L_v rfl rfl rfl (V_load1 i rfl rfl (hi' k z) Tryz.underlying3 rfl rfl) ?_
    refine L_v rfl rfl rfl (V_conv rfl rfl Tryz.underlying3 Tryz.underlying5 (Go.IntWalk.u8_in _ (by omega))) ?_
    refine L_yield rfl rfl rfl rfl rfl rfl (vs := [.int .u8 ((grp n).getD k 0)]) (by rw [hget, List.getD_cons_zero]; rfl) (fun w hw => YieldAt.mono (hR k z w hk (hw.cast rfl rfl)) ?_)
    rintro e w' (⟨rfl, z', hz', hw'⟩ | ⟨rfl, z', hw'⟩)
    · refine ⟨_, _, rfl, hw'.cast rfl rfl, ?_⟩
      refine L_nil ?_
      change Kret _ _ _ Exit.normal _
      refine Kret_normal ?_
      refine ret0 rfl rfl (fun w2 h2 => ⟨⟨_, rfl⟩, .inl ⟨z', ?_⟩⟩)
      rw [hlen]
      exact h2.cast rfl rfl
    · refine ⟨_, _, rfl, hw'.cast rfl rfl, ?_⟩
      refine L_nil ?_
      change Kret _ _ _ Exit.normal _
      refine Kret_normal ?_
      exact ret0 rfl rfl (fun w2 h2 => ⟨⟨_, rfl⟩, .inr ⟨z', h2.cast rfl rfl⟩⟩)

end Go.Proofs.YtfgcfjojpakpjaaGreat
