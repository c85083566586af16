/- What the law comes to. -/
import Derived.Test.YtbckeoidnpfbnaaDoorChainB
set_option linter.unusedVariables false
set_option linter.unusedSimpArgs false
set_option maxRecDepth 100000
namespace Go.Proofs.YtbckeoidnpfbnaaDoor
open Go.Sx
theorem sz36e : (Tryd.prog.info? 36).map (·.size) = some 97 := by kernel_rfl
theorem tx20e : Txt Tryd.prog 20 := txt_of Tryd.func20 rfl (by kernel_rfl)
theorem tx21e : Txt Tryd.prog 21 := txt_of Tryd.func21 rfl (by kernel_rfl)
theorem tx22e : Txt Tryd.prog 22 := txt_of Tryd.func22 rfl (by kernel_rfl)

theorem HeadChains_in (s : ByteArray) (a : Option Addr) (n c : Nat) (l : List Sg) (w : World) (hl : l.length = n) (hu : SlC 97 w (.slice a n c) n (sgs l)) (hK : TabK KT 0 w) (hR : TabK KT 1 w)  :
    Calls Tryd.prog 7 #[.string s, .slice a n c] w fun e w' => e = .returned (.bool true) ∧ Fr [] w w' := by
  refine calls_of (args := [.string s, .slice a n c]) ([]) ([]) ([]) Tryd.func7 rfl rfl (okW0 _ _ _ _) ?_
  refine J_seq ?_
  refine J_region ?_
  refine L_v rfl rfl rfl (V_assign rfl rfl) ?_
  refine L_nil ?_
  change J _ _ _ _
  refine J_seq ?_
  refine J_seq ?_
  refine J_region ?_
  refine L_v rfl rfl rfl (V_move rfl rfl) ?_
  refine L_v rfl rfl rfl (V_lenS rfl rfl Tryd.underlying9 rfl) ?_
  refine L_v rfl rfl rfl (V_gtr rfl rfl rfl (by first | exact decide_eq_true (by omega) | exact decide_eq_false (by omega) | rfl)) ?_
  refine L_v rfl rfl rfl (V_move rfl rfl) ?_
  refine L_split 11 rfl (fun h1 => ?_) (fun h1 => ?_)
  ·
    first | (have h1 := of_decide_eq_true h1) | (have h1 := of_decide_eq_false h1) | skip
    refine L_skip rfl rfl rfl rfl rfl rfl rfl ?_
    refine L_skip rfl rfl rfl rfl rfl rfl rfl ?_
    refine L_skip rfl rfl rfl rfl rfl rfl rfl ?_
    first | refine L_v rfl rfl rfl (V_pickT rfl rfl rfl) ?_ | refine L_v rfl rfl rfl (V_pickF rfl rfl rfl) ?_
    refine L_nil ?_
    change J _ _ _ _
    refine J_true rfl ?_
    refine J_seq ?_
    refine J_region ?_
    refine L_v rfl rfl rfl (V_assign rfl rfl) ?_
    refine L_nil ?_
    change J _ _ _ _
    refine J_ret ?_
    change Kret _ _ _ Exit.ret _
    refine ret1 rfl rfl (RV_t rfl) ?_
    exact fun w' h => ⟨rfl, h.fr⟩
  ·
    first | (have h1 := of_decide_eq_true h1) | (have h1 := of_decide_eq_false h1) | skip
    refine L_wv rfl rfl rfl rfl rfl rfl (V_move rfl rfl) ?_
    refine L_wv rfl rfl rfl rfl rfl rfl (V_len rfl rfl Tryd.underlying44 rfl) ?_
    refine L_wv rfl rfl rfl rfl rfl rfl (V_gtr rfl rfl rfl (by first | exact decide_eq_true (by omega) | exact decide_eq_false (by omega) | rfl)) ?_
    first | refine L_v rfl rfl rfl (V_pickT rfl rfl rfl) ?_ | refine L_v rfl rfl rfl (V_pickF rfl rfl rfl) ?_
    refine L_nil ?_
    change J _ _ _ _
    refine J_cond rfl (fun h2 => ?_) (fun h2 => ?_)
    ·
      first | (have h2 := of_decide_eq_true h2) | (have h2 := of_decide_eq_false h2) | skip
      refine J_seq ?_
      refine J_region ?_
      refine L_v rfl rfl rfl (V_assign rfl rfl) ?_
      refine L_nil ?_
      change J _ _ _ _
      refine J_ret ?_
      change Kret _ _ _ Exit.ret _
      refine ret1 rfl rfl (RV_t rfl) ?_
      exact fun w' h => ⟨rfl, h.fr⟩
    ·
      first | (have h2 := of_decide_eq_true h2) | (have h2 := of_decide_eq_false h2) | skip
      refine J_skip ?_
      change J _ _ _ _
      refine J_seq ?_
      refine J_region ?_
      refine L_v rfl rfl rfl (V_assign rfl rfl) ?_
      refine L_nil ?_
      change J _ _ _ _
      refine J_seq ?_
      refine J_region ?_
      refine L_v rfl rfl rfl (V_move rfl rfl) ?_
      refine L_v rfl rfl rfl (V_move rfl rfl) ?_
      refine L_appL [] none [] (n' := n) (ks' := sgs l) rfl rfl rfl rfl rfl Tryd.underlying44 els rfl ⟨rfl, rfl⟩ (fun w1 hw => SlC.src Tryd.underlying44 (SlC.later hw rfl hu) (sgs_1 l)) (Nat.zero_add n) (List.nil_append _) (by omega) (by omega) (fun q0 hq0 => ?_)
      refine L_v rfl rfl rfl (V_assign rfl rfl) ?_
      refine L_nil ?_
      change J _ _ _ _
      refine J_seq ?_
      refine J_region ?_
      refine L_v rfl rfl rfl (V_move rfl rfl) ?_
      refine L_v rfl rfl rfl (V_move rfl rfl) ?_
      refine L_callV rfl rfl rfl rfl rfl rfl tx20e (fun w1 hw => chain_w s a n c l w1 hl (SlC.later hw rfl hu) (by omega) (TabK.later hw (by simp) hK)) ?_
      refine L_v rfl rfl rfl (V_assign rfl rfl) ?_
      refine L_nil ?_
      change J _ _ _ _
      refine J_seq ?_
      refine J_seq ?_
      refine J_region ?_
      refine L_v rfl rfl rfl (V_assign rfl rfl) ?_
      refine L_nil ?_
      change J _ _ _ _
      refine J_block ?_
      refine J_loop (X := Nat) (fun i => { env := [(0, .string s), (1, .slice a n c), (5, ownV q0 n), (6, .int .i64 (chainP s l)), (7, .int .i64 (i : Int))], mem := ownM 36 q0 (sgs l) }) (fun i => i ≤ n) (fun i => n - i) 0 (Nat.zero_le _) ⟨⟨rfl, rfl, rfl, rfl, rfl, trivial⟩, List.Sublist.refl _, fun f hf => hf, rfl⟩ ?_
      rintro i hi
      refine J_seq ?_
      refine J_seq ?_
      refine J_region ?_
      refine L_v rfl rfl rfl (V_move rfl rfl) ?_
      refine L_v rfl rfl rfl (V_move rfl rfl) ?_
      refine L_v rfl rfl rfl (V_len rfl rfl Tryd.underlying44 rfl) ?_
      refine L_v rfl rfl rfl (V_lss rfl rfl rfl (by first | exact decide_eq_true (by omega) | exact decide_eq_false (by omega) | rfl)) ?_
      refine L_nil ?_
      change J _ _ _ _
      refine J_cond rfl (fun h3 => ?_) (fun h3 => ?_)
      ·
        first | (have h3 := of_decide_eq_true h3) | (have h3 := of_decide_eq_false h3) | skip
        refine J_skip ?_
        change J _ _ _ _
        refine J_seq ?_
        refine J_block ?_
        refine J_seq ?_
        refine J_regionQ rfl (by kernel_rfl) ?_
        refine LQ_v rfl rfl rfl (V_move rfl rfl) ?_
        refine LQ_v rfl rfl rfl (V_move rfl rfl) ?_
        refine LQ_v rfl rfl rfl (V_indexC rfl rfl rfl Tryd.underlying44 sz36e (fun w hw => SlC.later hw rfl hu) (by omega) (by omega)) ?_
        refine LQ_v rfl rfl rfl (V_loadCN (vs := sgc (l.getD i s0)) rfl rfl Tryd.underlying36 rfl (szd sz36e (by first | exact sgc_len _ | (rw [sgc_len]; exact sgL_len zd_length zd_length zd_length) | (rw [sgc_len, sgL_len zd_length zd_length zd_length]) | exact sgL_len (by first | assumption | exact shaP_len _ | exact sgn_len _ _ _ _ | exact macP_len _ _ | exact zd_length | exact Sg.hr _ | exact Sg.hp _ | exact Sg.hg _ | exact prevAt_len _ _ | rfl) (by first | assumption | exact shaP_len _ | exact sgn_len _ _ _ _ | exact macP_len _ _ | exact zd_length | exact Sg.hr _ | exact Sg.hp _ | exact Sg.hg _ | exact prevAt_len _ _ | rfl) (by first | assumption | exact shaP_len _ | exact sgn_len _ _ _ _ | exact macP_len _ _ | exact zd_length | exact Sg.hr _ | exact Sg.hp _ | exact Sg.hg _ | exact prevAt_len _ _ | rfl) | (rw [sgL_len (by first | assumption | exact shaP_len _ | exact sgn_len _ _ _ _ | exact macP_len _ _ | exact zd_length | exact Sg.hr _ | exact Sg.hp _ | exact Sg.hg _ | exact prevAt_len _ _ | rfl) (by first | assumption | exact shaP_len _ | exact sgn_len _ _ _ _ | exact macP_len _ _ | exact zd_length | exact Sg.hr _ | exact Sg.hp _ | exact Sg.hg _ | exact prevAt_len _ _ | rfl) (by first | assumption | exact shaP_len _ | exact sgn_len _ _ _ _ | exact macP_len _ _ | exact zd_length | exact Sg.hr _ | exact Sg.hp _ | exact Sg.hg _ | exact prevAt_len _ _ | rfl), sgL_len (by first | assumption | exact shaP_len _ | exact sgn_len _ _ _ _ | exact macP_len _ _ | exact zd_length | exact Sg.hr _ | exact Sg.hp _ | exact Sg.hg _ | exact prevAt_len _ _ | rfl) (by first | assumption | exact shaP_len _ | exact sgn_len _ _ _ _ | exact macP_len _ _ | exact zd_length | exact Sg.hr _ | exact Sg.hp _ | exact Sg.hg _ | exact prevAt_len _ _ | rfl) (by first | assumption | exact shaP_len _ | exact sgn_len _ _ _ _ | exact macP_len _ _ | exact zd_length | exact Sg.hr _ | exact Sg.hp _ | exact Sg.hg _ | exact prevAt_len _ _ | rfl)]))) (fun w hw => SlC.later hw rfl hu) (by first | exact Nat.zero_lt_succ _ | (rw [dg_length, Sg.hp]; decide)) (sgs_v (by omega))) ?_
        refine LQ_v rfl rfl rfl (V_move rfl rfl) ?_
        refine LQ_v rfl rfl rfl (V_move rfl rfl) ?_
        refine LQ_v rfl rfl rfl (V_indexC rfl rfl rfl Tryd.underlying44 sz36e (fun w hw => SlC.ofM hw (fun p hp => hp) hq0) (by omega) (by omega)) ?_
        refine LQ_v rfl rfl rfl (V_loadCN (vs := sgc (l.getD i s0)) rfl rfl Tryd.underlying36 rfl (szd sz36e (by first | exact sgc_len _ | (rw [sgc_len]; exact sgL_len zd_length zd_length zd_length) | (rw [sgc_len, sgL_len zd_length zd_length zd_length]) | exact sgL_len (by first | assumption | exact shaP_len _ | exact sgn_len _ _ _ _ | exact macP_len _ _ | exact zd_length | exact Sg.hr _ | exact Sg.hp _ | exact Sg.hg _ | exact prevAt_len _ _ | rfl) (by first | assumption | exact shaP_len _ | exact sgn_len _ _ _ _ | exact macP_len _ _ | exact zd_length | exact Sg.hr _ | exact Sg.hp _ | exact Sg.hg _ | exact prevAt_len _ _ | rfl) (by first | assumption | exact shaP_len _ | exact sgn_len _ _ _ _ | exact macP_len _ _ | exact zd_length | exact Sg.hr _ | exact Sg.hp _ | exact Sg.hg _ | exact prevAt_len _ _ | rfl) | (rw [sgL_len (by first | assumption | exact shaP_len _ | exact sgn_len _ _ _ _ | exact macP_len _ _ | exact zd_length | exact Sg.hr _ | exact Sg.hp _ | exact Sg.hg _ | exact prevAt_len _ _ | rfl) (by first | assumption | exact shaP_len _ | exact sgn_len _ _ _ _ | exact macP_len _ _ | exact zd_length | exact Sg.hr _ | exact Sg.hp _ | exact Sg.hg _ | exact prevAt_len _ _ | rfl) (by first | assumption | exact shaP_len _ | exact sgn_len _ _ _ _ | exact macP_len _ _ | exact zd_length | exact Sg.hr _ | exact Sg.hp _ | exact Sg.hg _ | exact prevAt_len _ _ | rfl), sgL_len (by first | assumption | exact shaP_len _ | exact sgn_len _ _ _ _ | exact macP_len _ _ | exact zd_length | exact Sg.hr _ | exact Sg.hp _ | exact Sg.hg _ | exact prevAt_len _ _ | rfl) (by first | assumption | exact shaP_len _ | exact sgn_len _ _ _ _ | exact macP_len _ _ | exact zd_length | exact Sg.hr _ | exact Sg.hp _ | exact Sg.hg _ | exact prevAt_len _ _ | rfl) (by first | assumption | exact shaP_len _ | exact sgn_len _ _ _ _ | exact macP_len _ _ | exact zd_length | exact Sg.hr _ | exact Sg.hp _ | exact Sg.hg _ | exact prevAt_len _ _ | rfl)]))) (fun w hw => SlC.ofM hw (fun p hp => hp) hq0) (by first | exact Nat.zero_lt_succ _ | (rw [dg_length, Sg.hp]; decide)) (sgs_v (by omega))) ?_
        refine LQ_v rfl rfl rfl (V_neAgg rfl rfl rfl egS (fun w => eqS (Sg.hr _) (Sg.hr _) (Sg.hp _) (Sg.hp _) (Sg.hg _) (Sg.hg _) w) (by rw [decide_eq_true ⟨⟨rfl, rfl, rfl⟩, rfl⟩])) ?_
        refine LQ_nil ?_
        change J _ _ _ _
        refine J_false rfl ?_
        refine J_skip ?_
        change J _ _ _ _
        refine J_region ?_
        refine L_v rfl rfl rfl (V_move rfl rfl) ?_
        refine L_v rfl rfl rfl (V_add rfl rfl rfl (by first | exact Go.IntWalk.i64_in _ (by omega) | rfl)) ?_
        refine L_v rfl rfl rfl (V_assign rfl rfl) ?_
        refine L_nil ?_
        exact ⟨i + 1, by omega, by omega, ⟨rfl, rfl, rfl, rfl, rfl, trivial⟩, List.Sublist.refl _, fun f hf => hf, rfl⟩
      ·
        first | (have h3 := of_decide_eq_true h3) | (have h3 := of_decide_eq_false h3) | skip
        refine J_exit ?_
        change J _ _ _ _
        refine J_seq ?_
        refine J_region ?_
        refine L_callV rfl rfl rfl rfl rfl rfl tx21e (fun w1 hw => chains_w w1 (TabK.later hw (by simp) hK)) ?_
        refine L_v rfl rfl rfl (V_move rfl rfl) ?_
        refine L_wv rfl rfl rfl rfl rfl rfl (V_move rfl rfl) ?_
        refine L_wv rfl rfl rfl rfl rfl rfl (V_move rfl rfl) ?_
        refine L_wv rfl rfl rfl rfl rfl rfl (V_move rfl rfl) ?_
        refine L_wcallV rfl rfl rfl rfl rfl rfl rfl rfl rfl tx22e (fun w1 hw => rchain_w s (oA q0) n (oC q0) l w1 hl (SlC.ofM hw (fun p hp => hp) hq0) (by omega) (TabK.later hw (by simp) hR)) ?_
        refine L_wv rfl rfl rfl rfl rfl rfl (V_eql rfl rfl rfl (by first | exact decide_eq_true (by omega) | exact decide_eq_false (by omega) | rfl)) ?_
        first | refine L_v rfl rfl rfl (V_pickT rfl rfl rfl) ?_ | refine L_v rfl rfl rfl (V_pickF rfl rfl rfl) ?_
        refine L_v rfl rfl rfl (V_assign rfl rfl) ?_
        refine L_nil ?_
        change J _ _ _ _
        refine J_ret ?_
        change Kret _ _ _ Exit.ret _
        refine ret1 rfl rfl (RV_t rfl) ?_
        exact fun w' h => ⟨rfl, h.fr⟩

theorem HeadChains_w (s : ByteArray) (u : Value) (n : Nat) (l : List Sg) (w : World) (hl : l.length = n) (hv : SlC 97 w u n (sgs l)) (hq : ∀ a n c, u = .slice a n c → n ≤ c) (hK : TabK KT 0 w) (hR : TabK KT 1 w) :
    Calls Tryd.prog 7 #[.string s, u] w fun e w' => e = .returned (.bool true) ∧ Fr [] w w' := by
  obtain ⟨a, c, rfl⟩ := hv.form
  exact HeadChains_in s a n c l w hl hv hK hR
end Go.Proofs.YtbckeoidnpfbnaaDoor
