/- What the law comes to. -/
import Derived.Test.YtbckeoidnpfbnaaDoorChainB
set_option linter.unusedVariables false
set_option linter.unusedSimpArgs false
set_option maxRecDepth 100000
namespace Go.Proofs.YtbckeoidnpfbnaaDoor
open Go.Sx
theorem sz5e : (Tryd.prog.info? 5).map (·.size) = some 1 := by kernel_rfl
theorem sz23e : (Tryd.prog.info? 23).map (·.size) = some 32 := by kernel_rfl
theorem sz25e : (Tryd.prog.info? 25).map (·.size) = some 65 := by kernel_rfl
theorem sz36e : (Tryd.prog.info? 36).map (·.size) = some 97 := by kernel_rfl
theorem tx11e : Txt Tryd.prog 11 := txt_of Tryd.func11 rfl (by kernel_rfl)
theorem tx16e : Txt Tryd.prog 16 := txt_of Tryd.func16 rfl (by kernel_rfl)
theorem tx20e : Txt Tryd.prog 20 := txt_of Tryd.func20 rfl (by kernel_rfl)
theorem tx21e : Txt Tryd.prog 21 := txt_of Tryd.func21 rfl (by kernel_rfl)
theorem z23e : (Tryd.prog.info? 23).bind (·.zero) = some (.agg (dg zd).toArray) := by kernel_rfl

set_option maxHeartbeats 4000000 in
theorem HeadBegins_in (s s2 : ByteArray) (a : Option Addr) (n c : Nat) (l : List Sg) (a2 : Option Addr) (n2 c2 : Nat) (m : List Sg) (x : Int) (w : World) (hl : l.length = n) (hm : m.length = n2) (hu : SlC 97 w (.slice a n c) n (sgs l)) (hu2 : SlC 97 w (.slice a2 n2 c2) n2 (sgs m)) (hcn : n ≤ c) (hK : TabK KT 0 w)  :
    Calls Tryd.prog 8 #[.string s, .string s2, .slice a n c, .slice a2 n2 c2, .int .i64 x] w fun e w' => e = .returned (.bool true) ∧ Fr [] w w' := by
  refine calls_of (args := [.string s, .string s2, .slice a n c, .slice a2 n2 c2, .int .i64 x]) ([]) ([]) ([]) Tryd.func8 rfl rfl (okW0 _ _ _ _) ?_
  refine J_seq ?_
  refine J_region ?_
  refine L_v rfl rfl rfl (V_assign rfl rfl) ?_
  refine L_nil ?_
  change J _ _ _ _
  refine J_seq ?_
  refine J_seq ?_
  refine J_region ?_
  refine L_v rfl rfl rfl (V_move rfl rfl) ?_
  refine L_v rfl rfl rfl (V_lenS rfl rfl Tryd.underlying9 rfl) ?_
  refine L_v rfl rfl rfl (V_gtr rfl rfl rfl (by first | exact decide_eq_true (by omega) | exact decide_eq_false (by omega) | rfl)) ?_
  refine L_v rfl rfl rfl (V_move rfl rfl) ?_
  refine L_split 19 rfl (fun h1 => ?_) (fun h1 => ?_)
  ·
    first | (have h1 := of_decide_eq_true h1) | (have h1 := of_decide_eq_false h1) | skip
    refine L_skip rfl rfl rfl rfl rfl rfl rfl ?_
    refine L_skip rfl rfl rfl rfl rfl rfl rfl ?_
    refine L_skip rfl rfl rfl rfl rfl rfl rfl ?_
    first | refine L_v rfl rfl rfl (V_pickT rfl rfl rfl) ?_ | refine L_v rfl rfl rfl (V_pickF rfl rfl rfl) ?_
    refine L_v rfl rfl rfl (V_move rfl rfl) ?_
    refine L_skip rfl rfl rfl rfl rfl rfl rfl ?_
    refine L_skip rfl rfl rfl rfl rfl rfl rfl ?_
    refine L_skip rfl rfl rfl rfl rfl rfl rfl ?_
    first | refine L_v rfl rfl rfl (V_pickT rfl rfl rfl) ?_ | refine L_v rfl rfl rfl (V_pickF rfl rfl rfl) ?_
    refine L_v rfl rfl rfl (V_move rfl rfl) ?_
    refine L_skip rfl rfl rfl rfl rfl rfl rfl ?_
    refine L_skip rfl rfl rfl rfl rfl rfl rfl ?_
    refine L_skip rfl rfl rfl rfl rfl rfl rfl ?_
    first | refine L_v rfl rfl rfl (V_pickT rfl rfl rfl) ?_ | refine L_v rfl rfl rfl (V_pickF rfl rfl rfl) ?_
    refine L_nil ?_
    change J _ _ _ _
    refine J_true rfl ?_
    refine J_seq ?_
    refine J_region ?_
    refine L_v rfl rfl rfl (V_assign rfl rfl) ?_
    refine L_nil ?_
    change J _ _ _ _
    refine J_ret ?_
    change Kret _ _ _ Exit.ret _
    refine ret1 rfl rfl (RV_t rfl) ?_
    exact fun w' h => ⟨rfl, h.fr⟩
  ·
    first | (have h1 := of_decide_eq_true h1) | (have h1 := of_decide_eq_false h1) | skip
    refine L_wv rfl rfl rfl rfl rfl rfl (V_move rfl rfl) ?_
    refine L_wv rfl rfl rfl rfl rfl rfl (V_lenS rfl rfl Tryd.underlying9 rfl) ?_
    refine L_wv rfl rfl rfl rfl rfl rfl (V_gtr rfl rfl rfl (by first | exact decide_eq_true (by omega) | exact decide_eq_false (by omega) | rfl)) ?_
    first | refine L_v rfl rfl rfl (V_pickT rfl rfl rfl) ?_ | refine L_v rfl rfl rfl (V_pickF rfl rfl rfl) ?_
    refine L_v rfl rfl rfl (V_move rfl rfl) ?_
    refine L_split 24 rfl (fun h2 => ?_) (fun h2 => ?_)
    ·
      first | (have h2 := of_decide_eq_true h2) | (have h2 := of_decide_eq_false h2) | skip
      refine L_skip rfl rfl rfl rfl rfl rfl rfl ?_
      refine L_skip rfl rfl rfl rfl rfl rfl rfl ?_
      refine L_skip rfl rfl rfl rfl rfl rfl rfl ?_
      first | refine L_v rfl rfl rfl (V_pickT rfl rfl rfl) ?_ | refine L_v rfl rfl rfl (V_pickF rfl rfl rfl) ?_
      refine L_v rfl rfl rfl (V_move rfl rfl) ?_
      refine L_skip rfl rfl rfl rfl rfl rfl rfl ?_
      refine L_skip rfl rfl rfl rfl rfl rfl rfl ?_
      refine L_skip rfl rfl rfl rfl rfl rfl rfl ?_
      first | refine L_v rfl rfl rfl (V_pickT rfl rfl rfl) ?_ | refine L_v rfl rfl rfl (V_pickF rfl rfl rfl) ?_
      refine L_nil ?_
      change J _ _ _ _
      refine J_true rfl ?_
      refine J_seq ?_
      refine J_region ?_
      refine L_v rfl rfl rfl (V_assign rfl rfl) ?_
      refine L_nil ?_
      change J _ _ _ _
      refine J_ret ?_
      change Kret _ _ _ Exit.ret _
      refine ret1 rfl rfl (RV_t rfl) ?_
      exact fun w' h => ⟨rfl, h.fr⟩
    ·
      first | (have h2 := of_decide_eq_true h2) | (have h2 := of_decide_eq_false h2) | skip
      refine L_wv rfl rfl rfl rfl rfl rfl (V_move rfl rfl) ?_
      refine L_wv rfl rfl rfl rfl rfl rfl (V_len rfl rfl Tryd.underlying44 rfl) ?_
      refine L_wv rfl rfl rfl rfl rfl rfl (V_gtr rfl rfl rfl (by first | exact decide_eq_true (by omega) | exact decide_eq_false (by omega) | rfl)) ?_
      first | refine L_v rfl rfl rfl (V_pickT rfl rfl rfl) ?_ | refine L_v rfl rfl rfl (V_pickF rfl rfl rfl) ?_
      refine L_v rfl rfl rfl (V_move rfl rfl) ?_
      refine L_split 29 rfl (fun h3 => ?_) (fun h3 => ?_)
      ·
        first | (have h3 := of_decide_eq_true h3) | (have h3 := of_decide_eq_false h3) | skip
        refine L_skip rfl rfl rfl rfl rfl rfl rfl ?_
        refine L_skip rfl rfl rfl rfl rfl rfl rfl ?_
        refine L_skip rfl rfl rfl rfl rfl rfl rfl ?_
        first | refine L_v rfl rfl rfl (V_pickT rfl rfl rfl) ?_ | refine L_v rfl rfl rfl (V_pickF rfl rfl rfl) ?_
        refine L_nil ?_
        change J _ _ _ _
        refine J_true rfl ?_
        refine J_seq ?_
        refine J_region ?_
        refine L_v rfl rfl rfl (V_assign rfl rfl) ?_
        refine L_nil ?_
        change J _ _ _ _
        refine J_ret ?_
        change Kret _ _ _ Exit.ret _
        refine ret1 rfl rfl (RV_t rfl) ?_
        exact fun w' h => ⟨rfl, h.fr⟩
      ·
        first | (have h3 := of_decide_eq_true h3) | (have h3 := of_decide_eq_false h3) | skip
        refine L_wv rfl rfl rfl rfl rfl rfl (V_move rfl rfl) ?_
        refine L_wv rfl rfl rfl rfl rfl rfl (V_len rfl rfl Tryd.underlying44 rfl) ?_
        refine L_wv rfl rfl rfl rfl rfl rfl (V_gtr rfl rfl rfl (by first | exact decide_eq_true (by omega) | exact decide_eq_false (by omega) | rfl)) ?_
        first | refine L_v rfl rfl rfl (V_pickT rfl rfl rfl) ?_ | refine L_v rfl rfl rfl (V_pickF rfl rfl rfl) ?_
        refine L_nil ?_
        change J _ _ _ _
        refine J_cond rfl (fun h4 => ?_) (fun h4 => ?_)
        ·
          first | (have h4 := of_decide_eq_true h4) | (have h4 := of_decide_eq_false h4) | skip
          refine J_seq ?_
          refine J_region ?_
          refine L_v rfl rfl rfl (V_assign rfl rfl) ?_
          refine L_nil ?_
          change J _ _ _ _
          refine J_ret ?_
          change Kret _ _ _ Exit.ret _
          refine ret1 rfl rfl (RV_t rfl) ?_
          exact fun w' h => ⟨rfl, h.fr⟩
        ·
          first | (have h4 := of_decide_eq_true h4) | (have h4 := of_decide_eq_false h4) | skip
          refine J_skip ?_
          change J _ _ _ _
          refine J_seq ?_
          refine J_seq ?_
          refine J_region ?_
          refine L_v rfl rfl rfl (V_move rfl rfl) ?_
          refine L_v rfl rfl rfl (V_move rfl rfl) ?_
          refine L_callV rfl rfl rfl rfl rfl rfl tx20e (fun w1 hw => chain_w s a n c l w1 hl (SlC.later hw rfl hu) (by omega) (TabK.later hw (by simp) hK)) ?_
          refine L_v rfl rfl rfl (V_neq rfl rfl rfl (by first | exact decide_eq_true (by omega) | exact decide_eq_false (by omega) | rfl)) ?_
          refine L_nil ?_
          change J _ _ _ _
          refine J_cond rfl (fun h5 => ?_) (fun h5 => ?_)
          ·
            first | (have h5 := of_decide_eq_true h5) | (have h5 := of_decide_eq_false h5) | skip
            refine J_seq ?_
            refine J_region ?_
            refine L_callV rfl rfl rfl rfl rfl rfl tx21e (fun w1 hw => chains_w w1 (TabK.later hw (by simp) hK)) ?_
            refine L_v rfl rfl rfl (V_move rfl rfl) ?_
            refine L_wcallV rfl rfl rfl rfl rfl rfl rfl rfl rfl tx16e (fun w1 hw => signs_w w1 (TabK.later hw (by simp) hK)) ?_
            first | refine L_v rfl rfl rfl (V_pickT rfl rfl rfl) ?_ | refine L_v rfl rfl rfl (V_pickF rfl rfl rfl) ?_
            refine L_v rfl rfl rfl (V_assign rfl rfl) ?_
            refine L_nil ?_
            change J _ _ _ _
            refine J_ret ?_
            change Kret _ _ _ Exit.ret _
            refine ret1 rfl rfl (RV_t rfl) ?_
            exact fun w' h => ⟨rfl, h.fr⟩
          ·
            first | (have h5 := of_decide_eq_true h5) | (have h5 := of_decide_eq_false h5) | skip
            have h0 : chainP s l = 0 := Classical.not_not.1 h5
            refine J_skip ?_
            change J _ _ _ _
            refine J_seq ?_
            refine J_seq ?_
            refine J_region ?_
            refine L_v rfl rfl rfl (V_move rfl rfl) ?_
            refine L_v rfl rfl rfl (V_geq rfl rfl rfl (by first | exact decide_eq_true (by omega) | exact decide_eq_false (by omega) | rfl)) ?_
            refine L_v rfl rfl rfl (V_move rfl rfl) ?_
            refine L_split 44 rfl (fun h6 => ?_) (fun h6 => ?_)
            ·
              first | (have h6 := of_decide_eq_true h6) | (have h6 := of_decide_eq_false h6) | skip
              obtain ⟨k, hk⟩ : ∃ k : Nat, x = k := ⟨x.toNat, by omega⟩
              refine L_wv rfl rfl rfl rfl rfl rfl (V_move rfl rfl) ?_
              refine L_wv rfl rfl rfl rfl rfl rfl (V_move rfl rfl) ?_
              refine L_wv rfl rfl rfl rfl rfl rfl (V_len rfl rfl Tryd.underlying44 rfl) ?_
              refine L_wv rfl rfl rfl rfl rfl rfl (V_leq rfl rfl rfl (by first | exact decide_eq_true (by omega) | exact decide_eq_false (by omega) | rfl)) ?_
              first | refine L_v rfl rfl rfl (V_pickT rfl rfl rfl) ?_ | refine L_v rfl rfl rfl (V_pickF rfl rfl rfl) ?_
              refine L_v rfl rfl rfl (V_move rfl rfl) ?_
              refine L_split 50 rfl (fun h7 => ?_) (fun h7 => ?_)
              ·
                first | (have h7 := of_decide_eq_true h7) | (have h7 := of_decide_eq_false h7) | skip
                refine L_wv rfl rfl rfl rfl rfl rfl (V_move rfl rfl) ?_
                refine L_wv rfl rfl rfl rfl rfl rfl (V_move rfl rfl) ?_
                refine L_wv rfl rfl rfl rfl rfl rfl (V_move rfl rfl) ?_
                refine L_wv rfl rfl rfl rfl rfl rfl (V_slice0 rfl rfl Tryd.underlying44 sz36e (Bd.at (v := k) rfl hk) rfl rfl (by first | omega | (simp; omega)) (by first | omega | (simp; omega))) ?_
                refine L_wcallV rfl rfl rfl rfl rfl rfl rfl rfl rfl tx20e (fun w1 hw => chain_b (a := a) (n := k) (c := c) (l := l.take k) (by rw [List.length_take]; omega) (sgs_take l k ▸ SlC.take (SlC.later hw rfl hu) (by omega) _) (by omega) (TabK.later hw (by simp) hK) (chain_take h0 (by omega))) ?_
                refine L_wv rfl rfl rfl rfl rfl rfl (V_neq rfl rfl rfl (by first | exact decide_eq_true (by omega) | exact decide_eq_false (by omega) | rfl)) ?_
                first | refine L_v rfl rfl rfl (V_pickT rfl rfl rfl) ?_ | refine L_v rfl rfl rfl (V_pickF rfl rfl rfl) ?_
                refine L_nil ?_
                change J _ _ _ _
                refine J_false rfl ?_
                refine J_skip ?_
                change J _ _ _ _
                refine J_seq ?_
                refine J_seq ?_
                refine J_regionO (.pure 0 (.pure 1 (.one 2 (.pure 3 (.pure 4 (.pure 5 (.pure 6 (.pure 7 (.pure 8 (.pure 9 (.pure 10 (.pure 11 (.pure 12 (.pure 13 (.pure 14 (.pure 15 (.pure 16 (.pure 17 (.pure 18 (.pure 19 (.pure 20 (.pure 21 (.pure 22 (.pure 23 (.pure 24 (.pure 25 (.pure 26 (.pure 27 (.pure 28 (.pure 29 (.pure 30 (.pure 31 (.pure 32 (.nil)))))))))))))))))))))))))))))))))) _ _ (Pk.refl _) (fun f hf => hf) rfl rfl (by kernel_rfl) ?_
                refine LO_v rfl rfl rfl rfl (V_move rfl rfl) ?_
                refine LO_v rfl rfl rfl rfl (V_move rfl rfl) ?_
                refine LO_callV rfl rfl rfl rfl rfl rfl rfl rfl tx20e (fun w1 hw => chain_w s2 a2 n2 c2 m w1 hm (SlC.later hw rfl hu2) (by omega) (TabK.later hw (by simp) hK)) (Pk.refl _) (fun f hf => hf) ?_
                refine LO_v rfl rfl rfl rfl (V_neq rfl rfl rfl (by first | exact decide_eq_true (by omega) | exact decide_eq_false (by omega) | rfl)) ?_
                refine LO_v rfl rfl rfl rfl (V_move rfl rfl) ?_
                refine LO_split 62 rfl (fun h8 => ?_) (fun h8 => ?_)
                ·
                  first | (have h8 := of_decide_eq_true h8) | (have h8 := of_decide_eq_false h8) | skip
                  refine LO_skip rfl rfl rfl rfl rfl rfl rfl rfl ?_
                  refine LO_skip rfl rfl rfl rfl rfl rfl rfl rfl ?_
                  refine LO_skip rfl rfl rfl rfl rfl rfl rfl rfl ?_
                  refine LO_skip rfl rfl rfl rfl rfl rfl rfl rfl ?_
                  refine LO_skip rfl rfl rfl rfl rfl rfl rfl rfl ?_
                  first | refine LO_v rfl rfl rfl rfl (V_pickT rfl rfl rfl) ?_ | refine LO_v rfl rfl rfl rfl (V_pickF rfl rfl rfl) ?_
                  refine LO_v rfl rfl rfl rfl (V_move rfl rfl) ?_
                  refine LO_skip rfl rfl rfl rfl rfl rfl rfl rfl ?_
                  refine LO_skip rfl rfl rfl rfl rfl rfl rfl rfl ?_
                  refine LO_skip rfl rfl rfl rfl rfl rfl rfl rfl ?_
                  first | refine LO_v rfl rfl rfl rfl (V_pickT rfl rfl rfl) ?_ | refine LO_v rfl rfl rfl rfl (V_pickF rfl rfl rfl) ?_
                  refine LO_v rfl rfl rfl rfl (V_move rfl rfl) ?_
                  refine LO_skip rfl rfl rfl rfl rfl rfl rfl rfl ?_
                  refine LO_skip rfl rfl rfl rfl rfl rfl rfl rfl ?_
                  refine LO_skip rfl rfl rfl rfl rfl rfl rfl rfl ?_
                  refine LO_skip rfl rfl rfl rfl rfl rfl rfl rfl ?_
                  refine LO_skip rfl rfl rfl rfl rfl rfl rfl rfl ?_
                  refine LO_skip rfl rfl rfl rfl rfl rfl rfl rfl ?_
                  refine LO_skip rfl rfl rfl rfl rfl rfl rfl rfl ?_
                  refine LO_skip rfl rfl rfl rfl rfl rfl rfl rfl ?_
                  refine LO_skip rfl rfl rfl rfl rfl rfl rfl rfl ?_
                  refine LO_skip rfl rfl rfl rfl rfl rfl rfl rfl ?_
                  refine LO_skip rfl rfl rfl rfl rfl rfl rfl rfl ?_
                  refine LO_skip rfl rfl rfl rfl rfl rfl rfl rfl ?_
                  refine LO_skip rfl rfl rfl rfl rfl rfl rfl rfl ?_
                  refine LO_skip rfl rfl rfl rfl rfl rfl rfl rfl ?_
                  refine LO_skip rfl rfl rfl rfl rfl rfl rfl rfl ?_
                  first | refine LO_v rfl rfl rfl rfl (V_pickT rfl rfl rfl) ?_ | refine LO_v rfl rfl rfl rfl (V_pickF rfl rfl rfl) ?_
                  refine LO_nil ?_
                  change J _ _ _ _
                  refine J_true rfl ?_
                  refine J_seq ?_
                  refine J_region ?_
                  refine L_callV rfl rfl rfl rfl rfl rfl tx21e (fun w1 hw => chains_w w1 (TabK.later hw (by simp) hK)) ?_
                  refine L_v rfl rfl rfl (V_move rfl rfl) ?_
                  refine L_wcallV rfl rfl rfl rfl rfl rfl rfl rfl rfl tx16e (fun w1 hw => signs_w w1 (TabK.later hw (by simp) hK)) ?_
                  first | refine L_v rfl rfl rfl (V_pickT rfl rfl rfl) ?_ | refine L_v rfl rfl rfl (V_pickF rfl rfl rfl) ?_
                  refine L_v rfl rfl rfl (V_assign rfl rfl) ?_
                  refine L_nil ?_
                  change J _ _ _ _
                  refine J_ret ?_
                  change Kret _ _ _ Exit.ret _
                  refine ret1 rfl rfl (RV_t rfl) ?_
                  exact fun w' h => ⟨rfl, h.fr⟩
                ·
                  first | (have h8 := of_decide_eq_true h8) | (have h8 := of_decide_eq_false h8) | skip
                  have h0m : chainP s2 m = 0 := Classical.not_not.1 h8
                  refine LO_wv rfl rfl rfl rfl rfl rfl rfl (V_move rfl rfl) ?_
                  refine LO_wv rfl rfl rfl rfl rfl rfl rfl (V_len rfl rfl Tryd.underlying44 rfl) ?_
                  refine LO_wv rfl rfl rfl rfl rfl rfl rfl (V_move rfl rfl) ?_
                  refine LO_wv rfl rfl rfl rfl rfl rfl rfl (V_len rfl rfl Tryd.underlying44 rfl) ?_
                  refine LO_wv rfl rfl rfl rfl rfl rfl rfl (V_neq rfl rfl rfl (by first | exact decide_eq_true (by omega) | exact decide_eq_false (by omega) | rfl)) ?_
                  first | refine LO_v rfl rfl rfl rfl (V_pickT rfl rfl rfl) ?_ | refine LO_v rfl rfl rfl rfl (V_pickF rfl rfl rfl) ?_
                  refine LO_v rfl rfl rfl rfl (V_move rfl rfl) ?_
                  refine LO_split 69 rfl (fun h9 => ?_) (fun h9 => ?_)
                  ·
                    first | (have h9 := of_decide_eq_true h9) | (have h9 := of_decide_eq_false h9) | skip
                    refine LO_skip rfl rfl rfl rfl rfl rfl rfl rfl ?_
                    refine LO_skip rfl rfl rfl rfl rfl rfl rfl rfl ?_
                    refine LO_skip rfl rfl rfl rfl rfl rfl rfl rfl ?_
                    first | refine LO_v rfl rfl rfl rfl (V_pickT rfl rfl rfl) ?_ | refine LO_v rfl rfl rfl rfl (V_pickF rfl rfl rfl) ?_
                    refine LO_v rfl rfl rfl rfl (V_move rfl rfl) ?_
                    refine LO_skip rfl rfl rfl rfl rfl rfl rfl rfl ?_
                    refine LO_skip rfl rfl rfl rfl rfl rfl rfl rfl ?_
                    refine LO_skip rfl rfl rfl rfl rfl rfl rfl rfl ?_
                    refine LO_skip rfl rfl rfl rfl rfl rfl rfl rfl ?_
                    refine LO_skip rfl rfl rfl rfl rfl rfl rfl rfl ?_
                    refine LO_skip rfl rfl rfl rfl rfl rfl rfl rfl ?_
                    refine LO_skip rfl rfl rfl rfl rfl rfl rfl rfl ?_
                    refine LO_skip rfl rfl rfl rfl rfl rfl rfl rfl ?_
                    refine LO_skip rfl rfl rfl rfl rfl rfl rfl rfl ?_
                    refine LO_skip rfl rfl rfl rfl rfl rfl rfl rfl ?_
                    refine LO_skip rfl rfl rfl rfl rfl rfl rfl rfl ?_
                    refine LO_skip rfl rfl rfl rfl rfl rfl rfl rfl ?_
                    refine LO_skip rfl rfl rfl rfl rfl rfl rfl rfl ?_
                    refine LO_skip rfl rfl rfl rfl rfl rfl rfl rfl ?_
                    refine LO_skip rfl rfl rfl rfl rfl rfl rfl rfl ?_
                    first | refine LO_v rfl rfl rfl rfl (V_pickT rfl rfl rfl) ?_ | refine LO_v rfl rfl rfl rfl (V_pickF rfl rfl rfl) ?_
                    refine LO_nil ?_
                    change J _ _ _ _
                    refine J_true rfl ?_
                    refine J_seq ?_
                    refine J_region ?_
                    refine L_callV rfl rfl rfl rfl rfl rfl tx21e (fun w1 hw => chains_w w1 (TabK.later hw (by simp) hK)) ?_
                    refine L_v rfl rfl rfl (V_move rfl rfl) ?_
                    refine L_wcallV rfl rfl rfl rfl rfl rfl rfl rfl rfl tx16e (fun w1 hw => signs_w w1 (TabK.later hw (by simp) hK)) ?_
                    first | refine L_v rfl rfl rfl (V_pickT rfl rfl rfl) ?_ | refine L_v rfl rfl rfl (V_pickF rfl rfl rfl) ?_
                    refine L_v rfl rfl rfl (V_assign rfl rfl) ?_
                    refine L_nil ?_
                    change J _ _ _ _
                    refine J_ret ?_
                    change Kret _ _ _ Exit.ret _
                    refine ret1 rfl rfl (RV_t rfl) ?_
                    exact fun w' h => ⟨rfl, h.fr⟩
                  ·
                    first | (have h9 := of_decide_eq_true h9) | (have h9 := of_decide_eq_false h9) | skip
                    refine LO_wv rfl rfl rfl rfl rfl rfl rfl (V_move rfl rfl) ?_
                    refine LO_wv rfl rfl rfl rfl rfl rfl rfl (V_len rfl rfl Tryd.underlying44 rfl) ?_
                    refine LO_wv rfl rfl rfl rfl rfl rfl rfl (V_eql rfl rfl rfl (by first | exact decide_eq_true (by omega) | exact decide_eq_false (by omega) | rfl)) ?_
                    first | refine LO_v rfl rfl rfl rfl (V_pickT rfl rfl rfl) ?_ | refine LO_v rfl rfl rfl rfl (V_pickF rfl rfl rfl) ?_
                    refine LO_v rfl rfl rfl rfl (V_move rfl rfl) ?_
                    refine LO_split 74 rfl (fun h10 => ?_) (fun h10 => ?_)
                    ·
                      first | (have h10 := of_decide_eq_true h10) | (have h10 := of_decide_eq_false h10) | skip
                      refine LO_skip rfl rfl rfl rfl rfl rfl rfl rfl ?_
                      refine LO_skip rfl rfl rfl rfl rfl rfl rfl rfl ?_
                      refine LO_skip rfl rfl rfl rfl rfl rfl rfl rfl ?_
                      refine LO_skip rfl rfl rfl rfl rfl rfl rfl rfl ?_
                      refine LO_skip rfl rfl rfl rfl rfl rfl rfl rfl ?_
                      refine LO_skip rfl rfl rfl rfl rfl rfl rfl rfl ?_
                      refine LO_skip rfl rfl rfl rfl rfl rfl rfl rfl ?_
                      refine LO_skip rfl rfl rfl rfl rfl rfl rfl rfl ?_
                      refine LO_skip rfl rfl rfl rfl rfl rfl rfl rfl ?_
                      refine LO_skip rfl rfl rfl rfl rfl rfl rfl rfl ?_
                      refine LO_skip rfl rfl rfl rfl rfl rfl rfl rfl ?_
                      refine LO_skip rfl rfl rfl rfl rfl rfl rfl rfl ?_
                      refine LO_skip rfl rfl rfl rfl rfl rfl rfl rfl ?_
                      refine LO_skip rfl rfl rfl rfl rfl rfl rfl rfl ?_
                      refine LO_skip rfl rfl rfl rfl rfl rfl rfl rfl ?_
                      first | refine LO_v rfl rfl rfl rfl (V_pickT rfl rfl rfl) ?_ | refine LO_v rfl rfl rfl rfl (V_pickF rfl rfl rfl) ?_
                      refine LO_nil ?_
                      change J _ _ _ _
                      refine J_true rfl ?_
                      refine J_seq ?_
                      refine J_region ?_
                      refine L_callV rfl rfl rfl rfl rfl rfl tx21e (fun w1 hw => chains_w w1 (TabK.later hw (by simp) hK)) ?_
                      refine L_v rfl rfl rfl (V_move rfl rfl) ?_
                      refine L_wcallV rfl rfl rfl rfl rfl rfl rfl rfl rfl tx16e (fun w1 hw => signs_w w1 (TabK.later hw (by simp) hK)) ?_
                      first | refine L_v rfl rfl rfl (V_pickT rfl rfl rfl) ?_ | refine L_v rfl rfl rfl (V_pickF rfl rfl rfl) ?_
                      refine L_v rfl rfl rfl (V_assign rfl rfl) ?_
                      refine L_nil ?_
                      change J _ _ _ _
                      refine J_ret ?_
                      change Kret _ _ _ Exit.ret _
                      refine ret1 rfl rfl (RV_t rfl) ?_
                      exact fun w' h => ⟨rfl, h.fr⟩
                    ·
                      first | (have h10 := of_decide_eq_true h10) | (have h10 := of_decide_eq_false h10) | skip
                      refine LO_wv rfl rfl rfl rfl rfl rfl rfl (V_move rfl rfl) ?_
                      refine LO_wv rfl rfl rfl rfl rfl rfl rfl (V_move rfl rfl) ?_
                      refine LO_wv rfl rfl rfl rfl rfl rfl rfl (V_len rfl rfl Tryd.underlying44 rfl) ?_
                      refine LO_wv rfl rfl rfl rfl rfl rfl rfl (V_sub (r := (n : Int) - 1) rfl rfl rfl (by rw [Go.IntWalk.i64_in _ (by omega)])) ?_
                      refine LO_wv rfl rfl rfl rfl rfl rfl rfl (V_indexC rfl rfl rfl Tryd.underlying44 sz36e (fun w hw => SlC.later hw rfl hu) (by omega) (by omega)) ?_
                      refine LO_wv rfl rfl rfl rfl rfl rfl rfl (V_fieldC rfl rfl (fun w hw => (let ⟨b, o, e, _⟩ := SlC.cell (SlC.later hw rfl hu) (show (sgs l)[((n : Int) - 1).toNat * (96 + 1)]? = some (.int .i64 (l.getD (n - 1) s0).e) from by rw [show ((n : Int) - 1).toNat = ((n - 1 : Nat) : Int).toNat by omega]; exact sgs_e (by omega)); ⟨b, o, e⟩)) Tryd.underlying36 rfl sz25e rfl) ?_
                      refine LO_wv rfl rfl rfl rfl rfl rfl rfl (V_loadCN (vs := hdL (l.getD (n - 1) s0).e (l.getD (n - 1) s0).r (l.getD (n - 1) s0).p) rfl rfl Tryd.underlying25 rfl (szd sz25e (by first | exact hdL_len (by first | assumption | exact shaP_len _ | exact sgn_len _ _ _ _ | exact macP_len _ _ | exact zd_length | exact Sg.hr _ | exact Sg.hp _ | exact Sg.hg _ | exact prevAt_len _ _ | rfl) (by first | assumption | exact shaP_len _ | exact sgn_len _ _ _ _ | exact macP_len _ _ | exact zd_length | exact Sg.hr _ | exact Sg.hp _ | exact Sg.hg _ | exact prevAt_len _ _ | rfl) | (rw [hdL_len (by first | assumption | exact shaP_len _ | exact sgn_len _ _ _ _ | exact macP_len _ _ | exact zd_length | exact Sg.hr _ | exact Sg.hp _ | exact Sg.hg _ | exact prevAt_len _ _ | rfl) (by first | assumption | exact shaP_len _ | exact sgn_len _ _ _ _ | exact macP_len _ _ | exact zd_length | exact Sg.hr _ | exact Sg.hp _ | exact Sg.hg _ | exact prevAt_len _ _ | rfl), hdL_len (by first | assumption | exact shaP_len _ | exact sgn_len _ _ _ _ | exact macP_len _ _ | exact zd_length | exact Sg.hr _ | exact Sg.hp _ | exact Sg.hg _ | exact prevAt_len _ _ | rfl) (by first | assumption | exact shaP_len _ | exact sgn_len _ _ _ _ | exact macP_len _ _ | exact zd_length | exact Sg.hr _ | exact Sg.hp _ | exact Sg.hg _ | exact prevAt_len _ _ | rfl)]))) (fun w hw => SlC.later hw rfl hu) (Nat.zero_lt_succ _) (by rw [show ((n : Int) - 1).toNat = ((n - 1 : Nat) : Int).toNat by omega]; exact sgs_h (by omega))) ?_
                      refine LO_wv rfl rfl rfl rfl rfl rfl rfl (V_move rfl rfl) ?_
                      refine LO_wv rfl rfl rfl rfl rfl rfl rfl (V_move rfl rfl) ?_
                      refine LO_wv rfl rfl rfl rfl rfl rfl rfl (V_len rfl rfl Tryd.underlying44 rfl) ?_
                      refine LO_wv rfl rfl rfl rfl rfl rfl rfl (V_sub (r := (n : Int) - 1) rfl rfl rfl (by rw [Go.IntWalk.i64_in _ (by omega)])) ?_
                      refine LO_wv rfl rfl rfl rfl rfl rfl rfl (V_indexC rfl rfl rfl Tryd.underlying44 sz36e (fun w hw => SlC.later hw rfl hu2) (by omega) (by omega)) ?_
                      refine LO_wv rfl rfl rfl rfl rfl rfl rfl (V_fieldC rfl rfl (fun w hw => (let ⟨b, o, e, _⟩ := SlC.cell (SlC.later hw rfl hu2) (show (sgs m)[((n : Int) - 1).toNat * (96 + 1)]? = some (.int .i64 (m.getD (n - 1) s0).e) from by rw [show ((n : Int) - 1).toNat = ((n - 1 : Nat) : Int).toNat by omega]; exact sgs_e (by omega)); ⟨b, o, e⟩)) Tryd.underlying36 rfl sz25e rfl) ?_
                      refine LO_wv rfl rfl rfl rfl rfl rfl rfl (V_loadCN (vs := hdL (m.getD (n - 1) s0).e (m.getD (n - 1) s0).r (m.getD (n - 1) s0).p) rfl rfl Tryd.underlying25 rfl (szd sz25e (by first | exact hdL_len (by first | assumption | exact shaP_len _ | exact sgn_len _ _ _ _ | exact macP_len _ _ | exact zd_length | exact Sg.hr _ | exact Sg.hp _ | exact Sg.hg _ | exact prevAt_len _ _ | rfl) (by first | assumption | exact shaP_len _ | exact sgn_len _ _ _ _ | exact macP_len _ _ | exact zd_length | exact Sg.hr _ | exact Sg.hp _ | exact Sg.hg _ | exact prevAt_len _ _ | rfl) | (rw [hdL_len (by first | assumption | exact shaP_len _ | exact sgn_len _ _ _ _ | exact macP_len _ _ | exact zd_length | exact Sg.hr _ | exact Sg.hp _ | exact Sg.hg _ | exact prevAt_len _ _ | rfl) (by first | assumption | exact shaP_len _ | exact sgn_len _ _ _ _ | exact macP_len _ _ | exact zd_length | exact Sg.hr _ | exact Sg.hp _ | exact Sg.hg _ | exact prevAt_len _ _ | rfl), hdL_len (by first | assumption | exact shaP_len _ | exact sgn_len _ _ _ _ | exact macP_len _ _ | exact zd_length | exact Sg.hr _ | exact Sg.hp _ | exact Sg.hg _ | exact prevAt_len _ _ | rfl) (by first | assumption | exact shaP_len _ | exact sgn_len _ _ _ _ | exact macP_len _ _ | exact zd_length | exact Sg.hr _ | exact Sg.hp _ | exact Sg.hg _ | exact prevAt_len _ _ | rfl)]))) (fun w hw => SlC.later hw rfl hu2) (Nat.zero_lt_succ _) (by rw [show ((n : Int) - 1).toNat = ((n - 1 : Nat) : Int).toNat by omega]; exact sgs_h (by omega))) ?_
                      refine LO_wv rfl rfl rfl rfl rfl rfl rfl (V_neAgg rfl rfl rfl egH (fun w => eqH (Sg.hr _) (Sg.hr _) (Sg.hp _) (Sg.hp _) w) rfl) ?_
                      first | refine LO_v rfl rfl rfl rfl (V_pickT rfl rfl rfl) ?_ | refine LO_v rfl rfl rfl rfl (V_pickF rfl rfl rfl) ?_
                      refine LO_nil ?_
                      change J _ _ _ _
                      refine J_cond rfl (fun h11 => ?_) (fun h11 => ?_)
                      ·
                        first | (have h11 := of_decide_eq_true h11) | (have h11 := of_decide_eq_false h11) | skip
                        refine J_seq ?_
                        refine J_region ?_
                        refine L_callV rfl rfl rfl rfl rfl rfl tx21e (fun w1 hw => chains_w w1 (TabK.later hw (by simp) hK)) ?_
                        refine L_v rfl rfl rfl (V_move rfl rfl) ?_
                        refine L_wcallV rfl rfl rfl rfl rfl rfl rfl rfl rfl tx16e (fun w1 hw => signs_w w1 (TabK.later hw (by simp) hK)) ?_
                        first | refine L_v rfl rfl rfl (V_pickT rfl rfl rfl) ?_ | refine L_v rfl rfl rfl (V_pickF rfl rfl rfl) ?_
                        refine L_v rfl rfl rfl (V_assign rfl rfl) ?_
                        refine L_nil ?_
                        change J _ _ _ _
                        refine J_ret ?_
                        change Kret _ _ _ Exit.ret _
                        refine ret1 rfl rfl (RV_t rfl) ?_
                        exact fun w' h => ⟨rfl, h.fr⟩
                      ·
                        first | (have h11 := of_decide_eq_true h11) | (have h11 := of_decide_eq_false h11) | skip
                        have hh0' := of_decide_eq_true (nbF h11)
                        have hh0 : hdEq (l.getD (n - 1) s0) (m.getD (n - 1) s0) := hh0'
                        have hnn : n2 = n := by omega
                        have hn1 : 1 ≤ n := by omega
                        refine J_skip ?_
                        change J _ _ _ _
                        refine J_seq ?_
                        refine J_seq ?_
                        refine J_region ?_
                        refine L_v rfl rfl rfl (V_move rfl rfl) ?_
                        refine L_v rfl rfl rfl (V_len rfl rfl Tryd.underlying44 rfl) ?_
                        refine L_v rfl rfl rfl (V_sub rfl rfl rfl (Go.IntWalk.i64_in _ (by omega))) ?_
                        refine L_v rfl rfl rfl (V_assign rfl rfl) ?_
                        refine L_nil ?_
                        change J _ _ _ _
                        refine J_block ?_
                        refine J_loop (X := Nat) (fun j => { env := [(0, .string s), (1, .string s2), (2, .slice a n c), (3, .slice a2 n2 c2), (11, .int .i64 ((j : Int) - 1))] }) (fun j => j ≤ n - 1 ∧ hdEq (l.getD j s0) (m.getD j s0)) (fun j => j) (n - 1) ⟨Nat.le_refl _, hh0⟩ ⟨⟨rfl, rfl, rfl, rfl, (congrArg (fun z => some (Value.int .i64 z)) (by omega)), trivial⟩, List.nil_sublist _, fun f hf => hf, rfl⟩ ?_
                        rintro j ⟨hj, hh⟩
                        refine J_seq ?_
                        refine J_seq ?_
                        refine J_region ?_
                        refine L_v rfl rfl rfl (V_move rfl rfl) ?_
                        refine L_v rfl rfl rfl (V_geq rfl rfl rfl (by first | exact decide_eq_true (by omega) | exact decide_eq_false (by omega) | rfl)) ?_
                        refine L_nil ?_
                        change J _ _ _ _
                        refine J_cond rfl (fun h12 => ?_) (fun h12 => ?_)
                        ·
                          first | (have h12 := of_decide_eq_true h12) | (have h12 := of_decide_eq_false h12) | skip
                          refine J_skip ?_
                          change J _ _ _ _
                          refine J_seq ?_
                          refine J_block ?_
                          refine J_seq ?_
                          refine J_seq ?_
                          refine J_regionQ rfl (by kernel_rfl) ?_
                          refine LQ_v rfl rfl rfl (V_move rfl rfl) ?_
                          refine LQ_v rfl rfl rfl (V_move rfl rfl) ?_
                          refine LQ_v rfl rfl rfl (V_indexC rfl rfl rfl Tryd.underlying44 sz36e (fun w hw => SlC.later hw rfl hu) (by omega) (by omega)) ?_
                          refine LQ_v rfl rfl rfl (V_fieldC rfl rfl (fun w hw => (let ⟨b, o, e, _⟩ := SlC.cell (SlC.later hw rfl hu) (show (sgs l)[((j : Int) - 1).toNat * (96 + 1)]? = some (.int .i64 (l.getD (j - 1) s0).e) from by rw [show ((j : Int) - 1).toNat = ((j - 1 : Nat) : Int).toNat by omega]; exact sgs_e (by omega)); ⟨b, o, e⟩)) Tryd.underlying36 rfl sz25e rfl) ?_
                          refine LQ_v rfl rfl rfl (V_loadCN (vs := hdL (l.getD (j - 1) s0).e (l.getD (j - 1) s0).r (l.getD (j - 1) s0).p) rfl rfl Tryd.underlying25 rfl (szd sz25e (by first | exact hdL_len (by first | assumption | exact shaP_len _ | exact sgn_len _ _ _ _ | exact macP_len _ _ | exact zd_length | exact Sg.hr _ | exact Sg.hp _ | exact Sg.hg _ | exact prevAt_len _ _ | rfl) (by first | assumption | exact shaP_len _ | exact sgn_len _ _ _ _ | exact macP_len _ _ | exact zd_length | exact Sg.hr _ | exact Sg.hp _ | exact Sg.hg _ | exact prevAt_len _ _ | rfl) | (rw [hdL_len (by first | assumption | exact shaP_len _ | exact sgn_len _ _ _ _ | exact macP_len _ _ | exact zd_length | exact Sg.hr _ | exact Sg.hp _ | exact Sg.hg _ | exact prevAt_len _ _ | rfl) (by first | assumption | exact shaP_len _ | exact sgn_len _ _ _ _ | exact macP_len _ _ | exact zd_length | exact Sg.hr _ | exact Sg.hp _ | exact Sg.hg _ | exact prevAt_len _ _ | rfl), hdL_len (by first | assumption | exact shaP_len _ | exact sgn_len _ _ _ _ | exact macP_len _ _ | exact zd_length | exact Sg.hr _ | exact Sg.hp _ | exact Sg.hg _ | exact prevAt_len _ _ | rfl) (by first | assumption | exact shaP_len _ | exact sgn_len _ _ _ _ | exact macP_len _ _ | exact zd_length | exact Sg.hr _ | exact Sg.hp _ | exact Sg.hg _ | exact prevAt_len _ _ | rfl)]))) (fun w hw => SlC.later hw rfl hu) (Nat.zero_lt_succ _) (by rw [show ((j : Int) - 1).toNat = ((j - 1 : Nat) : Int).toNat by omega]; exact sgs_h (by omega))) ?_
                          refine LQ_v rfl rfl rfl (V_move rfl rfl) ?_
                          refine LQ_v rfl rfl rfl (V_move rfl rfl) ?_
                          refine LQ_v rfl rfl rfl (V_indexC rfl rfl rfl Tryd.underlying44 sz36e (fun w hw => SlC.later hw rfl hu2) (by omega) (by omega)) ?_
                          refine LQ_v rfl rfl rfl (V_fieldC rfl rfl (fun w hw => (let ⟨b, o, e, _⟩ := SlC.cell (SlC.later hw rfl hu2) (show (sgs m)[((j : Int) - 1).toNat * (96 + 1)]? = some (.int .i64 (m.getD (j - 1) s0).e) from by rw [show ((j : Int) - 1).toNat = ((j - 1 : Nat) : Int).toNat by omega]; exact sgs_e (by omega)); ⟨b, o, e⟩)) Tryd.underlying36 rfl sz25e rfl) ?_
                          refine LQ_v rfl rfl rfl (V_loadCN (vs := hdL (m.getD (j - 1) s0).e (m.getD (j - 1) s0).r (m.getD (j - 1) s0).p) rfl rfl Tryd.underlying25 rfl (szd sz25e (by first | exact hdL_len (by first | assumption | exact shaP_len _ | exact sgn_len _ _ _ _ | exact macP_len _ _ | exact zd_length | exact Sg.hr _ | exact Sg.hp _ | exact Sg.hg _ | exact prevAt_len _ _ | rfl) (by first | assumption | exact shaP_len _ | exact sgn_len _ _ _ _ | exact macP_len _ _ | exact zd_length | exact Sg.hr _ | exact Sg.hp _ | exact Sg.hg _ | exact prevAt_len _ _ | rfl) | (rw [hdL_len (by first | assumption | exact shaP_len _ | exact sgn_len _ _ _ _ | exact macP_len _ _ | exact zd_length | exact Sg.hr _ | exact Sg.hp _ | exact Sg.hg _ | exact prevAt_len _ _ | rfl) (by first | assumption | exact shaP_len _ | exact sgn_len _ _ _ _ | exact macP_len _ _ | exact zd_length | exact Sg.hr _ | exact Sg.hp _ | exact Sg.hg _ | exact prevAt_len _ _ | rfl), hdL_len (by first | assumption | exact shaP_len _ | exact sgn_len _ _ _ _ | exact macP_len _ _ | exact zd_length | exact Sg.hr _ | exact Sg.hp _ | exact Sg.hg _ | exact prevAt_len _ _ | rfl) (by first | assumption | exact shaP_len _ | exact sgn_len _ _ _ _ | exact macP_len _ _ | exact zd_length | exact Sg.hr _ | exact Sg.hp _ | exact Sg.hg _ | exact prevAt_len _ _ | rfl)]))) (fun w hw => SlC.later hw rfl hu2) (Nat.zero_lt_succ _) (by rw [show ((j : Int) - 1).toNat = ((j - 1 : Nat) : Int).toNat by omega]; exact sgs_h (by omega))) ?_
                          refine LQ_v rfl rfl rfl (V_eqAgg rfl rfl rfl egH (fun w => eqH (Sg.hr _) (Sg.hr _) (Sg.hp _) (Sg.hp _) w) rfl) ?_
                          refine LQ_nil ?_
                          change J _ _ _ _
                          refine J_cond rfl (fun h13 => ?_) (fun h13 => ?_)
                          ·
                            first | (have h13 := of_decide_eq_true h13) | (have h13 := of_decide_eq_false h13) | skip
                            have hj1 : hdEq (l.getD (j - 1) s0) (m.getD (j - 1) s0) := h13
                            refine J_exit ?_
                            change J _ _ _ _
                            refine J_region ?_
                            refine L_v rfl rfl rfl (V_move rfl rfl) ?_
                            refine L_v rfl rfl rfl (V_sub rfl rfl rfl (Go.IntWalk.i64_in _ (by omega))) ?_
                            refine L_v rfl rfl rfl (V_assign rfl rfl) ?_
                            refine L_nil ?_
                            exact ⟨j - 1, ⟨by omega, hj1⟩, by omega, ⟨rfl, rfl, rfl, rfl, (congrArg (fun z => some (Value.int .i64 z)) (by omega)), trivial⟩, List.nil_sublist _, fun f hf => hf, rfl⟩
                          ·
                            first | (have h13 := of_decide_eq_true h13) | (have h13 := of_decide_eq_false h13) | skip
                            have hdd : dgP (l.getD (j - 1) s0) = dgP (m.getD (j - 1) s0) := chain_dg h0 h0m (k := j - 1) (by omega) (by omega) (by rw [show j - 1 + 1 = j by omega]; exact hh)
                            refine J_skip ?_
                            change J _ _ _ _
                            refine J_seq ?_
                            refine J_region ?_
                            refine L_v rfl rfl rfl (V_move rfl rfl) ?_
                            refine L_v rfl rfl rfl (V_move rfl rfl) ?_
                            refine L_v rfl rfl rfl (V_indexC rfl rfl rfl Tryd.underlying44 sz36e (fun w hw => SlC.later hw rfl hu) (by omega) (by omega)) ?_
                            refine L_v rfl rfl rfl (V_fieldC rfl rfl (fun w hw => (let ⟨b, o, e, _⟩ := SlC.cell (SlC.later hw rfl hu) (show (sgs l)[((j : Int) - 1).toNat * (96 + 1)]? = some (.int .i64 (l.getD (j - 1) s0).e) from by rw [show ((j : Int) - 1).toNat = ((j - 1 : Nat) : Int).toNat by omega]; exact sgs_e (by omega)); ⟨b, o, e⟩)) Tryd.underlying36 rfl sz25e rfl) ?_
                            refine L_v rfl rfl rfl (V_loadCN (vs := hdL (l.getD (j - 1) s0).e (l.getD (j - 1) s0).r (l.getD (j - 1) s0).p) rfl rfl Tryd.underlying25 rfl (szd sz25e (by first | exact hdL_len (by first | assumption | exact shaP_len _ | exact sgn_len _ _ _ _ | exact macP_len _ _ | exact zd_length | exact Sg.hr _ | exact Sg.hp _ | exact Sg.hg _ | exact prevAt_len _ _ | rfl) (by first | assumption | exact shaP_len _ | exact sgn_len _ _ _ _ | exact macP_len _ _ | exact zd_length | exact Sg.hr _ | exact Sg.hp _ | exact Sg.hg _ | exact prevAt_len _ _ | rfl) | (rw [hdL_len (by first | assumption | exact shaP_len _ | exact sgn_len _ _ _ _ | exact macP_len _ _ | exact zd_length | exact Sg.hr _ | exact Sg.hp _ | exact Sg.hg _ | exact prevAt_len _ _ | rfl) (by first | assumption | exact shaP_len _ | exact sgn_len _ _ _ _ | exact macP_len _ _ | exact zd_length | exact Sg.hr _ | exact Sg.hp _ | exact Sg.hg _ | exact prevAt_len _ _ | rfl), hdL_len (by first | assumption | exact shaP_len _ | exact sgn_len _ _ _ _ | exact macP_len _ _ | exact zd_length | exact Sg.hr _ | exact Sg.hp _ | exact Sg.hg _ | exact prevAt_len _ _ | rfl) (by first | assumption | exact shaP_len _ | exact sgn_len _ _ _ _ | exact macP_len _ _ | exact zd_length | exact Sg.hr _ | exact Sg.hp _ | exact Sg.hg _ | exact prevAt_len _ _ | rfl)]))) (fun w hw => SlC.later hw rfl hu) (Nat.zero_lt_succ _) (by rw [show ((j : Int) - 1).toNat = ((j - 1 : Nat) : Int).toNat by omega]; exact sgs_h (by omega))) ?_
                            refine L_callV rfl rfl rfl rfl rfl rfl tx11e (fun w1 hw => hdig_ok (l.getD (j - 1) s0).e (l.getD (j - 1) s0).r (l.getD (j - 1) s0).p w1 (l.getD (j - 1) s0).hr (l.getD (j - 1) s0).hp (l.getD (j - 1) s0).hrb (l.getD (j - 1) s0).hpb (chain_okE h0 (k := j - 1) (by omega)) (TabK.later hw (by simp) hK)) ?_
                            refine L_v rfl rfl rfl (V_move rfl rfl) ?_
                            refine L_v rfl rfl rfl (V_extract rfl rfl rfl) ?_
                            refine L_v rfl rfl rfl (V_extract rfl rfl rfl) ?_
                            refine L_alloc rfl rfl rfl rfl z23e (fun b0 => ?_)
                            refine L_storeW 0 rfl rfl rfl rfl rfl rfl (szd sz23e (by first | (rw [dg_length]; exact (by first | assumption | exact shaP_len _ | exact sgn_len _ _ _ _ | exact macP_len _ _ | exact zd_length | exact Sg.hr _ | exact Sg.hp _ | exact Sg.hg _ | exact prevAt_len _ _ | rfl)) | exact (rfl : (dg zd).length = (dg zd).length) | (rw [dg_length, dg_length, show zd.length = 32 from rfl]; exact Eq.symm (by first | assumption | exact shaP_len _ | exact sgn_len _ _ _ _ | exact macP_len _ _ | exact zd_length | exact Sg.hr _ | exact Sg.hp _ | exact Sg.hg _ | exact prevAt_len _ _ | rfl)) | (rw [dg_length, dg_length, prevAt_len, shaP_len]))) (by first | exact sgL_one _ _ _ _ | exact hd_one _ _ _ | exact lkL_one _ _ | exact dg_one _) (by first | (rw [dg_length]; exact (by first | assumption | exact shaP_len _ | exact sgn_len _ _ _ _ | exact macP_len _ _ | exact zd_length | exact Sg.hr _ | exact Sg.hp _ | exact Sg.hg _ | exact prevAt_len _ _ | rfl)) | exact (rfl : (dg zd).length = (dg zd).length) | (rw [dg_length, dg_length, show zd.length = 32 from rfl]; exact Eq.symm (by first | assumption | exact shaP_len _ | exact sgn_len _ _ _ _ | exact macP_len _ _ | exact zd_length | exact Sg.hr _ | exact Sg.hp _ | exact Sg.hg _ | exact prevAt_len _ _ | rfl)) | (rw [dg_length, dg_length, prevAt_len, shaP_len])) ?_
                            refine L_v rfl rfl rfl (V_assign rfl rfl) ?_
                            refine L_nil ?_
                            change J _ _ _ _
                            refine J_seq ?_
                            refine J_region ?_
                            refine L_v rfl rfl rfl (V_move rfl rfl) ?_
                            refine L_v rfl rfl rfl (V_move rfl rfl) ?_
                            refine L_v rfl rfl rfl (V_indexC rfl rfl rfl Tryd.underlying44 sz36e (fun w hw => SlC.later hw rfl hu2) (by omega) (by omega)) ?_
                            refine L_v rfl rfl rfl (V_fieldC rfl rfl (fun w hw => (let ⟨b, o, e, _⟩ := SlC.cell (SlC.later hw rfl hu2) (show (sgs m)[((j : Int) - 1).toNat * (96 + 1)]? = some (.int .i64 (m.getD (j - 1) s0).e) from by rw [show ((j : Int) - 1).toNat = ((j - 1 : Nat) : Int).toNat by omega]; exact sgs_e (by omega)); ⟨b, o, e⟩)) Tryd.underlying36 rfl sz25e rfl) ?_
                            refine L_v rfl rfl rfl (V_loadCN (vs := hdL (m.getD (j - 1) s0).e (m.getD (j - 1) s0).r (m.getD (j - 1) s0).p) rfl rfl Tryd.underlying25 rfl (szd sz25e (by first | exact hdL_len (by first | assumption | exact shaP_len _ | exact sgn_len _ _ _ _ | exact macP_len _ _ | exact zd_length | exact Sg.hr _ | exact Sg.hp _ | exact Sg.hg _ | exact prevAt_len _ _ | rfl) (by first | assumption | exact shaP_len _ | exact sgn_len _ _ _ _ | exact macP_len _ _ | exact zd_length | exact Sg.hr _ | exact Sg.hp _ | exact Sg.hg _ | exact prevAt_len _ _ | rfl) | (rw [hdL_len (by first | assumption | exact shaP_len _ | exact sgn_len _ _ _ _ | exact macP_len _ _ | exact zd_length | exact Sg.hr _ | exact Sg.hp _ | exact Sg.hg _ | exact prevAt_len _ _ | rfl) (by first | assumption | exact shaP_len _ | exact sgn_len _ _ _ _ | exact macP_len _ _ | exact zd_length | exact Sg.hr _ | exact Sg.hp _ | exact Sg.hg _ | exact prevAt_len _ _ | rfl), hdL_len (by first | assumption | exact shaP_len _ | exact sgn_len _ _ _ _ | exact macP_len _ _ | exact zd_length | exact Sg.hr _ | exact Sg.hp _ | exact Sg.hg _ | exact prevAt_len _ _ | rfl) (by first | assumption | exact shaP_len _ | exact sgn_len _ _ _ _ | exact macP_len _ _ | exact zd_length | exact Sg.hr _ | exact Sg.hp _ | exact Sg.hg _ | exact prevAt_len _ _ | rfl)]))) (fun w hw => SlC.later hw rfl hu2) (Nat.zero_lt_succ _) (by rw [show ((j : Int) - 1).toNat = ((j - 1 : Nat) : Int).toNat by omega]; exact sgs_h (by omega))) ?_
                            refine L_callV rfl rfl rfl rfl rfl rfl tx11e (fun w1 hw => hdig_ok (m.getD (j - 1) s0).e (m.getD (j - 1) s0).r (m.getD (j - 1) s0).p w1 (m.getD (j - 1) s0).hr (m.getD (j - 1) s0).hp (m.getD (j - 1) s0).hrb (m.getD (j - 1) s0).hpb (chain_okE h0m (k := j - 1) (by omega)) (TabK.later hw (by simp) hK)) ?_
                            refine L_v rfl rfl rfl (V_move rfl rfl) ?_
                            refine L_v rfl rfl rfl (V_extract rfl rfl rfl) ?_
                            refine L_v rfl rfl rfl (V_extract rfl rfl rfl) ?_
                            refine L_alloc rfl rfl rfl rfl z23e (fun b1 => ?_)
                            refine L_storeW 1 rfl rfl rfl rfl rfl rfl (szd sz23e (by first | (rw [dg_length]; exact (by first | assumption | exact shaP_len _ | exact sgn_len _ _ _ _ | exact macP_len _ _ | exact zd_length | exact Sg.hr _ | exact Sg.hp _ | exact Sg.hg _ | exact prevAt_len _ _ | rfl)) | exact (rfl : (dg zd).length = (dg zd).length) | (rw [dg_length, dg_length, show zd.length = 32 from rfl]; exact Eq.symm (by first | assumption | exact shaP_len _ | exact sgn_len _ _ _ _ | exact macP_len _ _ | exact zd_length | exact Sg.hr _ | exact Sg.hp _ | exact Sg.hg _ | exact prevAt_len _ _ | rfl)) | (rw [dg_length, dg_length, prevAt_len, shaP_len]))) (by first | exact sgL_one _ _ _ _ | exact hd_one _ _ _ | exact lkL_one _ _ | exact dg_one _) (by first | (rw [dg_length]; exact (by first | assumption | exact shaP_len _ | exact sgn_len _ _ _ _ | exact macP_len _ _ | exact zd_length | exact Sg.hr _ | exact Sg.hp _ | exact Sg.hg _ | exact prevAt_len _ _ | rfl)) | exact (rfl : (dg zd).length = (dg zd).length) | (rw [dg_length, dg_length, show zd.length = 32 from rfl]; exact Eq.symm (by first | assumption | exact shaP_len _ | exact sgn_len _ _ _ _ | exact macP_len _ _ | exact zd_length | exact Sg.hr _ | exact Sg.hp _ | exact Sg.hg _ | exact prevAt_len _ _ | rfl)) | (rw [dg_length, dg_length, prevAt_len, shaP_len])) ?_
                            refine L_v rfl rfl rfl (V_assign rfl rfl) ?_
                            refine L_nil ?_
                            change J _ _ _ _
                            refine J_seq ?_
                            refine J_region ?_
                            refine L_callV rfl rfl rfl rfl rfl rfl tx21e (fun w1 hw => chains_w w1 (TabK.later hw (by simp) hK)) ?_
                            refine L_v rfl rfl rfl (V_move rfl rfl) ?_
                            refine L_wcallV rfl rfl rfl rfl rfl rfl rfl rfl rfl tx16e (fun w1 hw => signs_w w1 (TabK.later hw (by simp) hK)) ?_
                            first | refine L_v rfl rfl rfl (V_pickT rfl rfl rfl) ?_ | refine L_v rfl rfl rfl (V_pickF rfl rfl rfl) ?_
                            refine L_v rfl rfl rfl (V_move rfl rfl) ?_
                            refine L_wv rfl rfl rfl rfl rfl rfl (V_move rfl rfl) ?_
                            refine L_wv rfl rfl rfl rfl rfl rfl (V_eql rfl rfl rfl (by first | exact decide_eq_true (by omega) | exact decide_eq_false (by omega) | rfl)) ?_
                            first | refine L_v rfl rfl rfl (V_pickT rfl rfl rfl) ?_ | refine L_v rfl rfl rfl (V_pickF rfl rfl rfl) ?_
                            refine L_v rfl rfl rfl (V_move rfl rfl) ?_
                            refine L_wv rfl rfl rfl rfl rfl rfl (V_move rfl rfl) ?_
                            refine L_wv rfl rfl rfl rfl rfl rfl (V_eql rfl rfl rfl (by first | exact decide_eq_true (by omega) | exact decide_eq_false (by omega) | rfl)) ?_
                            first | refine L_v rfl rfl rfl (V_pickT rfl rfl rfl) ?_ | refine L_v rfl rfl rfl (V_pickF rfl rfl rfl) ?_
                            refine L_v rfl rfl rfl (V_move rfl rfl) ?_
                            refine L_wv rfl rfl rfl rfl rfl rfl (V_loadW 0 rfl rfl rfl Tryd.underlying23 rfl (szd sz23e (by first | (rw [dg_length]; exact (by first | assumption | exact shaP_len _ | exact sgn_len _ _ _ _ | exact macP_len _ _ | exact zd_length | exact Sg.hr _ | exact Sg.hp _ | exact Sg.hg _ | exact prevAt_len _ _ | rfl)) | exact (rfl : (dg zd).length = (dg zd).length) | (rw [dg_length, dg_length, show zd.length = 32 from rfl]; exact Eq.symm (by first | assumption | exact shaP_len _ | exact sgn_len _ _ _ _ | exact macP_len _ _ | exact zd_length | exact Sg.hr _ | exact Sg.hp _ | exact Sg.hg _ | exact prevAt_len _ _ | rfl)) | (rw [dg_length, dg_length, prevAt_len, shaP_len])))) ?_
                            refine L_wv rfl rfl rfl rfl rfl rfl (V_loadW 1 rfl rfl rfl Tryd.underlying23 rfl (szd sz23e (by first | (rw [dg_length]; exact (by first | assumption | exact shaP_len _ | exact sgn_len _ _ _ _ | exact macP_len _ _ | exact zd_length | exact Sg.hr _ | exact Sg.hp _ | exact Sg.hg _ | exact prevAt_len _ _ | rfl)) | exact (rfl : (dg zd).length = (dg zd).length) | (rw [dg_length, dg_length, show zd.length = 32 from rfl]; exact Eq.symm (by first | assumption | exact shaP_len _ | exact sgn_len _ _ _ _ | exact macP_len _ _ | exact zd_length | exact Sg.hr _ | exact Sg.hp _ | exact Sg.hg _ | exact prevAt_len _ _ | rfl)) | (rw [dg_length, dg_length, prevAt_len, shaP_len])))) ?_
                            refine L_wv rfl rfl rfl rfl rfl rfl (V_eqD rfl rfl rfl egD9 Tryd.underlying23 Tryd.underlying5 sz5e (shaP_len _) (shaP_len _) (decide_eq_true hdd)) ?_
                            first | refine L_v rfl rfl rfl (V_pickT rfl rfl rfl) ?_ | refine L_v rfl rfl rfl (V_pickF rfl rfl rfl) ?_
                            refine L_v rfl rfl rfl (V_assign rfl rfl) ?_
                            refine L_nil ?_
                            change J _ _ _ _
                            refine J_ret ?_
                            change Kret _ _ _ Exit.ret _
                            refine ret1 rfl rfl (RV_t rfl) ?_
                            exact fun w' h => ⟨rfl, h.fr⟩
                        ·
                          first | (have h12 := of_decide_eq_true h12) | (have h12 := of_decide_eq_false h12) | skip
                          refine J_exit ?_
                          change J _ _ _ _
                          refine J_seq ?_
                          refine J_region ?_
                          refine L_callV rfl rfl rfl rfl rfl rfl tx21e (fun w1 hw => chains_w w1 (TabK.later hw (by simp) hK)) ?_
                          refine L_v rfl rfl rfl (V_move rfl rfl) ?_
                          refine L_wcallV rfl rfl rfl rfl rfl rfl rfl rfl rfl tx16e (fun w1 hw => signs_w w1 (TabK.later hw (by simp) hK)) ?_
                          first | refine L_v rfl rfl rfl (V_pickT rfl rfl rfl) ?_ | refine L_v rfl rfl rfl (V_pickF rfl rfl rfl) ?_
                          refine L_v rfl rfl rfl (V_assign rfl rfl) ?_
                          refine L_nil ?_
                          change J _ _ _ _
                          refine J_ret ?_
                          change Kret _ _ _ Exit.ret _
                          refine ret1 rfl rfl (RV_t rfl) ?_
                          exact fun w' h => ⟨rfl, h.fr⟩
              ·
                first | (have h7 := of_decide_eq_true h7) | (have h7 := of_decide_eq_false h7) | skip
                refine L_skip rfl rfl rfl rfl rfl rfl rfl ?_
                refine L_skip rfl rfl rfl rfl rfl rfl rfl ?_
                refine L_skip rfl rfl rfl rfl rfl rfl rfl ?_
                refine L_skip rfl rfl rfl rfl rfl rfl rfl ?_
                refine L_skip rfl rfl rfl rfl rfl rfl rfl ?_
                refine L_skip rfl rfl rfl rfl rfl rfl rfl ?_
                first | refine L_v rfl rfl rfl (V_pickT rfl rfl rfl) ?_ | refine L_v rfl rfl rfl (V_pickF rfl rfl rfl) ?_
                refine L_nil ?_
                change J _ _ _ _
                refine J_false rfl ?_
                refine J_skip ?_
                change J _ _ _ _
                refine J_seq ?_
                refine J_seq ?_
                refine J_regionO (.pure 0 (.pure 1 (.one 2 (.pure 3 (.pure 4 (.pure 5 (.pure 6 (.pure 7 (.pure 8 (.pure 9 (.pure 10 (.pure 11 (.pure 12 (.pure 13 (.pure 14 (.pure 15 (.pure 16 (.pure 17 (.pure 18 (.pure 19 (.pure 20 (.pure 21 (.pure 22 (.pure 23 (.pure 24 (.pure 25 (.pure 26 (.pure 27 (.pure 28 (.pure 29 (.pure 30 (.pure 31 (.pure 32 (.nil)))))))))))))))))))))))))))))))))) _ _ (Pk.refl _) (fun f hf => hf) rfl rfl (by kernel_rfl) ?_
                refine LO_v rfl rfl rfl rfl (V_move rfl rfl) ?_
                refine LO_v rfl rfl rfl rfl (V_move rfl rfl) ?_
                refine LO_callV rfl rfl rfl rfl rfl rfl rfl rfl tx20e (fun w1 hw => chain_w s2 a2 n2 c2 m w1 hm (SlC.later hw rfl hu2) (by omega) (TabK.later hw (by simp) hK)) (Pk.refl _) (fun f hf => hf) ?_
                refine LO_v rfl rfl rfl rfl (V_neq rfl rfl rfl (by first | exact decide_eq_true (by omega) | exact decide_eq_false (by omega) | rfl)) ?_
                refine LO_v rfl rfl rfl rfl (V_move rfl rfl) ?_
                refine LO_split 62 rfl (fun h8 => ?_) (fun h8 => ?_)
                ·
                  first | (have h8 := of_decide_eq_true h8) | (have h8 := of_decide_eq_false h8) | skip
                  refine LO_skip rfl rfl rfl rfl rfl rfl rfl rfl ?_
                  refine LO_skip rfl rfl rfl rfl rfl rfl rfl rfl ?_
                  refine LO_skip rfl rfl rfl rfl rfl rfl rfl rfl ?_
                  refine LO_skip rfl rfl rfl rfl rfl rfl rfl rfl ?_
                  refine LO_skip rfl rfl rfl rfl rfl rfl rfl rfl ?_
                  first | refine LO_v rfl rfl rfl rfl (V_pickT rfl rfl rfl) ?_ | refine LO_v rfl rfl rfl rfl (V_pickF rfl rfl rfl) ?_
                  refine LO_v rfl rfl rfl rfl (V_move rfl rfl) ?_
                  refine LO_skip rfl rfl rfl rfl rfl rfl rfl rfl ?_
                  refine LO_skip rfl rfl rfl rfl rfl rfl rfl rfl ?_
                  refine LO_skip rfl rfl rfl rfl rfl rfl rfl rfl ?_
                  first | refine LO_v rfl rfl rfl rfl (V_pickT rfl rfl rfl) ?_ | refine LO_v rfl rfl rfl rfl (V_pickF rfl rfl rfl) ?_
                  refine LO_v rfl rfl rfl rfl (V_move rfl rfl) ?_
                  refine LO_skip rfl rfl rfl rfl rfl rfl rfl rfl ?_
                  refine LO_skip rfl rfl rfl rfl rfl rfl rfl rfl ?_
                  refine LO_skip rfl rfl rfl rfl rfl rfl rfl rfl ?_
                  refine LO_skip rfl rfl rfl rfl rfl rfl rfl rfl ?_
                  refine LO_skip rfl rfl rfl rfl rfl rfl rfl rfl ?_
                  refine LO_skip rfl rfl rfl rfl rfl rfl rfl rfl ?_
                  refine LO_skip rfl rfl rfl rfl rfl rfl rfl rfl ?_
                  refine LO_skip rfl rfl rfl rfl rfl rfl rfl rfl ?_
                  refine LO_skip rfl rfl rfl rfl rfl rfl rfl rfl ?_
                  refine LO_skip rfl rfl rfl rfl rfl rfl rfl rfl ?_
                  refine LO_skip rfl rfl rfl rfl rfl rfl rfl rfl ?_
                  refine LO_skip rfl rfl rfl rfl rfl rfl rfl rfl ?_
                  refine LO_skip rfl rfl rfl rfl rfl rfl rfl rfl ?_
                  refine LO_skip rfl rfl rfl rfl rfl rfl rfl rfl ?_
                  refine LO_skip rfl rfl rfl rfl rfl rfl rfl rfl ?_
                  first | refine LO_v rfl rfl rfl rfl (V_pickT rfl rfl rfl) ?_ | refine LO_v rfl rfl rfl rfl (V_pickF rfl rfl rfl) ?_
                  refine LO_nil ?_
                  change J _ _ _ _
                  refine J_true rfl ?_
                  refine J_seq ?_
                  refine J_region ?_
                  refine L_callV rfl rfl rfl rfl rfl rfl tx21e (fun w1 hw => chains_w w1 (TabK.later hw (by simp) hK)) ?_
                  refine L_v rfl rfl rfl (V_move rfl rfl) ?_
                  refine L_wcallV rfl rfl rfl rfl rfl rfl rfl rfl rfl tx16e (fun w1 hw => signs_w w1 (TabK.later hw (by simp) hK)) ?_
                  first | refine L_v rfl rfl rfl (V_pickT rfl rfl rfl) ?_ | refine L_v rfl rfl rfl (V_pickF rfl rfl rfl) ?_
                  refine L_v rfl rfl rfl (V_assign rfl rfl) ?_
                  refine L_nil ?_
                  change J _ _ _ _
                  refine J_ret ?_
                  change Kret _ _ _ Exit.ret _
                  refine ret1 rfl rfl (RV_t rfl) ?_
                  exact fun w' h => ⟨rfl, h.fr⟩
                ·
                  first | (have h8 := of_decide_eq_true h8) | (have h8 := of_decide_eq_false h8) | skip
                  have h0m : chainP s2 m = 0 := Classical.not_not.1 h8
                  refine LO_wv rfl rfl rfl rfl rfl rfl rfl (V_move rfl rfl) ?_
                  refine LO_wv rfl rfl rfl rfl rfl rfl rfl (V_len rfl rfl Tryd.underlying44 rfl) ?_
                  refine LO_wv rfl rfl rfl rfl rfl rfl rfl (V_move rfl rfl) ?_
                  refine LO_wv rfl rfl rfl rfl rfl rfl rfl (V_len rfl rfl Tryd.underlying44 rfl) ?_
                  refine LO_wv rfl rfl rfl rfl rfl rfl rfl (V_neq rfl rfl rfl (by first | exact decide_eq_true (by omega) | exact decide_eq_false (by omega) | rfl)) ?_
                  first | refine LO_v rfl rfl rfl rfl (V_pickT rfl rfl rfl) ?_ | refine LO_v rfl rfl rfl rfl (V_pickF rfl rfl rfl) ?_
                  refine LO_v rfl rfl rfl rfl (V_move rfl rfl) ?_
                  refine LO_split 69 rfl (fun h9 => ?_) (fun h9 => ?_)
                  ·
                    first | (have h9 := of_decide_eq_true h9) | (have h9 := of_decide_eq_false h9) | skip
                    refine LO_skip rfl rfl rfl rfl rfl rfl rfl rfl ?_
                    refine LO_skip rfl rfl rfl rfl rfl rfl rfl rfl ?_
                    refine LO_skip rfl rfl rfl rfl rfl rfl rfl rfl ?_
                    first | refine LO_v rfl rfl rfl rfl (V_pickT rfl rfl rfl) ?_ | refine LO_v rfl rfl rfl rfl (V_pickF rfl rfl rfl) ?_
                    refine LO_v rfl rfl rfl rfl (V_move rfl rfl) ?_
                    refine LO_skip rfl rfl rfl rfl rfl rfl rfl rfl ?_
                    refine LO_skip rfl rfl rfl rfl rfl rfl rfl rfl ?_
                    refine LO_skip rfl rfl rfl rfl rfl rfl rfl rfl ?_
                    refine LO_skip rfl rfl rfl rfl rfl rfl rfl rfl ?_
                    refine LO_skip rfl rfl rfl rfl rfl rfl rfl rfl ?_
                    refine LO_skip rfl rfl rfl rfl rfl rfl rfl rfl ?_
                    refine LO_skip rfl rfl rfl rfl rfl rfl rfl rfl ?_
                    refine LO_skip rfl rfl rfl rfl rfl rfl rfl rfl ?_
                    refine LO_skip rfl rfl rfl rfl rfl rfl rfl rfl ?_
                    refine LO_skip rfl rfl rfl rfl rfl rfl rfl rfl ?_
                    refine LO_skip rfl rfl rfl rfl rfl rfl rfl rfl ?_
                    refine LO_skip rfl rfl rfl rfl rfl rfl rfl rfl ?_
                    refine LO_skip rfl rfl rfl rfl rfl rfl rfl rfl ?_
                    refine LO_skip rfl rfl rfl rfl rfl rfl rfl rfl ?_
                    refine LO_skip rfl rfl rfl rfl rfl rfl rfl rfl ?_
                    first | refine LO_v rfl rfl rfl rfl (V_pickT rfl rfl rfl) ?_ | refine LO_v rfl rfl rfl rfl (V_pickF rfl rfl rfl) ?_
                    refine LO_nil ?_
                    change J _ _ _ _
                    refine J_true rfl ?_
                    refine J_seq ?_
                    refine J_region ?_
                    refine L_callV rfl rfl rfl rfl rfl rfl tx21e (fun w1 hw => chains_w w1 (TabK.later hw (by simp) hK)) ?_
                    refine L_v rfl rfl rfl (V_move rfl rfl) ?_
                    refine L_wcallV rfl rfl rfl rfl rfl rfl rfl rfl rfl tx16e (fun w1 hw => signs_w w1 (TabK.later hw (by simp) hK)) ?_
                    first | refine L_v rfl rfl rfl (V_pickT rfl rfl rfl) ?_ | refine L_v rfl rfl rfl (V_pickF rfl rfl rfl) ?_
                    refine L_v rfl rfl rfl (V_assign rfl rfl) ?_
                    refine L_nil ?_
                    change J _ _ _ _
                    refine J_ret ?_
                    change Kret _ _ _ Exit.ret _
                    refine ret1 rfl rfl (RV_t rfl) ?_
                    exact fun w' h => ⟨rfl, h.fr⟩
                  ·
                    first | (have h9 := of_decide_eq_true h9) | (have h9 := of_decide_eq_false h9) | skip
                    refine LO_wv rfl rfl rfl rfl rfl rfl rfl (V_move rfl rfl) ?_
                    refine LO_wv rfl rfl rfl rfl rfl rfl rfl (V_len rfl rfl Tryd.underlying44 rfl) ?_
                    refine LO_wv rfl rfl rfl rfl rfl rfl rfl (V_eql rfl rfl rfl (by first | exact decide_eq_true (by omega) | exact decide_eq_false (by omega) | rfl)) ?_
                    first | refine LO_v rfl rfl rfl rfl (V_pickT rfl rfl rfl) ?_ | refine LO_v rfl rfl rfl rfl (V_pickF rfl rfl rfl) ?_
                    refine LO_v rfl rfl rfl rfl (V_move rfl rfl) ?_
                    refine LO_split 74 rfl (fun h10 => ?_) (fun h10 => ?_)
                    ·
                      first | (have h10 := of_decide_eq_true h10) | (have h10 := of_decide_eq_false h10) | skip
                      refine LO_skip rfl rfl rfl rfl rfl rfl rfl rfl ?_
                      refine LO_skip rfl rfl rfl rfl rfl rfl rfl rfl ?_
                      refine LO_skip rfl rfl rfl rfl rfl rfl rfl rfl ?_
                      refine LO_skip rfl rfl rfl rfl rfl rfl rfl rfl ?_
                      refine LO_skip rfl rfl rfl rfl rfl rfl rfl rfl ?_
                      refine LO_skip rfl rfl rfl rfl rfl rfl rfl rfl ?_
                      refine LO_skip rfl rfl rfl rfl rfl rfl rfl rfl ?_
                      refine LO_skip rfl rfl rfl rfl rfl rfl rfl rfl ?_
                      refine LO_skip rfl rfl rfl rfl rfl rfl rfl rfl ?_
                      refine LO_skip rfl rfl rfl rfl rfl rfl rfl rfl ?_
                      refine LO_skip rfl rfl rfl rfl rfl rfl rfl rfl ?_
                      refine LO_skip rfl rfl rfl rfl rfl rfl rfl rfl ?_
                      refine LO_skip rfl rfl rfl rfl rfl rfl rfl rfl ?_
                      refine LO_skip rfl rfl rfl rfl rfl rfl rfl rfl ?_
                      refine LO_skip rfl rfl rfl rfl rfl rfl rfl rfl ?_
                      first | refine LO_v rfl rfl rfl rfl (V_pickT rfl rfl rfl) ?_ | refine LO_v rfl rfl rfl rfl (V_pickF rfl rfl rfl) ?_
                      refine LO_nil ?_
                      change J _ _ _ _
                      refine J_true rfl ?_
                      refine J_seq ?_
                      refine J_region ?_
                      refine L_callV rfl rfl rfl rfl rfl rfl tx21e (fun w1 hw => chains_w w1 (TabK.later hw (by simp) hK)) ?_
                      refine L_v rfl rfl rfl (V_move rfl rfl) ?_
                      refine L_wcallV rfl rfl rfl rfl rfl rfl rfl rfl rfl tx16e (fun w1 hw => signs_w w1 (TabK.later hw (by simp) hK)) ?_
                      first | refine L_v rfl rfl rfl (V_pickT rfl rfl rfl) ?_ | refine L_v rfl rfl rfl (V_pickF rfl rfl rfl) ?_
                      refine L_v rfl rfl rfl (V_assign rfl rfl) ?_
                      refine L_nil ?_
                      change J _ _ _ _
                      refine J_ret ?_
                      change Kret _ _ _ Exit.ret _
                      refine ret1 rfl rfl (RV_t rfl) ?_
                      exact fun w' h => ⟨rfl, h.fr⟩
                    ·
                      first | (have h10 := of_decide_eq_true h10) | (have h10 := of_decide_eq_false h10) | skip
                      refine LO_wv rfl rfl rfl rfl rfl rfl rfl (V_move rfl rfl) ?_
                      refine LO_wv rfl rfl rfl rfl rfl rfl rfl (V_move rfl rfl) ?_
                      refine LO_wv rfl rfl rfl rfl rfl rfl rfl (V_len rfl rfl Tryd.underlying44 rfl) ?_
                      refine LO_wv rfl rfl rfl rfl rfl rfl rfl (V_sub (r := (n : Int) - 1) rfl rfl rfl (by rw [Go.IntWalk.i64_in _ (by omega)])) ?_
                      refine LO_wv rfl rfl rfl rfl rfl rfl rfl (V_indexC rfl rfl rfl Tryd.underlying44 sz36e (fun w hw => SlC.later hw rfl hu) (by omega) (by omega)) ?_
                      refine LO_wv rfl rfl rfl rfl rfl rfl rfl (V_fieldC rfl rfl (fun w hw => (let ⟨b, o, e, _⟩ := SlC.cell (SlC.later hw rfl hu) (show (sgs l)[((n : Int) - 1).toNat * (96 + 1)]? = some (.int .i64 (l.getD (n - 1) s0).e) from by rw [show ((n : Int) - 1).toNat = ((n - 1 : Nat) : Int).toNat by omega]; exact sgs_e (by omega)); ⟨b, o, e⟩)) Tryd.underlying36 rfl sz25e rfl) ?_
                      refine LO_wv rfl rfl rfl rfl rfl rfl rfl (V_loadCN (vs := hdL (l.getD (n - 1) s0).e (l.getD (n - 1) s0).r (l.getD (n - 1) s0).p) rfl rfl Tryd.underlying25 rfl (szd sz25e (by first | exact hdL_len (by first | assumption | exact shaP_len _ | exact sgn_len _ _ _ _ | exact macP_len _ _ | exact zd_length | exact Sg.hr _ | exact Sg.hp _ | exact Sg.hg _ | exact prevAt_len _ _ | rfl) (by first | assumption | exact shaP_len _ | exact sgn_len _ _ _ _ | exact macP_len _ _ | exact zd_length | exact Sg.hr _ | exact Sg.hp _ | exact Sg.hg _ | exact prevAt_len _ _ | rfl) | (rw [hdL_len (by first | assumption | exact shaP_len _ | exact sgn_len _ _ _ _ | exact macP_len _ _ | exact zd_length | exact Sg.hr _ | exact Sg.hp _ | exact Sg.hg _ | exact prevAt_len _ _ | rfl) (by first | assumption | exact shaP_len _ | exact sgn_len _ _ _ _ | exact macP_len _ _ | exact zd_length | exact Sg.hr _ | exact Sg.hp _ | exact Sg.hg _ | exact prevAt_len _ _ | rfl), hdL_len (by first | assumption | exact shaP_len _ | exact sgn_len _ _ _ _ | exact macP_len _ _ | exact zd_length | exact Sg.hr _ | exact Sg.hp _ | exact Sg.hg _ | exact prevAt_len _ _ | rfl) (by first | assumption | exact shaP_len _ | exact sgn_len _ _ _ _ | exact macP_len _ _ | exact zd_length | exact Sg.hr _ | exact Sg.hp _ | exact Sg.hg _ | exact prevAt_len _ _ | rfl)]))) (fun w hw => SlC.later hw rfl hu) (Nat.zero_lt_succ _) (by rw [show ((n : Int) - 1).toNat = ((n - 1 : Nat) : Int).toNat by omega]; exact sgs_h (by omega))) ?_
                      refine LO_wv rfl rfl rfl rfl rfl rfl rfl (V_move rfl rfl) ?_
                      refine LO_wv rfl rfl rfl rfl rfl rfl rfl (V_move rfl rfl) ?_
                      refine LO_wv rfl rfl rfl rfl rfl rfl rfl (V_len rfl rfl Tryd.underlying44 rfl) ?_
                      refine LO_wv rfl rfl rfl rfl rfl rfl rfl (V_sub (r := (n : Int) - 1) rfl rfl rfl (by rw [Go.IntWalk.i64_in _ (by omega)])) ?_
                      refine LO_wv rfl rfl rfl rfl rfl rfl rfl (V_indexC rfl rfl rfl Tryd.underlying44 sz36e (fun w hw => SlC.later hw rfl hu2) (by omega) (by omega)) ?_
                      refine LO_wv rfl rfl rfl rfl rfl rfl rfl (V_fieldC rfl rfl (fun w hw => (let ⟨b, o, e, _⟩ := SlC.cell (SlC.later hw rfl hu2) (show (sgs m)[((n : Int) - 1).toNat * (96 + 1)]? = some (.int .i64 (m.getD (n - 1) s0).e) from by rw [show ((n : Int) - 1).toNat = ((n - 1 : Nat) : Int).toNat by omega]; exact sgs_e (by omega)); ⟨b, o, e⟩)) Tryd.underlying36 rfl sz25e rfl) ?_
                      refine LO_wv rfl rfl rfl rfl rfl rfl rfl (V_loadCN (vs := hdL (m.getD (n - 1) s0).e (m.getD (n - 1) s0).r (m.getD (n - 1) s0).p) rfl rfl Tryd.underlying25 rfl (szd sz25e (by first | exact hdL_len (by first | assumption | exact shaP_len _ | exact sgn_len _ _ _ _ | exact macP_len _ _ | exact zd_length | exact Sg.hr _ | exact Sg.hp _ | exact Sg.hg _ | exact prevAt_len _ _ | rfl) (by first | assumption | exact shaP_len _ | exact sgn_len _ _ _ _ | exact macP_len _ _ | exact zd_length | exact Sg.hr _ | exact Sg.hp _ | exact Sg.hg _ | exact prevAt_len _ _ | rfl) | (rw [hdL_len (by first | assumption | exact shaP_len _ | exact sgn_len _ _ _ _ | exact macP_len _ _ | exact zd_length | exact Sg.hr _ | exact Sg.hp _ | exact Sg.hg _ | exact prevAt_len _ _ | rfl) (by first | assumption | exact shaP_len _ | exact sgn_len _ _ _ _ | exact macP_len _ _ | exact zd_length | exact Sg.hr _ | exact Sg.hp _ | exact Sg.hg _ | exact prevAt_len _ _ | rfl), hdL_len (by first | assumption | exact shaP_len _ | exact sgn_len _ _ _ _ | exact macP_len _ _ | exact zd_length | exact Sg.hr _ | exact Sg.hp _ | exact Sg.hg _ | exact prevAt_len _ _ | rfl) (by first | assumption | exact shaP_len _ | exact sgn_len _ _ _ _ | exact macP_len _ _ | exact zd_length | exact Sg.hr _ | exact Sg.hp _ | exact Sg.hg _ | exact prevAt_len _ _ | rfl)]))) (fun w hw => SlC.later hw rfl hu2) (Nat.zero_lt_succ _) (by rw [show ((n : Int) - 1).toNat = ((n - 1 : Nat) : Int).toNat by omega]; exact sgs_h (by omega))) ?_
                      refine LO_wv rfl rfl rfl rfl rfl rfl rfl (V_neAgg rfl rfl rfl egH (fun w => eqH (Sg.hr _) (Sg.hr _) (Sg.hp _) (Sg.hp _) w) rfl) ?_
                      first | refine LO_v rfl rfl rfl rfl (V_pickT rfl rfl rfl) ?_ | refine LO_v rfl rfl rfl rfl (V_pickF rfl rfl rfl) ?_
                      refine LO_nil ?_
                      change J _ _ _ _
                      refine J_cond rfl (fun h11 => ?_) (fun h11 => ?_)
                      ·
                        first | (have h11 := of_decide_eq_true h11) | (have h11 := of_decide_eq_false h11) | skip
                        refine J_seq ?_
                        refine J_region ?_
                        refine L_callV rfl rfl rfl rfl rfl rfl tx21e (fun w1 hw => chains_w w1 (TabK.later hw (by simp) hK)) ?_
                        refine L_v rfl rfl rfl (V_move rfl rfl) ?_
                        refine L_wcallV rfl rfl rfl rfl rfl rfl rfl rfl rfl tx16e (fun w1 hw => signs_w w1 (TabK.later hw (by simp) hK)) ?_
                        first | refine L_v rfl rfl rfl (V_pickT rfl rfl rfl) ?_ | refine L_v rfl rfl rfl (V_pickF rfl rfl rfl) ?_
                        refine L_v rfl rfl rfl (V_assign rfl rfl) ?_
                        refine L_nil ?_
                        change J _ _ _ _
                        refine J_ret ?_
                        change Kret _ _ _ Exit.ret _
                        refine ret1 rfl rfl (RV_t rfl) ?_
                        exact fun w' h => ⟨rfl, h.fr⟩
                      ·
                        first | (have h11 := of_decide_eq_true h11) | (have h11 := of_decide_eq_false h11) | skip
                        have hh0' := of_decide_eq_true (nbF h11)
                        have hh0 : hdEq (l.getD (n - 1) s0) (m.getD (n - 1) s0) := hh0'
                        have hnn : n2 = n := by omega
                        have hn1 : 1 ≤ n := by omega
                        refine J_skip ?_
                        change J _ _ _ _
                        refine J_seq ?_
                        refine J_seq ?_
                        refine J_region ?_
                        refine L_v rfl rfl rfl (V_move rfl rfl) ?_
                        refine L_v rfl rfl rfl (V_len rfl rfl Tryd.underlying44 rfl) ?_
                        refine L_v rfl rfl rfl (V_sub rfl rfl rfl (Go.IntWalk.i64_in _ (by omega))) ?_
                        refine L_v rfl rfl rfl (V_assign rfl rfl) ?_
                        refine L_nil ?_
                        change J _ _ _ _
                        refine J_block ?_
                        refine J_loop (X := Nat) (fun j => { env := [(0, .string s), (1, .string s2), (2, .slice a n c), (3, .slice a2 n2 c2), (11, .int .i64 ((j : Int) - 1))] }) (fun j => j ≤ n - 1 ∧ hdEq (l.getD j s0) (m.getD j s0)) (fun j => j) (n - 1) ⟨Nat.le_refl _, hh0⟩ ⟨⟨rfl, rfl, rfl, rfl, (congrArg (fun z => some (Value.int .i64 z)) (by omega)), trivial⟩, List.nil_sublist _, fun f hf => hf, rfl⟩ ?_
                        rintro j ⟨hj, hh⟩
                        refine J_seq ?_
                        refine J_seq ?_
                        refine J_region ?_
                        refine L_v rfl rfl rfl (V_move rfl rfl) ?_
                        refine L_v rfl rfl rfl (V_geq rfl rfl rfl (by first | exact decide_eq_true (by omega) | exact decide_eq_false (by omega) | rfl)) ?_
                        refine L_nil ?_
                        change J _ _ _ _
                        refine J_cond rfl (fun h12 => ?_) (fun h12 => ?_)
                        ·
                          first | (have h12 := of_decide_eq_true h12) | (have h12 := of_decide_eq_false h12) | skip
                          refine J_skip ?_
                          change J _ _ _ _
                          refine J_seq ?_
                          refine J_block ?_
                          refine J_seq ?_
                          refine J_seq ?_
                          refine J_regionQ rfl (by kernel_rfl) ?_
                          refine LQ_v rfl rfl rfl (V_move rfl rfl) ?_
                          refine LQ_v rfl rfl rfl (V_move rfl rfl) ?_
                          refine LQ_v rfl rfl rfl (V_indexC rfl rfl rfl Tryd.underlying44 sz36e (fun w hw => SlC.later hw rfl hu) (by omega) (by omega)) ?_
                          refine LQ_v rfl rfl rfl (V_fieldC rfl rfl (fun w hw => (let ⟨b, o, e, _⟩ := SlC.cell (SlC.later hw rfl hu) (show (sgs l)[((j : Int) - 1).toNat * (96 + 1)]? = some (.int .i64 (l.getD (j - 1) s0).e) from by rw [show ((j : Int) - 1).toNat = ((j - 1 : Nat) : Int).toNat by omega]; exact sgs_e (by omega)); ⟨b, o, e⟩)) Tryd.underlying36 rfl sz25e rfl) ?_
                          refine LQ_v rfl rfl rfl (V_loadCN (vs := hdL (l.getD (j - 1) s0).e (l.getD (j - 1) s0).r (l.getD (j - 1) s0).p) rfl rfl Tryd.underlying25 rfl (szd sz25e (by first | exact hdL_len (by first | assumption | exact shaP_len _ | exact sgn_len _ _ _ _ | exact macP_len _ _ | exact zd_length | exact Sg.hr _ | exact Sg.hp _ | exact Sg.hg _ | exact prevAt_len _ _ | rfl) (by first | assumption | exact shaP_len _ | exact sgn_len _ _ _ _ | exact macP_len _ _ | exact zd_length | exact Sg.hr _ | exact Sg.hp _ | exact Sg.hg _ | exact prevAt_len _ _ | rfl) | (rw [hdL_len (by first | assumption | exact shaP_len _ | exact sgn_len _ _ _ _ | exact macP_len _ _ | exact zd_length | exact Sg.hr _ | exact Sg.hp _ | exact Sg.hg _ | exact prevAt_len _ _ | rfl) (by first | assumption | exact shaP_len _ | exact sgn_len _ _ _ _ | exact macP_len _ _ | exact zd_length | exact Sg.hr _ | exact Sg.hp _ | exact Sg.hg _ | exact prevAt_len _ _ | rfl), hdL_len (by first | assumption | exact shaP_len _ | exact sgn_len _ _ _ _ | exact macP_len _ _ | exact zd_length | exact Sg.hr _ | exact Sg.hp _ | exact Sg.hg _ | exact prevAt_len _ _ | rfl) (by first | assumption | exact shaP_len _ | exact sgn_len _ _ _ _ | exact macP_len _ _ | exact zd_length | exact Sg.hr _ | exact Sg.hp _ | exact Sg.hg _ | exact prevAt_len _ _ | rfl)]))) (fun w hw => SlC.later hw rfl hu) (Nat.zero_lt_succ _) (by rw [show ((j : Int) - 1).toNat = ((j - 1 : Nat) : Int).toNat by omega]; exact sgs_h (by omega))) ?_
                          refine LQ_v rfl rfl rfl (V_move rfl rfl) ?_
                          refine LQ_v rfl rfl rfl (V_move rfl rfl) ?_
                          refine LQ_v rfl rfl rfl (V_indexC rfl rfl rfl Tryd.underlying44 sz36e (fun w hw => SlC.later hw rfl hu2) (by omega) (by omega)) ?_
                          refine LQ_v rfl rfl rfl (V_fieldC rfl rfl (fun w hw => (let ⟨b, o, e, _⟩ := SlC.cell (SlC.later hw rfl hu2) (show (sgs m)[((j : Int) - 1).toNat * (96 + 1)]? = some (.int .i64 (m.getD (j - 1) s0).e) from by rw [show ((j : Int) - 1).toNat = ((j - 1 : Nat) : Int).toNat by omega]; exact sgs_e (by omega)); ⟨b, o, e⟩)) Tryd.underlying36 rfl sz25e rfl) ?_
                          refine LQ_v rfl rfl rfl (V_loadCN (vs := hdL (m.getD (j - 1) s0).e (m.getD (j - 1) s0).r (m.getD (j - 1) s0).p) rfl rfl Tryd.underlying25 rfl (szd sz25e (by first | exact hdL_len (by first | assumption | exact shaP_len _ | exact sgn_len _ _ _ _ | exact macP_len _ _ | exact zd_length | exact Sg.hr _ | exact Sg.hp _ | exact Sg.hg _ | exact prevAt_len _ _ | rfl) (by first | assumption | exact shaP_len _ | exact sgn_len _ _ _ _ | exact macP_len _ _ | exact zd_length | exact Sg.hr _ | exact Sg.hp _ | exact Sg.hg _ | exact prevAt_len _ _ | rfl) | (rw [hdL_len (by first | assumption | exact shaP_len _ | exact sgn_len _ _ _ _ | exact macP_len _ _ | exact zd_length | exact Sg.hr _ | exact Sg.hp _ | exact Sg.hg _ | exact prevAt_len _ _ | rfl) (by first | assumption | exact shaP_len _ | exact sgn_len _ _ _ _ | exact macP_len _ _ | exact zd_length | exact Sg.hr _ | exact Sg.hp _ | exact Sg.hg _ | exact prevAt_len _ _ | rfl), hdL_len (by first | assumption | exact shaP_len _ | exact sgn_len _ _ _ _ | exact macP_len _ _ | exact zd_length | exact Sg.hr _ | exact Sg.hp _ | exact Sg.hg _ | exact prevAt_len _ _ | rfl) (by first | assumption | exact shaP_len _ | exact sgn_len _ _ _ _ | exact macP_len _ _ | exact zd_length | exact Sg.hr _ | exact Sg.hp _ | exact Sg.hg _ | exact prevAt_len _ _ | rfl)]))) (fun w hw => SlC.later hw rfl hu2) (Nat.zero_lt_succ _) (by rw [show ((j : Int) - 1).toNat = ((j - 1 : Nat) : Int).toNat by omega]; exact sgs_h (by omega))) ?_
                          refine LQ_v rfl rfl rfl (V_eqAgg rfl rfl rfl egH (fun w => eqH (Sg.hr _) (Sg.hr _) (Sg.hp _) (Sg.hp _) w) rfl) ?_
                          refine LQ_nil ?_
                          change J _ _ _ _
                          refine J_cond rfl (fun h13 => ?_) (fun h13 => ?_)
                          ·
                            first | (have h13 := of_decide_eq_true h13) | (have h13 := of_decide_eq_false h13) | skip
                            have hj1 : hdEq (l.getD (j - 1) s0) (m.getD (j - 1) s0) := h13
                            refine J_exit ?_
                            change J _ _ _ _
                            refine J_region ?_
                            refine L_v rfl rfl rfl (V_move rfl rfl) ?_
                            refine L_v rfl rfl rfl (V_sub rfl rfl rfl (Go.IntWalk.i64_in _ (by omega))) ?_
                            refine L_v rfl rfl rfl (V_assign rfl rfl) ?_
                            refine L_nil ?_
                            exact ⟨j - 1, ⟨by omega, hj1⟩, by omega, ⟨rfl, rfl, rfl, rfl, (congrArg (fun z => some (Value.int .i64 z)) (by omega)), trivial⟩, List.nil_sublist _, fun f hf => hf, rfl⟩
                          ·
                            first | (have h13 := of_decide_eq_true h13) | (have h13 := of_decide_eq_false h13) | skip
                            have hdd : dgP (l.getD (j - 1) s0) = dgP (m.getD (j - 1) s0) := chain_dg h0 h0m (k := j - 1) (by omega) (by omega) (by rw [show j - 1 + 1 = j by omega]; exact hh)
                            refine J_skip ?_
                            change J _ _ _ _
                            refine J_seq ?_
                            refine J_region ?_
                            refine L_v rfl rfl rfl (V_move rfl rfl) ?_
                            refine L_v rfl rfl rfl (V_move rfl rfl) ?_
                            refine L_v rfl rfl rfl (V_indexC rfl rfl rfl Tryd.underlying44 sz36e (fun w hw => SlC.later hw rfl hu) (by omega) (by omega)) ?_
                            refine L_v rfl rfl rfl (V_fieldC rfl rfl (fun w hw => (let ⟨b, o, e, _⟩ := SlC.cell (SlC.later hw rfl hu) (show (sgs l)[((j : Int) - 1).toNat * (96 + 1)]? = some (.int .i64 (l.getD (j - 1) s0).e) from by rw [show ((j : Int) - 1).toNat = ((j - 1 : Nat) : Int).toNat by omega]; exact sgs_e (by omega)); ⟨b, o, e⟩)) Tryd.underlying36 rfl sz25e rfl) ?_
                            refine L_v rfl rfl rfl (V_loadCN (vs := hdL (l.getD (j - 1) s0).e (l.getD (j - 1) s0).r (l.getD (j - 1) s0).p) rfl rfl Tryd.underlying25 rfl (szd sz25e (by first | exact hdL_len (by first | assumption | exact shaP_len _ | exact sgn_len _ _ _ _ | exact macP_len _ _ | exact zd_length | exact Sg.hr _ | exact Sg.hp _ | exact Sg.hg _ | exact prevAt_len _ _ | rfl) (by first | assumption | exact shaP_len _ | exact sgn_len _ _ _ _ | exact macP_len _ _ | exact zd_length | exact Sg.hr _ | exact Sg.hp _ | exact Sg.hg _ | exact prevAt_len _ _ | rfl) | (rw [hdL_len (by first | assumption | exact shaP_len _ | exact sgn_len _ _ _ _ | exact macP_len _ _ | exact zd_length | exact Sg.hr _ | exact Sg.hp _ | exact Sg.hg _ | exact prevAt_len _ _ | rfl) (by first | assumption | exact shaP_len _ | exact sgn_len _ _ _ _ | exact macP_len _ _ | exact zd_length | exact Sg.hr _ | exact Sg.hp _ | exact Sg.hg _ | exact prevAt_len _ _ | rfl), hdL_len (by first | assumption | exact shaP_len _ | exact sgn_len _ _ _ _ | exact macP_len _ _ | exact zd_length | exact Sg.hr _ | exact Sg.hp _ | exact Sg.hg _ | exact prevAt_len _ _ | rfl) (by first | assumption | exact shaP_len _ | exact sgn_len _ _ _ _ | exact macP_len _ _ | exact zd_length | exact Sg.hr _ | exact Sg.hp _ | exact Sg.hg _ | exact prevAt_len _ _ | rfl)]))) (fun w hw => SlC.later hw rfl hu) (Nat.zero_lt_succ _) (by rw [show ((j : Int) - 1).toNat = ((j - 1 : Nat) : Int).toNat by omega]; exact sgs_h (by omega))) ?_
                            refine L_callV rfl rfl rfl rfl rfl rfl tx11e (fun w1 hw => hdig_ok (l.getD (j - 1) s0).e (l.getD (j - 1) s0).r (l.getD (j - 1) s0).p w1 (l.getD (j - 1) s0).hr (l.getD (j - 1) s0).hp (l.getD (j - 1) s0).hrb (l.getD (j - 1) s0).hpb (chain_okE h0 (k := j - 1) (by omega)) (TabK.later hw (by simp) hK)) ?_
                            refine L_v rfl rfl rfl (V_move rfl rfl) ?_
                            refine L_v rfl rfl rfl (V_extract rfl rfl rfl) ?_
                            refine L_v rfl rfl rfl (V_extract rfl rfl rfl) ?_
                            refine L_alloc rfl rfl rfl rfl z23e (fun b0 => ?_)
                            refine L_storeW 0 rfl rfl rfl rfl rfl rfl (szd sz23e (by first | (rw [dg_length]; exact (by first | assumption | exact shaP_len _ | exact sgn_len _ _ _ _ | exact macP_len _ _ | exact zd_length | exact Sg.hr _ | exact Sg.hp _ | exact Sg.hg _ | exact prevAt_len _ _ | rfl)) | exact (rfl : (dg zd).length = (dg zd).length) | (rw [dg_length, dg_length, show zd.length = 32 from rfl]; exact Eq.symm (by first | assumption | exact shaP_len _ | exact sgn_len _ _ _ _ | exact macP_len _ _ | exact zd_length | exact Sg.hr _ | exact Sg.hp _ | exact Sg.hg _ | exact prevAt_len _ _ | rfl)) | (rw [dg_length, dg_length, prevAt_len, shaP_len]))) (by first | exact sgL_one _ _ _ _ | exact hd_one _ _ _ | exact lkL_one _ _ | exact dg_one _) (by first | (rw [dg_length]; exact (by first | assumption | exact shaP_len _ | exact sgn_len _ _ _ _ | exact macP_len _ _ | exact zd_length | exact Sg.hr _ | exact Sg.hp _ | exact Sg.hg _ | exact prevAt_len _ _ | rfl)) | exact (rfl : (dg zd).length = (dg zd).length) | (rw [dg_length, dg_length, show zd.length = 32 from rfl]; exact Eq.symm (by first | assumption | exact shaP_len _ | exact sgn_len _ _ _ _ | exact macP_len _ _ | exact zd_length | exact Sg.hr _ | exact Sg.hp _ | exact Sg.hg _ | exact prevAt_len _ _ | rfl)) | (rw [dg_length, dg_length, prevAt_len, shaP_len])) ?_
                            refine L_v rfl rfl rfl (V_assign rfl rfl) ?_
                            refine L_nil ?_
                            change J _ _ _ _
                            refine J_seq ?_
                            refine J_region ?_
                            refine L_v rfl rfl rfl (V_move rfl rfl) ?_
                            refine L_v rfl rfl rfl (V_move rfl rfl) ?_
                            refine L_v rfl rfl rfl (V_indexC rfl rfl rfl Tryd.underlying44 sz36e (fun w hw => SlC.later hw rfl hu2) (by omega) (by omega)) ?_
                            refine L_v rfl rfl rfl (V_fieldC rfl rfl (fun w hw => (let ⟨b, o, e, _⟩ := SlC.cell (SlC.later hw rfl hu2) (show (sgs m)[((j : Int) - 1).toNat * (96 + 1)]? = some (.int .i64 (m.getD (j - 1) s0).e) from by rw [show ((j : Int) - 1).toNat = ((j - 1 : Nat) : Int).toNat by omega]; exact sgs_e (by omega)); ⟨b, o, e⟩)) Tryd.underlying36 rfl sz25e rfl) ?_
                            refine L_v rfl rfl rfl (V_loadCN (vs := hdL (m.getD (j - 1) s0).e (m.getD (j - 1) s0).r (m.getD (j - 1) s0).p) rfl rfl Tryd.underlying25 rfl (szd sz25e (by first | exact hdL_len (by first | assumption | exact shaP_len _ | exact sgn_len _ _ _ _ | exact macP_len _ _ | exact zd_length | exact Sg.hr _ | exact Sg.hp _ | exact Sg.hg _ | exact prevAt_len _ _ | rfl) (by first | assumption | exact shaP_len _ | exact sgn_len _ _ _ _ | exact macP_len _ _ | exact zd_length | exact Sg.hr _ | exact Sg.hp _ | exact Sg.hg _ | exact prevAt_len _ _ | rfl) | (rw [hdL_len (by first | assumption | exact shaP_len _ | exact sgn_len _ _ _ _ | exact macP_len _ _ | exact zd_length | exact Sg.hr _ | exact Sg.hp _ | exact Sg.hg _ | exact prevAt_len _ _ | rfl) (by first | assumption | exact shaP_len _ | exact sgn_len _ _ _ _ | exact macP_len _ _ | exact zd_length | exact Sg.hr _ | exact Sg.hp _ | exact Sg.hg _ | exact prevAt_len _ _ | rfl), hdL_len (by first | assumption | exact shaP_len _ | exact sgn_len _ _ _ _ | exact macP_len _ _ | exact zd_length | exact Sg.hr _ | exact Sg.hp _ | exact Sg.hg _ | exact prevAt_len _ _ | rfl) (by first | assumption | exact shaP_len _ | exact sgn_len _ _ _ _ | exact macP_len _ _ | exact zd_length | exact Sg.hr _ | exact Sg.hp _ | exact Sg.hg _ | exact prevAt_len _ _ | rfl)]))) (fun w hw => SlC.later hw rfl hu2) (Nat.zero_lt_succ _) (by rw [show ((j : Int) - 1).toNat = ((j - 1 : Nat) : Int).toNat by omega]; exact sgs_h (by omega))) ?_
                            refine L_callV rfl rfl rfl rfl rfl rfl tx11e (fun w1 hw => hdig_ok (m.getD (j - 1) s0).e (m.getD (j - 1) s0).r (m.getD (j - 1) s0).p w1 (m.getD (j - 1) s0).hr (m.getD (j - 1) s0).hp (m.getD (j - 1) s0).hrb (m.getD (j - 1) s0).hpb (chain_okE h0m (k := j - 1) (by omega)) (TabK.later hw (by simp) hK)) ?_
                            refine L_v rfl rfl rfl (V_move rfl rfl) ?_
                            refine L_v rfl rfl rfl (V_extract rfl rfl rfl) ?_
                            refine L_v rfl rfl rfl (V_extract rfl rfl rfl) ?_
                            refine L_alloc rfl rfl rfl rfl z23e (fun b1 => ?_)
                            refine L_storeW 1 rfl rfl rfl rfl rfl rfl (szd sz23e (by first | (rw [dg_length]; exact (by first | assumption | exact shaP_len _ | exact sgn_len _ _ _ _ | exact macP_len _ _ | exact zd_length | exact Sg.hr _ | exact Sg.hp _ | exact Sg.hg _ | exact prevAt_len _ _ | rfl)) | exact (rfl : (dg zd).length = (dg zd).length) | (rw [dg_length, dg_length, show zd.length = 32 from rfl]; exact Eq.symm (by first | assumption | exact shaP_len _ | exact sgn_len _ _ _ _ | exact macP_len _ _ | exact zd_length | exact Sg.hr _ | exact Sg.hp _ | exact Sg.hg _ | exact prevAt_len _ _ | rfl)) | (rw [dg_length, dg_length, prevAt_len, shaP_len]))) (by first | exact sgL_one _ _ _ _ | exact hd_one _ _ _ | exact lkL_one _ _ | exact dg_one _) (by first | (rw [dg_length]; exact (by first | assumption | exact shaP_len _ | exact sgn_len _ _ _ _ | exact macP_len _ _ | exact zd_length | exact Sg.hr _ | exact Sg.hp _ | exact Sg.hg _ | exact prevAt_len _ _ | rfl)) | exact (rfl : (dg zd).length = (dg zd).length) | (rw [dg_length, dg_length, show zd.length = 32 from rfl]; exact Eq.symm (by first | assumption | exact shaP_len _ | exact sgn_len _ _ _ _ | exact macP_len _ _ | exact zd_length | exact Sg.hr _ | exact Sg.hp _ | exact Sg.hg _ | exact prevAt_len _ _ | rfl)) | (rw [dg_length, dg_length, prevAt_len, shaP_len])) ?_
                            refine L_v rfl rfl rfl (V_assign rfl rfl) ?_
                            refine L_nil ?_
                            change J _ _ _ _
                            refine J_seq ?_
                            refine J_region ?_
                            refine L_callV rfl rfl rfl rfl rfl rfl tx21e (fun w1 hw => chains_w w1 (TabK.later hw (by simp) hK)) ?_
                            refine L_v rfl rfl rfl (V_move rfl rfl) ?_
                            refine L_wcallV rfl rfl rfl rfl rfl rfl rfl rfl rfl tx16e (fun w1 hw => signs_w w1 (TabK.later hw (by simp) hK)) ?_
                            first | refine L_v rfl rfl rfl (V_pickT rfl rfl rfl) ?_ | refine L_v rfl rfl rfl (V_pickF rfl rfl rfl) ?_
                            refine L_v rfl rfl rfl (V_move rfl rfl) ?_
                            refine L_wv rfl rfl rfl rfl rfl rfl (V_move rfl rfl) ?_
                            refine L_wv rfl rfl rfl rfl rfl rfl (V_eql rfl rfl rfl (by first | exact decide_eq_true (by omega) | exact decide_eq_false (by omega) | rfl)) ?_
                            first | refine L_v rfl rfl rfl (V_pickT rfl rfl rfl) ?_ | refine L_v rfl rfl rfl (V_pickF rfl rfl rfl) ?_
                            refine L_v rfl rfl rfl (V_move rfl rfl) ?_
                            refine L_wv rfl rfl rfl rfl rfl rfl (V_move rfl rfl) ?_
                            refine L_wv rfl rfl rfl rfl rfl rfl (V_eql rfl rfl rfl (by first | exact decide_eq_true (by omega) | exact decide_eq_false (by omega) | rfl)) ?_
                            first | refine L_v rfl rfl rfl (V_pickT rfl rfl rfl) ?_ | refine L_v rfl rfl rfl (V_pickF rfl rfl rfl) ?_
                            refine L_v rfl rfl rfl (V_move rfl rfl) ?_
                            refine L_wv rfl rfl rfl rfl rfl rfl (V_loadW 0 rfl rfl rfl Tryd.underlying23 rfl (szd sz23e (by first | (rw [dg_length]; exact (by first | assumption | exact shaP_len _ | exact sgn_len _ _ _ _ | exact macP_len _ _ | exact zd_length | exact Sg.hr _ | exact Sg.hp _ | exact Sg.hg _ | exact prevAt_len _ _ | rfl)) | exact (rfl : (dg zd).length = (dg zd).length) | (rw [dg_length, dg_length, show zd.length = 32 from rfl]; exact Eq.symm (by first | assumption | exact shaP_len _ | exact sgn_len _ _ _ _ | exact macP_len _ _ | exact zd_length | exact Sg.hr _ | exact Sg.hp _ | exact Sg.hg _ | exact prevAt_len _ _ | rfl)) | (rw [dg_length, dg_length, prevAt_len, shaP_len])))) ?_
                            refine L_wv rfl rfl rfl rfl rfl rfl (V_loadW 1 rfl rfl rfl Tryd.underlying23 rfl (szd sz23e (by first | (rw [dg_length]; exact (by first | assumption | exact shaP_len _ | exact sgn_len _ _ _ _ | exact macP_len _ _ | exact zd_length | exact Sg.hr _ | exact Sg.hp _ | exact Sg.hg _ | exact prevAt_len _ _ | rfl)) | exact (rfl : (dg zd).length = (dg zd).length) | (rw [dg_length, dg_length, show zd.length = 32 from rfl]; exact Eq.symm (by first | assumption | exact shaP_len _ | exact sgn_len _ _ _ _ | exact macP_len _ _ | exact zd_length | exact Sg.hr _ | exact Sg.hp _ | exact Sg.hg _ | exact prevAt_len _ _ | rfl)) | (rw [dg_length, dg_length, prevAt_len, shaP_len])))) ?_
                            refine L_wv rfl rfl rfl rfl rfl rfl (V_eqD rfl rfl rfl egD9 Tryd.underlying23 Tryd.underlying5 sz5e (shaP_len _) (shaP_len _) (decide_eq_true hdd)) ?_
                            first | refine L_v rfl rfl rfl (V_pickT rfl rfl rfl) ?_ | refine L_v rfl rfl rfl (V_pickF rfl rfl rfl) ?_
                            refine L_v rfl rfl rfl (V_assign rfl rfl) ?_
                            refine L_nil ?_
                            change J _ _ _ _
                            refine J_ret ?_
                            change Kret _ _ _ Exit.ret _
                            refine ret1 rfl rfl (RV_t rfl) ?_
                            exact fun w' h => ⟨rfl, h.fr⟩
                        ·
                          first | (have h12 := of_decide_eq_true h12) | (have h12 := of_decide_eq_false h12) | skip
                          refine J_exit ?_
                          change J _ _ _ _
                          refine J_seq ?_
                          refine J_region ?_
                          refine L_callV rfl rfl rfl rfl rfl rfl tx21e (fun w1 hw => chains_w w1 (TabK.later hw (by simp) hK)) ?_
                          refine L_v rfl rfl rfl (V_move rfl rfl) ?_
                          refine L_wcallV rfl rfl rfl rfl rfl rfl rfl rfl rfl tx16e (fun w1 hw => signs_w w1 (TabK.later hw (by simp) hK)) ?_
                          first | refine L_v rfl rfl rfl (V_pickT rfl rfl rfl) ?_ | refine L_v rfl rfl rfl (V_pickF rfl rfl rfl) ?_
                          refine L_v rfl rfl rfl (V_assign rfl rfl) ?_
                          refine L_nil ?_
                          change J _ _ _ _
                          refine J_ret ?_
                          change Kret _ _ _ Exit.ret _
                          refine ret1 rfl rfl (RV_t rfl) ?_
                          exact fun w' h => ⟨rfl, h.fr⟩
            ·
              first | (have h6 := of_decide_eq_true h6) | (have h6 := of_decide_eq_false h6) | skip
              refine L_skip rfl rfl rfl rfl rfl rfl rfl ?_
              refine L_skip rfl rfl rfl rfl rfl rfl rfl ?_
              refine L_skip rfl rfl rfl rfl rfl rfl rfl ?_
              refine L_skip rfl rfl rfl rfl rfl rfl rfl ?_
              first | refine L_v rfl rfl rfl (V_pickT rfl rfl rfl) ?_ | refine L_v rfl rfl rfl (V_pickF rfl rfl rfl) ?_
              refine L_v rfl rfl rfl (V_move rfl rfl) ?_
              refine L_skip rfl rfl rfl rfl rfl rfl rfl ?_
              refine L_skip rfl rfl rfl rfl rfl rfl rfl ?_
              refine L_skip rfl rfl rfl rfl rfl rfl rfl ?_
              refine L_skip rfl rfl rfl rfl rfl rfl rfl ?_
              refine L_skip rfl rfl rfl rfl rfl rfl rfl ?_
              refine L_skip rfl rfl rfl rfl rfl rfl rfl ?_
              first | refine L_v rfl rfl rfl (V_pickT rfl rfl rfl) ?_ | refine L_v rfl rfl rfl (V_pickF rfl rfl rfl) ?_
              refine L_nil ?_
              change J _ _ _ _
              refine J_false rfl ?_
              refine J_skip ?_
              change J _ _ _ _
              refine J_seq ?_
              refine J_seq ?_
              refine J_regionO (.pure 0 (.pure 1 (.one 2 (.pure 3 (.pure 4 (.pure 5 (.pure 6 (.pure 7 (.pure 8 (.pure 9 (.pure 10 (.pure 11 (.pure 12 (.pure 13 (.pure 14 (.pure 15 (.pure 16 (.pure 17 (.pure 18 (.pure 19 (.pure 20 (.pure 21 (.pure 22 (.pure 23 (.pure 24 (.pure 25 (.pure 26 (.pure 27 (.pure 28 (.pure 29 (.pure 30 (.pure 31 (.pure 32 (.nil)))))))))))))))))))))))))))))))))) _ _ (Pk.refl _) (fun f hf => hf) rfl rfl (by kernel_rfl) ?_
              refine LO_v rfl rfl rfl rfl (V_move rfl rfl) ?_
              refine LO_v rfl rfl rfl rfl (V_move rfl rfl) ?_
              refine LO_callV rfl rfl rfl rfl rfl rfl rfl rfl tx20e (fun w1 hw => chain_w s2 a2 n2 c2 m w1 hm (SlC.later hw rfl hu2) (by omega) (TabK.later hw (by simp) hK)) (Pk.refl _) (fun f hf => hf) ?_
              refine LO_v rfl rfl rfl rfl (V_neq rfl rfl rfl (by first | exact decide_eq_true (by omega) | exact decide_eq_false (by omega) | rfl)) ?_
              refine LO_v rfl rfl rfl rfl (V_move rfl rfl) ?_
              refine LO_split 62 rfl (fun h7 => ?_) (fun h7 => ?_)
              ·
                first | (have h7 := of_decide_eq_true h7) | (have h7 := of_decide_eq_false h7) | skip
                refine LO_skip rfl rfl rfl rfl rfl rfl rfl rfl ?_
                refine LO_skip rfl rfl rfl rfl rfl rfl rfl rfl ?_
                refine LO_skip rfl rfl rfl rfl rfl rfl rfl rfl ?_
                refine LO_skip rfl rfl rfl rfl rfl rfl rfl rfl ?_
                refine LO_skip rfl rfl rfl rfl rfl rfl rfl rfl ?_
                first | refine LO_v rfl rfl rfl rfl (V_pickT rfl rfl rfl) ?_ | refine LO_v rfl rfl rfl rfl (V_pickF rfl rfl rfl) ?_
                refine LO_v rfl rfl rfl rfl (V_move rfl rfl) ?_
                refine LO_skip rfl rfl rfl rfl rfl rfl rfl rfl ?_
                refine LO_skip rfl rfl rfl rfl rfl rfl rfl rfl ?_
                refine LO_skip rfl rfl rfl rfl rfl rfl rfl rfl ?_
                first | refine LO_v rfl rfl rfl rfl (V_pickT rfl rfl rfl) ?_ | refine LO_v rfl rfl rfl rfl (V_pickF rfl rfl rfl) ?_
                refine LO_v rfl rfl rfl rfl (V_move rfl rfl) ?_
                refine LO_skip rfl rfl rfl rfl rfl rfl rfl rfl ?_
                refine LO_skip rfl rfl rfl rfl rfl rfl rfl rfl ?_
                refine LO_skip rfl rfl rfl rfl rfl rfl rfl rfl ?_
                refine LO_skip rfl rfl rfl rfl rfl rfl rfl rfl ?_
                refine LO_skip rfl rfl rfl rfl rfl rfl rfl rfl ?_
                refine LO_skip rfl rfl rfl rfl rfl rfl rfl rfl ?_
                refine LO_skip rfl rfl rfl rfl rfl rfl rfl rfl ?_
                refine LO_skip rfl rfl rfl rfl rfl rfl rfl rfl ?_
                refine LO_skip rfl rfl rfl rfl rfl rfl rfl rfl ?_
                refine LO_skip rfl rfl rfl rfl rfl rfl rfl rfl ?_
                refine LO_skip rfl rfl rfl rfl rfl rfl rfl rfl ?_
                refine LO_skip rfl rfl rfl rfl rfl rfl rfl rfl ?_
                refine LO_skip rfl rfl rfl rfl rfl rfl rfl rfl ?_
                refine LO_skip rfl rfl rfl rfl rfl rfl rfl rfl ?_
                refine LO_skip rfl rfl rfl rfl rfl rfl rfl rfl ?_
                first | refine LO_v rfl rfl rfl rfl (V_pickT rfl rfl rfl) ?_ | refine LO_v rfl rfl rfl rfl (V_pickF rfl rfl rfl) ?_
                refine LO_nil ?_
                change J _ _ _ _
                refine J_true rfl ?_
                refine J_seq ?_
                refine J_region ?_
                refine L_callV rfl rfl rfl rfl rfl rfl tx21e (fun w1 hw => chains_w w1 (TabK.later hw (by simp) hK)) ?_
                refine L_v rfl rfl rfl (V_move rfl rfl) ?_
                refine L_wcallV rfl rfl rfl rfl rfl rfl rfl rfl rfl tx16e (fun w1 hw => signs_w w1 (TabK.later hw (by simp) hK)) ?_
                first | refine L_v rfl rfl rfl (V_pickT rfl rfl rfl) ?_ | refine L_v rfl rfl rfl (V_pickF rfl rfl rfl) ?_
                refine L_v rfl rfl rfl (V_assign rfl rfl) ?_
                refine L_nil ?_
                change J _ _ _ _
                refine J_ret ?_
                change Kret _ _ _ Exit.ret _
                refine ret1 rfl rfl (RV_t rfl) ?_
                exact fun w' h => ⟨rfl, h.fr⟩
              ·
                first | (have h7 := of_decide_eq_true h7) | (have h7 := of_decide_eq_false h7) | skip
                have h0m : chainP s2 m = 0 := Classical.not_not.1 h7
                refine LO_wv rfl rfl rfl rfl rfl rfl rfl (V_move rfl rfl) ?_
                refine LO_wv rfl rfl rfl rfl rfl rfl rfl (V_len rfl rfl Tryd.underlying44 rfl) ?_
                refine LO_wv rfl rfl rfl rfl rfl rfl rfl (V_move rfl rfl) ?_
                refine LO_wv rfl rfl rfl rfl rfl rfl rfl (V_len rfl rfl Tryd.underlying44 rfl) ?_
                refine LO_wv rfl rfl rfl rfl rfl rfl rfl (V_neq rfl rfl rfl (by first | exact decide_eq_true (by omega) | exact decide_eq_false (by omega) | rfl)) ?_
                first | refine LO_v rfl rfl rfl rfl (V_pickT rfl rfl rfl) ?_ | refine LO_v rfl rfl rfl rfl (V_pickF rfl rfl rfl) ?_
                refine LO_v rfl rfl rfl rfl (V_move rfl rfl) ?_
                refine LO_split 69 rfl (fun h8 => ?_) (fun h8 => ?_)
                ·
                  first | (have h8 := of_decide_eq_true h8) | (have h8 := of_decide_eq_false h8) | skip
                  refine LO_skip rfl rfl rfl rfl rfl rfl rfl rfl ?_
                  refine LO_skip rfl rfl rfl rfl rfl rfl rfl rfl ?_
                  refine LO_skip rfl rfl rfl rfl rfl rfl rfl rfl ?_
                  first | refine LO_v rfl rfl rfl rfl (V_pickT rfl rfl rfl) ?_ | refine LO_v rfl rfl rfl rfl (V_pickF rfl rfl rfl) ?_
                  refine LO_v rfl rfl rfl rfl (V_move rfl rfl) ?_
                  refine LO_skip rfl rfl rfl rfl rfl rfl rfl rfl ?_
                  refine LO_skip rfl rfl rfl rfl rfl rfl rfl rfl ?_
                  refine LO_skip rfl rfl rfl rfl rfl rfl rfl rfl ?_
                  refine LO_skip rfl rfl rfl rfl rfl rfl rfl rfl ?_
                  refine LO_skip rfl rfl rfl rfl rfl rfl rfl rfl ?_
                  refine LO_skip rfl rfl rfl rfl rfl rfl rfl rfl ?_
                  refine LO_skip rfl rfl rfl rfl rfl rfl rfl rfl ?_
                  refine LO_skip rfl rfl rfl rfl rfl rfl rfl rfl ?_
                  refine LO_skip rfl rfl rfl rfl rfl rfl rfl rfl ?_
                  refine LO_skip rfl rfl rfl rfl rfl rfl rfl rfl ?_
                  refine LO_skip rfl rfl rfl rfl rfl rfl rfl rfl ?_
                  refine LO_skip rfl rfl rfl rfl rfl rfl rfl rfl ?_
                  refine LO_skip rfl rfl rfl rfl rfl rfl rfl rfl ?_
                  refine LO_skip rfl rfl rfl rfl rfl rfl rfl rfl ?_
                  refine LO_skip rfl rfl rfl rfl rfl rfl rfl rfl ?_
                  first | refine LO_v rfl rfl rfl rfl (V_pickT rfl rfl rfl) ?_ | refine LO_v rfl rfl rfl rfl (V_pickF rfl rfl rfl) ?_
                  refine LO_nil ?_
                  change J _ _ _ _
                  refine J_true rfl ?_
                  refine J_seq ?_
                  refine J_region ?_
                  refine L_callV rfl rfl rfl rfl rfl rfl tx21e (fun w1 hw => chains_w w1 (TabK.later hw (by simp) hK)) ?_
                  refine L_v rfl rfl rfl (V_move rfl rfl) ?_
                  refine L_wcallV rfl rfl rfl rfl rfl rfl rfl rfl rfl tx16e (fun w1 hw => signs_w w1 (TabK.later hw (by simp) hK)) ?_
                  first | refine L_v rfl rfl rfl (V_pickT rfl rfl rfl) ?_ | refine L_v rfl rfl rfl (V_pickF rfl rfl rfl) ?_
                  refine L_v rfl rfl rfl (V_assign rfl rfl) ?_
                  refine L_nil ?_
                  change J _ _ _ _
                  refine J_ret ?_
                  change Kret _ _ _ Exit.ret _
                  refine ret1 rfl rfl (RV_t rfl) ?_
                  exact fun w' h => ⟨rfl, h.fr⟩
                ·
                  first | (have h8 := of_decide_eq_true h8) | (have h8 := of_decide_eq_false h8) | skip
                  refine LO_wv rfl rfl rfl rfl rfl rfl rfl (V_move rfl rfl) ?_
                  refine LO_wv rfl rfl rfl rfl rfl rfl rfl (V_len rfl rfl Tryd.underlying44 rfl) ?_
                  refine LO_wv rfl rfl rfl rfl rfl rfl rfl (V_eql rfl rfl rfl (by first | exact decide_eq_true (by omega) | exact decide_eq_false (by omega) | rfl)) ?_
                  first | refine LO_v rfl rfl rfl rfl (V_pickT rfl rfl rfl) ?_ | refine LO_v rfl rfl rfl rfl (V_pickF rfl rfl rfl) ?_
                  refine LO_v rfl rfl rfl rfl (V_move rfl rfl) ?_
                  refine LO_split 74 rfl (fun h9 => ?_) (fun h9 => ?_)
                  ·
                    first | (have h9 := of_decide_eq_true h9) | (have h9 := of_decide_eq_false h9) | skip
                    refine LO_skip rfl rfl rfl rfl rfl rfl rfl rfl ?_
                    refine LO_skip rfl rfl rfl rfl rfl rfl rfl rfl ?_
                    refine LO_skip rfl rfl rfl rfl rfl rfl rfl rfl ?_
                    refine LO_skip rfl rfl rfl rfl rfl rfl rfl rfl ?_
                    refine LO_skip rfl rfl rfl rfl rfl rfl rfl rfl ?_
                    refine LO_skip rfl rfl rfl rfl rfl rfl rfl rfl ?_
                    refine LO_skip rfl rfl rfl rfl rfl rfl rfl rfl ?_
                    refine LO_skip rfl rfl rfl rfl rfl rfl rfl rfl ?_
                    refine LO_skip rfl rfl rfl rfl rfl rfl rfl rfl ?_
                    refine LO_skip rfl rfl rfl rfl rfl rfl rfl rfl ?_
                    refine LO_skip rfl rfl rfl rfl rfl rfl rfl rfl ?_
                    refine LO_skip rfl rfl rfl rfl rfl rfl rfl rfl ?_
                    refine LO_skip rfl rfl rfl rfl rfl rfl rfl rfl ?_
                    refine LO_skip rfl rfl rfl rfl rfl rfl rfl rfl ?_
                    refine LO_skip rfl rfl rfl rfl rfl rfl rfl rfl ?_
                    first | refine LO_v rfl rfl rfl rfl (V_pickT rfl rfl rfl) ?_ | refine LO_v rfl rfl rfl rfl (V_pickF rfl rfl rfl) ?_
                    refine LO_nil ?_
                    change J _ _ _ _
                    refine J_true rfl ?_
                    refine J_seq ?_
                    refine J_region ?_
                    refine L_callV rfl rfl rfl rfl rfl rfl tx21e (fun w1 hw => chains_w w1 (TabK.later hw (by simp) hK)) ?_
                    refine L_v rfl rfl rfl (V_move rfl rfl) ?_
                    refine L_wcallV rfl rfl rfl rfl rfl rfl rfl rfl rfl tx16e (fun w1 hw => signs_w w1 (TabK.later hw (by simp) hK)) ?_
                    first | refine L_v rfl rfl rfl (V_pickT rfl rfl rfl) ?_ | refine L_v rfl rfl rfl (V_pickF rfl rfl rfl) ?_
                    refine L_v rfl rfl rfl (V_assign rfl rfl) ?_
                    refine L_nil ?_
                    change J _ _ _ _
                    refine J_ret ?_
                    change Kret _ _ _ Exit.ret _
                    refine ret1 rfl rfl (RV_t rfl) ?_
                    exact fun w' h => ⟨rfl, h.fr⟩
                  ·
                    first | (have h9 := of_decide_eq_true h9) | (have h9 := of_decide_eq_false h9) | skip
                    refine LO_wv rfl rfl rfl rfl rfl rfl rfl (V_move rfl rfl) ?_
                    refine LO_wv rfl rfl rfl rfl rfl rfl rfl (V_move rfl rfl) ?_
                    refine LO_wv rfl rfl rfl rfl rfl rfl rfl (V_len rfl rfl Tryd.underlying44 rfl) ?_
                    refine LO_wv rfl rfl rfl rfl rfl rfl rfl (V_sub (r := (n : Int) - 1) rfl rfl rfl (by rw [Go.IntWalk.i64_in _ (by omega)])) ?_
                    refine LO_wv rfl rfl rfl rfl rfl rfl rfl (V_indexC rfl rfl rfl Tryd.underlying44 sz36e (fun w hw => SlC.later hw rfl hu) (by omega) (by omega)) ?_
                    refine LO_wv rfl rfl rfl rfl rfl rfl rfl (V_fieldC rfl rfl (fun w hw => (let ⟨b, o, e, _⟩ := SlC.cell (SlC.later hw rfl hu) (show (sgs l)[((n : Int) - 1).toNat * (96 + 1)]? = some (.int .i64 (l.getD (n - 1) s0).e) from by rw [show ((n : Int) - 1).toNat = ((n - 1 : Nat) : Int).toNat by omega]; exact sgs_e (by omega)); ⟨b, o, e⟩)) Tryd.underlying36 rfl sz25e rfl) ?_
                    refine LO_wv rfl rfl rfl rfl rfl rfl rfl (V_loadCN (vs := hdL (l.getD (n - 1) s0).e (l.getD (n - 1) s0).r (l.getD (n - 1) s0).p) rfl rfl Tryd.underlying25 rfl (szd sz25e (by first | exact hdL_len (by first | assumption | exact shaP_len _ | exact sgn_len _ _ _ _ | exact macP_len _ _ | exact zd_length | exact Sg.hr _ | exact Sg.hp _ | exact Sg.hg _ | exact prevAt_len _ _ | rfl) (by first | assumption | exact shaP_len _ | exact sgn_len _ _ _ _ | exact macP_len _ _ | exact zd_length | exact Sg.hr _ | exact Sg.hp _ | exact Sg.hg _ | exact prevAt_len _ _ | rfl) | (rw [hdL_len (by first | assumption | exact shaP_len _ | exact sgn_len _ _ _ _ | exact macP_len _ _ | exact zd_length | exact Sg.hr _ | exact Sg.hp _ | exact Sg.hg _ | exact prevAt_len _ _ | rfl) (by first | assumption | exact shaP_len _ | exact sgn_len _ _ _ _ | exact macP_len _ _ | exact zd_length | exact Sg.hr _ | exact Sg.hp _ | exact Sg.hg _ | exact prevAt_len _ _ | rfl), hdL_len (by first | assumption | exact shaP_len _ | exact sgn_len _ _ _ _ | exact macP_len _ _ | exact zd_length | exact Sg.hr _ | exact Sg.hp _ | exact Sg.hg _ | exact prevAt_len _ _ | rfl) (by first | assumption | exact shaP_len _ | exact sgn_len _ _ _ _ | exact macP_len _ _ | exact zd_length | exact Sg.hr _ | exact Sg.hp _ | exact Sg.hg _ | exact prevAt_len _ _ | rfl)]))) (fun w hw => SlC.later hw rfl hu) (Nat.zero_lt_succ _) (by rw [show ((n : Int) - 1).toNat = ((n - 1 : Nat) : Int).toNat by omega]; exact sgs_h (by omega))) ?_
                    refine LO_wv rfl rfl rfl rfl rfl rfl rfl (V_move rfl rfl) ?_
                    refine LO_wv rfl rfl rfl rfl rfl rfl rfl (V_move rfl rfl) ?_
                    refine LO_wv rfl rfl rfl rfl rfl rfl rfl (V_len rfl rfl Tryd.underlying44 rfl) ?_
                    refine LO_wv rfl rfl rfl rfl rfl rfl rfl (V_sub (r := (n : Int) - 1) rfl rfl rfl (by rw [Go.IntWalk.i64_in _ (by omega)])) ?_
                    refine LO_wv rfl rfl rfl rfl rfl rfl rfl (V_indexC rfl rfl rfl Tryd.underlying44 sz36e (fun w hw => SlC.later hw rfl hu2) (by omega) (by omega)) ?_
                    refine LO_wv rfl rfl rfl rfl rfl rfl rfl (V_fieldC rfl rfl (fun w hw => (let ⟨b, o, e, _⟩ := SlC.cell (SlC.later hw rfl hu2) (show (sgs m)[((n : Int) - 1).toNat * (96 + 1)]? = some (.int .i64 (m.getD (n - 1) s0).e) from by rw [show ((n : Int) - 1).toNat = ((n - 1 : Nat) : Int).toNat by omega]; exact sgs_e (by omega)); ⟨b, o, e⟩)) Tryd.underlying36 rfl sz25e rfl) ?_
                    refine LO_wv rfl rfl rfl rfl rfl rfl rfl (V_loadCN (vs := hdL (m.getD (n - 1) s0).e (m.getD (n - 1) s0).r (m.getD (n - 1) s0).p) rfl rfl Tryd.underlying25 rfl (szd sz25e (by first | exact hdL_len (by first | assumption | exact shaP_len _ | exact sgn_len _ _ _ _ | exact macP_len _ _ | exact zd_length | exact Sg.hr _ | exact Sg.hp _ | exact Sg.hg _ | exact prevAt_len _ _ | rfl) (by first | assumption | exact shaP_len _ | exact sgn_len _ _ _ _ | exact macP_len _ _ | exact zd_length | exact Sg.hr _ | exact Sg.hp _ | exact Sg.hg _ | exact prevAt_len _ _ | rfl) | (rw [hdL_len (by first | assumption | exact shaP_len _ | exact sgn_len _ _ _ _ | exact macP_len _ _ | exact zd_length | exact Sg.hr _ | exact Sg.hp _ | exact Sg.hg _ | exact prevAt_len _ _ | rfl) (by first | assumption | exact shaP_len _ | exact sgn_len _ _ _ _ | exact macP_len _ _ | exact zd_length | exact Sg.hr _ | exact Sg.hp _ | exact Sg.hg _ | exact prevAt_len _ _ | rfl), hdL_len (by first | assumption | exact shaP_len _ | exact sgn_len _ _ _ _ | exact macP_len _ _ | exact zd_length | exact Sg.hr _ | exact Sg.hp _ | exact Sg.hg _ | exact prevAt_len _ _ | rfl) (by first | assumption | exact shaP_len _ | exact sgn_len _ _ _ _ | exact macP_len _ _ | exact zd_length | exact Sg.hr _ | exact Sg.hp _ | exact Sg.hg _ | exact prevAt_len _ _ | rfl)]))) (fun w hw => SlC.later hw rfl hu2) (Nat.zero_lt_succ _) (by rw [show ((n : Int) - 1).toNat = ((n - 1 : Nat) : Int).toNat by omega]; exact sgs_h (by omega))) ?_
                    refine LO_wv rfl rfl rfl rfl rfl rfl rfl (V_neAgg rfl rfl rfl egH (fun w => eqH (Sg.hr _) (Sg.hr _) (Sg.hp _) (Sg.hp _) w) rfl) ?_
                    first | refine LO_v rfl rfl rfl rfl (V_pickT rfl rfl rfl) ?_ | refine LO_v rfl rfl rfl rfl (V_pickF rfl rfl rfl) ?_
                    refine LO_nil ?_
                    change J _ _ _ _
                    refine J_cond rfl (fun h10 => ?_) (fun h10 => ?_)
                    ·
                      first | (have h10 := of_decide_eq_true h10) | (have h10 := of_decide_eq_false h10) | skip
                      refine J_seq ?_
                      refine J_region ?_
                      refine L_callV rfl rfl rfl rfl rfl rfl tx21e (fun w1 hw => chains_w w1 (TabK.later hw (by simp) hK)) ?_
                      refine L_v rfl rfl rfl (V_move rfl rfl) ?_
                      refine L_wcallV rfl rfl rfl rfl rfl rfl rfl rfl rfl tx16e (fun w1 hw => signs_w w1 (TabK.later hw (by simp) hK)) ?_
                      first | refine L_v rfl rfl rfl (V_pickT rfl rfl rfl) ?_ | refine L_v rfl rfl rfl (V_pickF rfl rfl rfl) ?_
                      refine L_v rfl rfl rfl (V_assign rfl rfl) ?_
                      refine L_nil ?_
                      change J _ _ _ _
                      refine J_ret ?_
                      change Kret _ _ _ Exit.ret _
                      refine ret1 rfl rfl (RV_t rfl) ?_
                      exact fun w' h => ⟨rfl, h.fr⟩
                    ·
                      first | (have h10 := of_decide_eq_true h10) | (have h10 := of_decide_eq_false h10) | skip
                      have hh0' := of_decide_eq_true (nbF h10)
                      have hh0 : hdEq (l.getD (n - 1) s0) (m.getD (n - 1) s0) := hh0'
                      have hnn : n2 = n := by omega
                      have hn1 : 1 ≤ n := by omega
                      refine J_skip ?_
                      change J _ _ _ _
                      refine J_seq ?_
                      refine J_seq ?_
                      refine J_region ?_
                      refine L_v rfl rfl rfl (V_move rfl rfl) ?_
                      refine L_v rfl rfl rfl (V_len rfl rfl Tryd.underlying44 rfl) ?_
                      refine L_v rfl rfl rfl (V_sub rfl rfl rfl (Go.IntWalk.i64_in _ (by omega))) ?_
                      refine L_v rfl rfl rfl (V_assign rfl rfl) ?_
                      refine L_nil ?_
                      change J _ _ _ _
                      refine J_block ?_
                      refine J_loop (X := Nat) (fun j => { env := [(0, .string s), (1, .string s2), (2, .slice a n c), (3, .slice a2 n2 c2), (11, .int .i64 ((j : Int) - 1))] }) (fun j => j ≤ n - 1 ∧ hdEq (l.getD j s0) (m.getD j s0)) (fun j => j) (n - 1) ⟨Nat.le_refl _, hh0⟩ ⟨⟨rfl, rfl, rfl, rfl, (congrArg (fun z => some (Value.int .i64 z)) (by omega)), trivial⟩, List.nil_sublist _, fun f hf => hf, rfl⟩ ?_
                      rintro j ⟨hj, hh⟩
                      refine J_seq ?_
                      refine J_seq ?_
                      refine J_region ?_
                      refine L_v rfl rfl rfl (V_move rfl rfl) ?_
                      refine L_v rfl rfl rfl (V_geq rfl rfl rfl (by first | exact decide_eq_true (by omega) | exact decide_eq_false (by omega) | rfl)) ?_
                      refine L_nil ?_
                      change J _ _ _ _
                      refine J_cond rfl (fun h11 => ?_) (fun h11 => ?_)
                      ·
                        first | (have h11 := of_decide_eq_true h11) | (have h11 := of_decide_eq_false h11) | skip
                        refine J_skip ?_
                        change J _ _ _ _
                        refine J_seq ?_
                        refine J_block ?_
                        refine J_seq ?_
                        refine J_seq ?_
                        refine J_regionQ rfl (by kernel_rfl) ?_
                        refine LQ_v rfl rfl rfl (V_move rfl rfl) ?_
                        refine LQ_v rfl rfl rfl (V_move rfl rfl) ?_
                        refine LQ_v rfl rfl rfl (V_indexC rfl rfl rfl Tryd.underlying44 sz36e (fun w hw => SlC.later hw rfl hu) (by omega) (by omega)) ?_
                        refine LQ_v rfl rfl rfl (V_fieldC rfl rfl (fun w hw => (let ⟨b, o, e, _⟩ := SlC.cell (SlC.later hw rfl hu) (show (sgs l)[((j : Int) - 1).toNat * (96 + 1)]? = some (.int .i64 (l.getD (j - 1) s0).e) from by rw [show ((j : Int) - 1).toNat = ((j - 1 : Nat) : Int).toNat by omega]; exact sgs_e (by omega)); ⟨b, o, e⟩)) Tryd.underlying36 rfl sz25e rfl) ?_
                        refine LQ_v rfl rfl rfl (V_loadCN (vs := hdL (l.getD (j - 1) s0).e (l.getD (j - 1) s0).r (l.getD (j - 1) s0).p) rfl rfl Tryd.underlying25 rfl (szd sz25e (by first | exact hdL_len (by first | assumption | exact shaP_len _ | exact sgn_len _ _ _ _ | exact macP_len _ _ | exact zd_length | exact Sg.hr _ | exact Sg.hp _ | exact Sg.hg _ | exact prevAt_len _ _ | rfl) (by first | assumption | exact shaP_len _ | exact sgn_len _ _ _ _ | exact macP_len _ _ | exact zd_length | exact Sg.hr _ | exact Sg.hp _ | exact Sg.hg _ | exact prevAt_len _ _ | rfl) | (rw [hdL_len (by first | assumption | exact shaP_len _ | exact sgn_len _ _ _ _ | exact macP_len _ _ | exact zd_length | exact Sg.hr _ | exact Sg.hp _ | exact Sg.hg _ | exact prevAt_len _ _ | rfl) (by first | assumption | exact shaP_len _ | exact sgn_len _ _ _ _ | exact macP_len _ _ | exact zd_length | exact Sg.hr _ | exact Sg.hp _ | exact Sg.hg _ | exact prevAt_len _ _ | rfl), hdL_len (by first | assumption | exact shaP_len _ | exact sgn_len _ _ _ _ | exact macP_len _ _ | exact zd_length | exact Sg.hr _ | exact Sg.hp _ | exact Sg.hg _ | exact prevAt_len _ _ | rfl) (by first | assumption | exact shaP_len _ | exact sgn_len _ _ _ _ | exact macP_len _ _ | exact zd_length | exact Sg.hr _ | exact Sg.hp _ | exact Sg.hg _ | exact prevAt_len _ _ | rfl)]))) (fun w hw => SlC.later hw rfl hu) (Nat.zero_lt_succ _) (by rw [show ((j : Int) - 1).toNat = ((j - 1 : Nat) : Int).toNat by omega]; exact sgs_h (by omega))) ?_
                        refine LQ_v rfl rfl rfl (V_move rfl rfl) ?_
                        refine LQ_v rfl rfl rfl (V_move rfl rfl) ?_
                        refine LQ_v rfl rfl rfl (V_indexC rfl rfl rfl Tryd.underlying44 sz36e (fun w hw => SlC.later hw rfl hu2) (by omega) (by omega)) ?_
                        refine LQ_v rfl rfl rfl (V_fieldC rfl rfl (fun w hw => (let ⟨b, o, e, _⟩ := SlC.cell (SlC.later hw rfl hu2) (show (sgs m)[((j : Int) - 1).toNat * (96 + 1)]? = some (.int .i64 (m.getD (j - 1) s0).e) from by rw [show ((j : Int) - 1).toNat = ((j - 1 : Nat) : Int).toNat by omega]; exact sgs_e (by omega)); ⟨b, o, e⟩)) Tryd.underlying36 rfl sz25e rfl) ?_
                        refine LQ_v rfl rfl rfl (V_loadCN (vs := hdL (m.getD (j - 1) s0).e (m.getD (j - 1) s0).r (m.getD (j - 1) s0).p) rfl rfl Tryd.underlying25 rfl (szd sz25e (by first | exact hdL_len (by first | assumption | exact shaP_len _ | exact sgn_len _ _ _ _ | exact macP_len _ _ | exact zd_length | exact Sg.hr _ | exact Sg.hp _ | exact Sg.hg _ | exact prevAt_len _ _ | rfl) (by first | assumption | exact shaP_len _ | exact sgn_len _ _ _ _ | exact macP_len _ _ | exact zd_length | exact Sg.hr _ | exact Sg.hp _ | exact Sg.hg _ | exact prevAt_len _ _ | rfl) | (rw [hdL_len (by first | assumption | exact shaP_len _ | exact sgn_len _ _ _ _ | exact macP_len _ _ | exact zd_length | exact Sg.hr _ | exact Sg.hp _ | exact Sg.hg _ | exact prevAt_len _ _ | rfl) (by first | assumption | exact shaP_len _ | exact sgn_len _ _ _ _ | exact macP_len _ _ | exact zd_length | exact Sg.hr _ | exact Sg.hp _ | exact Sg.hg _ | exact prevAt_len _ _ | rfl), hdL_len (by first | assumption | exact shaP_len _ | exact sgn_len _ _ _ _ | exact macP_len _ _ | exact zd_length | exact Sg.hr _ | exact Sg.hp _ | exact Sg.hg _ | exact prevAt_len _ _ | rfl) (by first | assumption | exact shaP_len _ | exact sgn_len _ _ _ _ | exact macP_len _ _ | exact zd_length | exact Sg.hr _ | exact Sg.hp _ | exact Sg.hg _ | exact prevAt_len _ _ | rfl)]))) (fun w hw => SlC.later hw rfl hu2) (Nat.zero_lt_succ _) (by rw [show ((j : Int) - 1).toNat = ((j - 1 : Nat) : Int).toNat by omega]; exact sgs_h (by omega))) ?_
                        refine LQ_v rfl rfl rfl (V_eqAgg rfl rfl rfl egH (fun w => eqH (Sg.hr _) (Sg.hr _) (Sg.hp _) (Sg.hp _) w) rfl) ?_
                        refine LQ_nil ?_
                        change J _ _ _ _
                        refine J_cond rfl (fun h12 => ?_) (fun h12 => ?_)
                        ·
                          first | (have h12 := of_decide_eq_true h12) | (have h12 := of_decide_eq_false h12) | skip
                          have hj1 : hdEq (l.getD (j - 1) s0) (m.getD (j - 1) s0) := h12
                          refine J_exit ?_
                          change J _ _ _ _
                          refine J_region ?_
                          refine L_v rfl rfl rfl (V_move rfl rfl) ?_
                          refine L_v rfl rfl rfl (V_sub rfl rfl rfl (Go.IntWalk.i64_in _ (by omega))) ?_
                          refine L_v rfl rfl rfl (V_assign rfl rfl) ?_
                          refine L_nil ?_
                          exact ⟨j - 1, ⟨by omega, hj1⟩, by omega, ⟨rfl, rfl, rfl, rfl, (congrArg (fun z => some (Value.int .i64 z)) (by omega)), trivial⟩, List.nil_sublist _, fun f hf => hf, rfl⟩
                        ·
                          first | (have h12 := of_decide_eq_true h12) | (have h12 := of_decide_eq_false h12) | skip
                          have hdd : dgP (l.getD (j - 1) s0) = dgP (m.getD (j - 1) s0) := chain_dg h0 h0m (k := j - 1) (by omega) (by omega) (by rw [show j - 1 + 1 = j by omega]; exact hh)
                          refine J_skip ?_
                          change J _ _ _ _
                          refine J_seq ?_
                          refine J_region ?_
                          refine L_v rfl rfl rfl (V_move rfl rfl) ?_
                          refine L_v rfl rfl rfl (V_move rfl rfl) ?_
                          refine L_v rfl rfl rfl (V_indexC rfl rfl rfl Tryd.underlying44 sz36e (fun w hw => SlC.later hw rfl hu) (by omega) (by omega)) ?_
                          refine L_v rfl rfl rfl (V_fieldC rfl rfl (fun w hw => (let ⟨b, o, e, _⟩ := SlC.cell (SlC.later hw rfl hu) (show (sgs l)[((j : Int) - 1).toNat * (96 + 1)]? = some (.int .i64 (l.getD (j - 1) s0).e) from by rw [show ((j : Int) - 1).toNat = ((j - 1 : Nat) : Int).toNat by omega]; exact sgs_e (by omega)); ⟨b, o, e⟩)) Tryd.underlying36 rfl sz25e rfl) ?_
                          refine L_v rfl rfl rfl (V_loadCN (vs := hdL (l.getD (j - 1) s0).e (l.getD (j - 1) s0).r (l.getD (j - 1) s0).p) rfl rfl Tryd.underlying25 rfl (szd sz25e (by first | exact hdL_len (by first | assumption | exact shaP_len _ | exact sgn_len _ _ _ _ | exact macP_len _ _ | exact zd_length | exact Sg.hr _ | exact Sg.hp _ | exact Sg.hg _ | exact prevAt_len _ _ | rfl) (by first | assumption | exact shaP_len _ | exact sgn_len _ _ _ _ | exact macP_len _ _ | exact zd_length | exact Sg.hr _ | exact Sg.hp _ | exact Sg.hg _ | exact prevAt_len _ _ | rfl) | (rw [hdL_len (by first | assumption | exact shaP_len _ | exact sgn_len _ _ _ _ | exact macP_len _ _ | exact zd_length | exact Sg.hr _ | exact Sg.hp _ | exact Sg.hg _ | exact prevAt_len _ _ | rfl) (by first | assumption | exact shaP_len _ | exact sgn_len _ _ _ _ | exact macP_len _ _ | exact zd_length | exact Sg.hr _ | exact Sg.hp _ | exact Sg.hg _ | exact prevAt_len _ _ | rfl), hdL_len (by first | assumption | exact shaP_len _ | exact sgn_len _ _ _ _ | exact macP_len _ _ | exact zd_length | exact Sg.hr _ | exact Sg.hp _ | exact Sg.hg _ | exact prevAt_len _ _ | rfl) (by first | assumption | exact shaP_len _ | exact sgn_len _ _ _ _ | exact macP_len _ _ | exact zd_length | exact Sg.hr _ | exact Sg.hp _ | exact Sg.hg _ | exact prevAt_len _ _ | rfl)]))) (fun w hw => SlC.later hw rfl hu) (Nat.zero_lt_succ _) (by rw [show ((j : Int) - 1).toNat = ((j - 1 : Nat) : Int).toNat by omega]; exact sgs_h (by omega))) ?_
                          refine L_callV rfl rfl rfl rfl rfl rfl tx11e (fun w1 hw => hdig_ok (l.getD (j - 1) s0).e (l.getD (j - 1) s0).r (l.getD (j - 1) s0).p w1 (l.getD (j - 1) s0).hr (l.getD (j - 1) s0).hp (l.getD (j - 1) s0).hrb (l.getD (j - 1) s0).hpb (chain_okE h0 (k := j - 1) (by omega)) (TabK.later hw (by simp) hK)) ?_
                          refine L_v rfl rfl rfl (V_move rfl rfl) ?_
                          refine L_v rfl rfl rfl (V_extract rfl rfl rfl) ?_
                          refine L_v rfl rfl rfl (V_extract rfl rfl rfl) ?_
                          refine L_alloc rfl rfl rfl rfl z23e (fun b0 => ?_)
                          refine L_storeW 0 rfl rfl rfl rfl rfl rfl (szd sz23e (by first | (rw [dg_length]; exact (by first | assumption | exact shaP_len _ | exact sgn_len _ _ _ _ | exact macP_len _ _ | exact zd_length | exact Sg.hr _ | exact Sg.hp _ | exact Sg.hg _ | exact prevAt_len _ _ | rfl)) | exact (rfl : (dg zd).length = (dg zd).length) | (rw [dg_length, dg_length, show zd.length = 32 from rfl]; exact Eq.symm (by first | assumption | exact shaP_len _ | exact sgn_len _ _ _ _ | exact macP_len _ _ | exact zd_length | exact Sg.hr _ | exact Sg.hp _ | exact Sg.hg _ | exact prevAt_len _ _ | rfl)) | (rw [dg_length, dg_length, prevAt_len, shaP_len]))) (by first | exact sgL_one _ _ _ _ | exact hd_one _ _ _ | exact lkL_one _ _ | exact dg_one _) (by first | (rw [dg_length]; exact (by first | assumption | exact shaP_len _ | exact sgn_len _ _ _ _ | exact macP_len _ _ | exact zd_length | exact Sg.hr _ | exact Sg.hp _ | exact Sg.hg _ | exact prevAt_len _ _ | rfl)) | exact (rfl : (dg zd).length = (dg zd).length) | (rw [dg_length, dg_length, show zd.length = 32 from rfl]; exact Eq.symm (by first | assumption | exact shaP_len _ | exact sgn_len _ _ _ _ | exact macP_len _ _ | exact zd_length | exact Sg.hr _ | exact Sg.hp _ | exact Sg.hg _ | exact prevAt_len _ _ | rfl)) | (rw [dg_length, dg_length, prevAt_len, shaP_len])) ?_
                          refine L_v rfl rfl rfl (V_assign rfl rfl) ?_
                          refine L_nil ?_
                          change J _ _ _ _
                          refine J_seq ?_
                          refine J_region ?_
                          refine L_v rfl rfl rfl (V_move rfl rfl) ?_
                          refine L_v rfl rfl rfl (V_move rfl rfl) ?_
                          refine L_v rfl rfl rfl (V_indexC rfl rfl rfl Tryd.underlying44 sz36e (fun w hw => SlC.later hw rfl hu2) (by omega) (by omega)) ?_
                          refine L_v rfl rfl rfl (V_fieldC rfl rfl (fun w hw => (let ⟨b, o, e, _⟩ := SlC.cell (SlC.later hw rfl hu2) (show (sgs m)[((j : Int) - 1).toNat * (96 + 1)]? = some (.int .i64 (m.getD (j - 1) s0).e) from by rw [show ((j : Int) - 1).toNat = ((j - 1 : Nat) : Int).toNat by omega]; exact sgs_e (by omega)); ⟨b, o, e⟩)) Tryd.underlying36 rfl sz25e rfl) ?_
                          refine L_v rfl rfl rfl (V_loadCN (vs := hdL (m.getD (j - 1) s0).e (m.getD (j - 1) s0).r (m.getD (j - 1) s0).p) rfl rfl Tryd.underlying25 rfl (szd sz25e (by first | exact hdL_len (by first | assumption | exact shaP_len _ | exact sgn_len _ _ _ _ | exact macP_len _ _ | exact zd_length | exact Sg.hr _ | exact Sg.hp _ | exact Sg.hg _ | exact prevAt_len _ _ | rfl) (by first | assumption | exact shaP_len _ | exact sgn_len _ _ _ _ | exact macP_len _ _ | exact zd_length | exact Sg.hr _ | exact Sg.hp _ | exact Sg.hg _ | exact prevAt_len _ _ | rfl) | (rw [hdL_len (by first | assumption | exact shaP_len _ | exact sgn_len _ _ _ _ | exact macP_len _ _ | exact zd_length | exact Sg.hr _ | exact Sg.hp _ | exact Sg.hg _ | exact prevAt_len _ _ | rfl) (by first | assumption | exact shaP_len _ | exact sgn_len _ _ _ _ | exact macP_len _ _ | exact zd_length | exact Sg.hr _ | exact Sg.hp _ | exact Sg.hg _ | exact prevAt_len _ _ | rfl), hdL_len (by first | assumption | exact shaP_len _ | exact sgn_len _ _ _ _ | exact macP_len _ _ | exact zd_length | exact Sg.hr _ | exact Sg.hp _ | exact Sg.hg _ | exact prevAt_len _ _ | rfl) (by first | assumption | exact shaP_len _ | exact sgn_len _ _ _ _ | exact macP_len _ _ | exact zd_length | exact Sg.hr _ | exact Sg.hp _ | exact Sg.hg _ | exact prevAt_len _ _ | rfl)]))) (fun w hw => SlC.later hw rfl hu2) (Nat.zero_lt_succ _) (by rw [show ((j : Int) - 1).toNat = ((j - 1 : Nat) : Int).toNat by omega]; exact sgs_h (by omega))) ?_
                          refine L_callV rfl rfl rfl rfl rfl rfl tx11e (fun w1 hw => hdig_ok (m.getD (j - 1) s0).e (m.getD (j - 1) s0).r (m.getD (j - 1) s0).p w1 (m.getD (j - 1) s0).hr (m.getD (j - 1) s0).hp (m.getD (j - 1) s0).hrb (m.getD (j - 1) s0).hpb (chain_okE h0m (k := j - 1) (by omega)) (TabK.later hw (by simp) hK)) ?_
                          refine L_v rfl rfl rfl (V_move rfl rfl) ?_
                          refine L_v rfl rfl rfl (V_extract rfl rfl rfl) ?_
                          refine L_v rfl rfl rfl (V_extract rfl rfl rfl) ?_
                          refine L_alloc rfl rfl rfl rfl z23e (fun b1 => ?_)
                          refine L_storeW 1 rfl rfl rfl rfl rfl rfl (szd sz23e (by first | (rw [dg_length]; exact (by first | assumption | exact shaP_len _ | exact sgn_len _ _ _ _ | exact macP_len _ _ | exact zd_length | exact Sg.hr _ | exact Sg.hp _ | exact Sg.hg _ | exact prevAt_len _ _ | rfl)) | exact (rfl : (dg zd).length = (dg zd).length) | (rw [dg_length, dg_length, show zd.length = 32 from rfl]; exact Eq.symm (by first | assumption | exact shaP_len _ | exact sgn_len _ _ _ _ | exact macP_len _ _ | exact zd_length | exact Sg.hr _ | exact Sg.hp _ | exact Sg.hg _ | exact prevAt_len _ _ | rfl)) | (rw [dg_length, dg_length, prevAt_len, shaP_len]))) (by first | exact sgL_one _ _ _ _ | exact hd_one _ _ _ | exact lkL_one _ _ | exact dg_one _) (by first | (rw [dg_length]; exact (by first | assumption | exact shaP_len _ | exact sgn_len _ _ _ _ | exact macP_len _ _ | exact zd_length | exact Sg.hr _ | exact Sg.hp _ | exact Sg.hg _ | exact prevAt_len _ _ | rfl)) | exact (rfl : (dg zd).length = (dg zd).length) | (rw [dg_length, dg_length, show zd.length = 32 from rfl]; exact Eq.symm (by first | assumption | exact shaP_len _ | exact sgn_len _ _ _ _ | exact macP_len _ _ | exact zd_length | exact Sg.hr _ | exact Sg.hp _ | exact Sg.hg _ | exact prevAt_len _ _ | rfl)) | (rw [dg_length, dg_length, prevAt_len, shaP_len])) ?_
                          refine L_v rfl rfl rfl (V_assign rfl rfl) ?_
                          refine L_nil ?_
                          change J _ _ _ _
                          refine J_seq ?_
                          refine J_region ?_
                          refine L_callV rfl rfl rfl rfl rfl rfl tx21e (fun w1 hw => chains_w w1 (TabK.later hw (by simp) hK)) ?_
                          refine L_v rfl rfl rfl (V_move rfl rfl) ?_
                          refine L_wcallV rfl rfl rfl rfl rfl rfl rfl rfl rfl tx16e (fun w1 hw => signs_w w1 (TabK.later hw (by simp) hK)) ?_
                          first | refine L_v rfl rfl rfl (V_pickT rfl rfl rfl) ?_ | refine L_v rfl rfl rfl (V_pickF rfl rfl rfl) ?_
                          refine L_v rfl rfl rfl (V_move rfl rfl) ?_
                          refine L_wv rfl rfl rfl rfl rfl rfl (V_move rfl rfl) ?_
                          refine L_wv rfl rfl rfl rfl rfl rfl (V_eql rfl rfl rfl (by first | exact decide_eq_true (by omega) | exact decide_eq_false (by omega) | rfl)) ?_
                          first | refine L_v rfl rfl rfl (V_pickT rfl rfl rfl) ?_ | refine L_v rfl rfl rfl (V_pickF rfl rfl rfl) ?_
                          refine L_v rfl rfl rfl (V_move rfl rfl) ?_
                          refine L_wv rfl rfl rfl rfl rfl rfl (V_move rfl rfl) ?_
                          refine L_wv rfl rfl rfl rfl rfl rfl (V_eql rfl rfl rfl (by first | exact decide_eq_true (by omega) | exact decide_eq_false (by omega) | rfl)) ?_
                          first | refine L_v rfl rfl rfl (V_pickT rfl rfl rfl) ?_ | refine L_v rfl rfl rfl (V_pickF rfl rfl rfl) ?_
                          refine L_v rfl rfl rfl (V_move rfl rfl) ?_
                          refine L_wv rfl rfl rfl rfl rfl rfl (V_loadW 0 rfl rfl rfl Tryd.underlying23 rfl (szd sz23e (by first | (rw [dg_length]; exact (by first | assumption | exact shaP_len _ | exact sgn_len _ _ _ _ | exact macP_len _ _ | exact zd_length | exact Sg.hr _ | exact Sg.hp _ | exact Sg.hg _ | exact prevAt_len _ _ | rfl)) | exact (rfl : (dg zd).length = (dg zd).length) | (rw [dg_length, dg_length, show zd.length = 32 from rfl]; exact Eq.symm (by first | assumption | exact shaP_len _ | exact sgn_len _ _ _ _ | exact macP_len _ _ | exact zd_length | exact Sg.hr _ | exact Sg.hp _ | exact Sg.hg _ | exact prevAt_len _ _ | rfl)) | (rw [dg_length, dg_length, prevAt_len, shaP_len])))) ?_
                          refine L_wv rfl rfl rfl rfl rfl rfl (V_loadW 1 rfl rfl rfl Tryd.underlying23 rfl (szd sz23e (by first | (rw [dg_length]; exact (by first | assumption | exact shaP_len _ | exact sgn_len _ _ _ _ | exact macP_len _ _ | exact zd_length | exact Sg.hr _ | exact Sg.hp _ | exact Sg.hg _ | exact prevAt_len _ _ | rfl)) | exact (rfl : (dg zd).length = (dg zd).length) | (rw [dg_length, dg_length, show zd.length = 32 from rfl]; exact Eq.symm (by first | assumption | exact shaP_len _ | exact sgn_len _ _ _ _ | exact macP_len _ _ | exact zd_length | exact Sg.hr _ | exact Sg.hp _ | exact Sg.hg _ | exact prevAt_len _ _ | rfl)) | (rw [dg_length, dg_length, prevAt_len, shaP_len])))) ?_
                          refine L_wv rfl rfl rfl rfl rfl rfl (V_eqD rfl rfl rfl egD9 Tryd.underlying23 Tryd.underlying5 sz5e (shaP_len _) (shaP_len _) (decide_eq_true hdd)) ?_
                          first | refine L_v rfl rfl rfl (V_pickT rfl rfl rfl) ?_ | refine L_v rfl rfl rfl (V_pickF rfl rfl rfl) ?_
                          refine L_v rfl rfl rfl (V_assign rfl rfl) ?_
                          refine L_nil ?_
                          change J _ _ _ _
                          refine J_ret ?_
                          change Kret _ _ _ Exit.ret _
                          refine ret1 rfl rfl (RV_t rfl) ?_
                          exact fun w' h => ⟨rfl, h.fr⟩
                      ·
                        first | (have h11 := of_decide_eq_true h11) | (have h11 := of_decide_eq_false h11) | skip
                        refine J_exit ?_
                        change J _ _ _ _
                        refine J_seq ?_
                        refine J_region ?_
                        refine L_callV rfl rfl rfl rfl rfl rfl tx21e (fun w1 hw => chains_w w1 (TabK.later hw (by simp) hK)) ?_
                        refine L_v rfl rfl rfl (V_move rfl rfl) ?_
                        refine L_wcallV rfl rfl rfl rfl rfl rfl rfl rfl rfl tx16e (fun w1 hw => signs_w w1 (TabK.later hw (by simp) hK)) ?_
                        first | refine L_v rfl rfl rfl (V_pickT rfl rfl rfl) ?_ | refine L_v rfl rfl rfl (V_pickF rfl rfl rfl) ?_
                        refine L_v rfl rfl rfl (V_assign rfl rfl) ?_
                        refine L_nil ?_
                        change J _ _ _ _
                        refine J_ret ?_
                        change Kret _ _ _ Exit.ret _
                        refine ret1 rfl rfl (RV_t rfl) ?_
                        exact fun w' h => ⟨rfl, h.fr⟩

theorem HeadBegins_w (s s2 : ByteArray) (u : Value) (n : Nat) (l : List Sg) (u2 : Value) (n2 : Nat) (m : List Sg) (x : Int) (w : World) (hl : l.length = n) (hm : m.length = n2) (hv : SlC 97 w u n (sgs l)) (hv2 : SlC 97 w u2 n2 (sgs m)) (hq : ∀ a n c, u = .slice a n c → n ≤ c) (hq2 : ∀ a n c, u2 = .slice a n c → n ≤ c) (hK : TabK KT 0 w) :
    Calls Tryd.prog 8 #[.string s, .string s2, u, u2, .int .i64 x] w fun e w' => e = .returned (.bool true) ∧ Fr [] w w' := by
  obtain ⟨a, c, rfl⟩ := hv.form
  obtain ⟨a2, c2, rfl⟩ := hv2.form
  exact HeadBegins_in s s2 a n c l a2 n2 c2 m x w hl hm hv hv2 (hq _ _ _ rfl) hK
end Go.Proofs.YtbckeoidnpfbnaaDoor
