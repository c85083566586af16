/- Both disks read alike. -/
import Derived.Test.YtcbpgnjlbbjieaaDoorD14
set_option linter.unusedVariables false
set_option linter.unusedSimpArgs false
set_option maxRecDepth 100000
namespace Go.Proofs.YtcbpgnjlbbjieaaDoor
open Go.Sx
theorem tx16do : Txt Tryd.prog 16 := txt_of Tryd.func16 rfl (by kernel_rfl)
theorem tx50do : Txt Tryd.prog 50 := txt_of Tryd.func50 rfl (by kernel_rfl)

theorem reads_w {k : Nat} (b1 b2 : Nat) (D : Dk) (H : DkH) (HR : RkH) (f : ByteArray) (w : World) (hM : MemAt w (dkM b1 D H)) (hM2 : MemAt w (rkM b2 D HR)) (hG : Good D H) (hG2 : GoodR D HR) (hW : WfD D k) (hk : k ≤ 549755813888) (hF : FA w (rkF D HR)) :
    Calls Tryd.prog 25 #[.pointer (some ⟨b1, 0, none⟩), .pointer (some ⟨b2, 0, none⟩), .string f] w fun e w' => e = .returned (.bool true) ∧ Fr [] w w' := by
  refine calls_of (args := [.pointer (some ⟨b1, 0, none⟩), .pointer (some ⟨b2, 0, none⟩), .string f]) ([]) ([]) ([rkF D HR]) Tryd.func25 rfl rfl (okFW (.cons hF .nil)) ?_
  refine J_seq ?_
  refine J_region ?_
  refine L_v rfl rfl rfl (V_assign rfl rfl) ?_
  refine L_nil ?_
  change J _ _ _ _
  refine J_seq ?_
  refine J_region ?_
  refine L_v rfl rfl rfl (V_move rfl rfl) ?_
  refine L_v rfl rfl rfl (V_move rfl rfl) ?_
  refine L_call rfl rfl rfl rfl tx16do (fun w1 hw => (read_f b1 D H f w1 ⟨fun b o hb => OkW.later hw rfl (hM.1 b o hb), hM.2⟩ hG hW).mono ?_)
  rintro e w' ⟨a1, c1, hcp, rfl, hfr, hn⟩
  refine ⟨_, _, _, rfl, hw.newN hfr hn, rfl, ?_⟩
  refine L_v rfl rfl rfl (V_move rfl rfl) ?_
  refine L_v rfl rfl rfl (V_extract rfl rfl rfl) ?_
  refine L_v rfl rfl rfl (V_extract rfl rfl rfl) ?_
  refine L_v rfl rfl rfl (V_assign rfl rfl) ?_
  refine L_v rfl rfl rfl (V_assign rfl rfl) ?_
  refine L_nil ?_
  change J _ _ _ _
  refine J_seq ?_
  refine J_region ?_
  refine L_v rfl rfl rfl (V_move rfl rfl) ?_
  refine L_v rfl rfl rfl (V_move rfl rfl) ?_
  refine L_call rfl rfl rfl rfl tx50do (fun w1 hw => (rread_w b2 D HR f w1 ⟨fun b o hb => OkW.later hw rfl (hM2.1 b o hb), hM2.2⟩ hG2 (hw.fa 0 rfl) hW (by have := hW.n2; omega)).mono ?_)
  rintro e w' ⟨a2, c2, rfl, hfr, hg⟩
  refine ⟨_, _, _, rfl, hw.addG (fun x hx => by obtain rfl := List.mem_singleton.1 hx; exact List.mem_cons_self ..) hfr hg, rfl, ?_⟩
  refine L_v rfl rfl rfl (V_move rfl rfl) ?_
  refine L_v rfl rfl rfl (V_extract rfl rfl rfl) ?_
  refine L_v rfl rfl rfl (V_extract rfl rfl rfl) ?_
  refine L_v rfl rfl rfl (V_assign rfl rfl) ?_
  refine L_v rfl rfl rfl (V_assign rfl rfl) ?_
  refine L_nil ?_
  change J _ _ _ _
  refine J_seq ?_
  refine J_region ?_
  refine L_v rfl rfl rfl (V_move rfl rfl) ?_
  refine L_v rfl rfl rfl (V_move rfl rfl) ?_
  refine L_v rfl rfl rfl (V_eql rfl rfl rfl rfl) ?_
  refine L_v rfl rfl rfl (V_move rfl rfl) ?_
  apply L_and 5 26 32
  · rfl
  · rfl
  · rfl
  · rfl
  · rfl
  · rfl
  · rfl
  · kernel_rfl
  · intro hb1 _ _ hk1
    refine L_wv rfl rfl rfl rfl rfl rfl (V_move rfl rfl) ?_
    refine L_wv rfl rfl rfl rfl rfl rfl (V_str rfl rfl Tryd.underlying22 Tryd.underlying5 Tryd.underlying9 (fun w hw => (hw.fa 1 rfl).1)) ?_
    refine L_wv rfl rfl rfl rfl rfl rfl (V_move rfl rfl) ?_
    refine L_wv rfl rfl rfl rfl rfl rfl (V_str rfl rfl Tryd.underlying22 Tryd.underlying5 Tryd.underlying9 (fun w hw => (hw.fa 2 rfl).1)) ?_
    refine L_wv rfl rfl rfl rfl rfl rfl (V_eqS rfl rfl rfl rfl) ?_
    exact hk1 _ ⟨rfl, (by first | simp only [St.put] | rfl), (by first | simp only [St.put] | rfl), (by first | simp only [St.put] | rfl), ext_cut 5 (by kernel_rfl) (by kernel_rfl)⟩
  refine L_v rfl rfl rfl (V_assign rfl rfl) ?_
  refine L_nil ?_
  change J _ _ _ _
  refine J_ret ?_
  change Kret _ _ _ Exit.ret _
  refine ret1 rfl rfl (RV_t rfl) ?_
  exact fun w' h => ⟨by simp, h.fr⟩

end Go.Proofs.YtcbpgnjlbbjieaaDoor
