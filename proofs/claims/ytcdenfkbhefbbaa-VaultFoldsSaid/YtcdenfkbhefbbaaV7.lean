/- The records that tell what is saved: one after another. -/
import Derived.Test.YtcdenfkbhefbbaaV6
set_option linter.unusedVariables false
set_option linter.unusedSimpArgs false
set_option maxRecDepth 100000
namespace Go.Proofs.Ytcdenfkbhefbbaa
open Go.Sx
theorem sz3u : (Try.prog.info? 3).map (·.size) = some 1 := by kernel_rfl
theorem sz26u : (Try.prog.info? 26).map (·.size) = some 5 := by kernel_rfl
theorem sz27u : (Try.prog.info? 27).map (·.size) = some 1 := by kernel_rfl
theorem sz28u : (Try.prog.info? 28).map (·.size) = some 1 := by kernel_rfl
theorem sz39u : (Try.prog.info? 39).map (·.size) = some 43 := by kernel_rfl
theorem sz43u : (Try.prog.info? 43).map (·.size) = some 97 := by kernel_rfl
theorem tx19u : Txt Try.prog 19 := txt_of Try.func19 rfl (by kernel_rfl)
theorem z39u : (Try.prog.info? 39).bind (·.zero) = some (.agg [.int .i64 0, .int .i64 0, .int .i64 0, .int .i64 0, .int .i64 0, .int .i64 0, .string ByteArray.empty, .string ByteArray.empty, .int .i64 0, .int .u8 0, .int .u8 0, .int .u8 0, .int .u8 0, .int .u8 0, .int .u8 0, .int .u8 0, .int .u8 0, .int .u8 0, .int .u8 0, .int .u8 0, .int .u8 0, .int .u8 0, .int .u8 0, .int .u8 0, .int .u8 0, .int .u8 0, .int .u8 0, .int .u8 0, .int .u8 0, .int .u8 0, .int .u8 0, .int .u8 0, .int .u8 0, .int .u8 0, .int .u8 0, .int .u8 0, .int .u8 0, .int .u8 0, .int .u8 0, .int .u8 0, .int .u8 0, .slice none 0 0, .slice none 0 0].toArray) := by kernel_rfl
theorem z43u : (Try.prog.info? 43).bind (·.zero) = some (.agg [.int .i64 0, .int .u8 0, .int .u8 0, .int .u8 0, .int .u8 0, .int .u8 0, .int .u8 0, .int .u8 0, .int .u8 0, .int .u8 0, .int .u8 0, .int .u8 0, .int .u8 0, .int .u8 0, .int .u8 0, .int .u8 0, .int .u8 0, .int .u8 0, .int .u8 0, .int .u8 0, .int .u8 0, .int .u8 0, .int .u8 0, .int .u8 0, .int .u8 0, .int .u8 0, .int .u8 0, .int .u8 0, .int .u8 0, .int .u8 0, .int .u8 0, .int .u8 0, .int .u8 0, .int .u8 0, .int .u8 0, .int .u8 0, .int .u8 0, .int .u8 0, .int .u8 0, .int .u8 0, .int .u8 0, .int .u8 0, .int .u8 0, .int .u8 0, .int .u8 0, .int .u8 0, .int .u8 0, .int .u8 0, .int .u8 0, .int .u8 0, .int .u8 0, .int .u8 0, .int .u8 0, .int .u8 0, .int .u8 0, .int .u8 0, .int .u8 0, .int .u8 0, .int .u8 0, .int .u8 0, .int .u8 0, .int .u8 0, .int .u8 0, .int .u8 0, .int .u8 0, .int .u8 0, .int .u8 0, .int .u8 0, .int .u8 0, .int .u8 0, .int .u8 0, .int .u8 0, .int .u8 0, .int .u8 0, .int .u8 0, .int .u8 0, .int .u8 0, .int .u8 0, .int .u8 0, .int .u8 0, .int .u8 0, .int .u8 0, .int .u8 0, .int .u8 0, .int .u8 0, .int .u8 0, .int .u8 0, .int .u8 0, .int .u8 0, .int .u8 0, .int .u8 0, .int .u8 0, .int .u8 0, .int .u8 0, .int .u8 0, .int .u8 0, .int .u8 0].toArray) := by kernel_rfl

set_option maxHeartbeats 4000000 in
theorem recs_w {Z X : Type} (w0 : World) (nt : Nat) (fs : List Fact) (M : Nat → Z → Mem) (Ms : Z → Mem) (priv : Z → X) (js : Code) (D lp : Nat) (r : Loop) (i b : Nat) (t v : Int) (sn : Sn) (a1 a2 : Sp) (es : List EnV) (s : Sp) (gl : List Sg) (s3 : Sp) (z0 : Z) (w : World) (hu : SlC 43 w0 (.slice s.1 es.length s.2) es.length (es.map enW).flatten) (hg : SlC 97 w0 (.slice s3.1 gl.length s3.2) gl.length (gl.map sgV).flatten) (hE : es.length ≤ 1048576) (hG : gl.length ≤ 1048576) (hB : sn.2.2.1.1.length ≤ 17592186044416 ∧ sn.2.2.1.2.length ≤ 17592186044416)
    (hi : ∀ k z, (M k z)[i]? = some (b, row 30 (svC t v sn a1 a2 (.slice s.1 es.length s.2) (.slice s3.1 gl.length s3.2))))
    (hR : RoundsOk { P := Try.prog, w0 := w0, nt := nt } fs M Ms priv (RL t v sn a1 a2 es gl).length (fun k => [.agg (rcW ((RL t v sn a1 a2 es gl).getD k rc0)).toArray]) js D lp r) (hw : OkW { P := Try.prog, w0 := w0, nt := nt } (M 0 z0 ++ tl D lp r) fs w) :
    Calls Try.prog 38 #[.func (.yield lp) #[] #[], .pointer (some ⟨b, 0, none⟩)] w fun e w' => IterR { P := Try.prog, w0 := w0, nt := nt } fs M Ms (RL t v sn a1 a2 es gl).length js D lp r e w' := by
  have hi2 : ∀ k z, (M k z ++ tl D lp r)[i]? = some (b, row 30 (svC t v sn a1 a2 (.slice s.1 es.length s.2) (.slice s3.1 gl.length s3.2))) := fun k z => by rw [List.getElem?_append_left (List.getElem?_eq_some_iff.1 (hi k z)).1]; exact hi k z
  have ho1 : 1 ≤ offN sn := by unfold offN; split <;> omega
  refine calls_in (args := [.func (.yield lp) #[] #[], .pointer (some ⟨b, 0, none⟩)]) [] (M 0 z0 ++ tl D lp r) fs Try.func38 rfl rfl (hw.cast rfl rfl) ?_
  refine J_seq ?_
  refine J_seq ?_
  refine J_region ?_
  refine L_v rfl rfl rfl (V_move rfl rfl) ?_
  refine L_v rfl rfl rfl (V_fieldAddr rfl rfl Try.underlying30 rfl sz3u rfl) ?_
  refine L_v rfl rfl rfl (V_load1 i rfl rfl (hi2 _ _) Try.underlying3 rfl rfl) ?_
  refine L_v rfl rfl rfl (V_fieldAddr rfl rfl Try.underlying30 rfl sz3u rfl) ?_
  refine L_v rfl rfl rfl (V_load1 i rfl rfl (hi2 _ _) Try.underlying3 rfl rfl) ?_
  refine L_v rfl rfl rfl (V_buildE (v := .agg (recX (tR t v) spN spN spN spN).toArray) rfl rfl (fun w => by kernel_rfl)) ?_
  refine L_yield rfl rfl rfl rfl rfl rfl (vs := [.agg (rcW ((RL t v sn a1 a2 es gl).getD 0 rc0)).toArray]) rfl (fun w hw => YieldAt.mono (hR 0 z0 w (by rw [RL_len]; omega) (hw.cast rfl rfl)) ?_)
  rintro e w' (h9 | h9)
  rotate_left
  · obtain ⟨rfl, z', hw'⟩ := h9
    refine ⟨_, _, rfl, hw'.cast rfl rfl, ?_⟩
    refine L_v rfl rfl rfl (V_not rfl rfl rfl) ?_
    refine L_v rfl rfl rfl (V_move rfl rfl) ?_
    refine L_skip rfl rfl rfl rfl rfl rfl rfl ?_
    refine L_skip rfl rfl rfl rfl rfl rfl rfl ?_
    refine L_skip rfl rfl rfl rfl rfl rfl rfl ?_
    refine L_skip rfl rfl rfl rfl rfl rfl rfl ?_
    refine L_skip rfl rfl rfl rfl rfl rfl rfl ?_
    refine L_skip rfl rfl rfl rfl rfl rfl rfl ?_
    refine L_skip rfl rfl rfl rfl rfl rfl rfl ?_
    refine L_skip rfl rfl rfl rfl rfl rfl rfl ?_
    refine L_skip rfl rfl rfl rfl rfl rfl rfl ?_
    refine L_skip rfl rfl rfl rfl rfl rfl rfl ?_
    refine L_skip rfl rfl rfl rfl rfl rfl rfl ?_
    refine L_skip rfl rfl rfl rfl rfl rfl rfl ?_
    refine L_v rfl rfl rfl (V_pickT rfl rfl rfl) ?_
    refine L_nil ?_
    change J _ _ _ _
    refine J_true rfl ?_
    refine J_ret ?_
    change Kret _ _ _ Exit.ret _
    exact ret0 rfl rfl (fun w2 h2 => ⟨⟨_, rfl⟩, .inr ⟨z', h2.cast rfl rfl⟩⟩)
  obtain ⟨rfl, z', hz', hw'⟩ := h9
  refine ⟨_, _, rfl, hw'.cast rfl rfl, ?_⟩
  refine L_v rfl rfl rfl (V_not rfl rfl rfl) ?_
  refine L_v rfl rfl rfl (V_move rfl rfl) ?_
  refine L_wv rfl rfl rfl rfl rfl rfl (V_fieldAddr rfl rfl Try.underlying30 rfl sz26u rfl) ?_
  refine L_wv rfl rfl rfl rfl rfl rfl (V_loadT i (vs := snX sn a1 a2) rfl rfl (hi2 _ _) Try.underlying26 rfl sz26u (by kernel_rfl) (by kernel_rfl)) ?_
  refine L_wcallV rfl rfl rfl rfl rfl rfl rfl rfl rfl tx19u (fun w1 hw => noSnap_w sn a1 a2 w1 hB) ?_
  refine L_wv rfl rfl rfl rfl rfl rfl (V_not rfl rfl rfl) ?_
  refine L_wv rfl rfl rfl rfl rfl rfl (V_move rfl rfl) ?_
  refine L_split 20 rfl (fun h1 => ?_) (fun h1 => ?_)
  ·
    first | (have h1 := of_decide_eq_true h1) | (have h1 := of_decide_eq_false h1) | skip
    have hsn : sn ≠ sn0 := by simpa using h1
    have ho : offN sn = 2 := if_neg hsn
    refine L_wv rfl rfl rfl rfl rfl rfl (V_move rfl rfl) ?_
    refine L_wv rfl rfl rfl rfl rfl rfl (V_fieldAddr rfl rfl Try.underlying30 rfl sz26u rfl) ?_
    refine L_wv rfl rfl rfl rfl rfl rfl (V_loadT i (vs := snX sn a1 a2) rfl rfl (hi2 _ _) Try.underlying26 rfl sz26u (by kernel_rfl) (by kernel_rfl)) ?_
    refine L_wv rfl rfl rfl rfl rfl rfl (V_buildE (v := .agg (recX (nR sn) spN spN a1 a2).toArray) rfl rfl (fun w => by kernel_rfl)) ?_
    refine L_wyield rfl rfl rfl rfl rfl rfl rfl rfl rfl (vs := [.agg (rcW ((RL t v sn a1 a2 es gl).getD 1 rc0)).toArray]) (by rw [RL_1 hsn]; rfl) (fun w hw => YieldAt.mono (hR 1 z' w (by rw [RL_len]; omega) (hw.cast rfl rfl)) ?_)
    rintro e w' (h9 | h9)
    rotate_left
    · obtain ⟨rfl, z', hw'⟩ := h9
      refine ⟨_, _, rfl, hw'.cast rfl rfl, ?_⟩
      refine L_wv rfl rfl rfl rfl rfl rfl (V_not rfl rfl rfl) ?_
      refine L_wv rfl rfl rfl rfl rfl rfl (V_pickT rfl rfl rfl) ?_
      refine L_v rfl rfl rfl (V_pickF rfl rfl rfl) ?_
      refine L_nil ?_
      change J _ _ _ _
      refine J_true rfl ?_
      refine J_ret ?_
      change Kret _ _ _ Exit.ret _
      exact ret0 rfl rfl (fun w2 h2 => ⟨⟨_, rfl⟩, .inr ⟨z', h2.cast rfl rfl⟩⟩)
    obtain ⟨rfl, z', hz', hw'⟩ := h9
    refine ⟨_, _, rfl, hw'.cast rfl rfl, ?_⟩
    refine L_wv rfl rfl rfl rfl rfl rfl (V_not rfl rfl rfl) ?_
    first | refine L_wv rfl rfl rfl rfl rfl rfl (V_pickT rfl rfl rfl) ?_ | refine L_wv rfl rfl rfl rfl rfl rfl (V_pickF rfl rfl rfl) ?_
    first | refine L_v rfl rfl rfl (V_pickT rfl rfl rfl) ?_ | refine L_v rfl rfl rfl (V_pickF rfl rfl rfl) ?_
    refine L_nil ?_
    change J _ _ _ _
    refine J_false rfl ?_
    refine J_skip ?_
    change J _ _ _ _
    refine J_seq ?_
    refine J_seq ?_
    refine J_region ?_
    refine L_v rfl rfl rfl (V_fieldAddr rfl rfl Try.underlying30 rfl sz27u rfl) ?_
    refine L_v rfl rfl rfl (V_load1 i rfl rfl (hi2 _ _) Try.underlying27 rfl rfl) ?_
    refine L_v rfl rfl rfl (V_len rfl rfl Try.underlying27 rfl) ?_
    refine L_v rfl rfl rfl (V_move rfl rfl) ?_
    refine L_nil ?_
    change J _ _ _ _
    refine J_block ?_
    refine J_loop (X := Nat × Z) (fun x => { env := [(0, .func (.yield lp) #[] #[]), (1, .pointer (some ⟨b, 0, none⟩)), (30, .slice s.1 es.length s.2), (31, .int .i64 (es.length : Int)), (32, .int .i64 (x.1 : Int))], mem := M (offN sn + x.1) x.2 ++ tl D lp r, facts := fs }) (fun x => x.1 ≤ es.length) (fun x => es.length - x.1) (0, z') (Nat.zero_le _) ⟨⟨rfl, rfl, rfl, rfl, rfl, trivial⟩, (by show List.Sublist (M (offN sn + 0) _ ++ _) _; rw [ho]; exact List.Sublist.refl _), fun f hf => hf, rfl⟩ ?_
    rintro ⟨k, z⟩ hk
    simp only at hk ⊢
    refine J_seq ?_
    refine J_region ?_
    refine L_v rfl rfl rfl (V_lss rfl rfl rfl (by first | exact decide_eq_true (by omega) | exact decide_eq_false (by omega) | rfl)) ?_
    refine L_nil ?_
    change J _ _ _ _
    refine J_seq ?_
    refine J_cond rfl (fun h2 => ?_) (fun h2 => ?_)
    ·
      first | (have h2 := of_decide_eq_true h2) | (have h2 := of_decide_eq_false h2) | skip
      refine J_skip ?_
      change J _ _ _ _
      refine J_seq ?_
      refine J_block ?_
      refine J_seq ?_
      refine J_region ?_
      refine L_v rfl rfl rfl (V_indexC rfl rfl rfl Try.underlying27 sz39u (fun w hw => SlC.later hw rfl hu) (by omega) (by omega)) ?_
      refine L_v rfl rfl rfl (V_loadCN (vs := enX ((es.getD k env0).1) ((es.getD k env0).2.1) ((es.getD k env0).2.2)) rfl rfl Try.underlying39 rfl (szd sz39u (by kernel_rfl)) (fun w hw => SlC.later hw rfl hu) (by exact Nat.zero_lt_succ _) (rows_v (f := enW) env0 (sz := 42) (fun _ => rfl) (by omega))) ?_
      refine L_alloc rfl rfl rfl rfl z39u (fun b0 => ?_)
      refine L_pk ((b0, row 39 [.int .i64 0, .int .i64 0, .int .i64 0, .int .i64 0, .int .i64 0, .int .i64 0, .string ByteArray.empty, .string ByteArray.empty, .int .i64 0, .int .u8 0, .int .u8 0, .int .u8 0, .int .u8 0, .int .u8 0, .int .u8 0, .int .u8 0, .int .u8 0, .int .u8 0, .int .u8 0, .int .u8 0, .int .u8 0, .int .u8 0, .int .u8 0, .int .u8 0, .int .u8 0, .int .u8 0, .int .u8 0, .int .u8 0, .int .u8 0, .int .u8 0, .int .u8 0, .int .u8 0, .int .u8 0, .int .u8 0, .int .u8 0, .int .u8 0, .int .u8 0, .int .u8 0, .int .u8 0, .int .u8 0, .int .u8 0, .slice none 0 0, .slice none 0 0]) :: (M (offN sn + k) z ++ tl D lp r)) (Pk.of_perm (l := (M (offN sn + k) z ++ tl D lp r) ++ [(b0, row 39 [.int .i64 0, .int .i64 0, .int .i64 0, .int .i64 0, .int .i64 0, .int .i64 0, .string ByteArray.empty, .string ByteArray.empty, .int .i64 0, .int .u8 0, .int .u8 0, .int .u8 0, .int .u8 0, .int .u8 0, .int .u8 0, .int .u8 0, .int .u8 0, .int .u8 0, .int .u8 0, .int .u8 0, .int .u8 0, .int .u8 0, .int .u8 0, .int .u8 0, .int .u8 0, .int .u8 0, .int .u8 0, .int .u8 0, .int .u8 0, .int .u8 0, .int .u8 0, .int .u8 0, .int .u8 0, .int .u8 0, .int .u8 0, .int .u8 0, .int .u8 0, .int .u8 0, .int .u8 0, .int .u8 0, .int .u8 0, .slice none 0 0, .slice none 0 0])]) List.perm_append_comm (List.Sublist.refl _)) ?_
      refine L_storeW 0 rfl rfl rfl rfl rfl rfl (szd sz39u (by kernel_rfl)) (all_one (by kernel_rfl)) (by kernel_rfl) ?_
      refine L_nil ?_
      change J _ _ _ _
      refine J_seq ?_
      refine J_region ?_
      refine L_v rfl rfl rfl (V_move rfl rfl) ?_
      refine L_v rfl rfl rfl (V_loadT 0 (vs := enX ((es.getD k env0).1) ((es.getD k env0).2.1) ((es.getD k env0).2.2)) rfl rfl rfl Try.underlying39 rfl sz39u (by kernel_rfl) (by kernel_rfl)) ?_
      refine L_v rfl rfl rfl (V_buildE (v := .agg (recX (eR (es.getD k env0).1) (es.getD k env0).2.1 (es.getD k env0).2.2 spN spN).toArray) rfl rfl (fun w => by kernel_rfl)) ?_
      refine L_yield rfl rfl rfl rfl rfl rfl (vs := [.agg (rcW ((RL t v sn a1 a2 es gl).getD (offN sn + k) rc0)).toArray]) (by rw [RL_e (by omega)]; rfl) (fun w hw => YieldAt.mono (hR (offN sn + k) z w (by rw [RL_len]; omega) ((hw.sub (List.sublist_cons_self _ _) (fun f hf => hf)).cast rfl rfl)) ?_)
      rintro e w' (h9 | h9)
      rotate_left
      · obtain ⟨rfl, z', hw'⟩ := h9
        refine ⟨_, _, rfl, hw'.cast rfl rfl, ?_⟩
        refine L_v rfl rfl rfl (V_not rfl rfl rfl) ?_
        refine L_nil ?_
        change J _ _ _ _
        refine J_true rfl ?_
        refine J_ret ?_
        change Kret _ _ _ Exit.ret _
        exact ret0 rfl rfl (fun w2 h2 => ⟨⟨_, rfl⟩, .inr ⟨z', h2.cast rfl rfl⟩⟩)
      obtain ⟨rfl, z', hz', hw'⟩ := h9
      refine ⟨_, _, rfl, hw'.cast rfl rfl, ?_⟩
      refine L_v rfl rfl rfl (V_not rfl rfl rfl) ?_
      refine L_nil ?_
      change J _ _ _ _
      refine J_false rfl ?_
      refine J_skip ?_
      change J _ _ _ _
      refine J_region ?_
      refine L_v rfl rfl rfl (V_add rfl rfl rfl (by first | exact Go.IntWalk.i64_in _ (by omega) | rfl)) ?_
      refine L_v rfl rfl rfl (V_move rfl rfl) ?_
      refine L_nil ?_
      exact ⟨(k + 1, z'), by show k + 1 ≤ es.length; omega, by show es.length - (k + 1) < es.length - k; omega, ⟨rfl, rfl, rfl, rfl, rfl, trivial⟩, List.Sublist.refl _, fun f hf => hf, rfl⟩
    ·
      first | (have h2 := of_decide_eq_true h2) | (have h2 := of_decide_eq_false h2) | skip
      obtain rfl : k = es.length := by omega
      refine J_exit ?_
      change J _ _ _ _
      refine J_seq ?_
      refine J_region ?_
      refine L_v rfl rfl rfl (V_fieldAddr rfl rfl Try.underlying30 rfl sz28u rfl) ?_
      refine L_v rfl rfl rfl (V_load1 i rfl rfl (hi2 _ _) Try.underlying28 rfl rfl) ?_
      refine L_v rfl rfl rfl (V_len rfl rfl Try.underlying28 rfl) ?_
      refine L_v rfl rfl rfl (V_move rfl rfl) ?_
      refine L_nil ?_
      change J _ _ _ _
      refine J_block ?_
      refine J_loop (X := Nat × Z) (fun x => { env := [(0, .func (.yield lp) #[] #[]), (1, .pointer (some ⟨b, 0, none⟩)), (43, .slice s3.1 gl.length s3.2), (44, .int .i64 (gl.length : Int)), (45, .int .i64 (x.1 : Int))], mem := M (offN sn + es.length + x.1) x.2 ++ tl D lp r, facts := fs }) (fun x => x.1 ≤ gl.length) (fun x => gl.length - x.1) (0, z) (Nat.zero_le _) ⟨⟨rfl, rfl, rfl, rfl, rfl, trivial⟩, List.Sublist.refl _, fun f hf => hf, rfl⟩ ?_
      rintro ⟨k, z⟩ hk
      simp only at hk ⊢
      refine J_seq ?_
      refine J_region ?_
      refine L_v rfl rfl rfl (V_lss rfl rfl rfl (by first | exact decide_eq_true (by omega) | exact decide_eq_false (by omega) | rfl)) ?_
      refine L_nil ?_
      change J _ _ _ _
      refine J_seq ?_
      refine J_cond rfl (fun h3 => ?_) (fun h3 => ?_)
      ·
        first | (have h3 := of_decide_eq_true h3) | (have h3 := of_decide_eq_false h3) | skip
        refine J_skip ?_
        change J _ _ _ _
        refine J_seq ?_
        refine J_block ?_
        refine J_seq ?_
        refine J_region ?_
        refine L_v rfl rfl rfl (V_indexC rfl rfl rfl Try.underlying28 sz43u (fun w hw => SlC.later hw rfl hg) (by omega) (by omega)) ?_
        refine L_v rfl rfl rfl (V_loadCN (vs := sgV (gl.getD k sg0)) rfl rfl Try.underlying43 rfl (szd sz43u (by kernel_rfl)) (fun w hw => SlC.later hw rfl hg) (by exact Nat.zero_lt_succ _) (rows_v (f := sgV) sg0 (sz := 96) (fun _ => rfl) (by omega))) ?_
        refine L_alloc rfl rfl rfl rfl z43u (fun b0 => ?_)
        refine L_pk ((b0, row 43 [.int .i64 0, .int .u8 0, .int .u8 0, .int .u8 0, .int .u8 0, .int .u8 0, .int .u8 0, .int .u8 0, .int .u8 0, .int .u8 0, .int .u8 0, .int .u8 0, .int .u8 0, .int .u8 0, .int .u8 0, .int .u8 0, .int .u8 0, .int .u8 0, .int .u8 0, .int .u8 0, .int .u8 0, .int .u8 0, .int .u8 0, .int .u8 0, .int .u8 0, .int .u8 0, .int .u8 0, .int .u8 0, .int .u8 0, .int .u8 0, .int .u8 0, .int .u8 0, .int .u8 0, .int .u8 0, .int .u8 0, .int .u8 0, .int .u8 0, .int .u8 0, .int .u8 0, .int .u8 0, .int .u8 0, .int .u8 0, .int .u8 0, .int .u8 0, .int .u8 0, .int .u8 0, .int .u8 0, .int .u8 0, .int .u8 0, .int .u8 0, .int .u8 0, .int .u8 0, .int .u8 0, .int .u8 0, .int .u8 0, .int .u8 0, .int .u8 0, .int .u8 0, .int .u8 0, .int .u8 0, .int .u8 0, .int .u8 0, .int .u8 0, .int .u8 0, .int .u8 0, .int .u8 0, .int .u8 0, .int .u8 0, .int .u8 0, .int .u8 0, .int .u8 0, .int .u8 0, .int .u8 0, .int .u8 0, .int .u8 0, .int .u8 0, .int .u8 0, .int .u8 0, .int .u8 0, .int .u8 0, .int .u8 0, .int .u8 0, .int .u8 0, .int .u8 0, .int .u8 0, .int .u8 0, .int .u8 0, .int .u8 0, .int .u8 0, .int .u8 0, .int .u8 0, .int .u8 0, .int .u8 0, .int .u8 0, .int .u8 0, .int .u8 0, .int .u8 0]) :: (M (offN sn + es.length + k) z ++ tl D lp r)) (Pk.of_perm (l := (M (offN sn + es.length + k) z ++ tl D lp r) ++ [(b0, row 43 [.int .i64 0, .int .u8 0, .int .u8 0, .int .u8 0, .int .u8 0, .int .u8 0, .int .u8 0, .int .u8 0, .int .u8 0, .int .u8 0, .int .u8 0, .int .u8 0, .int .u8 0, .int .u8 0, .int .u8 0, .int .u8 0, .int .u8 0, .int .u8 0, .int .u8 0, .int .u8 0, .int .u8 0, .int .u8 0, .int .u8 0, .int .u8 0, .int .u8 0, .int .u8 0, .int .u8 0, .int .u8 0, .int .u8 0, .int .u8 0, .int .u8 0, .int .u8 0, .int .u8 0, .int .u8 0, .int .u8 0, .int .u8 0, .int .u8 0, .int .u8 0, .int .u8 0, .int .u8 0, .int .u8 0, .int .u8 0, .int .u8 0, .int .u8 0, .int .u8 0, .int .u8 0, .int .u8 0, .int .u8 0, .int .u8 0, .int .u8 0, .int .u8 0, .int .u8 0, .int .u8 0, .int .u8 0, .int .u8 0, .int .u8 0, .int .u8 0, .int .u8 0, .int .u8 0, .int .u8 0, .int .u8 0, .int .u8 0, .int .u8 0, .int .u8 0, .int .u8 0, .int .u8 0, .int .u8 0, .int .u8 0, .int .u8 0, .int .u8 0, .int .u8 0, .int .u8 0, .int .u8 0, .int .u8 0, .int .u8 0, .int .u8 0, .int .u8 0, .int .u8 0, .int .u8 0, .int .u8 0, .int .u8 0, .int .u8 0, .int .u8 0, .int .u8 0, .int .u8 0, .int .u8 0, .int .u8 0, .int .u8 0, .int .u8 0, .int .u8 0, .int .u8 0, .int .u8 0, .int .u8 0, .int .u8 0, .int .u8 0, .int .u8 0, .int .u8 0])]) List.perm_append_comm (List.Sublist.refl _)) ?_
        refine L_storeW 0 rfl rfl rfl rfl rfl rfl (szd sz43u (by kernel_rfl)) (all_one (by kernel_rfl)) (by kernel_rfl) ?_
        refine L_nil ?_
        change J _ _ _ _
        refine J_seq ?_
        refine J_region ?_
        refine L_v rfl rfl rfl (V_move rfl rfl) ?_
        refine L_v rfl rfl rfl (V_loadT 0 (vs := sgV (gl.getD k sg0)) rfl rfl rfl Try.underlying43 rfl sz43u (by kernel_rfl) (by kernel_rfl)) ?_
        refine L_v rfl rfl rfl (V_buildE (v := .agg (recX (gR (gl.getD k sg0)) spN spN spN spN).toArray) rfl rfl (fun w => by kernel_rfl)) ?_
        refine L_yield rfl rfl rfl rfl rfl rfl (vs := [.agg (rcW ((RL t v sn a1 a2 es gl).getD (offN sn + es.length + k) rc0)).toArray]) (by rw [RL_g (by omega)]; rfl) (fun w hw => YieldAt.mono (hR (offN sn + es.length + k) z w (by rw [RL_len]; omega) ((hw.sub (List.sublist_cons_self _ _) (fun f hf => hf)).cast rfl rfl)) ?_)
        rintro e w' (h9 | h9)
        rotate_left
        · obtain ⟨rfl, z', hw'⟩ := h9
          refine ⟨_, _, rfl, hw'.cast rfl rfl, ?_⟩
          refine L_v rfl rfl rfl (V_not rfl rfl rfl) ?_
          refine L_nil ?_
          change J _ _ _ _
          refine J_true rfl ?_
          refine J_ret ?_
          change Kret _ _ _ Exit.ret _
          exact ret0 rfl rfl (fun w2 h2 => ⟨⟨_, rfl⟩, .inr ⟨z', h2.cast rfl rfl⟩⟩)
        obtain ⟨rfl, z', hz', hw'⟩ := h9
        refine ⟨_, _, rfl, hw'.cast rfl rfl, ?_⟩
        refine L_v rfl rfl rfl (V_not rfl rfl rfl) ?_
        refine L_nil ?_
        change J _ _ _ _
        refine J_false rfl ?_
        refine J_skip ?_
        change J _ _ _ _
        refine J_region ?_
        refine L_v rfl rfl rfl (V_add rfl rfl rfl (by first | exact Go.IntWalk.i64_in _ (by omega) | rfl)) ?_
        refine L_v rfl rfl rfl (V_move rfl rfl) ?_
        refine L_nil ?_
        exact ⟨(k + 1, z'), by show k + 1 ≤ gl.length; omega, by show gl.length - (k + 1) < gl.length - k; omega, ⟨rfl, rfl, rfl, rfl, rfl, trivial⟩, List.Sublist.refl _, fun f hf => hf, rfl⟩
      ·
        first | (have h3 := of_decide_eq_true h3) | (have h3 := of_decide_eq_false h3) | skip
        refine J_exit ?_
        change Kret _ _ _ Exit.normal _
        refine Kret_normal ?_
        refine ret0 rfl rfl  ?_
        exact fun w2 h2 => ⟨⟨_, rfl⟩, .inl ⟨z, by rw [RL_len, show gl.length = k by omega]; exact h2.cast rfl rfl⟩⟩
  ·
    first | (have h1 := of_decide_eq_true h1) | (have h1 := of_decide_eq_false h1) | skip
    have hsn : sn = sn0 := by simpa using h1
    have ho : offN sn = 1 := if_pos hsn
    refine L_skip rfl rfl rfl rfl rfl rfl rfl ?_
    refine L_skip rfl rfl rfl rfl rfl rfl rfl ?_
    refine L_skip rfl rfl rfl rfl rfl rfl rfl ?_
    refine L_skip rfl rfl rfl rfl rfl rfl rfl ?_
    refine L_skip rfl rfl rfl rfl rfl rfl rfl ?_
    refine L_skip rfl rfl rfl rfl rfl rfl rfl ?_
    first | refine L_wv rfl rfl rfl rfl rfl rfl (V_pickT rfl rfl rfl) ?_ | refine L_wv rfl rfl rfl rfl rfl rfl (V_pickF rfl rfl rfl) ?_
    first | refine L_v rfl rfl rfl (V_pickT rfl rfl rfl) ?_ | refine L_v rfl rfl rfl (V_pickF rfl rfl rfl) ?_
    refine L_nil ?_
    change J _ _ _ _
    refine J_false rfl ?_
    refine J_skip ?_
    change J _ _ _ _
    refine J_seq ?_
    refine J_seq ?_
    refine J_region ?_
    refine L_v rfl rfl rfl (V_fieldAddr rfl rfl Try.underlying30 rfl sz27u rfl) ?_
    refine L_v rfl rfl rfl (V_load1 i rfl rfl (hi2 _ _) Try.underlying27 rfl rfl) ?_
    refine L_v rfl rfl rfl (V_len rfl rfl Try.underlying27 rfl) ?_
    refine L_v rfl rfl rfl (V_move rfl rfl) ?_
    refine L_nil ?_
    change J _ _ _ _
    refine J_block ?_
    refine J_loop (X := Nat × Z) (fun x => { env := [(0, .func (.yield lp) #[] #[]), (1, .pointer (some ⟨b, 0, none⟩)), (30, .slice s.1 es.length s.2), (31, .int .i64 (es.length : Int)), (32, .int .i64 (x.1 : Int))], mem := M (offN sn + x.1) x.2 ++ tl D lp r, facts := fs }) (fun x => x.1 ≤ es.length) (fun x => es.length - x.1) (0, z') (Nat.zero_le _) ⟨⟨rfl, rfl, rfl, rfl, rfl, trivial⟩, (by show List.Sublist (M (offN sn + 0) _ ++ _) _; rw [ho]; exact List.Sublist.refl _), fun f hf => hf, rfl⟩ ?_
    rintro ⟨k, z⟩ hk
    simp only at hk ⊢
    refine J_seq ?_
    refine J_region ?_
    refine L_v rfl rfl rfl (V_lss rfl rfl rfl (by first | exact decide_eq_true (by omega) | exact decide_eq_false (by omega) | rfl)) ?_
    refine L_nil ?_
    change J _ _ _ _
    refine J_seq ?_
    refine J_cond rfl (fun h2 => ?_) (fun h2 => ?_)
    ·
      first | (have h2 := of_decide_eq_true h2) | (have h2 := of_decide_eq_false h2) | skip
      refine J_skip ?_
      change J _ _ _ _
      refine J_seq ?_
      refine J_block ?_
      refine J_seq ?_
      refine J_region ?_
      refine L_v rfl rfl rfl (V_indexC rfl rfl rfl Try.underlying27 sz39u (fun w hw => SlC.later hw rfl hu) (by omega) (by omega)) ?_
      refine L_v rfl rfl rfl (V_loadCN (vs := enX ((es.getD k env0).1) ((es.getD k env0).2.1) ((es.getD k env0).2.2)) rfl rfl Try.underlying39 rfl (szd sz39u (by kernel_rfl)) (fun w hw => SlC.later hw rfl hu) (by exact Nat.zero_lt_succ _) (rows_v (f := enW) env0 (sz := 42) (fun _ => rfl) (by omega))) ?_
      refine L_alloc rfl rfl rfl rfl z39u (fun b0 => ?_)
      refine L_pk ((b0, row 39 [.int .i64 0, .int .i64 0, .int .i64 0, .int .i64 0, .int .i64 0, .int .i64 0, .string ByteArray.empty, .string ByteArray.empty, .int .i64 0, .int .u8 0, .int .u8 0, .int .u8 0, .int .u8 0, .int .u8 0, .int .u8 0, .int .u8 0, .int .u8 0, .int .u8 0, .int .u8 0, .int .u8 0, .int .u8 0, .int .u8 0, .int .u8 0, .int .u8 0, .int .u8 0, .int .u8 0, .int .u8 0, .int .u8 0, .int .u8 0, .int .u8 0, .int .u8 0, .int .u8 0, .int .u8 0, .int .u8 0, .int .u8 0, .int .u8 0, .int .u8 0, .int .u8 0, .int .u8 0, .int .u8 0, .int .u8 0, .slice none 0 0, .slice none 0 0]) :: (M (offN sn + k) z ++ tl D lp r)) (Pk.of_perm (l := (M (offN sn + k) z ++ tl D lp r) ++ [(b0, row 39 [.int .i64 0, .int .i64 0, .int .i64 0, .int .i64 0, .int .i64 0, .int .i64 0, .string ByteArray.empty, .string ByteArray.empty, .int .i64 0, .int .u8 0, .int .u8 0, .int .u8 0, .int .u8 0, .int .u8 0, .int .u8 0, .int .u8 0, .int .u8 0, .int .u8 0, .int .u8 0, .int .u8 0, .int .u8 0, .int .u8 0, .int .u8 0, .int .u8 0, .int .u8 0, .int .u8 0, .int .u8 0, .int .u8 0, .int .u8 0, .int .u8 0, .int .u8 0, .int .u8 0, .int .u8 0, .int .u8 0, .int .u8 0, .int .u8 0, .int .u8 0, .int .u8 0, .int .u8 0, .int .u8 0, .int .u8 0, .slice none 0 0, .slice none 0 0])]) List.perm_append_comm (List.Sublist.refl _)) ?_
      refine L_storeW 0 rfl rfl rfl rfl rfl rfl (szd sz39u (by kernel_rfl)) (all_one (by kernel_rfl)) (by kernel_rfl) ?_
      refine L_nil ?_
      change J _ _ _ _
      refine J_seq ?_
      refine J_region ?_
      refine L_v rfl rfl rfl (V_move rfl rfl) ?_
      refine L_v rfl rfl rfl (V_loadT 0 (vs := enX ((es.getD k env0).1) ((es.getD k env0).2.1) ((es.getD k env0).2.2)) rfl rfl rfl Try.underlying39 rfl sz39u (by kernel_rfl) (by kernel_rfl)) ?_
      refine L_v rfl rfl rfl (V_buildE (v := .agg (recX (eR (es.getD k env0).1) (es.getD k env0).2.1 (es.getD k env0).2.2 spN spN).toArray) rfl rfl (fun w => by kernel_rfl)) ?_
      refine L_yield rfl rfl rfl rfl rfl rfl (vs := [.agg (rcW ((RL t v sn a1 a2 es gl).getD (offN sn + k) rc0)).toArray]) (by rw [RL_e (by omega)]; rfl) (fun w hw => YieldAt.mono (hR (offN sn + k) z w (by rw [RL_len]; omega) ((hw.sub (List.sublist_cons_self _ _) (fun f hf => hf)).cast rfl rfl)) ?_)
      rintro e w' (h9 | h9)
      rotate_left
      · obtain ⟨rfl, z', hw'⟩ := h9
        refine ⟨_, _, rfl, hw'.cast rfl rfl, ?_⟩
        refine L_v rfl rfl rfl (V_not rfl rfl rfl) ?_
        refine L_nil ?_
        change J _ _ _ _
        refine J_true rfl ?_
        refine J_ret ?_
        change Kret _ _ _ Exit.ret _
        exact ret0 rfl rfl (fun w2 h2 => ⟨⟨_, rfl⟩, .inr ⟨z', h2.cast rfl rfl⟩⟩)
      obtain ⟨rfl, z', hz', hw'⟩ := h9
      refine ⟨_, _, rfl, hw'.cast rfl rfl, ?_⟩
      refine L_v rfl rfl rfl (V_not rfl rfl rfl) ?_
      refine L_nil ?_
      change J _ _ _ _
      refine J_false rfl ?_
      refine J_skip ?_
      change J _ _ _ _
      refine J_region ?_
      refine L_v rfl rfl rfl (V_add rfl rfl rfl (by first | exact Go.IntWalk.i64_in _ (by omega) | rfl)) ?_
      refine L_v rfl rfl rfl (V_move rfl rfl) ?_
      refine L_nil ?_
      exact ⟨(k + 1, z'), by show k + 1 ≤ es.length; omega, by show es.length - (k + 1) < es.length - k; omega, ⟨rfl, rfl, rfl, rfl, rfl, trivial⟩, List.Sublist.refl _, fun f hf => hf, rfl⟩
    ·
      first | (have h2 := of_decide_eq_true h2) | (have h2 := of_decide_eq_false h2) | skip
      obtain rfl : k = es.length := by omega
      refine J_exit ?_
      change J _ _ _ _
      refine J_seq ?_
      refine J_region ?_
      refine L_v rfl rfl rfl (V_fieldAddr rfl rfl Try.underlying30 rfl sz28u rfl) ?_
      refine L_v rfl rfl rfl (V_load1 i rfl rfl (hi2 _ _) Try.underlying28 rfl rfl) ?_
      refine L_v rfl rfl rfl (V_len rfl rfl Try.underlying28 rfl) ?_
      refine L_v rfl rfl rfl (V_move rfl rfl) ?_
      refine L_nil ?_
      change J _ _ _ _
      refine J_block ?_
      refine J_loop (X := Nat × Z) (fun x => { env := [(0, .func (.yield lp) #[] #[]), (1, .pointer (some ⟨b, 0, none⟩)), (43, .slice s3.1 gl.length s3.2), (44, .int .i64 (gl.length : Int)), (45, .int .i64 (x.1 : Int))], mem := M (offN sn + es.length + x.1) x.2 ++ tl D lp r, facts := fs }) (fun x => x.1 ≤ gl.length) (fun x => gl.length - x.1) (0, z) (Nat.zero_le _) ⟨⟨rfl, rfl, rfl, rfl, rfl, trivial⟩, List.Sublist.refl _, fun f hf => hf, rfl⟩ ?_
      rintro ⟨k, z⟩ hk
      simp only at hk ⊢
      refine J_seq ?_
      refine J_region ?_
      refine L_v rfl rfl rfl (V_lss rfl rfl rfl (by first | exact decide_eq_true (by omega) | exact decide_eq_false (by omega) | rfl)) ?_
      refine L_nil ?_
      change J _ _ _ _
      refine J_seq ?_
      refine J_cond rfl (fun h3 => ?_) (fun h3 => ?_)
      ·
        first | (have h3 := of_decide_eq_true h3) | (have h3 := of_decide_eq_false h3) | skip
        refine J_skip ?_
        change J _ _ _ _
        refine J_seq ?_
        refine J_block ?_
        refine J_seq ?_
        refine J_region ?_
        refine L_v rfl rfl rfl (V_indexC rfl rfl rfl Try.underlying28 sz43u (fun w hw => SlC.later hw rfl hg) (by omega) (by omega)) ?_
        refine L_v rfl rfl rfl (V_loadCN (vs := sgV (gl.getD k sg0)) rfl rfl Try.underlying43 rfl (szd sz43u (by kernel_rfl)) (fun w hw => SlC.later hw rfl hg) (by exact Nat.zero_lt_succ _) (rows_v (f := sgV) sg0 (sz := 96) (fun _ => rfl) (by omega))) ?_
        refine L_alloc rfl rfl rfl rfl z43u (fun b0 => ?_)
        refine L_pk ((b0, row 43 [.int .i64 0, .int .u8 0, .int .u8 0, .int .u8 0, .int .u8 0, .int .u8 0, .int .u8 0, .int .u8 0, .int .u8 0, .int .u8 0, .int .u8 0, .int .u8 0, .int .u8 0, .int .u8 0, .int .u8 0, .int .u8 0, .int .u8 0, .int .u8 0, .int .u8 0, .int .u8 0, .int .u8 0, .int .u8 0, .int .u8 0, .int .u8 0, .int .u8 0, .int .u8 0, .int .u8 0, .int .u8 0, .int .u8 0, .int .u8 0, .int .u8 0, .int .u8 0, .int .u8 0, .int .u8 0, .int .u8 0, .int .u8 0, .int .u8 0, .int .u8 0, .int .u8 0, .int .u8 0, .int .u8 0, .int .u8 0, .int .u8 0, .int .u8 0, .int .u8 0, .int .u8 0, .int .u8 0, .int .u8 0, .int .u8 0, .int .u8 0, .int .u8 0, .int .u8 0, .int .u8 0, .int .u8 0, .int .u8 0, .int .u8 0, .int .u8 0, .int .u8 0, .int .u8 0, .int .u8 0, .int .u8 0, .int .u8 0, .int .u8 0, .int .u8 0, .int .u8 0, .int .u8 0, .int .u8 0, .int .u8 0, .int .u8 0, .int .u8 0, .int .u8 0, .int .u8 0, .int .u8 0, .int .u8 0, .int .u8 0, .int .u8 0, .int .u8 0, .int .u8 0, .int .u8 0, .int .u8 0, .int .u8 0, .int .u8 0, .int .u8 0, .int .u8 0, .int .u8 0, .int .u8 0, .int .u8 0, .int .u8 0, .int .u8 0, .int .u8 0, .int .u8 0, .int .u8 0, .int .u8 0, .int .u8 0, .int .u8 0, .int .u8 0, .int .u8 0]) :: (M (offN sn + es.length + k) z ++ tl D lp r)) (Pk.of_perm (l := (M (offN sn + es.length + k) z ++ tl D lp r) ++ [(b0, row 43 [.int .i64 0, .int .u8 0, .int .u8 0, .int .u8 0, .int .u8 0, .int .u8 0, .int .u8 0, .int .u8 0, .int .u8 0, .int .u8 0, .int .u8 0, .int .u8 0, .int .u8 0, .int .u8 0, .int .u8 0, .int .u8 0, .int .u8 0, .int .u8 0, .int .u8 0, .int .u8 0, .int .u8 0, .int .u8 0, .int .u8 0, .int .u8 0, .int .u8 0, .int .u8 0, .int .u8 0, .int .u8 0, .int .u8 0, .int .u8 0, .int .u8 0, .int .u8 0, .int .u8 0, .int .u8 0, .int .u8 0, .int .u8 0, .int .u8 0, .int .u8 0, .int .u8 0, .int .u8 0, .int .u8 0, .int .u8 0, .int .u8 0, .int .u8 0, .int .u8 0, .int .u8 0, .int .u8 0, .int .u8 0, .int .u8 0, .int .u8 0, .int .u8 0, .int .u8 0, .int .u8 0, .int .u8 0, .int .u8 0, .int .u8 0, .int .u8 0, .int .u8 0, .int .u8 0, .int .u8 0, .int .u8 0, .int .u8 0, .int .u8 0, .int .u8 0, .int .u8 0, .int .u8 0, .int .u8 0, .int .u8 0, .int .u8 0, .int .u8 0, .int .u8 0, .int .u8 0, .int .u8 0, .int .u8 0, .int .u8 0, .int .u8 0, .int .u8 0, .int .u8 0, .int .u8 0, .int .u8 0, .int .u8 0, .int .u8 0, .int .u8 0, .int .u8 0, .int .u8 0, .int .u8 0, .int .u8 0, .int .u8 0, .int .u8 0, .int .u8 0, .int .u8 0, .int .u8 0, .int .u8 0, .int .u8 0, .int .u8 0, .int .u8 0, .int .u8 0])]) List.perm_append_comm (List.Sublist.refl _)) ?_
        refine L_storeW 0 rfl rfl rfl rfl rfl rfl (szd sz43u (by kernel_rfl)) (all_one (by kernel_rfl)) (by kernel_rfl) ?_
        refine L_nil ?_
        change J _ _ _ _
        refine J_seq ?_
        refine J_region ?_
        refine L_v rfl rfl rfl (V_move rfl rfl) ?_
        refine L_v rfl rfl rfl (V_loadT 0 (vs := sgV (gl.getD k sg0)) rfl rfl rfl Try.underlying43 rfl sz43u (by kernel_rfl) (by kernel_rfl)) ?_
        refine L_v rfl rfl rfl (V_buildE (v := .agg (recX (gR (gl.getD k sg0)) spN spN spN spN).toArray) rfl rfl (fun w => by kernel_rfl)) ?_
        refine L_yield rfl rfl rfl rfl rfl rfl (vs := [.agg (rcW ((RL t v sn a1 a2 es gl).getD (offN sn + es.length + k) rc0)).toArray]) (by rw [RL_g (by omega)]; rfl) (fun w hw => YieldAt.mono (hR (offN sn + es.length + k) z w (by rw [RL_len]; omega) ((hw.sub (List.sublist_cons_self _ _) (fun f hf => hf)).cast rfl rfl)) ?_)
        rintro e w' (h9 | h9)
        rotate_left
        · obtain ⟨rfl, z', hw'⟩ := h9
          refine ⟨_, _, rfl, hw'.cast rfl rfl, ?_⟩
          refine L_v rfl rfl rfl (V_not rfl rfl rfl) ?_
          refine L_nil ?_
          change J _ _ _ _
          refine J_true rfl ?_
          refine J_ret ?_
          change Kret _ _ _ Exit.ret _
          exact ret0 rfl rfl (fun w2 h2 => ⟨⟨_, rfl⟩, .inr ⟨z', h2.cast rfl rfl⟩⟩)
        obtain ⟨rfl, z', hz', hw'⟩ := h9
        refine ⟨_, _, rfl, hw'.cast rfl rfl, ?_⟩
        refine L_v rfl rfl rfl (V_not rfl rfl rfl) ?_
        refine L_nil ?_
        change J _ _ _ _
        refine J_false rfl ?_
        refine J_skip ?_
        change J _ _ _ _
        refine J_region ?_
        refine L_v rfl rfl rfl (V_add rfl rfl rfl (by first | exact Go.IntWalk.i64_in _ (by omega) | rfl)) ?_
        refine L_v rfl rfl rfl (V_move rfl rfl) ?_
        refine L_nil ?_
        exact ⟨(k + 1, z'), by show k + 1 ≤ gl.length; omega, by show gl.length - (k + 1) < gl.length - k; omega, ⟨rfl, rfl, rfl, rfl, rfl, trivial⟩, List.Sublist.refl _, fun f hf => hf, rfl⟩
      ·
        first | (have h3 := of_decide_eq_true h3) | (have h3 := of_decide_eq_false h3) | skip
        refine J_exit ?_
        change Kret _ _ _ Exit.normal _
        refine Kret_normal ?_
        refine ret0 rfl rfl  ?_
        exact fun w2 h2 => ⟨⟨_, rfl⟩, .inl ⟨z, by rw [RL_len, show gl.length = k by omega]; exact h2.cast rfl rfl⟩⟩

end Go.Proofs.Ytcdenfkbhefbbaa
