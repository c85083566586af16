/- The reference of the vault: what is right; which records may be. -/
import Derived.Test.YtcdenfkbhefbbaaV14
set_option linter.unusedVariables false
set_option linter.unusedSimpArgs false
set_option maxRecDepth 100000
namespace Go.Proofs.Ytcdenfkbhefbbaa
open Go.Sx
theorem may_dec (r : Rec) : decide (MayR r) = (if r.1 = 1 then decide (r.2.2.2.1 = en0) && decide (r.2.2.2.2.1 = 0) && decide (r.2.2.2.2.2.1 = sn0) && decide (r.2.2.2.2.2.2 = sg0)
    else if r.1 = 2 then (decide (r.2.1 = 0) && decide (r.2.2.1 = 0)) && decide (r.2.2.2.2.1 = 0) && decide (r.2.2.2.2.2.1 = sn0) && decide (r.2.2.2.2.2.2 = sg0)
    else if r.1 = 3 then (decide (r.2.1 = 0) && decide (r.2.2.1 = 0)) && decide (r.2.2.2.1 = en0) && decide (r.2.2.2.2.2.1 = sn0) && decide (r.2.2.2.2.2.2 = sg0)
    else if r.1 = 4 then (decide (r.2.1 = 0) && decide (r.2.2.1 = 0)) && decide (r.2.2.2.1 = en0) && decide (r.2.2.2.2.1 = 0) && decide (r.2.2.2.2.2.2 = sg0)
    else if r.1 = 5 then (decide (r.2.1 = 0) && decide (r.2.2.1 = 0)) && decide (r.2.2.2.1 = en0) && decide (r.2.2.2.2.1 = 0) && decide (r.2.2.2.2.2.1 = sn0) else false) := by
  rw [Bool.eq_iff_iff, decide_eq_true_eq, may_r]
  split
  · rename_i h; simp only [Bool.and_eq_true, decide_eq_true_eq]; simp [h, and_assoc]
  · split
    · rename_i h1 h; simp only [Bool.and_eq_true, decide_eq_true_eq]; simp [h, and_assoc]
    · split
      · rename_i h1 h2 h; simp only [Bool.and_eq_true, decide_eq_true_eq]; simp [h, and_assoc]
      · split
        · rename_i h1 h2 h3 h; simp only [Bool.and_eq_true, decide_eq_true_eq]; simp [h, and_assoc]
        · split
          · rename_i h1 h2 h3 h4 h; simp only [Bool.and_eq_true, decide_eq_true_eq]; simp [h, and_assoc]
          · rename_i h1 h2 h3 h4 h5; simp [h1, h2, h3, h4, h5]
theorem putE_dec (r : Rec) : decide (putE r = 0) = okR r := by
  rw [Bool.eq_iff_iff, decide_eq_true_eq, putE_ok]
section
variable {S : SvS}
theorem right_iff : RightS S.sv ↔ baseP S.sv ∧ goB S.sn S.es S.es.length = true ∧ riB S.gl S.gl.length = true ∧ toldP S.sv := by
  unfold RightS
  rw [goB_iff (t := S.t) (v := S.v) (gl := S.gl), riB_iff (t := S.t) (v := S.v) (sn := S.sn) (es := S.es.map Prod.fst)]
  exact Iff.rfl
theorem baseS : baseP S.sv ↔ S.es.length ≤ 9000 ∧ S.gl.length ≤ 200 ∧ ¬ far S.t ∧ ¬ far S.v ∧ ¬ far S.sn.1 ∧ (0 < S.sn.1 ∨ S.sn = sn0) := base_iff (t := S.t) (v := S.v) (sn := S.sn) (es := S.es) (gl := S.gl)
theorem no_base (h : ¬ baseP S.sv) : decide (RightS S.sv) = false := decide_eq_false fun hr => h hr.1
theorem no_go {i : Nat} (hi : i < S.es.length) (h : ¬ (S.es.getD i env0).1.1 - 1 - (i : Int) = S.sn.1) : decide (RightS S.sv) = false := decide_eq_false fun hr => h (of_decide_eq_true (right_iff.1 hr).2.1 i hi)
theorem no_ri {i : Nat} (h1 : 1 ≤ i) (hi : i < S.gl.length) (h : (S.gl.getD i sg0).1.1 ≤ (S.gl.getD (i - 1) sg0).1.1) : decide (RightS S.sv) = false := decide_eq_false fun hr => by
  have := of_decide_eq_true (right_iff.1 hr).2.2.1 i hi (by omega)
  omega
theorem no_told {L : List RcV} (hL : L.map Prod.fst = RS S) {i : Nat} (hi : i < L.length) (h : ¬ okR (L.getD i rc0).1 = true) : decide (RightS S.sv) = false := decide_eq_false fun hr => h ((RS_told hL).2 (right_iff.1 hr).2.2.2 _ (getD_mem hi))
theorem yes_right {L : List RcV} (hb : baseP S.sv) (hg : goB S.sn S.es S.es.length = true) (hr : riB S.gl S.gl.length = true) (hL : L.map Prod.fst = RS S) (h : ∀ j, j < L.length → okR (L.getD j rc0).1 = true) : decide (RightS S.sv) = true :=
  decide_eq_true (right_iff.2 ⟨hb, hg, hr, (RS_told hL).1 fun p hp => by
    obtain ⟨j, hj, rfl⟩ := List.mem_iff_getElem.1 hp
    have := h j hj
    rwa [List.getD_eq_getElem?_getD, List.getElem?_eq_getElem hj] at this⟩)
theorem ri_go {gl : List Sg} {i : Nat} (h1 : 1 ≤ i) (h : riB gl i = true) (h2 : (gl.getD (i - 1) sg0).1.1 < (gl.getD i sg0).1.1) : riB gl (i + 1) = true := by
  rw [riB_succ, h, Bool.true_and, decide_eq_true h2, Bool.or_true]
theorem ri_one (gl : List Sg) : riB gl 1 = true := decide_eq_true fun j hj h0 => by omega
end
theorem sz3ri : (Try.prog.info? 3).map (·.size) = some 1 := by kernel_rfl
theorem sz26ri : (Try.prog.info? 26).map (·.size) = some 5 := by kernel_rfl
theorem sz27ri : (Try.prog.info? 27).map (·.size) = some 1 := by kernel_rfl
theorem sz28ri : (Try.prog.info? 28).map (·.size) = some 1 := by kernel_rfl
theorem sz30ri : (Try.prog.info? 30).map (·.size) = some 9 := by kernel_rfl
theorem sz31ri : (Try.prog.info? 31).map (·.size) = some 1 := by kernel_rfl
theorem sz39ri : (Try.prog.info? 39).map (·.size) = some 43 := by kernel_rfl
theorem sz41ri : (Try.prog.info? 41).map (·.size) = some 65 := by kernel_rfl
theorem sz43ri : (Try.prog.info? 43).map (·.size) = some 97 := by kernel_rfl
theorem sz45ri : (Try.prog.info? 45).map (·.size) = some 149 := by kernel_rfl
theorem tx28ri : Txt Try.prog 28 := txt_of Try.func28 rfl (by kernel_rfl)
theorem tx29ri : Txt Try.prog 29 := txt_of Try.func29 rfl (by kernel_rfl)
theorem tx30ri : Txt Try.prog 30 := txt_of Try.func30 rfl (by kernel_rfl)
theorem tx31ri : Txt Try.prog 31 := txt_of Try.func31 rfl (by kernel_rfl)
theorem tx32ri : Txt Try.prog 32 := txt_of Try.func32 rfl (by kernel_rfl)

set_option maxHeartbeats 4000000 in
theorem rright_w (S : SvS) (s s3 : Sp) (w : World) (f1 : FA w (svF S s s3)) (hz : SzB S) :
    Calls Try.prog 12 #[.agg (svX S s s3).toArray] w fun e w' => e = .returned (.bool (decide (RightS S.sv))) ∧ Fr [] w w' := by
  obtain ⟨hzc, hze, hzl, hzg, hI⟩ := id hz
  have ho2 : offN S.sn ≤ 2 := by unfold offN; split <;> omega
  refine calls_of (args := [.agg (svX S s s3).toArray]) ([]) ([]) ([svF S s s3]) Try.func12 rfl rfl (okFW (.cons f1 .nil)) ?_
  refine J_seq ?_
  refine J_region ?_
  refine L_box rfl rfl rfl rfl rfl (fun b0 => ?_)
  refine L_v rfl rfl rfl (V_assign rfl rfl) ?_
  refine L_nil ?_
  change J _ _ _ _
  refine J_seq ?_
  refine J_seq ?_
  refine J_mid (X := Nat) (fun z9 => { env := [(1, .pointer (some ⟨z9, 0, none⟩)), (46, .bool (!decide (baseP S.sv)))], mem := [(z9, row 30 (svC S.t S.v S.sn S.a S.b (.slice s.1 S.es.length s.2) (.slice s3.1 S.gl.length s3.2)))], facts := [svF S s s3] }) ?_ ?_
  ·
    refine J_region ?_
    refine L_v rfl rfl rfl (V_fieldAddr rfl rfl Try.underlying30 rfl sz27ri rfl) ?_
    refine L_v rfl rfl rfl (V_load1 0 rfl rfl rfl Try.underlying27 rfl (by rfl)) ?_
    refine L_v rfl rfl rfl (V_len rfl rfl Try.underlying27 rfl) ?_
    refine L_v rfl rfl rfl (V_gtr rfl rfl rfl (by first | exact decide_eq_true (by omega) | exact decide_eq_false (by omega) | rfl)) ?_
    refine L_v rfl rfl rfl (V_move rfl rfl) ?_
    apply L_or 4 13 18
    · rfl
    · rfl
    · rfl
    · rfl
    · rfl
    · rfl
    · rfl
    · kernel_rfl
    · intro hb1 _ _ hk1
      refine L_wv rfl rfl rfl rfl rfl rfl (V_fieldAddr rfl rfl Try.underlying30 rfl sz28ri rfl) ?_
      refine L_wv rfl rfl rfl rfl rfl rfl (V_load1 0 rfl rfl rfl Try.underlying28 rfl (by rfl)) ?_
      refine L_wv rfl rfl rfl rfl rfl rfl (V_len rfl rfl Try.underlying28 rfl) ?_
      refine L_wv rfl rfl rfl rfl rfl rfl (V_gtr rfl rfl rfl (by first | exact decide_eq_true (by omega) | exact decide_eq_false (by omega) | rfl)) ?_
      exact hk1 _ ⟨rfl, rfl, rfl, rfl, ext_cut 4 (by kernel_rfl) (by kernel_rfl)⟩
    refine L_v rfl rfl rfl (V_move rfl rfl) ?_
    apply L_or 3 19 23
    · rfl
    · rfl
    · rfl
    · rfl
    · rfl
    · rfl
    · rfl
    · kernel_rfl
    · intro hb2 _ _ hk2
      refine L_wv rfl rfl rfl rfl rfl rfl (V_fieldAddr rfl rfl Try.underlying30 rfl sz3ri rfl) ?_
      refine L_wv rfl rfl rfl rfl rfl rfl (V_load1 0 rfl rfl rfl Try.underlying3 rfl (by rfl)) ?_
      refine L_wcallV rfl rfl rfl rfl rfl rfl rfl rfl rfl tx29ri (fun w1 hw => rfar_w _ w1) ?_
      exact hk2 _ ⟨rfl, rfl, rfl, rfl, ext_cut 3 (by kernel_rfl) (by kernel_rfl)⟩
    refine L_v rfl rfl rfl (V_move rfl rfl) ?_
    apply L_or 3 24 28
    · rfl
    · rfl
    · rfl
    · rfl
    · rfl
    · rfl
    · rfl
    · kernel_rfl
    · intro hb3 _ _ hk3
      refine L_wv rfl rfl rfl rfl rfl rfl (V_fieldAddr rfl rfl Try.underlying30 rfl sz3ri rfl) ?_
      refine L_wv rfl rfl rfl rfl rfl rfl (V_load1 0 rfl rfl rfl Try.underlying3 rfl (by rfl)) ?_
      refine L_wcallV rfl rfl rfl rfl rfl rfl rfl rfl rfl tx29ri (fun w1 hw => rfar_w _ w1) ?_
      exact hk3 _ ⟨rfl, rfl, rfl, rfl, ext_cut 3 (by kernel_rfl) (by kernel_rfl)⟩
    refine L_v rfl rfl rfl (V_move rfl rfl) ?_
    apply L_or 4 29 34
    · rfl
    · rfl
    · rfl
    · rfl
    · rfl
    · rfl
    · rfl
    · kernel_rfl
    · intro hb4 _ _ hk4
      refine L_wv rfl rfl rfl rfl rfl rfl (V_fieldAddr rfl rfl Try.underlying30 rfl sz26ri rfl) ?_
      refine L_wv rfl rfl rfl rfl rfl rfl (V_fieldAddr rfl rfl Try.underlying26 rfl sz3ri rfl) ?_
      refine L_wv rfl rfl rfl rfl rfl rfl (V_load1 0 rfl rfl rfl Try.underlying3 rfl (by rfl)) ?_
      refine L_wcallV rfl rfl rfl rfl rfl rfl rfl rfl rfl tx29ri (fun w1 hw => rfar_w _ w1) ?_
      exact hk4 _ ⟨rfl, rfl, rfl, rfl, ext_cut 4 (by kernel_rfl) (by kernel_rfl)⟩
    refine L_v rfl rfl rfl (V_move rfl rfl) ?_
    refine L_split 35 rfl (fun h5 => ?_) (fun h5 => ?_)
    ·
      first | (have h5 := of_decide_eq_true h5) | (have h5 := of_decide_eq_false h5) | skip
      refine L_skip rfl rfl rfl rfl rfl rfl rfl ?_
      refine L_skip rfl rfl rfl rfl rfl rfl rfl ?_
      refine L_skip rfl rfl rfl rfl rfl rfl rfl ?_
      refine L_skip rfl rfl rfl rfl rfl rfl rfl ?_
      refine L_skip rfl rfl rfl rfl rfl rfl rfl ?_
      refine L_skip rfl rfl rfl rfl rfl rfl rfl ?_
      refine L_skip rfl rfl rfl rfl rfl rfl rfl ?_
      refine L_skip rfl rfl rfl rfl rfl rfl rfl ?_
      refine L_skip rfl rfl rfl rfl rfl rfl rfl ?_
      refine L_skip rfl rfl rfl rfl rfl rfl rfl ?_
      first | refine L_v rfl rfl rfl (V_pickT rfl rfl rfl) ?_ | refine L_v rfl rfl rfl (V_pickF rfl rfl rfl) ?_
      refine L_same 46 rfl ((show Value.bool true = Value.bool (!decide (baseP S.sv)) from congrArg Value.bool (by
  have hn : decide (baseP S.sv) = false := decide_eq_false (by
    rw [baseS]
    rintro ⟨q1, q2, q3, q4, q5, _⟩
    simp only [Bool.or_eq_true, decide_eq_true_eq] at h5
    rcases h5 with (((h5 | h5) | h5) | h5) | h5
    · omega
    · omega
    · exact q3 h5
    · exact q4 h5
    · exact q5 h5)
  rw [hn]; rfl))) ?_
      refine L_nil ?_
      exact ⟨b0, ⟨rfl, rfl, trivial⟩, (List.Sublist.cons_cons _ (List.nil_sublist _)), fun f hf => hf, rfl⟩
    ·
      first | (have h5 := of_decide_eq_true h5) | (have h5 := of_decide_eq_false h5) | skip
      refine L_wv rfl rfl rfl rfl rfl rfl (V_fieldAddr rfl rfl Try.underlying30 rfl sz26ri rfl) ?_
      refine L_wv rfl rfl rfl rfl rfl rfl (V_fieldAddr rfl rfl Try.underlying26 rfl sz3ri rfl) ?_
      refine L_wv rfl rfl rfl rfl rfl rfl (V_load1 0 rfl rfl rfl Try.underlying3 rfl (by rfl)) ?_
      refine L_wv rfl rfl rfl rfl rfl rfl (V_lss rfl rfl rfl (by first | exact decide_eq_true (by omega) | exact decide_eq_false (by omega) | rfl)) ?_
      refine L_wv rfl rfl rfl rfl rfl rfl (V_move rfl rfl) ?_
      refine L_split 40 rfl (fun h6 => ?_) (fun h6 => ?_)
      ·
        first | (have h6 := of_decide_eq_true h6) | (have h6 := of_decide_eq_false h6) | skip
        refine L_wv rfl rfl rfl rfl rfl rfl (V_fieldAddr rfl rfl Try.underlying30 rfl sz26ri rfl) ?_
        refine L_wv rfl rfl rfl rfl rfl rfl (V_loadT 0 (vs := snX S.sn S.a S.b) rfl rfl rfl Try.underlying26 rfl sz26ri (by kernel_rfl) (by kernel_rfl)) ?_
        refine L_wcallV rfl rfl rfl rfl rfl rfl rfl rfl rfl tx30ri (fun w1 hw => bare_w S.sn S.a S.b w1 (hw.fa 0 rfl).l hz.1) ?_
        refine L_wv rfl rfl rfl rfl rfl rfl (V_not rfl rfl rfl) ?_
        first | refine L_wv rfl rfl rfl rfl rfl rfl (V_pickT rfl rfl rfl) ?_ | refine L_wv rfl rfl rfl rfl rfl rfl (V_pickF rfl rfl rfl) ?_
        first | refine L_v rfl rfl rfl (V_pickT rfl rfl rfl) ?_ | refine L_v rfl rfl rfl (V_pickF rfl rfl rfl) ?_
        refine L_same 46 rfl ((show Value.bool (!decide (S.sn = sn0)) = Value.bool (!decide (baseP S.sv)) from congrArg Value.bool (congrArg (! ·) (decide_eq_decide.2 (by
    rw [baseS]
    simp only [Bool.or_eq_false_iff, decide_eq_false_iff_not] at h5
    obtain ⟨⟨⟨⟨k1, k2⟩, k3⟩, k4⟩, k5⟩ := h5
    exact ⟨fun h => ⟨by omega, by omega, k3, k4, k5, .inr h⟩, fun h => h.2.2.2.2.2.resolve_left (by omega)⟩))))) ?_
        refine L_nil ?_
        exact ⟨b0, ⟨rfl, rfl, trivial⟩, (List.Sublist.cons_cons _ (List.nil_sublist _)), fun f hf => hf, rfl⟩
      ·
        first | (have h6 := of_decide_eq_true h6) | (have h6 := of_decide_eq_false h6) | skip
        refine L_skip rfl rfl rfl rfl rfl rfl rfl ?_
        refine L_skip rfl rfl rfl rfl rfl rfl rfl ?_
        refine L_skip rfl rfl rfl rfl rfl rfl rfl ?_
        refine L_skip rfl rfl rfl rfl rfl rfl rfl ?_
        first | refine L_wv rfl rfl rfl rfl rfl rfl (V_pickT rfl rfl rfl) ?_ | refine L_wv rfl rfl rfl rfl rfl rfl (V_pickF rfl rfl rfl) ?_
        first | refine L_v rfl rfl rfl (V_pickT rfl rfl rfl) ?_ | refine L_v rfl rfl rfl (V_pickF rfl rfl rfl) ?_
        refine L_same 46 rfl ((show Value.bool false = Value.bool (!decide (baseP S.sv)) from congrArg Value.bool (by
  have hn : decide (baseP S.sv) = true := decide_eq_true (by
    rw [baseS]
    simp only [Bool.or_eq_false_iff, decide_eq_false_iff_not] at h5
    obtain ⟨⟨⟨⟨k1, k2⟩, k3⟩, k4⟩, k5⟩ := h5
    exact ⟨by omega, by omega, k3, k4, k5, .inl (by omega)⟩)
  rw [hn]; rfl))) ?_
        refine L_nil ?_
        exact ⟨b0, ⟨rfl, rfl, trivial⟩, (List.Sublist.cons_cons _ (List.nil_sublist _)), fun f hf => hf, rfl⟩
  rintro b0
  change J _ _ _ _
  refine J_cond rfl (fun h1 => ?_) (fun h1 => ?_)
  ·
    first | (have h1 := of_decide_eq_true h1) | (have h1 := of_decide_eq_false h1) | skip
    refine J_seq ?_
    refine J_region ?_
    refine L_v rfl rfl rfl (V_assign rfl rfl) ?_
    refine L_nil ?_
    change J _ _ _ _
    refine J_ret ?_
    change Kret _ _ _ Exit.ret _
    refine ret1 rfl rfl (RV_t rfl) ?_
    exact fun w' h => ⟨by rw [no_base (of_decide_eq_false (bnT h1))], h.fr⟩
  ·
    first | (have h1 := of_decide_eq_true h1) | (have h1 := of_decide_eq_false h1) | skip
    have hbase : baseP S.sv := of_decide_eq_true (bnF h1)
    obtain ⟨hb1, hb2, hb3, hb4⟩ := base_go (t := S.t) (v := S.v) (sn := S.sn) (es := S.es) (gl := S.gl) hbase
    refine J_skip ?_
    change J _ _ _ _
    refine J_seq ?_
    refine J_seq ?_
    refine J_region ?_
    refine L_v rfl rfl rfl (V_assign rfl rfl) ?_
    refine L_nil ?_
    change J _ _ _ _
    refine J_block ?_
    refine J_loop (X := Nat) (fun i => { env := [(1, .pointer (some ⟨b0, 0, none⟩)), (3, .int .i64 (i : Int))], mem := [(b0, row 30 (svX S s s3))], facts := [svF S s s3] }) (fun i => i ≤ S.es.length ∧ goB S.sn S.es i = true) (fun i => S.es.length - i) 0 ⟨Nat.zero_le _, goB_0 _ _⟩ ⟨⟨rfl, rfl, trivial⟩, List.Sublist.refl _, fun f hf => hf, rfl⟩ ?_
    rintro i ⟨hi, hg⟩
    try simp only at hi hg ⊢
    refine J_seq ?_
    refine J_seq ?_
    refine J_region ?_
    refine L_v rfl rfl rfl (V_move rfl rfl) ?_
    refine L_v rfl rfl rfl (V_fieldAddr rfl rfl Try.underlying30 rfl sz27ri rfl) ?_
    refine L_v rfl rfl rfl (V_load1 0 rfl rfl rfl Try.underlying27 rfl (by rfl)) ?_
    refine L_v rfl rfl rfl (V_len rfl rfl Try.underlying27 rfl) ?_
    refine L_v rfl rfl rfl (V_lss rfl rfl rfl (by first | exact decide_eq_true (by omega) | exact decide_eq_false (by omega) | rfl)) ?_
    refine L_nil ?_
    change J _ _ _ _
    refine J_cond rfl (fun h2 => ?_) (fun h2 => ?_)
    ·
      first | (have h2 := of_decide_eq_true h2) | (have h2 := of_decide_eq_false h2) | skip
      have hi2 : i < S.es.length := by omega
      have hII := hI _ (getD_mem (d := env0) hi2)
      have hwf := wrap_far hII.1 hII.2 (show (0 : Int) ≤ (i : Int) by omega) (by omega) hb3 hb4
      refine J_skip ?_
      change J _ _ _ _
      refine J_seq ?_
      refine J_block ?_
      refine J_seq ?_
      refine J_regionQ rfl (by kernel_rfl) ?_
      refine LQ_v rfl rfl rfl (V_fieldAddr rfl rfl Try.underlying30 rfl sz27ri rfl) ?_
      refine LQ_v rfl rfl rfl (V_load1 0 rfl rfl rfl Try.underlying27 rfl (by rfl)) ?_
      refine LQ_v rfl rfl rfl (V_move rfl rfl) ?_
      refine LQ_v rfl rfl rfl (V_indexC rfl rfl rfl Try.underlying27 sz39ri (fun w hw => (hw.fa 0 rfl).r.l.l.1) (by omega) (by omega)) ?_
      refine LQ_v rfl rfl rfl (V_fieldC rfl rfl (fun w hw => (let ⟨b, o, e, _⟩ := SlC.cell ((hw.fa 0 rfl).r.l.l.1) (rows_v (f := enW) env0 (i := i) (sz := 42) (fun _ => rfl) (by omega) 0 _ rfl); ⟨b, o, e⟩)) Try.underlying39 rfl sz3ri rfl) ?_
      refine LQ_v rfl rfl rfl (V_loadC rfl rfl Try.underlying3 rfl (fun w hw => (hw.fa 0 rfl).r.l.l.1) (rows_v (f := enW) env0 (i := i) (sz := 42) (fun _ => rfl) (by omega) 0 _ rfl)) ?_
      refine LQ_v rfl rfl rfl (V_sub rfl rfl rfl (by first | exact Go.IntWalk.i64_in _ (by omega) | rfl)) ?_
      refine LQ_v rfl rfl rfl (V_move rfl rfl) ?_
      refine LQ_v rfl rfl rfl (V_sub rfl rfl rfl (by first | exact Go.IntWalk.i64_in _ (by omega) | rfl)) ?_
      refine LQ_v rfl rfl rfl (V_fieldAddr rfl rfl Try.underlying30 rfl sz26ri rfl) ?_
      refine LQ_v rfl rfl rfl (V_fieldAddr rfl rfl Try.underlying26 rfl sz3ri rfl) ?_
      refine LQ_v rfl rfl rfl (V_load1 0 rfl rfl rfl Try.underlying3 rfl (by rfl)) ?_
      refine LQ_v rfl rfl rfl (V_neq rfl rfl rfl (by first | exact decide_eq_true (by omega) | exact decide_eq_false (by omega) | rfl)) ?_
      refine LQ_nil ?_
      change J _ _ _ _
      refine J_cond rfl (fun h3 => ?_) (fun h3 => ?_)
      ·
        first | (have h3 := of_decide_eq_true h3) | (have h3 := of_decide_eq_false h3) | skip
        refine J_seq ?_
        refine J_region ?_
        refine L_v rfl rfl rfl (V_assign rfl rfl) ?_
        refine L_nil ?_
        change J _ _ _ _
        refine J_ret ?_
        change Kret _ _ _ Exit.ret _
        refine ret1 rfl rfl (RV_t rfl) ?_
        exact fun w' h => ⟨by rw [no_go hi2 (fun hh => h3 (hwf.2 hh))], h.fr⟩
      ·
        first | (have h3 := of_decide_eq_true h3) | (have h3 := of_decide_eq_false h3) | skip
        refine J_skip ?_
        change J _ _ _ _
        refine J_region ?_
        refine L_v rfl rfl rfl (V_move rfl rfl) ?_
        refine L_v rfl rfl rfl (V_add rfl rfl rfl (by first | exact Go.IntWalk.i64_in _ (by omega) | rfl)) ?_
        refine L_v rfl rfl rfl (V_assign rfl rfl) ?_
        refine L_nil ?_
        exact ⟨i + 1, ⟨by show i + 1 ≤ S.es.length; omega, by rw [goB_succ, hg, Bool.true_and]; exact decide_eq_true (hwf.1 (Classical.not_not.1 h3))⟩, by show S.es.length - (i + 1) < S.es.length - i; omega, ⟨rfl, rfl, trivial⟩, List.Sublist.refl _, fun f hf => hf, rfl⟩
    ·
      first | (have h2 := of_decide_eq_true h2) | (have h2 := of_decide_eq_false h2) | skip
      obtain rfl : i = S.es.length := by omega
      refine J_exit ?_
      change J _ _ _ _
      refine J_seq ?_
      refine J_seq ?_
      refine J_region ?_
      refine L_v rfl rfl rfl (V_assign rfl rfl) ?_
      refine L_nil ?_
      change J _ _ _ _
      refine J_block ?_
      refine J_loop (X := Nat) (fun i => { env := [(1, .pointer (some ⟨b0, 0, none⟩)), (4, .int .i64 (i : Int))], mem := [(b0, row 30 (svX S s s3))], facts := [svF S s s3] }) (fun i => 1 ≤ i ∧ i ≤ S.gl.length + 1 ∧ riB S.gl i = true) (fun i => S.gl.length + 1 - i) 1 ⟨Nat.le_refl _, by omega, ri_one _⟩ ⟨⟨rfl, rfl, trivial⟩, List.Sublist.refl _, fun f hf => hf, rfl⟩ ?_
      rintro i ⟨hi1, hi, hr⟩
      try simp only at hi1 hi hr ⊢
      refine J_seq ?_
      refine J_seq ?_
      refine J_region ?_
      refine L_v rfl rfl rfl (V_move rfl rfl) ?_
      refine L_v rfl rfl rfl (V_fieldAddr rfl rfl Try.underlying30 rfl sz28ri rfl) ?_
      refine L_v rfl rfl rfl (V_load1 0 rfl rfl rfl Try.underlying28 rfl (by rfl)) ?_
      refine L_v rfl rfl rfl (V_len rfl rfl Try.underlying28 rfl) ?_
      refine L_v rfl rfl rfl (V_lss rfl rfl rfl (by first | exact decide_eq_true (by omega) | exact decide_eq_false (by omega) | rfl)) ?_
      refine L_nil ?_
      change J _ _ _ _
      refine J_cond rfl (fun h3 => ?_) (fun h3 => ?_)
      ·
        first | (have h3 := of_decide_eq_true h3) | (have h3 := of_decide_eq_false h3) | skip
        refine J_skip ?_
        change J _ _ _ _
        refine J_seq ?_
        refine J_block ?_
        refine J_seq ?_
        refine J_regionQ rfl (by kernel_rfl) ?_
        refine LQ_v rfl rfl rfl (V_fieldAddr rfl rfl Try.underlying30 rfl sz28ri rfl) ?_
        refine LQ_v rfl rfl rfl (V_load1 0 rfl rfl rfl Try.underlying28 rfl (by rfl)) ?_
        refine LQ_v rfl rfl rfl (V_move rfl rfl) ?_
        refine LQ_v rfl rfl rfl (V_sub (r := ((i - 1 : Nat) : Int)) rfl rfl rfl (by rw [IntKind.wrap_i64]; omega)) ?_
        refine LQ_v rfl rfl rfl (V_indexC rfl rfl rfl Try.underlying28 sz43ri (fun w hw => (hw.fa 0 rfl).r.r.1) (by omega) (by omega)) ?_
        refine LQ_v rfl rfl rfl (V_fieldC rfl rfl (fun w hw => (let ⟨b, o, e, _⟩ := SlC.cell ((hw.fa 0 rfl).r.r.1) (rows_v (f := sgV) sg0 (i := i - 1) (sz := 96) (fun _ => rfl) (by omega) 0 _ rfl); ⟨b, o, e⟩)) Try.underlying43 rfl sz41ri rfl) ?_
        refine LQ_v rfl rfl rfl (V_fieldC rfl rfl (fun w hw => (let ⟨b, o, e, _⟩ := SlC.cell ((hw.fa 0 rfl).r.r.1) (rows_v (f := sgV) sg0 (i := i - 1) (sz := 96) (fun _ => rfl) (by omega) 0 _ rfl); ⟨b, o, e⟩)) Try.underlying41 rfl sz3ri rfl) ?_
        refine LQ_v rfl rfl rfl (V_loadC rfl rfl Try.underlying3 rfl (fun w hw => (hw.fa 0 rfl).r.r.1) (rows_v (f := sgV) sg0 (i := i - 1) (sz := 96) (fun _ => rfl) (by omega) 0 _ rfl)) ?_
        refine LQ_v rfl rfl rfl (V_fieldAddr rfl rfl Try.underlying30 rfl sz28ri rfl) ?_
        refine LQ_v rfl rfl rfl (V_load1 0 rfl rfl rfl Try.underlying28 rfl (by rfl)) ?_
        refine LQ_v rfl rfl rfl (V_move rfl rfl) ?_
        refine LQ_v rfl rfl rfl (V_indexC rfl rfl rfl Try.underlying28 sz43ri (fun w hw => (hw.fa 0 rfl).r.r.1) (by omega) (by omega)) ?_
        refine LQ_v rfl rfl rfl (V_fieldC rfl rfl (fun w hw => (let ⟨b, o, e, _⟩ := SlC.cell ((hw.fa 0 rfl).r.r.1) (rows_v (f := sgV) sg0 (i := i) (sz := 96) (fun _ => rfl) (by omega) 0 _ rfl); ⟨b, o, e⟩)) Try.underlying43 rfl sz41ri rfl) ?_
        refine LQ_v rfl rfl rfl (V_fieldC rfl rfl (fun w hw => (let ⟨b, o, e, _⟩ := SlC.cell ((hw.fa 0 rfl).r.r.1) (rows_v (f := sgV) sg0 (i := i) (sz := 96) (fun _ => rfl) (by omega) 0 _ rfl); ⟨b, o, e⟩)) Try.underlying41 rfl sz3ri rfl) ?_
        refine LQ_v rfl rfl rfl (V_loadC rfl rfl Try.underlying3 rfl (fun w hw => (hw.fa 0 rfl).r.r.1) (rows_v (f := sgV) sg0 (i := i) (sz := 96) (fun _ => rfl) (by omega) 0 _ rfl)) ?_
        refine LQ_v rfl rfl rfl (V_geq rfl rfl rfl (by first | exact decide_eq_true (by omega) | exact decide_eq_false (by omega) | rfl)) ?_
        refine LQ_nil ?_
        change J _ _ _ _
        refine J_cond rfl (fun h4 => ?_) (fun h4 => ?_)
        ·
          first | (have h4 := of_decide_eq_true h4) | (have h4 := of_decide_eq_false h4) | skip
          refine J_seq ?_
          refine J_region ?_
          refine L_v rfl rfl rfl (V_assign rfl rfl) ?_
          refine L_nil ?_
          change J _ _ _ _
          refine J_ret ?_
          change Kret _ _ _ Exit.ret _
          refine ret1 rfl rfl (RV_t rfl) ?_
          exact fun w' h => ⟨by rw [no_ri hi1 (by omega) h4], h.fr⟩
        ·
          first | (have h4 := of_decide_eq_true h4) | (have h4 := of_decide_eq_false h4) | skip
          refine J_skip ?_
          change J _ _ _ _
          refine J_region ?_
          refine L_v rfl rfl rfl (V_move rfl rfl) ?_
          refine L_v rfl rfl rfl (V_add rfl rfl rfl (by first | exact Go.IntWalk.i64_in _ (by omega) | rfl)) ?_
          refine L_v rfl rfl rfl (V_assign rfl rfl) ?_
          refine L_nil ?_
          exact ⟨i + 1, ⟨by show 1 ≤ i + 1; omega, by show i + 1 ≤ S.gl.length + 1; omega, ri_go hi1 hr (Int.not_le.1 h4)⟩, by show S.gl.length + 1 - (i + 1) < S.gl.length + 1 - i; omega, ⟨rfl, rfl, trivial⟩, List.Sublist.refl _, fun f hf => hf, rfl⟩
      ·
        first | (have h3 := of_decide_eq_true h3) | (have h3 := of_decide_eq_false h3) | skip
        have hrr := ri_mono hr (by omega)
        refine J_exit ?_
        change J _ _ _ _
        refine J_seq ?_
        refine J_region ?_
        refine L_v rfl rfl rfl (V_loadT 0 (vs := svC S.t S.v S.sn S.a S.b (.slice s.1 S.es.length s.2) (.slice s3.1 S.gl.length s3.2)) rfl rfl rfl Try.underlying30 rfl sz30ri (by kernel_rfl) (by kernel_rfl)) ?_
        refine L_call rfl rfl rfl rfl tx31ri (fun w1 hw => (rrecs_w S s s3 w1 (hw.fa 0 rfl) hz hb1 hb2).mono ?_)
        rintro e w' ⟨L, s', hL, rfl, hfr, hn⟩
        have hLl : L.length = offN S.sn + S.es.length + S.gl.length := by rw [← RS_len, ← hL, List.length_map]
        refine ⟨_, _, _, rfl, hw.newN hfr hn, rfl, ?_⟩
        refine L_v rfl rfl rfl (V_assign rfl rfl) ?_
        refine L_nil ?_
        change J _ _ _ _
        refine J_seq ?_
        refine J_seq ?_
        refine J_region ?_
        refine L_v rfl rfl rfl (V_assign rfl rfl) ?_
        refine L_nil ?_
        change J _ _ _ _
        refine J_block ?_
        refine J_loop (X := Nat) (fun i => { env := [(1, .pointer (some ⟨b0, 0, none⟩)), (5, .slice s'.1 (offN S.sn + S.es.length + S.gl.length) s'.2), (6, .int .i64 (i : Int))], mem := [(b0, row 30 (svX S s s3))], facts := [svF S s s3] ++ [andF (factC 149 (.slice s'.1 (offN S.sn + S.es.length + S.gl.length) s'.2) (offN S.sn + S.es.length + S.gl.length) (L.map rcW).flatten) (allF (L.map rcA))] }) (fun i => i ≤ L.length ∧ ∀ j, j < i → okR (L.getD j rc0).1 = true) (fun i => L.length - i) 0 ⟨Nat.zero_le _, fun j hj => absurd hj (Nat.not_lt_zero _)⟩ ⟨⟨rfl, rfl, rfl, trivial⟩, List.Sublist.refl _, fun f hf => hf, rfl⟩ ?_
        rintro i ⟨hi, ht⟩
        try simp only at hi ht ⊢
        refine J_seq ?_
        refine J_seq ?_
        refine J_region ?_
        refine L_v rfl rfl rfl (V_move rfl rfl) ?_
        refine L_v rfl rfl rfl (V_move rfl rfl) ?_
        refine L_v rfl rfl rfl (V_len rfl rfl Try.underlying74 rfl) ?_
        refine L_v rfl rfl rfl (V_lss rfl rfl rfl (by first | exact decide_eq_true (by omega) | exact decide_eq_false (by omega) | rfl)) ?_
        refine L_nil ?_
        change J _ _ _ _
        refine J_cond rfl (fun h4 => ?_) (fun h4 => ?_)
        ·
          first | (have h4 := of_decide_eq_true h4) | (have h4 := of_decide_eq_false h4) | skip
          have hi2 : i < L.length := by omega
          refine J_skip ?_
          change J _ _ _ _
          refine J_seq ?_
          refine J_block ?_
          refine J_seq ?_
          refine J_region ?_
          refine L_v rfl rfl rfl (V_move rfl rfl) ?_
          refine L_v rfl rfl rfl (V_move rfl rfl) ?_
          refine L_v rfl rfl rfl (V_indexC rfl rfl rfl Try.underlying74 sz45ri (fun w hw => (hw.fa 1 rfl).l.1) (by omega) (by omega)) ?_
          refine L_v rfl rfl rfl (V_loadCN (vs := rcW (L.getD i rc0)) rfl rfl Try.underlying45 rfl (szd sz45ri (by kernel_rfl)) (fun w hw => (hw.fa 1 rfl).l.1) (by exact Nat.zero_lt_succ _) (rows_v (f := rcW) rc0 (sz := 148) (fun _ => rfl) hi2)) ?_
          refine L_call rfl rfl rfl rfl tx32ri (fun w1 hw => (rput_rec (L.getD i rc0) w1 ((hw.fa 1 rfl).r.of (List.mem_map.2 ⟨_, getD_mem hi2, rfl⟩))).mono ?_)
          rintro e w' ⟨v9, rfl, hfr9⟩
          refine ⟨_, _, _, rfl, hw.fr0 hfr9, rfl, ?_⟩
          refine L_v rfl rfl rfl (V_move rfl rfl) ?_
          refine L_v rfl rfl rfl (V_extract rfl rfl rfl) ?_
          refine L_v rfl rfl rfl (V_extract rfl rfl rfl) ?_
          refine L_v rfl rfl rfl (V_assign rfl rfl) ?_
          refine L_v rfl rfl rfl (V_assign rfl rfl) ?_
          refine L_nil ?_
          change J _ _ _ _
          refine J_seq ?_
          refine J_region ?_
          refine L_v rfl rfl rfl (V_move rfl rfl) ?_
          refine L_v rfl rfl rfl (V_neq rfl rfl rfl (by first | exact decide_eq_true (by omega) | exact decide_eq_false (by omega) | rfl)) ?_
          refine L_nil ?_
          change J _ _ _ _
          refine J_cond rfl (fun h5 => ?_) (fun h5 => ?_)
          ·
            first | (have h5 := of_decide_eq_true h5) | (have h5 := of_decide_eq_false h5) | skip
            refine J_seq ?_
            refine J_region ?_
            refine L_v rfl rfl rfl (V_assign rfl rfl) ?_
            refine L_nil ?_
            change J _ _ _ _
            refine J_ret ?_
            change Kret _ _ _ Exit.ret _
            refine ret1 rfl rfl (RV_t rfl) ?_
            exact fun w' h => ⟨by rw [no_told hL hi2 (fun hh => h5 (putE_ok.2 hh))], h.fr⟩
          ·
            first | (have h5 := of_decide_eq_true h5) | (have h5 := of_decide_eq_false h5) | skip
            refine J_skip ?_
            change J _ _ _ _
            refine J_region ?_
            refine L_v rfl rfl rfl (V_move rfl rfl) ?_
            refine L_v rfl rfl rfl (V_add rfl rfl rfl (by first | exact Go.IntWalk.i64_in _ (by omega) | rfl)) ?_
            refine L_v rfl rfl rfl (V_assign rfl rfl) ?_
            refine L_nil ?_
            exact ⟨i + 1, ⟨by show i + 1 ≤ L.length; omega, fun j hj => by
              rcases Nat.lt_or_eq_of_le (Nat.le_of_lt_succ hj) with h9 | rfl
              · exact ht j h9
              · exact putE_ok.1 (Classical.not_not.1 h5)⟩, by show L.length - (i + 1) < L.length - i; omega, ⟨rfl, rfl, rfl, trivial⟩, List.Sublist.refl _, fun f hf => hf, rfl⟩
        ·
          first | (have h4 := of_decide_eq_true h4) | (have h4 := of_decide_eq_false h4) | skip
          refine J_exit ?_
          change J _ _ _ _
          refine J_seq ?_
          refine J_region ?_
          refine L_v rfl rfl rfl (V_assign rfl rfl) ?_
          refine L_nil ?_
          change J _ _ _ _
          refine J_ret ?_
          change Kret _ _ _ Exit.ret _
          refine ret1 rfl rfl (RV_t rfl) ?_
          exact fun w' h => ⟨by rw [yes_right hbase hg hrr hL (fun j hj => ht j (by omega))], h.fr⟩

set_option maxHeartbeats 4000000 in
theorem rmay_w (r : Rec) (ra rb rc rd : Sp) (w : World) (f1 : FA w (rcA (r, ra, rb, rc, rd))) (hB : SzC r.2.2.2.1.2.2.2.2 ∧ SzC r.2.2.2.2.2.1.2.2.1) :
    Calls Try.prog 25 #[.agg (recX r ra rb rc rd).toArray] w fun e w' => e = .returned (.bool (okR r && decide (MayR r))) ∧ Fr [] w w' := by
  refine calls_of (args := [.agg (recX r ra rb rc rd).toArray]) ([]) ([]) ([rcA (r, ra, rb, rc, rd)]) Try.func25 rfl rfl (okFW (.cons f1 .nil)) ?_
  refine J_seq ?_
  refine J_region ?_
  refine L_box rfl rfl rfl rfl rfl (fun b0 => ?_)
  refine L_v rfl rfl rfl (V_assign rfl rfl) ?_
  refine L_nil ?_
  change J _ _ _ _
  refine J_seq ?_
  refine J_region ?_
  refine L_v rfl rfl rfl (V_loadT 0 (vs := recX r ra rb rc rd) rfl rfl rfl Try.underlying45 rfl sz45ri (by kernel_rfl) (by kernel_rfl)) ?_
  refine L_call rfl rfl rfl rfl tx32ri (fun w1 hw => (rput_rec (r, ra, rb, rc, rd) w1 (hw.fa 0 rfl)).mono ?_)
  rintro e w' ⟨v9, rfl, hfr9⟩
  refine ⟨_, _, _, rfl, hw.fr0 hfr9, rfl, ?_⟩
  refine L_v rfl rfl rfl (V_move rfl rfl) ?_
  refine L_v rfl rfl rfl (V_extract rfl rfl rfl) ?_
  refine L_v rfl rfl rfl (V_extract rfl rfl rfl) ?_
  refine L_v rfl rfl rfl (V_assign rfl rfl) ?_
  refine L_v rfl rfl rfl (V_assign rfl rfl) ?_
  refine L_nil ?_
  change J _ _ _ _
  refine J_seq ?_
  refine J_region ?_
  refine L_v rfl rfl rfl (V_fieldAddr rfl rfl Try.underlying45 rfl sz3ri rfl) ?_
  refine L_v rfl rfl rfl (V_load1 0 rfl rfl rfl Try.underlying3 rfl (by rfl)) ?_
  refine L_v rfl rfl rfl (V_eql rfl rfl rfl rfl) ?_
  refine L_v rfl rfl rfl (V_move rfl rfl) ?_
  apply L_and 3 18 22
  · rfl
  · rfl
  · rfl
  · rfl
  · rfl
  · rfl
  · rfl
  · kernel_rfl
  · intro hb1 _ _ hk1
    refine L_wv rfl rfl rfl rfl rfl rfl (V_fieldAddr rfl rfl Try.underlying45 rfl sz3ri rfl) ?_
    refine L_wv rfl rfl rfl rfl rfl rfl (V_load1 0 rfl rfl rfl Try.underlying3 rfl (by rfl)) ?_
    refine L_wv rfl rfl rfl rfl rfl rfl (V_eql rfl rfl rfl rfl) ?_
    exact hk1 _ ⟨rfl, rfl, rfl, rfl, ext_cut 3 (by kernel_rfl) (by kernel_rfl)⟩
  refine L_v rfl rfl rfl (V_assign rfl rfl) ?_
  refine L_nil ?_
  change J _ _ _ _
  refine J_seq ?_
  refine J_region ?_
  refine L_v rfl rfl rfl (V_fieldAddr rfl rfl Try.underlying45 rfl sz39ri rfl) ?_
  refine L_v rfl rfl rfl (V_loadT 0 (vs := enX r.2.2.2.1 ra rb) rfl rfl rfl Try.underlying39 rfl sz39ri (by kernel_rfl) (by kernel_rfl)) ?_
  refine L_v rfl rfl rfl (V_buildE (v := .agg (enX en0 spN spN).toArray) rfl rfl (fun w => by kernel_rfl)) ?_
  refine L_callV rfl rfl rfl rfl rfl rfl tx28ri (fun w1 hw => sameEntry_w r.2.2.2.1 en0 ra rb spN spN w1 (hw.fa 0 rfl).l clA_0 hB.1) ?_
  refine L_v rfl rfl rfl (V_assign rfl rfl) ?_
  refine L_nil ?_
  change J _ _ _ _
  refine J_seq ?_
  refine J_region ?_
  refine L_v rfl rfl rfl (V_fieldAddr rfl rfl Try.underlying45 rfl sz3ri rfl) ?_
  refine L_v rfl rfl rfl (V_load1 0 rfl rfl rfl Try.underlying3 rfl (by rfl)) ?_
  refine L_v rfl rfl rfl (V_eql rfl rfl rfl rfl) ?_
  refine L_v rfl rfl rfl (V_assign rfl rfl) ?_
  refine L_nil ?_
  change J _ _ _ _
  refine J_seq ?_
  refine J_region ?_
  refine L_v rfl rfl rfl (V_fieldAddr rfl rfl Try.underlying45 rfl sz26ri rfl) ?_
  refine L_v rfl rfl rfl (V_loadT 0 (vs := snX r.2.2.2.2.2.1 rc rd) rfl rfl rfl Try.underlying26 rfl sz26ri (by kernel_rfl) (by kernel_rfl)) ?_
  refine L_callV rfl rfl rfl rfl rfl rfl tx30ri (fun w1 hw => bare_w r.2.2.2.2.2.1 rc rd w1 (hw.fa 0 rfl).r hB.2) ?_
  refine L_v rfl rfl rfl (V_assign rfl rfl) ?_
  refine L_nil ?_
  change J _ _ _ _
  refine J_seq ?_
  refine J_region ?_
  refine L_v rfl rfl rfl (V_fieldAddr rfl rfl Try.underlying45 rfl sz43ri rfl) ?_
  refine L_v rfl rfl rfl (V_loadT 0 (vs := sgV r.2.2.2.2.2.2) rfl rfl rfl Try.underlying43 rfl sz43ri (by kernel_rfl) (by kernel_rfl)) ?_
  refine L_v rfl rfl rfl (V_buildE (v := .agg (sgV sg0).toArray) rfl rfl (fun w => by kernel_rfl)) ?_
  refine L_v rfl rfl rfl (V_eqAgg rfl rfl rfl (by kernel_rfl : Try.prog.eqGuardType Try.prog.depth 43 = false) (fun w => eqSgDO _ _ w) rfl) ?_
  refine L_v rfl rfl rfl (V_assign rfl rfl) ?_
  refine L_nil ?_
  change J _ _ _ _
  refine J_seq ?_
  refine J_seq ?_
  refine J_region ?_
  refine L_v rfl rfl rfl (V_fieldAddr rfl rfl Try.underlying45 rfl sz31ri rfl) ?_
  refine L_v rfl rfl rfl (V_load1 0 rfl rfl rfl Try.underlying31 rfl (by rfl)) ?_
  refine L_nil ?_
  change J _ _ _ _
  refine J_block ?_
  refine J_seq ?_
  refine J_region ?_
  refine L_v rfl rfl rfl (V_eql rfl rfl rfl rfl) ?_
  refine L_v rfl rfl rfl (V_assign rfl rfl) ?_
  refine L_nil ?_
  change J _ _ _ _
  refine J_cond rfl (fun h2 => ?_) (fun h2 => ?_)
  ·
    first | (have h2 := of_decide_eq_true h2) | (have h2 := of_decide_eq_false h2) | skip
    refine J_seq ?_
    refine J_region ?_
    refine L_v rfl rfl rfl (V_move rfl rfl) ?_
    refine L_v rfl rfl rfl (V_eql rfl rfl rfl rfl) ?_
    refine L_v rfl rfl rfl (V_move rfl rfl) ?_
    apply L_and 1 43 45
    · rfl
    · rfl
    · rfl
    · rfl
    · rfl
    · rfl
    · rfl
    · kernel_rfl
    · intro hb3 _ _ hk3
      refine L_wv rfl rfl rfl rfl rfl rfl (V_move rfl rfl) ?_
      exact hk3 _ ⟨rfl, rfl, rfl, rfl, ext_cut 1 (by kernel_rfl) (by kernel_rfl)⟩
    refine L_v rfl rfl rfl (V_move rfl rfl) ?_
    apply L_and 1 46 48
    · rfl
    · rfl
    · rfl
    · rfl
    · rfl
    · rfl
    · rfl
    · kernel_rfl
    · intro hb4 _ _ hk4
      refine L_wv rfl rfl rfl rfl rfl rfl (V_move rfl rfl) ?_
      exact hk4 _ ⟨rfl, rfl, rfl, rfl, ext_cut 1 (by kernel_rfl) (by kernel_rfl)⟩
    refine L_v rfl rfl rfl (V_move rfl rfl) ?_
    apply L_and 1 49 51
    · rfl
    · rfl
    · rfl
    · rfl
    · rfl
    · rfl
    · rfl
    · kernel_rfl
    · intro hb5 _ _ hk5
      refine L_wv rfl rfl rfl rfl rfl rfl (V_move rfl rfl) ?_
      exact hk5 _ ⟨rfl, rfl, rfl, rfl, ext_cut 1 (by kernel_rfl) (by kernel_rfl)⟩
    refine L_v rfl rfl rfl (V_move rfl rfl) ?_
    apply L_and 1 52 54
    · rfl
    · rfl
    · rfl
    · rfl
    · rfl
    · rfl
    · rfl
    · kernel_rfl
    · intro hb6 _ _ hk6
      refine L_wv rfl rfl rfl rfl rfl rfl (V_move rfl rfl) ?_
      exact hk6 _ ⟨rfl, rfl, rfl, rfl, ext_cut 1 (by kernel_rfl) (by kernel_rfl)⟩
    refine L_v rfl rfl rfl (V_assign rfl rfl) ?_
    refine L_nil ?_
    change J _ _ _ _
    refine J_ret ?_
    change Kret _ _ _ Exit.ret _
    refine ret1 rfl rfl (RV_t rfl) ?_
    exact fun w' h => ⟨by rw [← putE_dec, may_dec]; rw [if_pos h2]; simp only [Bool.and_assoc], h.fr⟩
  ·
    first | (have h2 := of_decide_eq_true h2) | (have h2 := of_decide_eq_false h2) | skip
    refine J_seq ?_
    refine J_region ?_
    refine L_v rfl rfl rfl (V_eql rfl rfl rfl rfl) ?_
    refine L_v rfl rfl rfl (V_assign rfl rfl) ?_
    refine L_nil ?_
    change J _ _ _ _
    refine J_cond rfl (fun h3 => ?_) (fun h3 => ?_)
    ·
      first | (have h3 := of_decide_eq_true h3) | (have h3 := of_decide_eq_false h3) | skip
      refine J_seq ?_
      refine J_region ?_
      refine L_v rfl rfl rfl (V_move rfl rfl) ?_
      refine L_v rfl rfl rfl (V_eql rfl rfl rfl rfl) ?_
      refine L_v rfl rfl rfl (V_move rfl rfl) ?_
      apply L_and 1 59 61
      · rfl
      · rfl
      · rfl
      · rfl
      · rfl
      · rfl
      · rfl
      · kernel_rfl
      · intro hb4 _ _ hk4
        refine L_wv rfl rfl rfl rfl rfl rfl (V_move rfl rfl) ?_
        exact hk4 _ ⟨rfl, rfl, rfl, rfl, ext_cut 1 (by kernel_rfl) (by kernel_rfl)⟩
      refine L_v rfl rfl rfl (V_move rfl rfl) ?_
      apply L_and 1 62 64
      · rfl
      · rfl
      · rfl
      · rfl
      · rfl
      · rfl
      · rfl
      · kernel_rfl
      · intro hb5 _ _ hk5
        refine L_wv rfl rfl rfl rfl rfl rfl (V_move rfl rfl) ?_
        exact hk5 _ ⟨rfl, rfl, rfl, rfl, ext_cut 1 (by kernel_rfl) (by kernel_rfl)⟩
      refine L_v rfl rfl rfl (V_move rfl rfl) ?_
      apply L_and 1 65 67
      · rfl
      · rfl
      · rfl
      · rfl
      · rfl
      · rfl
      · rfl
      · kernel_rfl
      · intro hb6 _ _ hk6
        refine L_wv rfl rfl rfl rfl rfl rfl (V_move rfl rfl) ?_
        exact hk6 _ ⟨rfl, rfl, rfl, rfl, ext_cut 1 (by kernel_rfl) (by kernel_rfl)⟩
      refine L_v rfl rfl rfl (V_move rfl rfl) ?_
      apply L_and 1 68 70
      · rfl
      · rfl
      · rfl
      · rfl
      · rfl
      · rfl
      · rfl
      · kernel_rfl
      · intro hb7 _ _ hk7
        refine L_wv rfl rfl rfl rfl rfl rfl (V_move rfl rfl) ?_
        exact hk7 _ ⟨rfl, rfl, rfl, rfl, ext_cut 1 (by kernel_rfl) (by kernel_rfl)⟩
      refine L_v rfl rfl rfl (V_assign rfl rfl) ?_
      refine L_nil ?_
      change J _ _ _ _
      refine J_ret ?_
      change Kret _ _ _ Exit.ret _
      refine ret1 rfl rfl (RV_t rfl) ?_
      exact fun w' h => ⟨by rw [← putE_dec, may_dec]; rw [if_neg h2, if_pos h3]; simp only [Bool.and_assoc], h.fr⟩
    ·
      first | (have h3 := of_decide_eq_true h3) | (have h3 := of_decide_eq_false h3) | skip
      refine J_seq ?_
      refine J_region ?_
      refine L_v rfl rfl rfl (V_eql rfl rfl rfl rfl) ?_
      refine L_v rfl rfl rfl (V_assign rfl rfl) ?_
      refine L_nil ?_
      change J _ _ _ _
      refine J_cond rfl (fun h4 => ?_) (fun h4 => ?_)
      ·
        first | (have h4 := of_decide_eq_true h4) | (have h4 := of_decide_eq_false h4) | skip
        refine J_seq ?_
        refine J_region ?_
        refine L_v rfl rfl rfl (V_move rfl rfl) ?_
        refine L_v rfl rfl rfl (V_eql rfl rfl rfl rfl) ?_
        refine L_v rfl rfl rfl (V_move rfl rfl) ?_
        apply L_and 1 75 77
        · rfl
        · rfl
        · rfl
        · rfl
        · rfl
        · rfl
        · rfl
        · kernel_rfl
        · intro hb5 _ _ hk5
          refine L_wv rfl rfl rfl rfl rfl rfl (V_move rfl rfl) ?_
          exact hk5 _ ⟨rfl, rfl, rfl, rfl, ext_cut 1 (by kernel_rfl) (by kernel_rfl)⟩
        refine L_v rfl rfl rfl (V_move rfl rfl) ?_
        apply L_and 1 78 80
        · rfl
        · rfl
        · rfl
        · rfl
        · rfl
        · rfl
        · rfl
        · kernel_rfl
        · intro hb6 _ _ hk6
          refine L_wv rfl rfl rfl rfl rfl rfl (V_move rfl rfl) ?_
          exact hk6 _ ⟨rfl, rfl, rfl, rfl, ext_cut 1 (by kernel_rfl) (by kernel_rfl)⟩
        refine L_v rfl rfl rfl (V_move rfl rfl) ?_
        apply L_and 1 81 83
        · rfl
        · rfl
        · rfl
        · rfl
        · rfl
        · rfl
        · rfl
        · kernel_rfl
        · intro hb7 _ _ hk7
          refine L_wv rfl rfl rfl rfl rfl rfl (V_move rfl rfl) ?_
          exact hk7 _ ⟨rfl, rfl, rfl, rfl, ext_cut 1 (by kernel_rfl) (by kernel_rfl)⟩
        refine L_v rfl rfl rfl (V_move rfl rfl) ?_
        apply L_and 1 84 86
        · rfl
        · rfl
        · rfl
        · rfl
        · rfl
        · rfl
        · rfl
        · kernel_rfl
        · intro hb8 _ _ hk8
          refine L_wv rfl rfl rfl rfl rfl rfl (V_move rfl rfl) ?_
          exact hk8 _ ⟨rfl, rfl, rfl, rfl, ext_cut 1 (by kernel_rfl) (by kernel_rfl)⟩
        refine L_v rfl rfl rfl (V_assign rfl rfl) ?_
        refine L_nil ?_
        change J _ _ _ _
        refine J_ret ?_
        change Kret _ _ _ Exit.ret _
        refine ret1 rfl rfl (RV_t rfl) ?_
        exact fun w' h => ⟨by rw [← putE_dec, may_dec]; rw [if_neg h2, if_neg h3, if_pos h4]; simp only [Bool.and_assoc], h.fr⟩
      ·
        first | (have h4 := of_decide_eq_true h4) | (have h4 := of_decide_eq_false h4) | skip
        refine J_seq ?_
        refine J_region ?_
        refine L_v rfl rfl rfl (V_eql rfl rfl rfl rfl) ?_
        refine L_v rfl rfl rfl (V_assign rfl rfl) ?_
        refine L_nil ?_
        change J _ _ _ _
        refine J_cond rfl (fun h5 => ?_) (fun h5 => ?_)
        ·
          first | (have h5 := of_decide_eq_true h5) | (have h5 := of_decide_eq_false h5) | skip
          refine J_seq ?_
          refine J_region ?_
          refine L_v rfl rfl rfl (V_move rfl rfl) ?_
          refine L_v rfl rfl rfl (V_eql rfl rfl rfl rfl) ?_
          refine L_v rfl rfl rfl (V_move rfl rfl) ?_
          apply L_and 1 91 93
          · rfl
          · rfl
          · rfl
          · rfl
          · rfl
          · rfl
          · rfl
          · kernel_rfl
          · intro hb6 _ _ hk6
            refine L_wv rfl rfl rfl rfl rfl rfl (V_move rfl rfl) ?_
            exact hk6 _ ⟨rfl, rfl, rfl, rfl, ext_cut 1 (by kernel_rfl) (by kernel_rfl)⟩
          refine L_v rfl rfl rfl (V_move rfl rfl) ?_
          apply L_and 1 94 96
          · rfl
          · rfl
          · rfl
          · rfl
          · rfl
          · rfl
          · rfl
          · kernel_rfl
          · intro hb7 _ _ hk7
            refine L_wv rfl rfl rfl rfl rfl rfl (V_move rfl rfl) ?_
            exact hk7 _ ⟨rfl, rfl, rfl, rfl, ext_cut 1 (by kernel_rfl) (by kernel_rfl)⟩
          refine L_v rfl rfl rfl (V_move rfl rfl) ?_
          apply L_and 1 97 99
          · rfl
          · rfl
          · rfl
          · rfl
          · rfl
          · rfl
          · rfl
          · kernel_rfl
          · intro hb8 _ _ hk8
            refine L_wv rfl rfl rfl rfl rfl rfl (V_move rfl rfl) ?_
            exact hk8 _ ⟨rfl, rfl, rfl, rfl, ext_cut 1 (by kernel_rfl) (by kernel_rfl)⟩
          refine L_v rfl rfl rfl (V_move rfl rfl) ?_
          apply L_and 1 100 102
          · rfl
          · rfl
          · rfl
          · rfl
          · rfl
          · rfl
          · rfl
          · kernel_rfl
          · intro hb9 _ _ hk9
            refine L_wv rfl rfl rfl rfl rfl rfl (V_move rfl rfl) ?_
            exact hk9 _ ⟨rfl, rfl, rfl, rfl, ext_cut 1 (by kernel_rfl) (by kernel_rfl)⟩
          refine L_v rfl rfl rfl (V_assign rfl rfl) ?_
          refine L_nil ?_
          change J _ _ _ _
          refine J_ret ?_
          change Kret _ _ _ Exit.ret _
          refine ret1 rfl rfl (RV_t rfl) ?_
          exact fun w' h => ⟨by rw [← putE_dec, may_dec]; rw [if_neg h2, if_neg h3, if_neg h4, if_pos h5]; simp only [Bool.and_assoc], h.fr⟩
        ·
          first | (have h5 := of_decide_eq_true h5) | (have h5 := of_decide_eq_false h5) | skip
          refine J_seq ?_
          refine J_region ?_
          refine L_v rfl rfl rfl (V_eql rfl rfl rfl rfl) ?_
          refine L_v rfl rfl rfl (V_assign rfl rfl) ?_
          refine L_nil ?_
          change J _ _ _ _
          refine J_cond rfl (fun h6 => ?_) (fun h6 => ?_)
          ·
            first | (have h6 := of_decide_eq_true h6) | (have h6 := of_decide_eq_false h6) | skip
            refine J_seq ?_
            refine J_region ?_
            refine L_v rfl rfl rfl (V_move rfl rfl) ?_
            refine L_v rfl rfl rfl (V_eql rfl rfl rfl rfl) ?_
            refine L_v rfl rfl rfl (V_move rfl rfl) ?_
            apply L_and 1 107 109
            · rfl
            · rfl
            · rfl
            · rfl
            · rfl
            · rfl
            · rfl
            · kernel_rfl
            · intro hb7 _ _ hk7
              refine L_wv rfl rfl rfl rfl rfl rfl (V_move rfl rfl) ?_
              exact hk7 _ ⟨rfl, rfl, rfl, rfl, ext_cut 1 (by kernel_rfl) (by kernel_rfl)⟩
            refine L_v rfl rfl rfl (V_move rfl rfl) ?_
            apply L_and 1 110 112
            · rfl
            · rfl
            · rfl
            · rfl
            · rfl
            · rfl
            · rfl
            · kernel_rfl
            · intro hb8 _ _ hk8
              refine L_wv rfl rfl rfl rfl rfl rfl (V_move rfl rfl) ?_
              exact hk8 _ ⟨rfl, rfl, rfl, rfl, ext_cut 1 (by kernel_rfl) (by kernel_rfl)⟩
            refine L_v rfl rfl rfl (V_move rfl rfl) ?_
            apply L_and 1 113 115
            · rfl
            · rfl
            · rfl
            · rfl
            · rfl
            · rfl
            · rfl
            · kernel_rfl
            · intro hb9 _ _ hk9
              refine L_wv rfl rfl rfl rfl rfl rfl (V_move rfl rfl) ?_
              exact hk9 _ ⟨rfl, rfl, rfl, rfl, ext_cut 1 (by kernel_rfl) (by kernel_rfl)⟩
            refine L_v rfl rfl rfl (V_move rfl rfl) ?_
            apply L_and 1 116 118
            · rfl
            · rfl
            · rfl
            · rfl
            · rfl
            · rfl
            · rfl
            · kernel_rfl
            · intro hb10 _ _ hk10
              refine L_wv rfl rfl rfl rfl rfl rfl (V_move rfl rfl) ?_
              exact hk10 _ ⟨rfl, rfl, rfl, rfl, ext_cut 1 (by kernel_rfl) (by kernel_rfl)⟩
            refine L_v rfl rfl rfl (V_assign rfl rfl) ?_
            refine L_nil ?_
            change J _ _ _ _
            refine J_ret ?_
            change Kret _ _ _ Exit.ret _
            refine ret1 rfl rfl (RV_t rfl) ?_
            exact fun w' h => ⟨by rw [← putE_dec, may_dec]; rw [if_neg h2, if_neg h3, if_neg h4, if_neg h5, if_pos h6]; simp only [Bool.and_assoc], h.fr⟩
          ·
            first | (have h6 := of_decide_eq_true h6) | (have h6 := of_decide_eq_false h6) | skip
            refine J_skip ?_
            change J _ _ _ _
            refine J_seq ?_
            refine J_region ?_
            refine L_v rfl rfl rfl (V_assign rfl rfl) ?_
            refine L_nil ?_
            change J _ _ _ _
            refine J_ret ?_
            change Kret _ _ _ Exit.ret _
            refine ret1 rfl rfl (RV_t rfl) ?_
            exact fun w' h => ⟨by rw [← putE_dec, may_dec]; rw [if_neg h2, if_neg h3, if_neg h4, if_neg h5, if_neg h6]; rw [Bool.and_false], h.fr⟩

end Go.Proofs.Ytcdenfkbhefbbaa
