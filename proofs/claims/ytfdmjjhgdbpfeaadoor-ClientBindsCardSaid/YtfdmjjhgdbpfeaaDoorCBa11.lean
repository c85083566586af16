/- Part 11 of the texts that the law leans on. -/
import Derived.Test.YtfdmjjhgdbpfeaaDoorCBa10
/- The law ClientBinds: its walk. -/
set_option linter.unusedVariables false
set_option linter.unusedSimpArgs false
set_option maxRecDepth 100000
namespace Go.Proofs.YtfdmjjhgdbpfeaaDoor
open Go.Sx
abbrev RpD (x : Rp) : Prop := ((∀ f ∈ x.pf.sib, DB f) ∧ DB x.pf.path ∧ DB x.pf.val) ∧ (DB x.head.1.2.1 ∧ DB x.head.1.2.2) ∧ DB x.head.2
theorem clm_y {l : List Vr} (h : (0 : Int) < (l.length : Int)) : clm l = (true, verD l) := by
  unfold clm
  rw [if_pos (by omega)]
theorem clm_n {l : List Vr} (h : ¬ (0 : Int) < (l.length : Int)) : clm l = cm0 := by
  unfold clm
  rw [if_neg (by omega)]
theorem verE_0 {key user : ByteArray} {x : Rp} (h : verE key user x = 0) : isH x.vers = true ∧ pchk x.head.1.2.1 (pathD user) (clm x.vers) x.pf = 0 := by
  unfold verE at h
  split at h
  · rename_i h1
    exact absurd h h1
  · split at h
    · rename_i h2
      exact ⟨h2.1, h⟩
    · exact absurd h (by decide)
theorem rpw2 {w : World} {x : Rp} {v s : Sl} (f1 : FA w (rpF x v s)) (hc : x.vers.length ≤ v.2) (hB : RpD x) (h1 : ¬ bigRp x) : RpW w x v s := by
  unfold bigRp at h1
  exact ⟨f1, hc, ⟨hB.2.1.1, hB.2.1.2, hB.2.2⟩, hB.1.1, hB.1.2.1, hB.1.2.2, by omega, by omega⟩
theorem Short_e {L : List Int} {d : Dg} (hd : shD L = d) (a : Option Addr) (n c : Nat) (w : World) (hu : SlB w (.slice a n c) L) (hby : Byt L) (hcn : n ≤ c) (hK : TabK KT 1 w) (hsz : L.length ≤ 1000) : Calls Tryd.prog 13 #[.int .i64 32, .slice a n c] w fun e w' => e = .returned (.tuple #[.agg (dgM d).toArray, .int .i64 0]) ∧ Fr [] w w' := hd ▸ Short_w L a n c w hu hby hcn hK hsz
def SLF (p : Dg) (c : Cm) (x : Pf) (k : Nat) (a : Nat × Nat) : Fact := factB (SLk p c x k a) (upP p c x k)
theorem slF_fa {p : Dg} {c : Cm} {x : Pf} {w0 w : World} {k : Nat} {a : Nat × Nat} (h : FA w (rgY p c x w0 [] k a)) : FA w (SLF p c x k a) := ⟨h.1.1, h.2⟩
theorem slF_new {p : Dg} {c : Cm} {x : Pf} {w0 w : World} {k : Nat} {a : Nat × Nat} (h : FA w (rgY p c x w0 [] k a)) {b : Nat} (hb : (SLF p c x k a).fp b) : w0.heap.size ≤ b := by
  obtain ⟨_, off, n', c', e⟩ := hb
  simp only [SLk, Value.slice.injEq, Option.some.injEq, Addr.mk.injEq] at e
  obtain ⟨⟨rfl, _⟩, _⟩ := e
  rcases h.1.2 with h1 | h1
  · exact h1
  · cases h1
theorem clash_e {root p : Dg} {c : Cm} {x : Pf} {d : Cm} {y : Pf} {w : World} {e : Ending} {w' : World} (h : ClashR p c x d y w e w') :
    ∃ (j : Nat) (a b : Nat × Nat) (e1 : Dg), e = .returned (.tuple #[SLk p c x (x.sib.length - j) a, SLk p d y (y.sib.length - j) b, .int .i64 0]) ∧ Fr [] w w' ∧ upP p c x (x.sib.length - j) ≠ upP p d y (y.sib.length - j) ∧ shD (upP p c x (x.sib.length - j)) = e1 ∧ shD (upP p d y (y.sib.length - j)) = e1 ∧ FA w' (andF (SLF p c x (x.sib.length - j) a) (SLF p d y (y.sib.length - j) b)) ∧ ∀ k, (andF (SLF p c x (x.sib.length - j) a) (SLF p d y (y.sib.length - j) b)).fp k → w.heap.size ≤ k := by
  obtain ⟨j, a, b, he, hfr, ⟨hn, hs⟩, f1, f2⟩ := h
  exact ⟨j, a, b, shD (dnP p d y j), he, hfr, hn, hs, rfl, .and (slF_fa f1) (slF_fa f2), fun k hk => hk.elim (slF_new f1) (slF_new f2)⟩
theorem sz23pq : (Tryd.prog.info? 23).map (·.size) = some 1 := by kernel_rfl
theorem sz26pq : (Tryd.prog.info? 26).map (·.size) = some 32 := by kernel_rfl
theorem sz28pq : (Tryd.prog.info? 28).map (·.size) = some 66 := by kernel_rfl
theorem sz30pq : (Tryd.prog.info? 30).map (·.size) = some 65 := by kernel_rfl
theorem sz32pq : (Tryd.prog.info? 32).map (·.size) = some 97 := by kernel_rfl
theorem sz34pq : (Tryd.prog.info? 34).map (·.size) = some 169 := by kernel_rfl
theorem sz54pq : (Tryd.prog.info? 54).map (·.size) = some 33 := by kernel_rfl
theorem sz79pq : (Tryd.prog.info? 79).map (·.size) = some 3 := by kernel_rfl
theorem tx5pq : Txt Tryd.prog 5 := txt_of Tryd.func5 rfl (by kernel_rfl)
theorem tx6pq : Txt Tryd.prog 6 := txt_of Tryd.func6 rfl (by kernel_rfl)
theorem tx7pq : Txt Tryd.prog 7 := txt_of Tryd.func7 rfl (by kernel_rfl)
theorem tx9pq : Txt Tryd.prog 9 := txt_of Tryd.func9 rfl (by kernel_rfl)
theorem tx10pq : Txt Tryd.prog 10 := txt_of Tryd.func10 rfl (by kernel_rfl)
theorem tx11pq : Txt Tryd.prog 11 := txt_of Tryd.func11 rfl (by kernel_rfl)
theorem tx12pq : Txt Tryd.prog 12 := txt_of Tryd.func12 rfl (by kernel_rfl)
theorem tx13pq : Txt Tryd.prog 13 := txt_of Tryd.func13 rfl (by kernel_rfl)
theorem z26pq : (Tryd.prog.info? 26).bind (·.zero) = some (.agg (dgM dz).toArray) := by kernel_rfl
theorem z54pq : (Tryd.prog.info? 54).bind (·.zero) = some (.agg (cmM cm0).toArray) := by kernel_rfl

theorem sameVersions_w (s1 s2 : Sl) (l1 l2 : List Vr) (w : World) (f1 : FA w (vrF l1 s1)) (f2 : FA w (vrF l2 s2)) (hB : l1.length ≤ 1099511627776) :
    Calls Tryd.prog 9 #[.slice s1.1 l1.length s1.2, .slice s2.1 l2.length s2.2] w fun e w' => e = .returned (.bool (decide (l1 = l2))) ∧ Fr [] w w' := by
  refine calls_of (args := [.slice s1.1 l1.length s1.2, .slice s2.1 l2.length s2.2]) ([]) ([]) ([vrF l1 s1, vrF l2 s2]) Tryd.func9 rfl rfl (okFW (.cons f1 (.cons f2 .nil))) ?_
  refine J_seq ?_
  refine J_region ?_
  refine L_v rfl rfl rfl (V_assign rfl rfl) ?_
  refine L_nil ?_
  change J _ _ _ _
  refine J_seq ?_
  refine J_seq ?_
  refine J_region ?_
  refine L_v rfl rfl rfl (V_move rfl rfl) ?_
  refine L_v rfl rfl rfl (V_len rfl rfl Tryd.underlying23 rfl) ?_
  refine L_v rfl rfl rfl (V_move rfl rfl) ?_
  refine L_v rfl rfl rfl (V_len rfl rfl Tryd.underlying23 rfl) ?_
  refine L_v rfl rfl rfl (V_neq rfl rfl rfl (by first | exact decide_eq_true (by omega) | exact decide_eq_false (by omega) | rfl)) ?_
  refine L_nil ?_
  change J _ _ _ _
  refine J_cond rfl (fun h1 => ?_) (fun h1 => ?_)
  ·
    first | (have h1 := of_decide_eq_true h1) | (have h1 := of_decide_eq_false h1) | skip
    refine J_seq ?_
    refine J_region ?_
    refine L_v rfl rfl rfl (V_assign rfl rfl) ?_
    refine L_nil ?_
    change J _ _ _ _
    refine J_ret ?_
    change Kret _ _ _ Exit.ret _
    refine ret1 rfl rfl (RV_t rfl) ?_
    exact fun w' h => ⟨by rw [decide_eq_false (eqs_len (by first | omega | exact fun hc => h1 (by rw [hc])))], h.fr⟩
  ·
    first | (have h1 := of_decide_eq_true h1) | (have h1 := of_decide_eq_false h1) | skip
    refine J_skip ?_
    change J _ _ _ _
    refine J_seq ?_
    refine J_seq ?_
    refine J_region ?_
    refine L_v rfl rfl rfl (V_assign rfl rfl) ?_
    refine L_nil ?_
    change J _ _ _ _
    refine J_block ?_
    refine J_loop (X := Nat) (fun i => { env := [(0, .slice s1.1 l1.length s1.2), (1, .slice s2.1 l2.length s2.2), (5, .int .i64 (i : Int))], mem := [], facts := [vrF l1 s1, vrF l2 s2] }) (fun i => i ≤ l1.length ∧ l1.take i = l2.take i) (fun i => l1.length - i) 0 ⟨Nat.zero_le _, rfl⟩ ⟨⟨rfl, rfl, rfl, trivial⟩, List.Sublist.refl _, fun f hf => hf, rfl⟩ ?_
    rintro i ⟨hi, ht⟩
    refine J_seq ?_
    refine J_seq ?_
    refine J_region ?_
    refine L_v rfl rfl rfl (V_move rfl rfl) ?_
    refine L_v rfl rfl rfl (V_move rfl rfl) ?_
    refine L_v rfl rfl rfl (V_len rfl rfl Tryd.underlying23 rfl) ?_
    refine L_v rfl rfl rfl (V_lss rfl rfl rfl (by first | exact decide_eq_true (by omega) | exact decide_eq_false (by omega) | rfl)) ?_
    refine L_nil ?_
    change J _ _ _ _
    refine J_cond rfl (fun h2 => ?_) (fun h2 => ?_)
    ·
      first | (have h2 := of_decide_eq_true h2) | (have h2 := of_decide_eq_false h2) | skip
      refine J_skip ?_
      change J _ _ _ _
      refine J_seq ?_
      refine J_block ?_
      refine J_seq ?_
      refine J_regionQ rfl (by kernel_rfl) ?_
      refine LQ_v rfl rfl rfl (V_move rfl rfl) ?_
      refine LQ_v rfl rfl rfl (V_move rfl rfl) ?_
      refine LQ_v rfl rfl rfl (V_indexC rfl rfl rfl Tryd.underlying23 sz79pq (fun w hw => fC hw 0 rfl) (by omega) (by omega)) ?_
      refine LQ_v rfl rfl rfl (V_loadCN (vs := vrM (l1.getD i vr0)) rfl rfl Tryd.underlying79 rfl (szd sz79pq (by kernel_rfl)) (fun w hw => fC hw 0 rfl) (by exact Nat.zero_lt_succ _) (rows_v vr0 (sz := 2) (fun _ => rfl) (by omega))) ?_
      refine LQ_v rfl rfl rfl (V_move rfl rfl) ?_
      refine LQ_v rfl rfl rfl (V_move rfl rfl) ?_
      refine LQ_v rfl rfl rfl (V_indexC rfl rfl rfl Tryd.underlying23 sz79pq (fun w hw => fC hw 1 rfl) (by omega) (by omega)) ?_
      refine LQ_v rfl rfl rfl (V_loadCN (vs := vrM (l2.getD i vr0)) rfl rfl Tryd.underlying79 rfl (szd sz79pq (by kernel_rfl)) (fun w hw => fC hw 1 rfl) (by exact Nat.zero_lt_succ _) (rows_v vr0 (sz := 2) (fun _ => rfl) (by omega))) ?_
      refine LQ_v rfl rfl rfl (V_neAgg rfl rfl rfl (by kernel_rfl : Tryd.prog.eqGuardType Tryd.prog.depth 79 = false) (fun w => eqVrDO _ _ w) decide_not.symm) ?_
      refine LQ_nil ?_
      change J _ _ _ _
      refine J_cond rfl (fun h3 => ?_) (fun h3 => ?_)
      ·
        first | (have h3 := of_decide_eq_true h3) | (have h3 := of_decide_eq_false h3) | skip
        refine J_seq ?_
        refine J_region ?_
        refine L_v rfl rfl rfl (V_assign rfl rfl) ?_
        refine L_nil ?_
        change J _ _ _ _
        refine J_ret ?_
        change Kret _ _ _ Exit.ret _
        refine ret1 rfl rfl (RV_t rfl) ?_
        exact fun w' h => ⟨by rw [decide_eq_false (eqs_ne vr0 h3)], h.fr⟩
      ·
        first | (have h3 := of_decide_eq_true h3) | (have h3 := of_decide_eq_false h3) | skip
        refine J_skip ?_
        change J _ _ _ _
        refine J_region ?_
        refine L_v rfl rfl rfl (V_move rfl rfl) ?_
        refine L_v rfl rfl rfl (V_add rfl rfl rfl (by first | exact Go.IntWalk.i64_in _ (by omega) | rfl)) ?_
        refine L_v rfl rfl rfl (V_assign rfl rfl) ?_
        refine L_nil ?_
        exact ⟨i + 1, ⟨by omega, eqs_step vr0 (by first | omega | (simp; omega)) (by first | omega | (simp; omega)) ht (by first | omega | exact Classical.byContradiction fun hc => h3 hc | exact hne)⟩, by show l1.length - (i + 1) < l1.length - i; omega, ⟨rfl, rfl, rfl, trivial⟩, List.Sublist.refl _, fun f hf => hf, rfl⟩
    ·
      first | (have h2 := of_decide_eq_true h2) | (have h2 := of_decide_eq_false h2) | skip
      refine J_exit ?_
      change J _ _ _ _
      refine J_seq ?_
      refine J_region ?_
      refine L_v rfl rfl rfl (V_assign rfl rfl) ?_
      refine L_nil ?_
      change J _ _ _ _
      refine J_ret ?_
      change Kret _ _ _ Exit.ret _
      refine ret1 rfl rfl (RV_t rfl) ?_
      exact fun w' h => ⟨by rw [decide_eq_true (eqs_all (by omega) (by omega) ht)], h.fr⟩

set_option maxHeartbeats 4000000 in
theorem ClientBinds_w (one two user : ByteArray) (x : Rp) (v s : Sl) (y : Rp) (u t : Sl) (w : World) (f1 : FA w (rpF x v s)) (f2 : FA w (rpF y u t)) (hcx : x.vers.length ≤ v.2) (hcy : y.vers.length ≤ u.2) (hBx : RpD x) (hBy : RpD y) (hK : TabK KT 1 w) :
    Calls Tryd.prog 4 #[.string one, .string two, .string user, .agg (rpM x v s).toArray, .agg (rpM y u t).toArray] w fun e w' => e = .returned (.bool true) ∧ Fr [] w w' := by
  refine calls_of (args := [.string one, .string two, .string user, .agg (rpM x v s).toArray, .agg (rpM y u t).toArray]) ([]) ([]) ([rpF x v s, rpF y u t]) Tryd.func4 rfl rfl (okFW (.cons f1 (.cons f2 .nil))) ?_
  refine J_seq ?_
  refine J_region ?_
  refine L_box rfl rfl rfl rfl rfl (fun b0 => ?_)
  refine L_box rfl rfl rfl rfl rfl (fun b1 => ?_)
  refine L_v rfl rfl rfl (V_assign rfl rfl) ?_
  refine L_nil ?_
  change J _ _ _ _
  refine J_seq ?_
  refine J_seq ?_
  refine J_region ?_
  refine L_v rfl rfl rfl (V_buildE (v := .agg (ctM ct0 m50).toArray) rfl rfl (fun w => by kernel_rfl)) ?_
  refine L_v rfl rfl rfl (V_loadT 0 (vs := rpM x v s) rfl rfl rfl Tryd.underlying34 rfl sz34pq (by kernel_rfl) (by kernel_rfl)) ?_
  refine L_v rfl rfl rfl (V_buildE (v := .agg (msM (rMs x) (rM5 v s)).toArray) rfl rfl (fun w => by kernel_rfl)) ?_
  refine L_v rfl rfl rfl (V_move rfl rfl) ?_
  refine L_v rfl rfl rfl (V_move rfl rfl) ?_
  refine L_callV rfl rfl rfl rfl rfl rfl tx5pq (fun w1 hw => large_r x v s one user w1) ?_
  refine L_v rfl rfl rfl (V_move rfl rfl) ?_
  apply L_or 5 30 36
  · rfl
  · rfl
  · rfl
  · rfl
  · rfl
  · rfl
  · rfl
  · kernel_rfl
  · intro hb1 _ _ hk1
    refine L_wv rfl rfl rfl rfl rfl rfl (V_buildE (v := .agg (ctM ct0 m50).toArray) rfl rfl (fun w => by kernel_rfl)) ?_
    refine L_wv rfl rfl rfl rfl rfl rfl (V_loadT 1 (vs := rpM y u t) rfl rfl rfl Tryd.underlying34 rfl sz34pq (by kernel_rfl) (by kernel_rfl)) ?_
    refine L_wv rfl rfl rfl rfl rfl rfl (V_buildE (v := .agg (msM (rMs y) (rM5 u t)).toArray) rfl rfl (fun w => by kernel_rfl)) ?_
    refine L_wv rfl rfl rfl rfl rfl rfl (V_move rfl rfl) ?_
    refine L_wcallV rfl rfl rfl rfl rfl rfl rfl rfl rfl tx5pq (fun w1 hw => large_r y u t two ⟨#[]⟩ w1) ?_
    exact hk1 _ ⟨rfl, (by first | simp only [St.put] | rfl), (by first | simp only [St.put] | rfl), (by first | simp only [St.put] | rfl), ext_cut 5 (by kernel_rfl) (by kernel_rfl)⟩
  refine L_nil ?_
  change J _ _ _ _
  refine J_cond rfl (fun h2 => ?_) (fun h2 => ?_)
  ·
    first | (have h2 := of_decide_eq_true h2) | (have h2 := of_decide_eq_false h2) | skip
    refine J_seq ?_
    refine J_region ?_
    refine L_v rfl rfl rfl (V_assign rfl rfl) ?_
    refine L_nil ?_
    change J _ _ _ _
    refine J_ret ?_
    change Kret _ _ _ Exit.ret _
    refine ret1 rfl rfl (RV_t rfl) ?_
    exact fun w' h => ⟨rfl, h.fr⟩
  ·
    first | (have h2 := of_decide_eq_true h2) | (have h2 := of_decide_eq_false h2) | skip
    have hA : (¬ bigRp x ∧ one.size ≤ 100000 ∧ user.size ≤ 100000) ∧ (¬ bigRp y ∧ two.size ≤ 100000) := by
      have h9 := h2
      simp only [Bool.or_eq_false_iff, decide_eq_false_iff_not] at h9
      omega
    refine J_skip ?_
    change J _ _ _ _
    refine J_seq ?_
    refine J_seq ?_
    refine J_region ?_
    refine L_v rfl rfl rfl (V_move rfl rfl) ?_
    refine L_v rfl rfl rfl (V_move rfl rfl) ?_
    refine L_v rfl rfl rfl (V_loadT 0 (vs := rpM x v s) rfl rfl rfl Tryd.underlying34 rfl sz34pq (by kernel_rfl) (by kernel_rfl)) ?_
    refine L_callV rfl rfl rfl rfl rfl rfl tx7pq (fun w1 hw => verify_w one user x v s w1 (rpw2 (hw.fa 0 rfl) hcx hBx hA.1.1) (by omega) (TabK.later hw (by simp) hK)) ?_
    refine L_v rfl rfl rfl (V_neq rfl rfl rfl (by first | exact decide_eq_true (by omega) | exact decide_eq_false (by omega) | rfl)) ?_
    refine L_v rfl rfl rfl (V_move rfl rfl) ?_
    apply L_or 5 42 48
    · rfl
    · rfl
    · rfl
    · rfl
    · rfl
    · rfl
    · rfl
    · kernel_rfl
    · intro hb3 _ _ hk3
      refine L_wv rfl rfl rfl rfl rfl rfl (V_move rfl rfl) ?_
      refine L_wv rfl rfl rfl rfl rfl rfl (V_move rfl rfl) ?_
      refine L_wv rfl rfl rfl rfl rfl rfl (V_loadT 1 (vs := rpM y u t) rfl rfl rfl Tryd.underlying34 rfl sz34pq (by kernel_rfl) (by kernel_rfl)) ?_
      refine L_wcallV rfl rfl rfl rfl rfl rfl rfl rfl rfl tx7pq (fun w1 hw => verify_w two user y u t w1 (rpw2 (hw.fa 1 rfl) hcy hBy hA.2.1) (by omega) (TabK.later hw (by simp) hK)) ?_
      refine L_wv rfl rfl rfl rfl rfl rfl (V_neq rfl rfl rfl (by first | exact decide_eq_true (by omega) | exact decide_eq_false (by omega) | rfl)) ?_
      exact hk3 _ ⟨rfl, (by first | simp only [St.put] | rfl), (by first | simp only [St.put] | rfl), (by first | simp only [St.put] | rfl), ext_cut 5 (by kernel_rfl) (by kernel_rfl)⟩
    refine L_v rfl rfl rfl (V_move rfl rfl) ?_
    apply L_or 9 49 59
    · rfl
    · rfl
    · rfl
    · rfl
    · rfl
    · rfl
    · rfl
    · kernel_rfl
    · intro hb4 _ _ hk4
      refine L_wv rfl rfl rfl rfl rfl rfl (V_fieldAddr rfl rfl Tryd.underlying34 rfl sz32pq rfl) ?_
      refine L_wv rfl rfl rfl rfl rfl rfl (V_fieldAddr rfl rfl Tryd.underlying32 rfl sz30pq rfl) ?_
      refine L_wv rfl rfl rfl rfl rfl rfl (V_fieldAddr rfl rfl Tryd.underlying30 rfl sz26pq rfl) ?_
      refine L_wv rfl rfl rfl rfl rfl rfl (V_loadT 0 (vs := dgM x.head.1.2.1) rfl rfl rfl Tryd.underlying26 rfl sz26pq (by kernel_rfl) (by kernel_rfl)) ?_
      refine L_wv rfl rfl rfl rfl rfl rfl (V_fieldAddr rfl rfl Tryd.underlying34 rfl sz32pq rfl) ?_
      refine L_wv rfl rfl rfl rfl rfl rfl (V_fieldAddr rfl rfl Tryd.underlying32 rfl sz30pq rfl) ?_
      refine L_wv rfl rfl rfl rfl rfl rfl (V_fieldAddr rfl rfl Tryd.underlying30 rfl sz26pq rfl) ?_
      refine L_wv rfl rfl rfl rfl rfl rfl (V_loadT 1 (vs := dgM y.head.1.2.1) rfl rfl rfl Tryd.underlying26 rfl sz26pq (by kernel_rfl) (by kernel_rfl)) ?_
      refine L_wv rfl rfl rfl rfl rfl rfl (V_neAgg rfl rfl rfl (by kernel_rfl : Tryd.prog.eqGuardType Tryd.prog.depth 26 = false) (fun w => eqDgDO _ _ w) decide_not.symm) ?_
      exact hk4 _ ⟨rfl, (by first | simp only [St.put] | rfl), (by first | simp only [St.put] | rfl), (by first | simp only [St.put] | rfl), ext_cut 9 (by kernel_rfl) (by kernel_rfl)⟩
    refine L_v rfl rfl rfl (V_move rfl rfl) ?_
    apply L_or 5 60 66
    · rfl
    · rfl
    · rfl
    · rfl
    · rfl
    · rfl
    · rfl
    · kernel_rfl
    · intro hb5 _ _ hk5
      refine L_wv rfl rfl rfl rfl rfl rfl (V_fieldAddr rfl rfl Tryd.underlying34 rfl sz23pq rfl) ?_
      refine L_wv rfl rfl rfl rfl rfl rfl (V_load1 0 rfl rfl rfl Tryd.underlying23 rfl (by rfl)) ?_
      refine L_wv rfl rfl rfl rfl rfl rfl (V_fieldAddr rfl rfl Tryd.underlying34 rfl sz23pq rfl) ?_
      refine L_wv rfl rfl rfl rfl rfl rfl (V_load1 1 rfl rfl rfl Tryd.underlying23 rfl (by rfl)) ?_
      refine L_wcallV rfl rfl rfl rfl rfl rfl rfl rfl rfl tx9pq (fun w1 hw => sameVersions_w v u x.vers y.vers w1 (hw.fa 0 rfl).l (hw.fa 1 rfl).l (by have h9 := hA.1.1; unfold bigRp at h9; omega)) ?_
      exact hk5 _ ⟨rfl, (by first | simp only [St.put] | rfl), (by first | simp only [St.put] | rfl), (by first | simp only [St.put] | rfl), ext_cut 5 (by kernel_rfl) (by kernel_rfl)⟩
    refine L_nil ?_
    change J _ _ _ _
    refine J_cond rfl (fun h6 => ?_) (fun h6 => ?_)
    ·
      first | (have h6 := of_decide_eq_true h6) | (have h6 := of_decide_eq_false h6) | skip
      refine J_seq ?_
      refine J_region ?_
      refine L_callV rfl rfl rfl rfl rfl rfl tx6pq (fun w1 hw => verifies_w w1 (TabK.later hw (by simp) hK)) ?_
      refine L_v rfl rfl rfl (V_assign rfl rfl) ?_
      refine L_nil ?_
      change J _ _ _ _
      refine J_ret ?_
      change Kret _ _ _ Exit.ret _
      refine ret1 rfl rfl (RV_t rfl) ?_
      exact fun w' h => ⟨rfl, h.fr⟩
    ·
      first | (have h6 := of_decide_eq_true h6) | (have h6 := of_decide_eq_false h6) | skip
      have hV : isH x.vers = true ∧ isH y.vers = true ∧ pchk x.head.1.2.1 (pathD user) (clm x.vers) x.pf = 0 ∧ pchk x.head.1.2.1 (pathD user) (clm y.vers) y.pf = 0 := by
        have h9 := h6
        simp only [Bool.or_eq_false_iff, decide_eq_false_iff_not, not_or, ne_eq, Decidable.not_not] at h9
        obtain ⟨⟨⟨e1, e2⟩, e3⟩, e4⟩ := h9
        have g1 := verE_0 e1
        have g2 := verE_0 e2
        rw [← e3] at g2
        exact ⟨g1.1, g2.1, g1.2, g2.2⟩
      obtain ⟨p, hp⟩ : ∃ p, pathD user = p := ⟨_, rfl⟩
      rw [hp] at hV
      have hpb : DB p := hp ▸ pathD_b user
      obtain ⟨dx, hdx⟩ : ∃ d, verD x.vers = d := ⟨_, rfl⟩
      obtain ⟨dy, hdy⟩ : ∃ d, verD y.vers = d := ⟨_, rfl⟩
      refine J_skip ?_
      change J _ _ _ _
      refine J_seq ?_
      refine J_region ?_
      refine L_v rfl rfl rfl (V_buildE (v := .agg (cmM cm0).toArray) rfl rfl (fun w => by kernel_rfl)) ?_
      refine L_alloc rfl rfl rfl rfl z54pq (fun b2 => ?_)
      refine L_storeW 2 rfl rfl rfl rfl rfl rfl (szd sz54pq (by kernel_rfl)) (all_one (by kernel_rfl)) (by kernel_rfl) ?_
      refine L_nil ?_
      change J _ _ _ _
      refine J_seq ?_
      refine J_region ?_
      refine L_v rfl rfl rfl (V_buildE (v := .agg (cmM cm0).toArray) rfl rfl (fun w => by kernel_rfl)) ?_
      refine L_alloc rfl rfl rfl rfl z54pq (fun b3 => ?_)
      refine L_storeW 3 rfl rfl rfl rfl rfl rfl (szd sz54pq (by kernel_rfl)) (all_one (by kernel_rfl)) (by kernel_rfl) ?_
      refine L_nil ?_
      change J _ _ _ _
      refine J_seq ?_
      refine J_seq ?_
      refine J_region ?_
      refine L_v rfl rfl rfl (V_fieldAddr rfl rfl Tryd.underlying34 rfl sz23pq rfl) ?_
      refine L_v rfl rfl rfl (V_load1 0 rfl rfl rfl Tryd.underlying23 rfl (by rfl)) ?_
      refine L_v rfl rfl rfl (V_len rfl rfl Tryd.underlying23 rfl) ?_
      refine L_v rfl rfl rfl (V_gtr rfl rfl rfl (by first | exact decide_eq_true (by omega) | exact decide_eq_false (by omega) | rfl)) ?_
      refine L_nil ?_
      change J _ _ _ _
      refine J_cond rfl (fun h7 => ?_) (fun h7 => ?_)
      ·
        first | (have h7 := of_decide_eq_true h7) | (have h7 := of_decide_eq_false h7) | skip
        refine J_seq ?_
        refine J_region ?_
        refine L_v rfl rfl rfl (V_fieldAddr rfl rfl Tryd.underlying34 rfl sz23pq rfl) ?_
        refine L_v rfl rfl rfl (V_load1 0 rfl rfl rfl Tryd.underlying23 rfl (by rfl)) ?_
        refine L_callV rfl rfl rfl rfl rfl rfl tx10pq (fun w1 hw => vdig_e hdx v w1 (hw.fa 0 rfl).l.1 hcx hV.1 (TabK.later hw (by simp) hK)) ?_
        refine L_v rfl rfl rfl (V_move rfl rfl) ?_
        refine L_v rfl rfl rfl (V_extract rfl rfl rfl) ?_
        refine L_v rfl rfl rfl (V_extract rfl rfl rfl) ?_
        refine L_alloc rfl rfl rfl rfl z26pq (fun b4 => ?_)
        refine L_storeW 4 rfl rfl rfl rfl rfl rfl (szd sz26pq (by kernel_rfl)) (all_one (by kernel_rfl)) (by kernel_rfl) ?_
        refine L_v rfl rfl rfl (V_assign rfl rfl) ?_
        refine L_nil ?_
        change J _ _ _ _
        refine J_region ?_
        refine L_v rfl rfl rfl (V_loadT 4 (vs := dgM dx) rfl rfl rfl Tryd.underlying26 rfl sz26pq (by kernel_rfl) (by kernel_rfl)) ?_
        refine L_v rfl rfl rfl (V_buildE (v := .agg (cmM (true, dx)).toArray) rfl rfl (fun w => by kernel_rfl)) ?_
        refine L_storeW 2 rfl rfl rfl rfl rfl rfl (szd sz54pq (by kernel_rfl)) (all_one (by kernel_rfl)) (by kernel_rfl) ?_
        refine L_nil ?_
        change J _ _ _ _
        refine J_seq ?_
        refine J_seq ?_
        refine J_region ?_
        refine L_v rfl rfl rfl (V_fieldAddr rfl rfl Tryd.underlying34 rfl sz23pq rfl) ?_
        refine L_v rfl rfl rfl (V_load1 1 rfl rfl rfl Tryd.underlying23 rfl (by rfl)) ?_
        refine L_v rfl rfl rfl (V_len rfl rfl Tryd.underlying23 rfl) ?_
        refine L_v rfl rfl rfl (V_gtr rfl rfl rfl (by first | exact decide_eq_true (by omega) | exact decide_eq_false (by omega) | rfl)) ?_
        refine L_nil ?_
        change J _ _ _ _
        refine J_cond rfl (fun h8 => ?_) (fun h8 => ?_)
        ·
          first | (have h8 := of_decide_eq_true h8) | (have h8 := of_decide_eq_false h8) | skip
          have hE1 : pchk x.head.1.2.1 p (true, dx) x.pf = 0 := by have h9 := hV.2.2.1; rw [clm_y h7, hdx] at h9; exact h9
          have hE2 : pchk x.head.1.2.1 p (true, dy) y.pf = 0 := by have h9 := hV.2.2.2; rw [clm_y h8, hdy] at h9; exact h9
          have hDc : DB ((true, dx) : Cm).2 := by have h9 := clm_b x.vers; rw [clm_y h7, hdx] at h9; exact h9
          have hDd : DB ((true, dy) : Cm).2 := by have h9 := clm_b y.vers; rw [clm_y h8, hdy] at h9; exact h9
          refine J_seq ?_
          refine J_region ?_
          refine L_v rfl rfl rfl (V_fieldAddr rfl rfl Tryd.underlying34 rfl sz23pq rfl) ?_
          refine L_v rfl rfl rfl (V_load1 1 rfl rfl rfl Tryd.underlying23 rfl (by rfl)) ?_
          refine L_callV rfl rfl rfl rfl rfl rfl tx10pq (fun w1 hw => vdig_e hdy u w1 (hw.fa 1 rfl).l.1 hcy hV.2.1 (TabK.later hw (by simp) hK)) ?_
          refine L_v rfl rfl rfl (V_move rfl rfl) ?_
          refine L_v rfl rfl rfl (V_extract rfl rfl rfl) ?_
          refine L_v rfl rfl rfl (V_extract rfl rfl rfl) ?_
          refine L_alloc rfl rfl rfl rfl z26pq (fun b5 => ?_)
          refine L_storeW 5 rfl rfl rfl rfl rfl rfl (szd sz26pq (by kernel_rfl)) (all_one (by kernel_rfl)) (by kernel_rfl) ?_
          refine L_v rfl rfl rfl (V_assign rfl rfl) ?_
          refine L_nil ?_
          change J _ _ _ _
          refine J_region ?_
          refine L_v rfl rfl rfl (V_loadT 5 (vs := dgM dy) rfl rfl rfl Tryd.underlying26 rfl sz26pq (by kernel_rfl) (by kernel_rfl)) ?_
          refine L_v rfl rfl rfl (V_buildE (v := .agg (cmM (true, dy)).toArray) rfl rfl (fun w => by kernel_rfl)) ?_
          refine L_storeW 3 rfl rfl rfl rfl rfl rfl (szd sz54pq (by kernel_rfl)) (all_one (by kernel_rfl)) (by kernel_rfl) ?_
          refine L_nil ?_
          change J _ _ _ _
          refine J_seq ?_
          refine J_seq ?_
          refine J_midS (X := Nat × Nat × Nat × Nat) (fun z9 => { env := [(96, .bool (decide (((true, dx) : Cm) = (true, dy)))), (2, .string user), (8, .pointer (some ⟨z9.1, 0, none⟩)), (9, .pointer (some ⟨z9.2.1, 0, none⟩)), (11, .pointer (some ⟨z9.2.2.1, 0, none⟩)), (12, .pointer (some ⟨z9.2.2.2, 0, none⟩))], mem := [(z9.1, row 34 (rpM x v s)), (z9.2.1, row 34 (rpM y u t)), (z9.2.2.1, row 54 (cmM (true, dx))), (z9.2.2.2, row 54 (cmM (true, dy)))], facts := [rpF x v s, rpF y u t] }) ?_ ?_
          ·
            refine J_region ?_
            refine L_v rfl rfl rfl (V_loadT 2 (vs := cmM (true, dx)) rfl rfl rfl Tryd.underlying54 rfl sz54pq (by kernel_rfl) (by kernel_rfl)) ?_
            refine L_v rfl rfl rfl (V_loadT 3 (vs := cmM (true, dy)) rfl rfl rfl Tryd.underlying54 rfl sz54pq (by kernel_rfl) (by kernel_rfl)) ?_
            refine L_v rfl rfl rfl (V_eqAgg rfl rfl rfl (by kernel_rfl : Tryd.prog.eqGuardType Tryd.prog.depth 54 = false) (fun w => eqCmDO _ _ w) rfl) ?_
            refine L_nil ?_
            exact ⟨(b0, b1, b2, b3), ⟨rfl, rfl, rfl, rfl, rfl, rfl, trivial⟩, fun w1 hw => hw.sub (List.Sublist.cons_cons _ (List.Sublist.cons_cons _ (List.Sublist.cons_cons _ (List.Sublist.cons_cons _ (List.nil_sublist _))))) (fun f hf => hf), rfl⟩
          rintro ⟨b0, b1, b2, b3⟩
          change J _ _ _ _
          refine J_cond rfl (fun h9 => ?_) (fun h9 => ?_)
          ·
            first | (have h9 := of_decide_eq_true h9) | (have h9 := of_decide_eq_false h9) | skip
            refine J_seq ?_
            refine J_region ?_
            refine L_callV rfl rfl rfl rfl rfl rfl tx6pq (fun w1 hw => verifies_w w1 (TabK.later hw (by simp) hK)) ?_
            refine L_v rfl rfl rfl (V_assign rfl rfl) ?_
            refine L_nil ?_
            change J _ _ _ _
            refine J_ret ?_
            change Kret _ _ _ Exit.ret _
            refine ret1 rfl rfl (RV_t rfl) ?_
            exact fun w' h => ⟨rfl, h.fr⟩
          ·
            first | (have h9 := of_decide_eq_true h9) | (have h9 := of_decide_eq_false h9) | skip
            have hCD : (true, dx) ≠ (true, dy) := h9
            refine J_skip ?_
            change J _ _ _ _
            refine J_seq ?_
            refine J_regionO (.pure 0 (.pure 1 (.pure 2 (.pure 3 (.pure 4 (.pure 6 (.pure 7 (.pure 8 (.pure 9 (.pure 10 (.pure 11 (.one 5 (.one 12 (.pure 13 (.pure 14 (.pure 15 (.pure 16 (.pure 17 (.pure 18 (.pure 19 (.nil))))))))))))))))))))) _ _ (Pk.refl _) (fun f hf => hf) rfl rfl (by kernel_rfl) ?_
            refine LO_v rfl rfl rfl rfl (V_fieldAddr rfl rfl Tryd.underlying34 rfl sz32pq rfl) ?_
            refine LO_v rfl rfl rfl rfl (V_fieldAddr rfl rfl Tryd.underlying32 rfl sz30pq rfl) ?_
            refine LO_v rfl rfl rfl rfl (V_fieldAddr rfl rfl Tryd.underlying30 rfl sz26pq rfl) ?_
            refine LO_v rfl rfl rfl rfl (V_loadT 0 (vs := dgM x.head.1.2.1) rfl rfl rfl Tryd.underlying26 rfl sz26pq (by kernel_rfl) (by kernel_rfl)) ?_
            refine LO_v rfl rfl rfl rfl (V_move rfl rfl) ?_
            refine LO_v rfl rfl rfl rfl (V_loadT 2 (vs := cmM (true, dx)) rfl rfl rfl Tryd.underlying54 rfl sz54pq (by kernel_rfl) (by kernel_rfl)) ?_
            refine LO_v rfl rfl rfl rfl (V_fieldAddr rfl rfl Tryd.underlying34 rfl sz28pq rfl) ?_
            refine LO_v rfl rfl rfl rfl (V_loadT 0 (vs := pfM x.pf s) rfl rfl rfl Tryd.underlying28 rfl sz28pq (by kernel_rfl) (by kernel_rfl)) ?_
            refine LO_v rfl rfl rfl rfl (V_loadT 3 (vs := cmM (true, dy)) rfl rfl rfl Tryd.underlying54 rfl sz54pq (by kernel_rfl) (by kernel_rfl)) ?_
            refine LO_v rfl rfl rfl rfl (V_fieldAddr rfl rfl Tryd.underlying34 rfl sz28pq rfl) ?_
            refine LO_v rfl rfl rfl rfl (V_loadT 1 (vs := pfM y.pf t) rfl rfl rfl Tryd.underlying28 rfl sz28pq (by kernel_rfl) (by kernel_rfl)) ?_
            refine LO_callV rfl rfl rfl rfl rfl rfl rfl rfl tx12pq (fun w1 hw => of_e hp w1 (TabK.later hw (by simp) hK) (by omega)) (Pk.refl _) (fun f hf => hf) ?_
            refine LO_s rfl rfl rfl (S_call rfl rfl rfl tx11pq (fun w1 hw => (clash_w x.head.1.2.1 p (true, dx) x.pf s (true, dy) y.pf t w1 hpb hDc hBx.1.1 hBx.1.2.1 hBx.1.2.2 hDd hBy.1.1 hBy.1.2.1 hBy.1.2.2 (hw.fa 0 rfl).r (hw.fa 1 rfl).r (by have h9 := hA.1.1; unfold bigRp at h9; omega) (by have h9 := hA.2.1; unfold bigRp at h9; omega) hE1 hE2 hCD (TabK.later hw (by simp) hK)).mono ?_))
            rintro e w' h9
            obtain ⟨j, a, b, e1, rfl, hfr, hjn, he1, he2, fa1, fa2⟩ := clash_e (root := dz) h9
            refine ⟨_, _, _, rfl, hw.newF hfr (f := andF (SLF p (true, dx) x.pf (x.pf.sib.length - j) a) (SLF p (true, dy) y.pf (y.pf.sib.length - j) b)) fa1 fa2, rfl, (Pk.refl _), (fun f hf => List.mem_append_left _ hf), ?_⟩
            refine LO_v rfl rfl rfl rfl (V_move rfl rfl) ?_
            refine LO_v rfl rfl rfl rfl (V_extract rfl rfl rfl) ?_
            refine LO_v rfl rfl rfl rfl (V_extract rfl rfl rfl) ?_
            refine LO_v rfl rfl rfl rfl (V_extract rfl rfl rfl) ?_
            refine LO_v rfl rfl rfl rfl (V_assign rfl rfl) ?_
            refine LO_v rfl rfl rfl rfl (V_assign rfl rfl) ?_
            refine LO_v rfl rfl rfl rfl (V_assign rfl rfl) ?_
            refine LO_nil ?_
            change J _ _ _ _
            refine J_seq ?_
            refine J_region ?_
            refine L_v rfl rfl rfl (V_move rfl rfl) ?_
            refine L_callV rfl rfl rfl rfl rfl rfl tx13pq (fun w1 hw => Short_e he1 (some ⟨a.1, 0, none⟩) (upP p (true, dx) x.pf (x.pf.sib.length - j)).length ((upP p (true, dx) x.pf (x.pf.sib.length - j)).length + a.2) w1 (hw.fa 2 rfl).l.1 (upP_byt hpb hDc hBx.1.1 hBx.1.2.1 hBx.1.2.2 _) (Nat.le_add_right _ _) (TabK.later hw (by simp) hK) (by have := upP_len p (true, dx) x.pf (x.pf.sib.length - j); omega)) ?_
            refine L_v rfl rfl rfl (V_move rfl rfl) ?_
            refine L_v rfl rfl rfl (V_extract rfl rfl rfl) ?_
            refine L_v rfl rfl rfl (V_extract rfl rfl rfl) ?_
            refine L_alloc rfl rfl rfl rfl z26pq (fun b4 => ?_)
            refine L_storeW 4 rfl rfl rfl rfl rfl rfl (szd sz26pq (by kernel_rfl)) (all_one (by kernel_rfl)) (by kernel_rfl) ?_
            refine L_v rfl rfl rfl (V_assign rfl rfl) ?_
            refine L_nil ?_
            change J _ _ _ _
            refine J_seq ?_
            refine J_region ?_
            refine L_v rfl rfl rfl (V_move rfl rfl) ?_
            refine L_callV rfl rfl rfl rfl rfl rfl tx13pq (fun w1 hw => Short_e he2 (some ⟨b.1, 0, none⟩) (upP p (true, dy) y.pf (y.pf.sib.length - j)).length ((upP p (true, dy) y.pf (y.pf.sib.length - j)).length + b.2) w1 (hw.fa 2 rfl).r.1 (upP_byt hpb hDd hBy.1.1 hBy.1.2.1 hBy.1.2.2 _) (Nat.le_add_right _ _) (TabK.later hw (by simp) hK) (by have := upP_len p (true, dy) y.pf (y.pf.sib.length - j); omega)) ?_
            refine L_v rfl rfl rfl (V_move rfl rfl) ?_
            refine L_v rfl rfl rfl (V_extract rfl rfl rfl) ?_
            refine L_v rfl rfl rfl (V_extract rfl rfl rfl) ?_
            refine L_alloc rfl rfl rfl rfl z26pq (fun b5 => ?_)
            refine L_storeW 5 rfl rfl rfl rfl rfl rfl (szd sz26pq (by kernel_rfl)) (all_one (by kernel_rfl)) (by kernel_rfl) ?_
            refine L_v rfl rfl rfl (V_assign rfl rfl) ?_
            refine L_nil ?_
            change J _ _ _ _
            refine J_seq ?_
            refine J_region ?_
            refine L_callV rfl rfl rfl rfl rfl rfl tx6pq (fun w1 hw => verifies_w w1 (TabK.later hw (by simp) hK)) ?_
            refine L_v rfl rfl rfl (V_move rfl rfl) ?_
            refine L_wv rfl rfl rfl rfl rfl rfl (V_move rfl rfl) ?_
            refine L_wv rfl rfl rfl rfl rfl rfl (V_eql rfl rfl rfl (decide_eq_true rfl)) ?_
            first | refine L_v rfl rfl rfl (V_pickT rfl rfl rfl) ?_ | refine L_v rfl rfl rfl (V_pickF rfl rfl rfl) ?_
            refine L_v rfl rfl rfl (V_move rfl rfl) ?_
            refine L_wv rfl rfl rfl rfl rfl rfl (V_move rfl rfl) ?_
            refine L_wv rfl rfl rfl rfl rfl rfl (V_str rfl rfl Tryd.underlying57 Tryd.underlying5 Tryd.underlying9 (fun w hw => (hw.fa 2 rfl).l.1)) ?_
            refine L_wv rfl rfl rfl rfl rfl rfl (V_move rfl rfl) ?_
            refine L_wv rfl rfl rfl rfl rfl rfl (V_str rfl rfl Tryd.underlying57 Tryd.underlying5 Tryd.underlying9 (fun w hw => (hw.fa 2 rfl).r.1)) ?_
            refine L_wv rfl rfl rfl rfl rfl rfl (V_neS rfl rfl rfl (decide_eq_true (fun e => hjn ((ba_inj (upP_byt hpb hDc hBx.1.1 hBx.1.2.1 hBx.1.2.2 _) (upP_byt hpb hDd hBy.1.1 hBy.1.2.1 hBy.1.2.2 _)).1 e)))) ?_
            first | refine L_v rfl rfl rfl (V_pickT rfl rfl rfl) ?_ | refine L_v rfl rfl rfl (V_pickF rfl rfl rfl) ?_
            refine L_v rfl rfl rfl (V_move rfl rfl) ?_
            refine L_wv rfl rfl rfl rfl rfl rfl (V_loadT 4 (vs := dgM e1) rfl rfl rfl Tryd.underlying26 rfl sz26pq (by kernel_rfl) (by kernel_rfl)) ?_
            refine L_wv rfl rfl rfl rfl rfl rfl (V_loadT 5 (vs := dgM e1) rfl rfl rfl Tryd.underlying26 rfl sz26pq (by kernel_rfl) (by kernel_rfl)) ?_
            refine L_wv rfl rfl rfl rfl rfl rfl (V_eqAgg rfl rfl rfl (by kernel_rfl : Tryd.prog.eqGuardType Tryd.prog.depth 26 = false) (fun w => eqDgDO _ _ w) rfl) ?_
            first | refine L_v rfl rfl rfl (V_pickT rfl rfl rfl) ?_ | refine L_v rfl rfl rfl (V_pickF rfl rfl rfl) ?_
            refine L_v rfl rfl rfl (V_assign rfl rfl) ?_
            refine L_nil ?_
            change J _ _ _ _
            refine J_ret ?_
            change Kret _ _ _ Exit.ret _
            refine ret1 rfl rfl (RV_t rfl) ?_
            exact fun w' h => ⟨by rw [decide_eq_true (rfl : e1 = e1)], h.fr⟩
        ·
          first | (have h8 := of_decide_eq_true h8) | (have h8 := of_decide_eq_false h8) | skip
          have hE1 : pchk x.head.1.2.1 p (true, dx) x.pf = 0 := by have h9 := hV.2.2.1; rw [clm_y h7, hdx] at h9; exact h9
          have hE2 : pchk x.head.1.2.1 p cm0 y.pf = 0 := by have h9 := hV.2.2.2; rw [clm_n h8] at h9; exact h9
          have hDc : DB ((true, dx) : Cm).2 := by have h9 := clm_b x.vers; rw [clm_y h7, hdx] at h9; exact h9
          have hDd : DB (cm0 : Cm).2 := by have h9 := clm_b y.vers; rw [clm_n h8] at h9; exact h9
          refine J_skip ?_
          change J _ _ _ _
          refine J_seq ?_
          refine J_seq ?_
          refine J_midS (X := Nat × Nat × Nat × Nat) (fun z9 => { env := [(96, .bool (decide (((true, dx) : Cm) = cm0))), (2, .string user), (8, .pointer (some ⟨z9.1, 0, none⟩)), (9, .pointer (some ⟨z9.2.1, 0, none⟩)), (11, .pointer (some ⟨z9.2.2.1, 0, none⟩)), (12, .pointer (some ⟨z9.2.2.2, 0, none⟩))], mem := [(z9.1, row 34 (rpM x v s)), (z9.2.1, row 34 (rpM y u t)), (z9.2.2.1, row 54 (cmM (true, dx))), (z9.2.2.2, row 54 (cmM cm0))], facts := [rpF x v s, rpF y u t] }) ?_ ?_
          ·
            refine J_region ?_
            refine L_v rfl rfl rfl (V_loadT 2 (vs := cmM (true, dx)) rfl rfl rfl Tryd.underlying54 rfl sz54pq (by kernel_rfl) (by kernel_rfl)) ?_
            refine L_v rfl rfl rfl (V_loadT 3 (vs := cmM cm0) rfl rfl rfl Tryd.underlying54 rfl sz54pq (by kernel_rfl) (by kernel_rfl)) ?_
            refine L_v rfl rfl rfl (V_eqAgg rfl rfl rfl (by kernel_rfl : Tryd.prog.eqGuardType Tryd.prog.depth 54 = false) (fun w => eqCmDO _ _ w) rfl) ?_
            refine L_nil ?_
            exact ⟨(b0, b1, b2, b3), ⟨rfl, rfl, rfl, rfl, rfl, rfl, trivial⟩, fun w1 hw => hw.sub (List.Sublist.cons_cons _ (List.Sublist.cons_cons _ (List.Sublist.cons_cons _ (List.Sublist.cons_cons _ (List.nil_sublist _))))) (fun f hf => hf), rfl⟩
          rintro ⟨b0, b1, b2, b3⟩
          change J _ _ _ _
          refine J_cond rfl (fun h9 => ?_) (fun h9 => ?_)
          ·
            first | (have h9 := of_decide_eq_true h9) | (have h9 := of_decide_eq_false h9) | skip
            refine J_seq ?_
            refine J_region ?_
            refine L_callV rfl rfl rfl rfl rfl rfl tx6pq (fun w1 hw => verifies_w w1 (TabK.later hw (by simp) hK)) ?_
            refine L_v rfl rfl rfl (V_assign rfl rfl) ?_
            refine L_nil ?_
            change J _ _ _ _
            refine J_ret ?_
            change Kret _ _ _ Exit.ret _
            refine ret1 rfl rfl (RV_t rfl) ?_
            exact fun w' h => ⟨rfl, h.fr⟩
          ·
            first | (have h9 := of_decide_eq_true h9) | (have h9 := of_decide_eq_false h9) | skip
            have hCD : (true, dx) ≠ cm0 := h9
            refine J_skip ?_
            change J _ _ _ _
            refine J_seq ?_
            refine J_regionO (.pure 0 (.pure 1 (.pure 2 (.pure 3 (.pure 4 (.pure 6 (.pure 7 (.pure 8 (.pure 9 (.pure 10 (.pure 11 (.one 5 (.one 12 (.pure 13 (.pure 14 (.pure 15 (.pure 16 (.pure 17 (.pure 18 (.pure 19 (.nil))))))))))))))))))))) _ _ (Pk.refl _) (fun f hf => hf) rfl rfl (by kernel_rfl) ?_
            refine LO_v rfl rfl rfl rfl (V_fieldAddr rfl rfl Tryd.underlying34 rfl sz32pq rfl) ?_
            refine LO_v rfl rfl rfl rfl (V_fieldAddr rfl rfl Tryd.underlying32 rfl sz30pq rfl) ?_
            refine LO_v rfl rfl rfl rfl (V_fieldAddr rfl rfl Tryd.underlying30 rfl sz26pq rfl) ?_
            refine LO_v rfl rfl rfl rfl (V_loadT 0 (vs := dgM x.head.1.2.1) rfl rfl rfl Tryd.underlying26 rfl sz26pq (by kernel_rfl) (by kernel_rfl)) ?_
            refine LO_v rfl rfl rfl rfl (V_move rfl rfl) ?_
            refine LO_v rfl rfl rfl rfl (V_loadT 2 (vs := cmM (true, dx)) rfl rfl rfl Tryd.underlying54 rfl sz54pq (by kernel_rfl) (by kernel_rfl)) ?_
            refine LO_v rfl rfl rfl rfl (V_fieldAddr rfl rfl Tryd.underlying34 rfl sz28pq rfl) ?_
            refine LO_v rfl rfl rfl rfl (V_loadT 0 (vs := pfM x.pf s) rfl rfl rfl Tryd.underlying28 rfl sz28pq (by kernel_rfl) (by kernel_rfl)) ?_
            refine LO_v rfl rfl rfl rfl (V_loadT 3 (vs := cmM cm0) rfl rfl rfl Tryd.underlying54 rfl sz54pq (by kernel_rfl) (by kernel_rfl)) ?_
            refine LO_v rfl rfl rfl rfl (V_fieldAddr rfl rfl Tryd.underlying34 rfl sz28pq rfl) ?_
            refine LO_v rfl rfl rfl rfl (V_loadT 1 (vs := pfM y.pf t) rfl rfl rfl Tryd.underlying28 rfl sz28pq (by kernel_rfl) (by kernel_rfl)) ?_
            refine LO_callV rfl rfl rfl rfl rfl rfl rfl rfl tx12pq (fun w1 hw => of_e hp w1 (TabK.later hw (by simp) hK) (by omega)) (Pk.refl _) (fun f hf => hf) ?_
            refine LO_s rfl rfl rfl (S_call rfl rfl rfl tx11pq (fun w1 hw => (clash_w x.head.1.2.1 p (true, dx) x.pf s cm0 y.pf t w1 hpb hDc hBx.1.1 hBx.1.2.1 hBx.1.2.2 hDd hBy.1.1 hBy.1.2.1 hBy.1.2.2 (hw.fa 0 rfl).r (hw.fa 1 rfl).r (by have h9 := hA.1.1; unfold bigRp at h9; omega) (by have h9 := hA.2.1; unfold bigRp at h9; omega) hE1 hE2 hCD (TabK.later hw (by simp) hK)).mono ?_))
            rintro e w' h9
            obtain ⟨j, a, b, e1, rfl, hfr, hjn, he1, he2, fa1, fa2⟩ := clash_e (root := dz) h9
            refine ⟨_, _, _, rfl, hw.newF hfr (f := andF (SLF p (true, dx) x.pf (x.pf.sib.length - j) a) (SLF p cm0 y.pf (y.pf.sib.length - j) b)) fa1 fa2, rfl, (Pk.refl _), (fun f hf => List.mem_append_left _ hf), ?_⟩
            refine LO_v rfl rfl rfl rfl (V_move rfl rfl) ?_
            refine LO_v rfl rfl rfl rfl (V_extract rfl rfl rfl) ?_
            refine LO_v rfl rfl rfl rfl (V_extract rfl rfl rfl) ?_
            refine LO_v rfl rfl rfl rfl (V_extract rfl rfl rfl) ?_
            refine LO_v rfl rfl rfl rfl (V_assign rfl rfl) ?_
            refine LO_v rfl rfl rfl rfl (V_assign rfl rfl) ?_
            refine LO_v rfl rfl rfl rfl (V_assign rfl rfl) ?_
            refine LO_nil ?_
            change J _ _ _ _
            refine J_seq ?_
            refine J_region ?_
            refine L_v rfl rfl rfl (V_move rfl rfl) ?_
            refine L_callV rfl rfl rfl rfl rfl rfl tx13pq (fun w1 hw => Short_e he1 (some ⟨a.1, 0, none⟩) (upP p (true, dx) x.pf (x.pf.sib.length - j)).length ((upP p (true, dx) x.pf (x.pf.sib.length - j)).length + a.2) w1 (hw.fa 2 rfl).l.1 (upP_byt hpb hDc hBx.1.1 hBx.1.2.1 hBx.1.2.2 _) (Nat.le_add_right _ _) (TabK.later hw (by simp) hK) (by have := upP_len p (true, dx) x.pf (x.pf.sib.length - j); omega)) ?_
            refine L_v rfl rfl rfl (V_move rfl rfl) ?_
            refine L_v rfl rfl rfl (V_extract rfl rfl rfl) ?_
            refine L_v rfl rfl rfl (V_extract rfl rfl rfl) ?_
            refine L_alloc rfl rfl rfl rfl z26pq (fun b4 => ?_)
            refine L_storeW 4 rfl rfl rfl rfl rfl rfl (szd sz26pq (by kernel_rfl)) (all_one (by kernel_rfl)) (by kernel_rfl) ?_
            refine L_v rfl rfl rfl (V_assign rfl rfl) ?_
            refine L_nil ?_
            change J _ _ _ _
            refine J_seq ?_
            refine J_region ?_
            refine L_v rfl rfl rfl (V_move rfl rfl) ?_
            refine L_callV rfl rfl rfl rfl rfl rfl tx13pq (fun w1 hw => Short_e he2 (some ⟨b.1, 0, none⟩) (upP p cm0 y.pf (y.pf.sib.length - j)).length ((upP p cm0 y.pf (y.pf.sib.length - j)).length + b.2) w1 (hw.fa 2 rfl).r.1 (upP_byt hpb hDd hBy.1.1 hBy.1.2.1 hBy.1.2.2 _) (Nat.le_add_right _ _) (TabK.later hw (by simp) hK) (by have := upP_len p cm0 y.pf (y.pf.sib.length - j); omega)) ?_
            refine L_v rfl rfl rfl (V_move rfl rfl) ?_
            refine L_v rfl rfl rfl (V_extract rfl rfl rfl) ?_
            refine L_v rfl rfl rfl (V_extract rfl rfl rfl) ?_
            refine L_alloc rfl rfl rfl rfl z26pq (fun b5 => ?_)
            refine L_storeW 5 rfl rfl rfl rfl rfl rfl (szd sz26pq (by kernel_rfl)) (all_one (by kernel_rfl)) (by kernel_rfl) ?_
            refine L_v rfl rfl rfl (V_assign rfl rfl) ?_
            refine L_nil ?_
            change J _ _ _ _
            refine J_seq ?_
            refine J_region ?_
            refine L_callV rfl rfl rfl rfl rfl rfl tx6pq (fun w1 hw => verifies_w w1 (TabK.later hw (by simp) hK)) ?_
            refine L_v rfl rfl rfl (V_move rfl rfl) ?_
            refine L_wv rfl rfl rfl rfl rfl rfl (V_move rfl rfl) ?_
            refine L_wv rfl rfl rfl rfl rfl rfl (V_eql rfl rfl rfl (decide_eq_true rfl)) ?_
            first | refine L_v rfl rfl rfl (V_pickT rfl rfl rfl) ?_ | refine L_v rfl rfl rfl (V_pickF rfl rfl rfl) ?_
            refine L_v rfl rfl rfl (V_move rfl rfl) ?_
            refine L_wv rfl rfl rfl rfl rfl rfl (V_move rfl rfl) ?_
            refine L_wv rfl rfl rfl rfl rfl rfl (V_str rfl rfl Tryd.underlying57 Tryd.underlying5 Tryd.underlying9 (fun w hw => (hw.fa 2 rfl).l.1)) ?_
            refine L_wv rfl rfl rfl rfl rfl rfl (V_move rfl rfl) ?_
            refine L_wv rfl rfl rfl rfl rfl rfl (V_str rfl rfl Tryd.underlying57 Tryd.underlying5 Tryd.underlying9 (fun w hw => (hw.fa 2 rfl).r.1)) ?_
            refine L_wv rfl rfl rfl rfl rfl rfl (V_neS rfl rfl rfl (decide_eq_true (fun e => hjn ((ba_inj (upP_byt hpb hDc hBx.1.1 hBx.1.2.1 hBx.1.2.2 _) (upP_byt hpb hDd hBy.1.1 hBy.1.2.1 hBy.1.2.2 _)).1 e)))) ?_
            first | refine L_v rfl rfl rfl (V_pickT rfl rfl rfl) ?_ | refine L_v rfl rfl rfl (V_pickF rfl rfl rfl) ?_
            refine L_v rfl rfl rfl (V_move rfl rfl) ?_
            refine L_wv rfl rfl rfl rfl rfl rfl (V_loadT 4 (vs := dgM e1) rfl rfl rfl Tryd.underlying26 rfl sz26pq (by kernel_rfl) (by kernel_rfl)) ?_
            refine L_wv rfl rfl rfl rfl rfl rfl (V_loadT 5 (vs := dgM e1) rfl rfl rfl Tryd.underlying26 rfl sz26pq (by kernel_rfl) (by kernel_rfl)) ?_
            refine L_wv rfl rfl rfl rfl rfl rfl (V_eqAgg rfl rfl rfl (by kernel_rfl : Tryd.prog.eqGuardType Tryd.prog.depth 26 = false) (fun w => eqDgDO _ _ w) rfl) ?_
            first | refine L_v rfl rfl rfl (V_pickT rfl rfl rfl) ?_ | refine L_v rfl rfl rfl (V_pickF rfl rfl rfl) ?_
            refine L_v rfl rfl rfl (V_assign rfl rfl) ?_
            refine L_nil ?_
            change J _ _ _ _
            refine J_ret ?_
            change Kret _ _ _ Exit.ret _
            refine ret1 rfl rfl (RV_t rfl) ?_
            exact fun w' h => ⟨by rw [decide_eq_true (rfl : e1 = e1)], h.fr⟩
      ·
        first | (have h7 := of_decide_eq_true h7) | (have h7 := of_decide_eq_false h7) | skip
        refine J_skip ?_
        change J _ _ _ _
        refine J_seq ?_
        refine J_seq ?_
        refine J_region ?_
        refine L_v rfl rfl rfl (V_fieldAddr rfl rfl Tryd.underlying34 rfl sz23pq rfl) ?_
        refine L_v rfl rfl rfl (V_load1 1 rfl rfl rfl Tryd.underlying23 rfl (by rfl)) ?_
        refine L_v rfl rfl rfl (V_len rfl rfl Tryd.underlying23 rfl) ?_
        refine L_v rfl rfl rfl (V_gtr rfl rfl rfl (by first | exact decide_eq_true (by omega) | exact decide_eq_false (by omega) | rfl)) ?_
        refine L_nil ?_
        change J _ _ _ _
        refine J_cond rfl (fun h8 => ?_) (fun h8 => ?_)
        ·
          first | (have h8 := of_decide_eq_true h8) | (have h8 := of_decide_eq_false h8) | skip
          have hE1 : pchk x.head.1.2.1 p cm0 x.pf = 0 := by have h9 := hV.2.2.1; rw [clm_n h7] at h9; exact h9
          have hE2 : pchk x.head.1.2.1 p (true, dy) y.pf = 0 := by have h9 := hV.2.2.2; rw [clm_y h8, hdy] at h9; exact h9
          have hDc : DB (cm0 : Cm).2 := by have h9 := clm_b x.vers; rw [clm_n h7] at h9; exact h9
          have hDd : DB ((true, dy) : Cm).2 := by have h9 := clm_b y.vers; rw [clm_y h8, hdy] at h9; exact h9
          refine J_seq ?_
          refine J_region ?_
          refine L_v rfl rfl rfl (V_fieldAddr rfl rfl Tryd.underlying34 rfl sz23pq rfl) ?_
          refine L_v rfl rfl rfl (V_load1 1 rfl rfl rfl Tryd.underlying23 rfl (by rfl)) ?_
          refine L_callV rfl rfl rfl rfl rfl rfl tx10pq (fun w1 hw => vdig_e hdy u w1 (hw.fa 1 rfl).l.1 hcy hV.2.1 (TabK.later hw (by simp) hK)) ?_
          refine L_v rfl rfl rfl (V_move rfl rfl) ?_
          refine L_v rfl rfl rfl (V_extract rfl rfl rfl) ?_
          refine L_v rfl rfl rfl (V_extract rfl rfl rfl) ?_
          refine L_alloc rfl rfl rfl rfl z26pq (fun b4 => ?_)
          refine L_storeW 4 rfl rfl rfl rfl rfl rfl (szd sz26pq (by kernel_rfl)) (all_one (by kernel_rfl)) (by kernel_rfl) ?_
          refine L_v rfl rfl rfl (V_assign rfl rfl) ?_
          refine L_nil ?_
          change J _ _ _ _
          refine J_region ?_
          refine L_v rfl rfl rfl (V_loadT 4 (vs := dgM dy) rfl rfl rfl Tryd.underlying26 rfl sz26pq (by kernel_rfl) (by kernel_rfl)) ?_
          refine L_v rfl rfl rfl (V_buildE (v := .agg (cmM (true, dy)).toArray) rfl rfl (fun w => by kernel_rfl)) ?_
          refine L_storeW 3 rfl rfl rfl rfl rfl rfl (szd sz54pq (by kernel_rfl)) (all_one (by kernel_rfl)) (by kernel_rfl) ?_
          refine L_nil ?_
          change J _ _ _ _
          refine J_seq ?_
          refine J_seq ?_
          refine J_midS (X := Nat × Nat × Nat × Nat) (fun z9 => { env := [(96, .bool (decide ((cm0 : Cm) = (true, dy)))), (2, .string user), (8, .pointer (some ⟨z9.1, 0, none⟩)), (9, .pointer (some ⟨z9.2.1, 0, none⟩)), (11, .pointer (some ⟨z9.2.2.1, 0, none⟩)), (12, .pointer (some ⟨z9.2.2.2, 0, none⟩))], mem := [(z9.1, row 34 (rpM x v s)), (z9.2.1, row 34 (rpM y u t)), (z9.2.2.1, row 54 (cmM cm0)), (z9.2.2.2, row 54 (cmM (true, dy)))], facts := [rpF x v s, rpF y u t] }) ?_ ?_
          ·
            refine J_region ?_
            refine L_v rfl rfl rfl (V_loadT 2 (vs := cmM cm0) rfl rfl rfl Tryd.underlying54 rfl sz54pq (by kernel_rfl) (by kernel_rfl)) ?_
            refine L_v rfl rfl rfl (V_loadT 3 (vs := cmM (true, dy)) rfl rfl rfl Tryd.underlying54 rfl sz54pq (by kernel_rfl) (by kernel_rfl)) ?_
            refine L_v rfl rfl rfl (V_eqAgg rfl rfl rfl (by kernel_rfl : Tryd.prog.eqGuardType Tryd.prog.depth 54 = false) (fun w => eqCmDO _ _ w) rfl) ?_
            refine L_nil ?_
            exact ⟨(b0, b1, b2, b3), ⟨rfl, rfl, rfl, rfl, rfl, rfl, trivial⟩, fun w1 hw => hw.sub (List.Sublist.cons_cons _ (List.Sublist.cons_cons _ (List.Sublist.cons_cons _ (List.Sublist.cons_cons _ (List.nil_sublist _))))) (fun f hf => hf), rfl⟩
          rintro ⟨b0, b1, b2, b3⟩
          change J _ _ _ _
          refine J_cond rfl (fun h9 => ?_) (fun h9 => ?_)
          ·
            first | (have h9 := of_decide_eq_true h9) | (have h9 := of_decide_eq_false h9) | skip
            refine J_seq ?_
            refine J_region ?_
            refine L_callV rfl rfl rfl rfl rfl rfl tx6pq (fun w1 hw => verifies_w w1 (TabK.later hw (by simp) hK)) ?_
            refine L_v rfl rfl rfl (V_assign rfl rfl) ?_
            refine L_nil ?_
            change J _ _ _ _
            refine J_ret ?_
            change Kret _ _ _ Exit.ret _
            refine ret1 rfl rfl (RV_t rfl) ?_
            exact fun w' h => ⟨rfl, h.fr⟩
          ·
            first | (have h9 := of_decide_eq_true h9) | (have h9 := of_decide_eq_false h9) | skip
            have hCD : cm0 ≠ (true, dy) := h9
            refine J_skip ?_
            change J _ _ _ _
            refine J_seq ?_
            refine J_regionO (.pure 0 (.pure 1 (.pure 2 (.pure 3 (.pure 4 (.pure 6 (.pure 7 (.pure 8 (.pure 9 (.pure 10 (.pure 11 (.one 5 (.one 12 (.pure 13 (.pure 14 (.pure 15 (.pure 16 (.pure 17 (.pure 18 (.pure 19 (.nil))))))))))))))))))))) _ _ (Pk.refl _) (fun f hf => hf) rfl rfl (by kernel_rfl) ?_
            refine LO_v rfl rfl rfl rfl (V_fieldAddr rfl rfl Tryd.underlying34 rfl sz32pq rfl) ?_
            refine LO_v rfl rfl rfl rfl (V_fieldAddr rfl rfl Tryd.underlying32 rfl sz30pq rfl) ?_
            refine LO_v rfl rfl rfl rfl (V_fieldAddr rfl rfl Tryd.underlying30 rfl sz26pq rfl) ?_
            refine LO_v rfl rfl rfl rfl (V_loadT 0 (vs := dgM x.head.1.2.1) rfl rfl rfl Tryd.underlying26 rfl sz26pq (by kernel_rfl) (by kernel_rfl)) ?_
            refine LO_v rfl rfl rfl rfl (V_move rfl rfl) ?_
            refine LO_v rfl rfl rfl rfl (V_loadT 2 (vs := cmM cm0) rfl rfl rfl Tryd.underlying54 rfl sz54pq (by kernel_rfl) (by kernel_rfl)) ?_
            refine LO_v rfl rfl rfl rfl (V_fieldAddr rfl rfl Tryd.underlying34 rfl sz28pq rfl) ?_
            refine LO_v rfl rfl rfl rfl (V_loadT 0 (vs := pfM x.pf s) rfl rfl rfl Tryd.underlying28 rfl sz28pq (by kernel_rfl) (by kernel_rfl)) ?_
            refine LO_v rfl rfl rfl rfl (V_loadT 3 (vs := cmM (true, dy)) rfl rfl rfl Tryd.underlying54 rfl sz54pq (by kernel_rfl) (by kernel_rfl)) ?_
            refine LO_v rfl rfl rfl rfl (V_fieldAddr rfl rfl Tryd.underlying34 rfl sz28pq rfl) ?_
            refine LO_v rfl rfl rfl rfl (V_loadT 1 (vs := pfM y.pf t) rfl rfl rfl Tryd.underlying28 rfl sz28pq (by kernel_rfl) (by kernel_rfl)) ?_
            refine LO_callV rfl rfl rfl rfl rfl rfl rfl rfl tx12pq (fun w1 hw => of_e hp w1 (TabK.later hw (by simp) hK) (by omega)) (Pk.refl _) (fun f hf => hf) ?_
            refine LO_s rfl rfl rfl (S_call rfl rfl rfl tx11pq (fun w1 hw => (clash_w x.head.1.2.1 p cm0 x.pf s (true, dy) y.pf t w1 hpb hDc hBx.1.1 hBx.1.2.1 hBx.1.2.2 hDd hBy.1.1 hBy.1.2.1 hBy.1.2.2 (hw.fa 0 rfl).r (hw.fa 1 rfl).r (by have h9 := hA.1.1; unfold bigRp at h9; omega) (by have h9 := hA.2.1; unfold bigRp at h9; omega) hE1 hE2 hCD (TabK.later hw (by simp) hK)).mono ?_))
            rintro e w' h9
            obtain ⟨j, a, b, e1, rfl, hfr, hjn, he1, he2, fa1, fa2⟩ := clash_e (root := dz) h9
            refine ⟨_, _, _, rfl, hw.newF hfr (f := andF (SLF p cm0 x.pf (x.pf.sib.length - j) a) (SLF p (true, dy) y.pf (y.pf.sib.length - j) b)) fa1 fa2, rfl, (Pk.refl _), (fun f hf => List.mem_append_left _ hf), ?_⟩
            refine LO_v rfl rfl rfl rfl (V_move rfl rfl) ?_
            refine LO_v rfl rfl rfl rfl (V_extract rfl rfl rfl) ?_
            refine LO_v rfl rfl rfl rfl (V_extract rfl rfl rfl) ?_
            refine LO_v rfl rfl rfl rfl (V_extract rfl rfl rfl) ?_
            refine LO_v rfl rfl rfl rfl (V_assign rfl rfl) ?_
            refine LO_v rfl rfl rfl rfl (V_assign rfl rfl) ?_
            refine LO_v rfl rfl rfl rfl (V_assign rfl rfl) ?_
            refine LO_nil ?_
            change J _ _ _ _
            refine J_seq ?_
            refine J_region ?_
            refine L_v rfl rfl rfl (V_move rfl rfl) ?_
            refine L_callV rfl rfl rfl rfl rfl rfl tx13pq (fun w1 hw => Short_e he1 (some ⟨a.1, 0, none⟩) (upP p cm0 x.pf (x.pf.sib.length - j)).length ((upP p cm0 x.pf (x.pf.sib.length - j)).length + a.2) w1 (hw.fa 2 rfl).l.1 (upP_byt hpb hDc hBx.1.1 hBx.1.2.1 hBx.1.2.2 _) (Nat.le_add_right _ _) (TabK.later hw (by simp) hK) (by have := upP_len p cm0 x.pf (x.pf.sib.length - j); omega)) ?_
            refine L_v rfl rfl rfl (V_move rfl rfl) ?_
            refine L_v rfl rfl rfl (V_extract rfl rfl rfl) ?_
            refine L_v rfl rfl rfl (V_extract rfl rfl rfl) ?_
            refine L_alloc rfl rfl rfl rfl z26pq (fun b4 => ?_)
            refine L_storeW 4 rfl rfl rfl rfl rfl rfl (szd sz26pq (by kernel_rfl)) (all_one (by kernel_rfl)) (by kernel_rfl) ?_
            refine L_v rfl rfl rfl (V_assign rfl rfl) ?_
            refine L_nil ?_
            change J _ _ _ _
            refine J_seq ?_
            refine J_region ?_
            refine L_v rfl rfl rfl (V_move rfl rfl) ?_
            refine L_callV rfl rfl rfl rfl rfl rfl tx13pq (fun w1 hw => Short_e he2 (some ⟨b.1, 0, none⟩) (upP p (true, dy) y.pf (y.pf.sib.length - j)).length ((upP p (true, dy) y.pf (y.pf.sib.length - j)).length + b.2) w1 (hw.fa 2 rfl).r.1 (upP_byt hpb hDd hBy.1.1 hBy.1.2.1 hBy.1.2.2 _) (Nat.le_add_right _ _) (TabK.later hw (by simp) hK) (by have := upP_len p (true, dy) y.pf (y.pf.sib.length - j); omega)) ?_
            refine L_v rfl rfl rfl (V_move rfl rfl) ?_
            refine L_v rfl rfl rfl (V_extract rfl rfl rfl) ?_
            refine L_v rfl rfl rfl (V_extract rfl rfl rfl) ?_
            refine L_alloc rfl rfl rfl rfl z26pq (fun b5 => ?_)
            refine L_storeW 5 rfl rfl rfl rfl rfl rfl (szd sz26pq (by kernel_rfl)) (all_one (by kernel_rfl)) (by kernel_rfl) ?_
            refine L_v rfl rfl rfl (V_assign rfl rfl) ?_
            refine L_nil ?_
            change J _ _ _ _
            refine J_seq ?_
            refine J_region ?_
            refine L_callV rfl rfl rfl rfl rfl rfl tx6pq (fun w1 hw => verifies_w w1 (TabK.later hw (by simp) hK)) ?_
            refine L_v rfl rfl rfl (V_move rfl rfl) ?_
            refine L_wv rfl rfl rfl rfl rfl rfl (V_move rfl rfl) ?_
            refine L_wv rfl rfl rfl rfl rfl rfl (V_eql rfl rfl rfl (decide_eq_true rfl)) ?_
            first | refine L_v rfl rfl rfl (V_pickT rfl rfl rfl) ?_ | refine L_v rfl rfl rfl (V_pickF rfl rfl rfl) ?_
            refine L_v rfl rfl rfl (V_move rfl rfl) ?_
            refine L_wv rfl rfl rfl rfl rfl rfl (V_move rfl rfl) ?_
            refine L_wv rfl rfl rfl rfl rfl rfl (V_str rfl rfl Tryd.underlying57 Tryd.underlying5 Tryd.underlying9 (fun w hw => (hw.fa 2 rfl).l.1)) ?_
            refine L_wv rfl rfl rfl rfl rfl rfl (V_move rfl rfl) ?_
            refine L_wv rfl rfl rfl rfl rfl rfl (V_str rfl rfl Tryd.underlying57 Tryd.underlying5 Tryd.underlying9 (fun w hw => (hw.fa 2 rfl).r.1)) ?_
            refine L_wv rfl rfl rfl rfl rfl rfl (V_neS rfl rfl rfl (decide_eq_true (fun e => hjn ((ba_inj (upP_byt hpb hDc hBx.1.1 hBx.1.2.1 hBx.1.2.2 _) (upP_byt hpb hDd hBy.1.1 hBy.1.2.1 hBy.1.2.2 _)).1 e)))) ?_
            first | refine L_v rfl rfl rfl (V_pickT rfl rfl rfl) ?_ | refine L_v rfl rfl rfl (V_pickF rfl rfl rfl) ?_
            refine L_v rfl rfl rfl (V_move rfl rfl) ?_
            refine L_wv rfl rfl rfl rfl rfl rfl (V_loadT 4 (vs := dgM e1) rfl rfl rfl Tryd.underlying26 rfl sz26pq (by kernel_rfl) (by kernel_rfl)) ?_
            refine L_wv rfl rfl rfl rfl rfl rfl (V_loadT 5 (vs := dgM e1) rfl rfl rfl Tryd.underlying26 rfl sz26pq (by kernel_rfl) (by kernel_rfl)) ?_
            refine L_wv rfl rfl rfl rfl rfl rfl (V_eqAgg rfl rfl rfl (by kernel_rfl : Tryd.prog.eqGuardType Tryd.prog.depth 26 = false) (fun w => eqDgDO _ _ w) rfl) ?_
            first | refine L_v rfl rfl rfl (V_pickT rfl rfl rfl) ?_ | refine L_v rfl rfl rfl (V_pickF rfl rfl rfl) ?_
            refine L_v rfl rfl rfl (V_assign rfl rfl) ?_
            refine L_nil ?_
            change J _ _ _ _
            refine J_ret ?_
            change Kret _ _ _ Exit.ret _
            refine ret1 rfl rfl (RV_t rfl) ?_
            exact fun w' h => ⟨by rw [decide_eq_true (rfl : e1 = e1)], h.fr⟩
        ·
          first | (have h8 := of_decide_eq_true h8) | (have h8 := of_decide_eq_false h8) | skip
          refine J_skip ?_
          change J _ _ _ _
          refine J_seq ?_
          refine J_seq ?_
          refine J_midS (X := Nat × Nat × Nat × Nat) (fun z9 => { env := [(96, .bool (decide ((cm0 : Cm) = cm0))), (2, .string user), (8, .pointer (some ⟨z9.1, 0, none⟩)), (9, .pointer (some ⟨z9.2.1, 0, none⟩)), (11, .pointer (some ⟨z9.2.2.1, 0, none⟩)), (12, .pointer (some ⟨z9.2.2.2, 0, none⟩))], mem := [(z9.1, row 34 (rpM x v s)), (z9.2.1, row 34 (rpM y u t)), (z9.2.2.1, row 54 (cmM cm0)), (z9.2.2.2, row 54 (cmM cm0))], facts := [rpF x v s, rpF y u t] }) ?_ ?_
          ·
            refine J_region ?_
            refine L_v rfl rfl rfl (V_loadT 2 (vs := cmM cm0) rfl rfl rfl Tryd.underlying54 rfl sz54pq (by kernel_rfl) (by kernel_rfl)) ?_
            refine L_v rfl rfl rfl (V_loadT 3 (vs := cmM cm0) rfl rfl rfl Tryd.underlying54 rfl sz54pq (by kernel_rfl) (by kernel_rfl)) ?_
            refine L_v rfl rfl rfl (V_eqAgg rfl rfl rfl (by kernel_rfl : Tryd.prog.eqGuardType Tryd.prog.depth 54 = false) (fun w => eqCmDO _ _ w) rfl) ?_
            refine L_nil ?_
            exact ⟨(b0, b1, b2, b3), ⟨rfl, rfl, rfl, rfl, rfl, rfl, trivial⟩, fun w1 hw => hw.sub (List.Sublist.cons_cons _ (List.Sublist.cons_cons _ (List.Sublist.cons_cons _ (List.Sublist.cons_cons _ (List.nil_sublist _))))) (fun f hf => hf), rfl⟩
          rintro ⟨b0, b1, b2, b3⟩
          change J _ _ _ _
          refine J_cond rfl (fun h9 => ?_) (fun h9 => ?_)
          ·
            first | (have h9 := of_decide_eq_true h9) | (have h9 := of_decide_eq_false h9) | skip
            refine J_seq ?_
            refine J_region ?_
            refine L_callV rfl rfl rfl rfl rfl rfl tx6pq (fun w1 hw => verifies_w w1 (TabK.later hw (by simp) hK)) ?_
            refine L_v rfl rfl rfl (V_assign rfl rfl) ?_
            refine L_nil ?_
            change J _ _ _ _
            refine J_ret ?_
            change Kret _ _ _ Exit.ret _
            refine ret1 rfl rfl (RV_t rfl) ?_
            exact fun w' h => ⟨rfl, h.fr⟩
          ·
            first | (have h9 := of_decide_eq_true h9) | (have h9 := of_decide_eq_false h9) | skip
            exact absurd rfl h9

end Go.Proofs.YtfdmjjhgdbpfeaaDoor
