/- A directory of one's own. -/
import Derived.Test.YtfgcfjojpakpjaaWRef3
import Derived.Test.YtfgcfjojpakpjaaWIn5
import Derived.Test.YtfgcfjojpakpjaaSx13
import Derived.Test.YtfgcfjojpakpjaaWSame
set_option linter.unusedVariables false
set_option linter.unusedSimpArgs false
set_option maxRecDepth 100000
namespace Go.Proofs.Ytfgcfjojpakpjaa
open Go.Sx
def smU (us : List (Us × Value)) (i : Nat) : Nat := ((us.take i).map fun p => min p.1.2.length 5001).sum
theorem smU_step {us : List (Us × Value)} {i : Nat} (h : i < us.length) : smU us (i + 1) = smU us i + min (us.getD i UD).1.2.length 5001 := by
  unfold smU
  rw [take_s UD h]
  simp
theorem smU_int {us : List (Us × Value)} {i : Nat} (h : i < us.length) : ((smU us (i + 1) : Nat) : Int) = ((smU us i : Nat) : Int) + (if (5001 : Int) < (((us.getD i UD).1.2.length : Nat) : Int) then 5001 else (((us.getD i UD).1.2.length : Nat) : Int)) := by
  rw [smU_step h]
  split <;> omega
theorem smU_le {us : List (Us × Value)} (i : Nat) : smU us i ≤ smU us us.length := by
  unfold smU
  conv => rhs; rw [List.take_length, ← List.take_append_drop i us]
  rw [List.map_append, List.sum_append]
  omega
abbrev bigD (us : List (Us × Value)) (hs : List Hd) (ss : List Se) : Prop := 5000 < us.length ∨ 5000 < hs.length ∨ 5000 < ss.length ∨ 5000 < smU us us.length
theorem smU_all {us : List (Us × Value)} (h : smU us us.length ≤ 5000) : ((us.map Prod.fst).flatMap usC.tk).length ≤ 2 * us.length + 15000 := by
  have key : ∀ l : List (Us × Value), smU l l.length ≤ 5000 → ((l.map Prod.fst).flatMap usC.tk).length = 2 * l.length + 3 * smU l l.length := by
    intro l
    induction l with
    | nil => intro _; rfl
    | cons p l ih =>
      intro hl
      have e1 : smU (p :: l) (p :: l).length = min p.1.2.length 5001 + smU l l.length := by simp [smU]
      rw [e1] at hl ⊢
      rw [List.map_cons, List.flatMap_cons, List.length_append, ih (by omega), usT1_len, List.length_cons]
      omega
  rw [key us h]
  omega
theorem smU_each {us : List (Us × Value)} {i : Nat} (h : smU us us.length ≤ 5000) (hi : i < us.length) : (us.getD i UD).1.2.length ≤ 5000 := by
  have := smU_le (us := us) (i + 1)
  rw [smU_step hi] at this
  omega
theorem bdD (e : Int) (w : World) : (Instr.build 60 [(0, .int .i64 e)].toArray).run Try.prog w = .ok (.agg (drV e nilB nilB nilB).toArray) w := by kernel_rfl
theorem bdU (s : ByteArray) (a : Option Addr) (n c : Nat) (x : List Vr) (w : World) : (Instr.build 103 [(0, .string s), (1, .slice a n c)].toArray).run Try.prog w = .ok (.agg (usW ((s, x), .slice a n c)).toArray) w := by kernel_rfl
theorem flat_1 {es : List (List Value)} (h : ∀ e ∈ es, ∀ u ∈ e, u.oneCell' = true) : ∀ u ∈ es.flatten, u.oneCell' = true := fun u hu => by
  obtain ⟨e, he, hu⟩ := List.mem_flatten.1 hu
  exact h e he u hu
theorem us_slF {f0 f1 f2 : Fact} {fs : List Fact} {cx : Cx} {m : Mem} {us : List (Us × Value)} {w : World} {i : Nat} {ya : Option Addr} {yc : Nat} (hw : OkW cx m (f0 :: f1 :: f2 :: us.map usF ++ fs) w) (h : i < us.length) (hy : (us.getD i UD).2 = .slice ya (us.getD i UD).1.2.length yc) :
    SlC 3 w (.slice ya (us.getD i UD).1.2.length yc) (us.getD i UD).1.2.length ((us.getD i UD).1.2.map vrV).flatten := by
  have := (hw.facts _ (List.mem_append_left _ (List.mem_cons_of_mem _ (List.mem_cons_of_mem _ (List.mem_cons_of_mem _ (us_f h)))))).1
  rw [← hy]
  exact this
theorem usW_app (acc : List (Us × Value)) (p : Us × Value) : (acc.map usW).flatten ++ usW p = ((acc ++ [p]).map usW).flatten := by simp
theorem acc_fst {acc us : List (Us × Value)} {i : Nat} {v : Value} (h : i < us.length) (ha : acc.map Prod.fst = (us.take i).map Prod.fst) : (acc ++ [((us.getD i UD).1, v)]).map Prod.fst = (us.take (i + 1)).map Prod.fst := by
  rw [take_s UD h, List.map_append, List.map_append, ha]
  rfl
theorem sz3b : (Try.prog.info? 3).map (·.size) = some 1 := by kernel_rfl
theorem sz9b : (Try.prog.info? 9).map (·.size) = some 1 := by kernel_rfl
theorem sz56b : (Try.prog.info? 56).map (·.size) = some 1 := by kernel_rfl
theorem sz57b : (Try.prog.info? 57).map (·.size) = some 1 := by kernel_rfl
theorem sz58b : (Try.prog.info? 58).map (·.size) = some 1 := by kernel_rfl
theorem sz60b : (Try.prog.info? 60).map (·.size) = some 4 := by kernel_rfl
theorem sz101b : (Try.prog.info? 101).map (·.size) = some 1 := by kernel_rfl
theorem sz103b : (Try.prog.info? 103).map (·.size) = some 2 := by kernel_rfl
theorem z60b : (Try.prog.info? 60).bind (·.zero) = some (.agg [.int .i64 0, .slice none 0 0, .slice none 0 0, .slice none 0 0].toArray) := by kernel_rfl

set_option maxHeartbeats 2000000 in
theorem own_w0 (va1 va2 va3 : Option Addr) (vc1 vc2 vc3 : Nat) (e0 : Int) (us : List (Us × Value)) (hs : List Hd) (ss : List Se) (w : World) (hfs : FW w (factC 2 (.slice va1 us.length vc1) us.length (us.map usW).flatten :: factC 65 (.slice va2 hs.length vc2) hs.length (hs.map hdV).flatten :: factC 4 (.slice va3 ss.length vc3) ss.length (ss.map seV).flatten :: us.map usF)) (hlu : us.length ≤ 5000) (hlh : hs.length ≤ 5000) (hls : ss.length ≤ 5000) (hsm : smU us us.length ≤ 5000) :
    Calls Try.prog 25 #[.agg (drV e0 (.slice va1 us.length vc1) (.slice va2 hs.length vc2) (.slice va3 ss.length vc3)).toArray] w fun e w' => Fr [] w w' ∧ ∃ v fs, e = .returned v ∧ Wdr (e0, us.map Prod.fst, hs, ss) v fs ∧ ∀ f ∈ fs, f.p w' ∧ ∀ k, f.fp k → w.heap.size ≤ k ∧ k < w'.heap.size := by
  refine calls_of (args := [.agg (drV e0 (.slice va1 us.length vc1) (.slice va2 hs.length vc2) (.slice va3 ss.length vc3)).toArray]) ([]) ([]) (factC 2 (.slice va1 us.length vc1) us.length (us.map usW).flatten :: factC 65 (.slice va2 hs.length vc2) hs.length (hs.map hdV).flatten :: factC 4 (.slice va3 ss.length vc3) ss.length (ss.map seV).flatten :: us.map usF) Try.func25 rfl rfl (okFW hfs) ?_
  refine J_seq ?_
  refine J_region ?_
  refine L_box rfl rfl rfl rfl rfl (fun b0 => ?_)
  refine L_alloc rfl rfl rfl rfl z60b (fun b1 => ?_)
  refine L_nil ?_
  change J _ _ _ _
  refine J_seq ?_
  refine J_region ?_
  refine L_v rfl rfl rfl (V_fieldAddr rfl rfl Try.underlying60 rfl sz3b rfl) ?_
  refine L_v rfl rfl rfl (V_load1 0 rfl rfl rfl Try.underlying3 rfl (by first | rfl | exact dg_get (by omega) (by omega))) ?_
  refine L_v rfl rfl rfl (V_build (vs := [(0, .int .i64 e0)]) rfl rfl (bdD e0)) ?_
  refine L_alloc rfl rfl rfl rfl z60b (fun b2 => ?_)
  refine L_storeW 2 rfl rfl rfl rfl rfl rfl (szd sz60b rfl) (all_one (by kernel_rfl)) rfl ?_
  refine L_nil ?_
  change J _ _ _ _
  refine J_seq ?_
  refine J_seq ?_
  refine J_region ?_
  refine L_v rfl rfl rfl (V_assign rfl rfl) ?_
  refine L_nil ?_
  change J _ _ _ _
  refine J_block ?_
  refine J_loop (X := Nat × OwnR × List (Us × Value)) (fun x => { env := [(1, .pointer (some ⟨b0, 0, none⟩)), (2, .pointer (some ⟨b1, 0, none⟩)), (3, .pointer (some ⟨b2, 0, none⟩)), (4, .int .i64 (x.1 : Int))], mem := [(b0, row 60 (drV e0 (.slice va1 us.length vc1) (.slice va2 hs.length vc2) (.slice va3 ss.length vc3))), (b1, row 60 (drV 0 nilB nilB nilB)), (b2, row 60 (drV e0 (ownV x.2.1 x.1) nilB nilB))] ++ ownM 103 x.2.1 (x.2.2.map usW).flatten, facts := (factC 2 (.slice va1 us.length vc1) us.length (us.map usW).flatten :: factC 65 (.slice va2 hs.length vc2) hs.length (hs.map hdV).flatten :: factC 4 (.slice va3 ss.length vc3) ss.length (ss.map seV).flatten :: us.map usF) ++ x.2.2.map usF }) (fun x => x.1 ≤ us.length ∧ OwnC 2 x.2.1 x.1 (x.2.2.map usW).flatten ∧ x.2.2.map Prod.fst = (us.take x.1).map Prod.fst ∧ ∀ f ∈ x.2.2.map usF, ∀ k, f.fp k → w.heap.size ≤ k) (fun x => us.length - x.1) (0, none, []) ⟨Nat.zero_le _, ⟨rfl, rfl⟩, rfl, fun f hf => by cases hf⟩ ⟨⟨rfl, rfl, rfl, rfl, trivial⟩, List.Sublist.refl _, (fun f hf => by have h9 : f ∈ (factC 2 (.slice va1 us.length vc1) us.length (us.map usW).flatten :: factC 65 (.slice va2 hs.length vc2) hs.length (hs.map hdV).flatten :: factC 4 (.slice va3 ss.length vc3) ss.length (ss.map seV).flatten :: us.map usF) ++ [] := hf; rw [List.append_nil] at h9; exact h9), rfl⟩ ?_
  rintro ⟨i, q, acc⟩ ⟨hin, hq, hac, hfr⟩
  simp only at hin hq hac hfr ⊢
  refine J_seq ?_
  refine J_seq ?_
  refine J_region ?_
  refine L_v rfl rfl rfl (V_move rfl rfl) ?_
  refine L_v rfl rfl rfl (V_fieldAddr rfl rfl Try.underlying60 rfl sz56b rfl) ?_
  refine L_v rfl rfl rfl (V_load1 0 rfl rfl rfl Try.underlying56 rfl (by first | rfl | exact dg_get (by omega) (by omega))) ?_
  refine L_v rfl rfl rfl (V_len rfl rfl Try.underlying56 rfl) ?_
  refine L_v rfl rfl rfl (V_lss rfl rfl rfl (by first | exact decide_eq_true (by omega) | exact decide_eq_false (by omega) | rfl)) ?_
  refine L_nil ?_
  change J _ _ _ _
  refine J_cond rfl (fun h1 => ?_) (fun h1 => ?_)
  ·
    first | (have h1 := of_decide_eq_true h1) | (have h1 := of_decide_eq_false h1) | skip
    have hi : i < us.length := by omega
    obtain ⟨ya, yc, hy⟩ : ∃ a c, (us.getD i UD).2 = .slice a (us.getD i UD).1.2.length c := SlC.form (hfs _ (List.mem_cons_of_mem _ (List.mem_cons_of_mem _ (List.mem_cons_of_mem _ (us_f hi))))).1
    have hm5 := smU_each hsm hi
    refine J_skip ?_
    change J _ _ _ _
    refine J_seq ?_
    refine J_block ?_
    refine J_seq ?_
    refine J_region ?_
    refine L_v rfl rfl rfl (V_assign rfl rfl) ?_
    refine L_nil ?_
    change J _ _ _ _
    refine J_seq ?_
    refine J_region ?_
    refine L_v rfl rfl rfl (V_move rfl rfl) ?_
    refine L_v rfl rfl rfl (V_fieldAddr rfl rfl Try.underlying60 rfl sz56b rfl) ?_
    refine L_v rfl rfl rfl (V_load1 0 rfl rfl rfl Try.underlying56 rfl (by first | rfl | exact dg_get (by omega) (by omega))) ?_
    refine L_v rfl rfl rfl (V_move rfl rfl) ?_
    refine L_v rfl rfl rfl (V_indexC rfl rfl rfl Try.underlying56 sz103b (fun w hw => fC hw 0 rfl) (by omega) (by omega)) ?_
    refine L_v rfl rfl rfl (V_fieldC rfl rfl (fun w hw => (let ⟨b, o, e, _⟩ := SlC.cell (fC hw 0 rfl) (us_s hi); ⟨b, o, e⟩)) Try.underlying103 rfl sz101b rfl) ?_
    refine L_v rfl rfl rfl (V_loadC rfl rfl Try.underlying101 rfl (fun w hw => fC hw 0 rfl) (us_v hi hy)) ?_
    refine L_appL ([(b0, row 60 (drV e0 (.slice va1 us.length vc1) (.slice va2 hs.length vc2) (.slice va3 ss.length vc3))), (b1, row 60 (drV 0 nilB nilB nilB)), (b2, row 60 (drV e0 (ownV q i) nilB nilB))] ++ ownM 103 q (acc.map usW).flatten) none [] (m := (us.getD i UD).1.2.length) (n' := (us.getD i UD).1.2.length) (news := ((us.getD i UD).1.2.map vrV).flatten) (ks' := ((us.getD i UD).1.2.map vrV).flatten) rfl rfl rfl rfl rfl Try.underlying101 elV (List.append_nil _).symm ⟨rfl, rfl⟩ (fun w1 hw => src_C Try.underlying101 (us_slF hw hi hy) (flat_1 vr_1)) (Nat.zero_add _) (List.nil_append _) (by omega) (by omega) (fun q1 hq1 => ?_)
    refine L_v rfl rfl rfl (V_assign rfl rfl) ?_
    refine L_nil ?_
    change J _ _ _ _
    refine J_toFactC ([(b0, row 60 (drV e0 (.slice va1 us.length vc1) (.slice va2 hs.length vc2) (.slice va3 ss.length vc3))), (b1, row 60 (drV 0 nilB nilB nilB)), (b2, row 60 (drV e0 (ownV q i) nilB nilB))] ++ ownM 103 q (acc.map usW).flatten) rfl hq1 (fun hfp => J_le (st' := { env := [(1, .pointer (some ⟨b0, 0, none⟩)), (2, .pointer (some ⟨b1, 0, none⟩)), (3, .pointer (some ⟨b2, 0, none⟩)), (4, .int .i64 (i : Int)), (5, ownV q1 (us.getD i UD).1.2.length)], mem := [(b0, row 60 (drV e0 (.slice va1 us.length vc1) (.slice va2 hs.length vc2) (.slice va3 ss.length vc3))), (b1, row 60 (drV 0 nilB nilB nilB)), (b2, row 60 (drV e0 (ownV q i) nilB nilB))] ++ ownM 103 q (acc.map usW).flatten, facts := ((factC 2 (.slice va1 us.length vc1) us.length (us.map usW).flatten :: factC 65 (.slice va2 hs.length vc2) hs.length (hs.map hdV).flatten :: factC 4 (.slice va3 ss.length vc3) ss.length (ss.map seV).flatten :: us.map usF) ++ acc.map usF) ++ [usF ((us.getD i UD).1, ownV q1 (us.getD i UD).1.2.length)] }) ⟨⟨rfl, rfl, rfl, rfl, rfl, trivial⟩, List.Sublist.refl _, fun f hf => hf, rfl⟩ ?_)
    refine J_regionO (.pure 0 (.pure 2 (.pure 3 (.pure 4 (.pure 5 (.pure 6 (.pure 7 (.pure 8 (.pure 9 (.two 1 (.one 10 (.one 11 (.pure 12 (.one 13 (.nil))))) 10 (.one 1 (.one 11 (.pure 12 (.one 13 (.nil))))))))))))))) ([(b0, row 60 (drV e0 (.slice va1 us.length vc1) (.slice va2 hs.length vc2) (.slice va3 ss.length vc3)))]) _ (Pk.of_sub (List.Sublist.cons_cons _ (List.nil_sublist _))) (fun f hf => hf) rfl rfl (by kernel_rfl) ?_
    refine LO_v rfl rfl rfl rfl (V_fieldAddr rfl rfl Try.underlying60 rfl sz56b rfl) ?_
    refine LO_v rfl rfl rfl rfl (V_fieldAddr rfl rfl Try.underlying60 rfl sz56b rfl) ?_
    refine LO_v rfl rfl rfl rfl (V_load1 0 rfl rfl rfl Try.underlying56 rfl (by first | rfl | exact dg_get (by omega) (by omega))) ?_
    refine LO_v rfl rfl rfl rfl (V_move rfl rfl) ?_
    refine LO_v rfl rfl rfl rfl (V_indexC rfl rfl rfl Try.underlying56 sz103b (fun w hw => fC hw 0 rfl) (by omega) (by omega)) ?_
    refine LO_v rfl rfl rfl rfl (V_fieldC rfl rfl (fun w hw => (let ⟨b, o, e, _⟩ := SlC.cell (fC hw 0 rfl) (us_s hi); ⟨b, o, e⟩)) Try.underlying103 rfl sz9b rfl) ?_
    refine LO_v rfl rfl rfl rfl (V_loadC rfl rfl Try.underlying9 rfl (fun w hw => fC hw 0 rfl) (us_s hi)) ?_
    refine LO_v rfl rfl rfl rfl (V_move rfl rfl) ?_
    refine LO_v rfl rfl rfl rfl (V_build (vs := [(0, .string (us.getD i UD).1.1), (1, ownV q1 (us.getD i UD).1.2.length)]) rfl rfl (bdU _ _ _ _ (us.getD i UD).1.2)) ?_
    refine LO_two rfl rfl rfl rfl rfl (S_v rfl rfl (V_load1 2 rfl rfl rfl Try.underlying56 rfl rfl) ⟨(Pk.of_sub (List.Sublist.cons_cons _ (List.nil_sublist _))), fun f hf => hf, ?_⟩) (S_buildSlice (vs := [(0, .agg (usW ((us.getD i UD).1, ownV q1 (us.getD i UD).1.2.length)).toArray)]) (l := usW ((us.getD i UD).1, ownV q1 (us.getD i UD).1.2.length)) rfl rfl rfl rfl (bsU _) (fun b9 => ⟨(Pk.of_sub (List.Sublist.cons_cons _ (List.nil_sublist _))), fun f hf => hf, ?_⟩))
    ·
      refine LO_s rfl rfl rfl (S_buildSlice (vs := [(0, .agg (usW ((us.getD i UD).1, ownV q1 (us.getD i UD).1.2.length)).toArray)]) (l := usW ((us.getD i UD).1, ownV q1 (us.getD i UD).1.2.length)) rfl rfl rfl rfl (bsU _) (fun b9 => ⟨(Pk.of_sub (List.Sublist.cons_cons _ (List.nil_sublist _))), fun f hf => hf, ?_⟩)) 
      refine LO_s rfl rfl rfl (S_appendN ([(b0, row 60 (drV e0 (.slice va1 us.length vc1) (.slice va2 hs.length vc2) (.slice va3 ss.length vc3))), (b1, row 60 (drV 0 nilB nilB nilB)), (b2, row 60 (drV e0 (ownV q i) nilB nilB))]) [(b9, row 103 (usW ((us.getD i UD).1, ownV q1 (us.getD i UD).1.2.length)))] q (acc.map usW).flatten (m := 1) (news := usW ((us.getD i UD).1, ownV q1 (us.getD i UD).1.2.length)) rfl rfl rfl rfl Try.underlying56 elU (List.append_assoc _ _ _) hq (fun w1 hw => src_C Try.underlying56 (SlC.in hw (ks := usW ((us.getD i UD).1, ownV q1 (us.getD i UD).1.2.length)) (r := []) (fz := (0, 0)) (List.mem_append_right _ (by rw [List.append_nil]; exact List.mem_singleton.2 rfl)) rfl 1) (all_one (by kernel_rfl))) (by omega) (by omega) (fun q4 hq4 => ⟨(Pk.of_sub (List.Sublist.cons_cons _ (List.nil_sublist _))), fun f hf => hf, ?_⟩)) 
      refine LO_v rfl rfl rfl rfl (V_fieldAddr rfl rfl Try.underlying60 rfl sz56b rfl) ?_
      refine LO_s rfl rfl rfl (S_store1 2 rfl rfl rfl rfl rfl rfl sz56b (Nat.le_of_ble_eq_true (by kernel_rfl)) rfl ⟨(Pk.of_sub (List.Sublist.cons_cons _ (List.nil_sublist _))), fun f hf => hf, ?_⟩) 
      refine LO_nil ?_
      change J _ _ _ _
      refine J_region ?_
      refine L_v rfl rfl rfl (V_move rfl rfl) ?_
      refine L_v rfl rfl rfl (V_add rfl rfl rfl (by first | exact Go.IntWalk.i64_in _ (by omega) | rfl)) ?_
      refine L_v rfl rfl rfl (V_assign rfl rfl) ?_
      refine L_nil ?_
      exact ⟨(i + 1, q4, acc ++ [((us.getD i UD).1, ownV q1 (us.getD i UD).1.2.length)]), ⟨by show i + 1 ≤ us.length; omega, by show OwnC 2 q4 (i + 1) ((acc ++ [_]).map usW).flatten; rw [← usW_app]; exact hq4, acc_fst hi hac, fun f hf => by
        rw [List.map_append] at hf
        rcases List.mem_append.1 hf with hf | hf
        · exact hfr f hf
        · obtain rfl := List.mem_singleton.1 hf
          intro k hk
          rcases hfp k hk with h9 | h9
          · exact h9
          · cases h9⟩, by show us.length - (i + 1) < us.length - i; omega, ⟨rfl, rfl, rfl, rfl, trivial⟩, (by rw [← usW_app, ← List.append_assoc]; exact List.sublist_append_left _ _), us_app, rfl⟩
    ·
      refine LO_s rfl rfl rfl (S_v rfl rfl (V_load1 2 rfl rfl rfl Try.underlying56 rfl rfl) ⟨(Pk.of_sub (List.Sublist.cons_cons _ (List.nil_sublist _))), fun f hf => hf, ?_⟩) 
      refine LO_s rfl rfl rfl (S_appendN ([(b0, row 60 (drV e0 (.slice va1 us.length vc1) (.slice va2 hs.length vc2) (.slice va3 ss.length vc3))), (b1, row 60 (drV 0 nilB nilB nilB)), (b2, row 60 (drV e0 (ownV q i) nilB nilB))]) [(b9, row 103 (usW ((us.getD i UD).1, ownV q1 (us.getD i UD).1.2.length)))] q (acc.map usW).flatten (m := 1) (news := usW ((us.getD i UD).1, ownV q1 (us.getD i UD).1.2.length)) rfl rfl rfl rfl Try.underlying56 elU (List.append_assoc _ _ _) hq (fun w1 hw => src_C Try.underlying56 (SlC.in hw (ks := usW ((us.getD i UD).1, ownV q1 (us.getD i UD).1.2.length)) (r := []) (fz := (0, 0)) (List.mem_append_right _ (by rw [List.append_nil]; exact List.mem_singleton.2 rfl)) rfl 1) (all_one (by kernel_rfl))) (by omega) (by omega) (fun q4 hq4 => ⟨(Pk.of_sub (List.Sublist.cons_cons _ (List.nil_sublist _))), fun f hf => hf, ?_⟩)) 
      refine LO_v rfl rfl rfl rfl (V_fieldAddr rfl rfl Try.underlying60 rfl sz56b rfl) ?_
      refine LO_s rfl rfl rfl (S_store1 2 rfl rfl rfl rfl rfl rfl sz56b (Nat.le_of_ble_eq_true (by kernel_rfl)) rfl ⟨(Pk.of_sub (List.Sublist.cons_cons _ (List.nil_sublist _))), fun f hf => hf, ?_⟩) 
      refine LO_nil ?_
      change J _ _ _ _
      refine J_region ?_
      refine L_v rfl rfl rfl (V_move rfl rfl) ?_
      refine L_v rfl rfl rfl (V_add rfl rfl rfl (by first | exact Go.IntWalk.i64_in _ (by omega) | rfl)) ?_
      refine L_v rfl rfl rfl (V_assign rfl rfl) ?_
      refine L_nil ?_
      exact ⟨(i + 1, q4, acc ++ [((us.getD i UD).1, ownV q1 (us.getD i UD).1.2.length)]), ⟨by show i + 1 ≤ us.length; omega, by show OwnC 2 q4 (i + 1) ((acc ++ [_]).map usW).flatten; rw [← usW_app]; exact hq4, acc_fst hi hac, fun f hf => by
        rw [List.map_append] at hf
        rcases List.mem_append.1 hf with hf | hf
        · exact hfr f hf
        · obtain rfl := List.mem_singleton.1 hf
          intro k hk
          rcases hfp k hk with h9 | h9
          · exact h9
          · cases h9⟩, by show us.length - (i + 1) < us.length - i; omega, ⟨rfl, rfl, rfl, rfl, trivial⟩, (by rw [← usW_app, ← List.append_assoc]; exact List.sublist_append_left _ _), us_app, rfl⟩
  ·
    first | (have h1 := of_decide_eq_true h1) | (have h1 := of_decide_eq_false h1) | skip
    obtain rfl : i = us.length := by omega
    refine J_exit ?_
    change J _ _ _ _
    refine J_seq ?_
    refine J_region ?_
    refine L_v rfl rfl rfl (V_fieldAddr rfl rfl Try.underlying60 rfl sz57b rfl) ?_
    refine L_v rfl rfl rfl (V_load1 2 rfl rfl rfl Try.underlying57 rfl (by first | rfl | exact dg_get (by omega) (by omega))) ?_
    refine L_v rfl rfl rfl (V_fieldAddr rfl rfl Try.underlying60 rfl sz57b rfl) ?_
    refine L_v rfl rfl rfl (V_load1 0 rfl rfl rfl Try.underlying57 rfl (by first | rfl | exact dg_get (by omega) (by omega))) ?_
    refine L_appL ([(b0, row 60 (drV e0 (.slice va1 us.length vc1) (.slice va2 hs.length vc2) (.slice va3 ss.length vc3))), (b1, row 60 (drV 0 nilB nilB nilB)), (b2, row 60 (drV e0 (ownV q us.length) nilB nilB))] ++ ownM 103 q (acc.map usW).flatten) none [] (m := hs.length) (n' := hs.length) (news := (hs.map hdV).flatten) (ks' := (hs.map hdV).flatten) rfl rfl rfl rfl rfl Try.underlying57 elH (List.append_nil _).symm ⟨rfl, rfl⟩ (fun w1 hw => src_C Try.underlying57 (fC hw 1 rfl) (flat_1 hd_1)) (Nat.zero_add _) (List.nil_append _) (by omega) (by omega) (fun q2 hq2 => ?_)
    refine L_v rfl rfl rfl (V_fieldAddr rfl rfl Try.underlying60 rfl sz57b rfl) ?_
    refine L_store1 2 rfl rfl rfl rfl rfl rfl rfl sz57b (Nat.le_of_ble_eq_true (by kernel_rfl)) (by first | rfl | exact dg_set _ _ _) ?_
    refine L_nil ?_
    change J _ _ _ _
    refine J_seq ?_
    refine J_region ?_
    refine L_v rfl rfl rfl (V_fieldAddr rfl rfl Try.underlying60 rfl sz58b rfl) ?_
    refine L_v rfl rfl rfl (V_load1 2 rfl rfl rfl Try.underlying58 rfl (by first | rfl | exact dg_get (by omega) (by omega))) ?_
    refine L_v rfl rfl rfl (V_fieldAddr rfl rfl Try.underlying60 rfl sz58b rfl) ?_
    refine L_v rfl rfl rfl (V_load1 0 rfl rfl rfl Try.underlying58 rfl (by first | rfl | exact dg_get (by omega) (by omega))) ?_
    refine L_appL (([(b0, row 60 (drV e0 (.slice va1 us.length vc1) (.slice va2 hs.length vc2) (.slice va3 ss.length vc3))), (b1, row 60 (drV 0 nilB nilB nilB)), (b2, row 60 (drV e0 (ownV q us.length) (ownV q2 hs.length) nilB))] ++ ownM 103 q (acc.map usW).flatten) ++ ownM 25 q2 (hs.map hdV).flatten) none [] (m := ss.length) (n' := ss.length) (news := (ss.map seV).flatten) (ks' := (ss.map seV).flatten) rfl rfl rfl rfl rfl Try.underlying58 elS (List.append_nil _).symm ⟨rfl, rfl⟩ (fun w1 hw => src_C Try.underlying58 (fC hw 2 rfl) (flat_1 se_1)) (Nat.zero_add _) (List.nil_append _) (by omega) (by omega) (fun q3 hq3 => ?_)
    refine L_v rfl rfl rfl (V_fieldAddr rfl rfl Try.underlying60 rfl sz58b rfl) ?_
    refine L_store1 2 rfl rfl rfl rfl rfl rfl rfl sz58b (Nat.le_of_ble_eq_true (by kernel_rfl)) (by first | rfl | exact dg_set _ _ _) ?_
    refine L_nil ?_
    change J _ _ _ _
    refine J_seq ?_
    refine J_region ?_
    refine L_v rfl rfl rfl (V_loadW 2 rfl rfl rfl Try.underlying60 rfl (szd sz60b rfl)) ?_
    refine L_storeW 1 rfl rfl rfl rfl rfl rfl (szd sz60b rfl) (all_one (by kernel_rfl)) rfl ?_
    refine L_nil ?_
    change J _ _ _ _
    refine J_ret ?_
    change Kret _ _ _ Exit.ret _
    refine ret1 rfl rfl (RV_c 1 rfl rfl Try.underlying60 rfl (szd sz60b (by first | rfl | (simp [dg_length, zd_length, *]; done)))) ?_
    rw [List.take_length] at hac
    have hal : acc.length = us.length := by simpa using congrArg List.length hac
    exact fun w' h => ⟨h.fr, _, _, rfl, ⟨acc, oA q, oC q, oA q2, oC q2, oA q3, oC q3, hac, (by rw [hal]; rfl), rfl⟩, fun f hf => by
      have h' : OkW _ ((([(b0, row 60 (drV e0 (.slice va1 us.length vc1) (.slice va2 hs.length vc2) (.slice va3 ss.length vc3))), (b1, row 60 (drV e0 (ownV q us.length) (ownV q2 hs.length) (ownV q3 ss.length))), (b2, row 60 (drV e0 (ownV q us.length) (ownV q2 hs.length) (ownV q3 ss.length)))] ++ ownM 103 q (acc.map usW).flatten) ++ ownM 25 q2 (hs.map hdV).flatten) ++ ownM 107 q3 (ss.map seV).flatten) _ w' := h
      rcases List.mem_append.1 hf with hf | hf
      · rcases List.mem_append.1 hf with hf | hf
        · rcases List.mem_cons.1 hf with rfl | hf
          · rw [hal]; exact own_fact0 (T := 103) h' rfl (fun x hx => List.mem_append_left _ (List.mem_append_left _ (List.mem_append_right _ hx))) hq
          · exact ⟨(h.facts f (List.mem_append_right _ hf)).1, fun k hk => ⟨hfr f hf k hk, ((h.facts f (List.mem_append_right _ hf)).2 k hk).1⟩⟩
        · obtain rfl := List.mem_singleton.1 hf
          exact own_fact0 (T := 25) h' rfl (fun x hx => List.mem_append_left _ (List.mem_append_right _ hx)) hq2
      · obtain rfl := List.mem_singleton.1 hf
        exact own_fact0 (T := 107) h' rfl (fun x hx => List.mem_append_right _ hx) hq3⟩

theorem bigd_f (va1 va2 va3 : Option Addr) (vc1 vc2 vc3 : Nat) (e0 : Int) (us : List (Us × Value)) (hs : List Hd) (ss : List Se) (w : World) (hfs : FW w (factC 2 (.slice va1 us.length vc1) us.length (us.map usW).flatten :: factC 65 (.slice va2 hs.length vc2) hs.length (hs.map hdV).flatten :: factC 4 (.slice va3 ss.length vc3) ss.length (ss.map seV).flatten :: us.map usF)) (hb : ¬ bigD us hs ss) :
    Calls Try.prog 24 #[.agg (drV e0 (.slice va1 us.length vc1) (.slice va2 hs.length vc2) (.slice va3 ss.length vc3)).toArray] w fun e w' => e = .returned (.bool false) ∧ Fr [] w w' := by
  refine calls_of (args := [.agg (drV e0 (.slice va1 us.length vc1) (.slice va2 hs.length vc2) (.slice va3 ss.length vc3)).toArray]) ([]) ([]) (factC 2 (.slice va1 us.length vc1) us.length (us.map usW).flatten :: factC 65 (.slice va2 hs.length vc2) hs.length (hs.map hdV).flatten :: factC 4 (.slice va3 ss.length vc3) ss.length (ss.map seV).flatten :: us.map usF) Try.func24 rfl rfl (okFW hfs) ?_
  refine J_seq ?_
  refine J_region ?_
  refine L_box rfl rfl rfl rfl rfl (fun b0 => ?_)
  refine L_v rfl rfl rfl (V_assign rfl rfl) ?_
  refine L_nil ?_
  change J _ _ _ _
  refine J_seq ?_
  refine J_seq ?_
  refine J_region ?_
  refine L_v rfl rfl rfl (V_fieldAddr rfl rfl Try.underlying60 rfl sz56b rfl) ?_
  refine L_v rfl rfl rfl (V_load1 0 rfl rfl rfl Try.underlying56 rfl (by first | rfl | exact dg_get (by omega) (by omega))) ?_
  refine L_v rfl rfl rfl (V_len rfl rfl Try.underlying56 rfl) ?_
  refine L_v rfl rfl rfl (V_gtr rfl rfl rfl (by first | exact decide_eq_true (by omega) | exact decide_eq_false (by omega) | rfl)) ?_
  refine L_v rfl rfl rfl (V_move rfl rfl) ?_
  refine L_wv rfl rfl rfl rfl rfl rfl (V_fieldAddr rfl rfl Try.underlying60 rfl sz57b rfl) ?_
  refine L_wv rfl rfl rfl rfl rfl rfl (V_load1 0 rfl rfl rfl Try.underlying57 rfl (by first | rfl | exact dg_get (by omega) (by omega))) ?_
  refine L_wv rfl rfl rfl rfl rfl rfl (V_len rfl rfl Try.underlying57 rfl) ?_
  refine L_wv rfl rfl rfl rfl rfl rfl (V_gtr rfl rfl rfl (by first | exact decide_eq_true (by omega) | exact decide_eq_false (by omega) | rfl)) ?_
  first | refine L_v rfl rfl rfl (V_pickT rfl rfl rfl) ?_ | refine L_v rfl rfl rfl (V_pickF rfl rfl rfl) ?_
  refine L_v rfl rfl rfl (V_move rfl rfl) ?_
  refine L_wv rfl rfl rfl rfl rfl rfl (V_fieldAddr rfl rfl Try.underlying60 rfl sz58b rfl) ?_
  refine L_wv rfl rfl rfl rfl rfl rfl (V_load1 0 rfl rfl rfl Try.underlying58 rfl (by first | rfl | exact dg_get (by omega) (by omega))) ?_
  refine L_wv rfl rfl rfl rfl rfl rfl (V_len rfl rfl Try.underlying58 rfl) ?_
  refine L_wv rfl rfl rfl rfl rfl rfl (V_gtr rfl rfl rfl (by first | exact decide_eq_true (by omega) | exact decide_eq_false (by omega) | rfl)) ?_
  first | refine L_v rfl rfl rfl (V_pickT rfl rfl rfl) ?_ | refine L_v rfl rfl rfl (V_pickF rfl rfl rfl) ?_
  refine L_nil ?_
  change J _ _ _ _
  refine J_false rfl ?_
  refine J_skip ?_
  change J _ _ _ _
  refine J_seq ?_
  refine J_region ?_
  refine L_v rfl rfl rfl (V_assign rfl rfl) ?_
  refine L_nil ?_
  change J _ _ _ _
  refine J_seq ?_
  refine J_seq ?_
  refine J_region ?_
  refine L_v rfl rfl rfl (V_assign rfl rfl) ?_
  refine L_nil ?_
  change J _ _ _ _
  refine J_block ?_
  refine J_loop (X := Nat) (fun i => { env := [(1, .pointer (some ⟨b0, 0, none⟩)), (3, .int .i64 ((smU us i : Nat) : Int)), (4, .int .i64 (i : Int))], mem := [(b0, row 60 (drV e0 (.slice va1 us.length vc1) (.slice va2 hs.length vc2) (.slice va3 ss.length vc3)))], facts := factC 2 (.slice va1 us.length vc1) us.length (us.map usW).flatten :: factC 65 (.slice va2 hs.length vc2) hs.length (hs.map hdV).flatten :: factC 4 (.slice va3 ss.length vc3) ss.length (ss.map seV).flatten :: us.map usF }) (fun i => i ≤ us.length ∧ smU us i ≤ 10001) (fun i => us.length - i) 0 ⟨Nat.zero_le _, (by show 0 ≤ _; omega)⟩ ⟨⟨rfl, rfl, rfl, trivial⟩, List.Sublist.refl _, fun f hf => hf, rfl⟩ ?_
  rintro i ⟨hin, hsi⟩
  refine J_seq ?_
  refine J_seq ?_
  refine J_region ?_
  refine L_v rfl rfl rfl (V_move rfl rfl) ?_
  refine L_v rfl rfl rfl (V_fieldAddr rfl rfl Try.underlying60 rfl sz56b rfl) ?_
  refine L_v rfl rfl rfl (V_load1 0 rfl rfl rfl Try.underlying56 rfl (by first | rfl | exact dg_get (by omega) (by omega))) ?_
  refine L_v rfl rfl rfl (V_len rfl rfl Try.underlying56 rfl) ?_
  refine L_v rfl rfl rfl (V_lss rfl rfl rfl (by first | exact decide_eq_true (by omega) | exact decide_eq_false (by omega) | rfl)) ?_
  refine L_v rfl rfl rfl (V_move rfl rfl) ?_
  refine L_split 26 rfl (fun h1 => ?_) (fun h1 => ?_)
  ·
    first | (have h1 := of_decide_eq_true h1) | (have h1 := of_decide_eq_false h1) | skip
    have hi : i < us.length := by omega
    obtain ⟨ya, yc, hy⟩ : ∃ a c, (us.getD i UD).2 = .slice a (us.getD i UD).1.2.length c := SlC.form (hfs _ (List.mem_cons_of_mem _ (List.mem_cons_of_mem _ (List.mem_cons_of_mem _ (us_f hi))))).1
    have h8 := smU_le (us := us) i
    have h9 := (fun q => hb (.inr (.inr (.inr q))) : ¬ 5000 < smU us us.length)
    refine L_wv rfl rfl rfl rfl rfl rfl (V_move rfl rfl) ?_
    refine L_wv rfl rfl rfl rfl rfl rfl (V_leq rfl rfl rfl (by first | exact decide_eq_true (by omega) | exact decide_eq_false (by omega) | rfl)) ?_
    first | refine L_v rfl rfl rfl (V_pickT rfl rfl rfl) ?_ | refine L_v rfl rfl rfl (V_pickF rfl rfl rfl) ?_
    refine L_nil ?_
    change J _ _ _ _
    refine J_true rfl ?_
    refine J_skip ?_
    change J _ _ _ _
    refine J_seq ?_
    refine J_block ?_
    refine J_region ?_
    refine L_v rfl rfl rfl (V_move rfl rfl) ?_
    refine L_v rfl rfl rfl (V_fieldAddr rfl rfl Try.underlying60 rfl sz56b rfl) ?_
    refine L_v rfl rfl rfl (V_load1 0 rfl rfl rfl Try.underlying56 rfl (by first | rfl | exact dg_get (by omega) (by omega))) ?_
    refine L_v rfl rfl rfl (V_move rfl rfl) ?_
    refine L_v rfl rfl rfl (V_indexC rfl rfl rfl Try.underlying56 sz103b (fun w hw => fC hw 0 rfl) (by omega) (by omega)) ?_
    refine L_v rfl rfl rfl (V_fieldC rfl rfl (fun w hw => (let ⟨b, o, e, _⟩ := SlC.cell (fC hw 0 rfl) (us_s hi); ⟨b, o, e⟩)) Try.underlying103 rfl sz101b rfl) ?_
    refine L_v rfl rfl rfl (V_loadC rfl rfl Try.underlying101 rfl (fun w hw => fC hw 0 rfl) (us_v hi hy)) ?_
    refine L_v rfl rfl rfl (V_len rfl rfl Try.underlying101 rfl) ?_
    refine L_v rfl rfl rfl (V_min rfl rfl rfl rfl) ?_
    refine L_v rfl rfl rfl (V_add rfl rfl rfl (by first | exact Go.IntWalk.i64_in _ (by omega) | rfl)) ?_
    refine L_v rfl rfl rfl (V_assign rfl rfl) ?_
    refine L_nil ?_
    change J _ _ _ _
    refine J_region ?_
    refine L_v rfl rfl rfl (V_move rfl rfl) ?_
    refine L_v rfl rfl rfl (V_add rfl rfl rfl (by first | exact Go.IntWalk.i64_in _ (by omega) | rfl)) ?_
    refine L_v rfl rfl rfl (V_assign rfl rfl) ?_
    refine L_nil ?_
    exact ⟨i + 1, ⟨by show i + 1 ≤ us.length; omega, by show smU us (i + 1) ≤ _; rw [smU_step hi]; omega⟩, by show us.length - (i + 1) < us.length - i; omega, ⟨rfl, (by show _ = some (Value.int .i64 ((smU us (i + 1) : Nat) : Int)); rw [smU_int hi]; rfl), rfl, trivial⟩, List.Sublist.refl _, fun f hf => hf, rfl⟩
  ·
    first | (have h1 := of_decide_eq_true h1) | (have h1 := of_decide_eq_false h1) | skip
    obtain rfl : i = us.length := by omega
    have h9 := (fun q => hb (.inr (.inr (.inr q))) : ¬ 5000 < smU us us.length)
    refine L_skip rfl rfl rfl rfl rfl rfl rfl ?_
    refine L_skip rfl rfl rfl rfl rfl rfl rfl ?_
    first | refine L_v rfl rfl rfl (V_pickT rfl rfl rfl) ?_ | refine L_v rfl rfl rfl (V_pickF rfl rfl rfl) ?_
    refine L_nil ?_
    change J _ _ _ _
    refine J_false rfl ?_
    refine J_exit ?_
    change J _ _ _ _
    refine J_seq ?_
    refine J_region ?_
    refine L_v rfl rfl rfl (V_move rfl rfl) ?_
    refine L_v rfl rfl rfl (V_gtr rfl rfl rfl (by first | exact decide_eq_true (by omega) | exact decide_eq_false (by omega) | rfl)) ?_
    refine L_v rfl rfl rfl (V_assign rfl rfl) ?_
    refine L_nil ?_
    change J _ _ _ _
    refine J_ret ?_
    change Kret _ _ _ Exit.ret _
    refine ret1 rfl rfl (RV_t rfl) ?_
    exact fun w' h => ⟨rfl, h.fr⟩

theorem bigd_t (va1 va2 va3 : Option Addr) (vc1 vc2 vc3 : Nat) (e0 : Int) (us : List (Us × Value)) (hs : List Hd) (ss : List Se) (w : World) (hfs : FW w (factC 2 (.slice va1 us.length vc1) us.length (us.map usW).flatten :: factC 65 (.slice va2 hs.length vc2) hs.length (hs.map hdV).flatten :: factC 4 (.slice va3 ss.length vc3) ss.length (ss.map seV).flatten :: us.map usF)) (hb : bigD us hs ss) :
    Calls Try.prog 24 #[.agg (drV e0 (.slice va1 us.length vc1) (.slice va2 hs.length vc2) (.slice va3 ss.length vc3)).toArray] w fun e w' => e = .returned (.bool true) ∧ Fr [] w w' := by
  refine calls_of (args := [.agg (drV e0 (.slice va1 us.length vc1) (.slice va2 hs.length vc2) (.slice va3 ss.length vc3)).toArray]) ([]) ([]) (factC 2 (.slice va1 us.length vc1) us.length (us.map usW).flatten :: factC 65 (.slice va2 hs.length vc2) hs.length (hs.map hdV).flatten :: factC 4 (.slice va3 ss.length vc3) ss.length (ss.map seV).flatten :: us.map usF) Try.func24 rfl rfl (okFW hfs) ?_
  by_cases h0 : 5000 < us.length
  ·
    refine J_seq ?_
    refine J_region ?_
    refine L_box rfl rfl rfl rfl rfl (fun b0 => ?_)
    refine L_v rfl rfl rfl (V_assign rfl rfl) ?_
    refine L_nil ?_
    change J _ _ _ _
    refine J_seq ?_
    refine J_seq ?_
    refine J_region ?_
    refine L_v rfl rfl rfl (V_fieldAddr rfl rfl Try.underlying60 rfl sz56b rfl) ?_
    refine L_v rfl rfl rfl (V_load1 0 rfl rfl rfl Try.underlying56 rfl (by first | rfl | exact dg_get (by omega) (by omega))) ?_
    refine L_v rfl rfl rfl (V_len rfl rfl Try.underlying56 rfl) ?_
    refine L_v rfl rfl rfl (V_gtr rfl rfl rfl (by first | exact decide_eq_true (by omega) | exact decide_eq_false (by omega) | rfl)) ?_
    refine L_v rfl rfl rfl (V_move rfl rfl) ?_
    refine L_skip rfl rfl rfl rfl rfl rfl rfl ?_
    refine L_skip rfl rfl rfl rfl rfl rfl rfl ?_
    refine L_skip rfl rfl rfl rfl rfl rfl rfl ?_
    refine L_skip rfl rfl rfl rfl rfl rfl rfl ?_
    first | refine L_v rfl rfl rfl (V_pickT rfl rfl rfl) ?_ | refine L_v rfl rfl rfl (V_pickF rfl rfl rfl) ?_
    refine L_v rfl rfl rfl (V_move rfl rfl) ?_
    refine L_skip rfl rfl rfl rfl rfl rfl rfl ?_
    refine L_skip rfl rfl rfl rfl rfl rfl rfl ?_
    refine L_skip rfl rfl rfl rfl rfl rfl rfl ?_
    refine L_skip rfl rfl rfl rfl rfl rfl rfl ?_
    first | refine L_v rfl rfl rfl (V_pickT rfl rfl rfl) ?_ | refine L_v rfl rfl rfl (V_pickF rfl rfl rfl) ?_
    refine L_nil ?_
    change J _ _ _ _
    refine J_true rfl ?_
    refine J_seq ?_
    refine J_region ?_
    refine L_v rfl rfl rfl (V_assign rfl rfl) ?_
    refine L_nil ?_
    change J _ _ _ _
    refine J_ret ?_
    change Kret _ _ _ Exit.ret _
    refine ret1 rfl rfl (RV_t rfl) ?_
    exact fun w' h => ⟨rfl, h.fr⟩
  ·
    by_cases h00 : 5000 < hs.length
    ·
      refine J_seq ?_
      refine J_region ?_
      refine L_box rfl rfl rfl rfl rfl (fun b0 => ?_)
      refine L_v rfl rfl rfl (V_assign rfl rfl) ?_
      refine L_nil ?_
      change J _ _ _ _
      refine J_seq ?_
      refine J_seq ?_
      refine J_region ?_
      refine L_v rfl rfl rfl (V_fieldAddr rfl rfl Try.underlying60 rfl sz56b rfl) ?_
      refine L_v rfl rfl rfl (V_load1 0 rfl rfl rfl Try.underlying56 rfl (by first | rfl | exact dg_get (by omega) (by omega))) ?_
      refine L_v rfl rfl rfl (V_len rfl rfl Try.underlying56 rfl) ?_
      refine L_v rfl rfl rfl (V_gtr rfl rfl rfl (by first | exact decide_eq_true (by omega) | exact decide_eq_false (by omega) | rfl)) ?_
      refine L_v rfl rfl rfl (V_move rfl rfl) ?_
      refine L_wv rfl rfl rfl rfl rfl rfl (V_fieldAddr rfl rfl Try.underlying60 rfl sz57b rfl) ?_
      refine L_wv rfl rfl rfl rfl rfl rfl (V_load1 0 rfl rfl rfl Try.underlying57 rfl (by first | rfl | exact dg_get (by omega) (by omega))) ?_
      refine L_wv rfl rfl rfl rfl rfl rfl (V_len rfl rfl Try.underlying57 rfl) ?_
      refine L_wv rfl rfl rfl rfl rfl rfl (V_gtr rfl rfl rfl (by first | exact decide_eq_true (by omega) | exact decide_eq_false (by omega) | rfl)) ?_
      first | refine L_v rfl rfl rfl (V_pickT rfl rfl rfl) ?_ | refine L_v rfl rfl rfl (V_pickF rfl rfl rfl) ?_
      refine L_v rfl rfl rfl (V_move rfl rfl) ?_
      refine L_skip rfl rfl rfl rfl rfl rfl rfl ?_
      refine L_skip rfl rfl rfl rfl rfl rfl rfl ?_
      refine L_skip rfl rfl rfl rfl rfl rfl rfl ?_
      refine L_skip rfl rfl rfl rfl rfl rfl rfl ?_
      first | refine L_v rfl rfl rfl (V_pickT rfl rfl rfl) ?_ | refine L_v rfl rfl rfl (V_pickF rfl rfl rfl) ?_
      refine L_nil ?_
      change J _ _ _ _
      refine J_true rfl ?_
      refine J_seq ?_
      refine J_region ?_
      refine L_v rfl rfl rfl (V_assign rfl rfl) ?_
      refine L_nil ?_
      change J _ _ _ _
      refine J_ret ?_
      change Kret _ _ _ Exit.ret _
      refine ret1 rfl rfl (RV_t rfl) ?_
      exact fun w' h => ⟨rfl, h.fr⟩
    ·
      by_cases h000 : 5000 < ss.length
      ·
        refine J_seq ?_
        refine J_region ?_
        refine L_box rfl rfl rfl rfl rfl (fun b0 => ?_)
        refine L_v rfl rfl rfl (V_assign rfl rfl) ?_
        refine L_nil ?_
        change J _ _ _ _
        refine J_seq ?_
        refine J_seq ?_
        refine J_region ?_
        refine L_v rfl rfl rfl (V_fieldAddr rfl rfl Try.underlying60 rfl sz56b rfl) ?_
        refine L_v rfl rfl rfl (V_load1 0 rfl rfl rfl Try.underlying56 rfl (by first | rfl | exact dg_get (by omega) (by omega))) ?_
        refine L_v rfl rfl rfl (V_len rfl rfl Try.underlying56 rfl) ?_
        refine L_v rfl rfl rfl (V_gtr rfl rfl rfl (by first | exact decide_eq_true (by omega) | exact decide_eq_false (by omega) | rfl)) ?_
        refine L_v rfl rfl rfl (V_move rfl rfl) ?_
        refine L_wv rfl rfl rfl rfl rfl rfl (V_fieldAddr rfl rfl Try.underlying60 rfl sz57b rfl) ?_
        refine L_wv rfl rfl rfl rfl rfl rfl (V_load1 0 rfl rfl rfl Try.underlying57 rfl (by first | rfl | exact dg_get (by omega) (by omega))) ?_
        refine L_wv rfl rfl rfl rfl rfl rfl (V_len rfl rfl Try.underlying57 rfl) ?_
        refine L_wv rfl rfl rfl rfl rfl rfl (V_gtr rfl rfl rfl (by first | exact decide_eq_true (by omega) | exact decide_eq_false (by omega) | rfl)) ?_
        first | refine L_v rfl rfl rfl (V_pickT rfl rfl rfl) ?_ | refine L_v rfl rfl rfl (V_pickF rfl rfl rfl) ?_
        refine L_v rfl rfl rfl (V_move rfl rfl) ?_
        refine L_wv rfl rfl rfl rfl rfl rfl (V_fieldAddr rfl rfl Try.underlying60 rfl sz58b rfl) ?_
        refine L_wv rfl rfl rfl rfl rfl rfl (V_load1 0 rfl rfl rfl Try.underlying58 rfl (by first | rfl | exact dg_get (by omega) (by omega))) ?_
        refine L_wv rfl rfl rfl rfl rfl rfl (V_len rfl rfl Try.underlying58 rfl) ?_
        refine L_wv rfl rfl rfl rfl rfl rfl (V_gtr rfl rfl rfl (by first | exact decide_eq_true (by omega) | exact decide_eq_false (by omega) | rfl)) ?_
        first | refine L_v rfl rfl rfl (V_pickT rfl rfl rfl) ?_ | refine L_v rfl rfl rfl (V_pickF rfl rfl rfl) ?_
        refine L_nil ?_
        change J _ _ _ _
        refine J_true rfl ?_
        refine J_seq ?_
        refine J_region ?_
        refine L_v rfl rfl rfl (V_assign rfl rfl) ?_
        refine L_nil ?_
        change J _ _ _ _
        refine J_ret ?_
        change Kret _ _ _ Exit.ret _
        refine ret1 rfl rfl (RV_t rfl) ?_
        exact fun w' h => ⟨rfl, h.fr⟩
      ·
        refine J_seq ?_
        refine J_region ?_
        refine L_box rfl rfl rfl rfl rfl (fun b0 => ?_)
        refine L_v rfl rfl rfl (V_assign rfl rfl) ?_
        refine L_nil ?_
        change J _ _ _ _
        refine J_seq ?_
        refine J_seq ?_
        refine J_region ?_
        refine L_v rfl rfl rfl (V_fieldAddr rfl rfl Try.underlying60 rfl sz56b rfl) ?_
        refine L_v rfl rfl rfl (V_load1 0 rfl rfl rfl Try.underlying56 rfl (by first | rfl | exact dg_get (by omega) (by omega))) ?_
        refine L_v rfl rfl rfl (V_len rfl rfl Try.underlying56 rfl) ?_
        refine L_v rfl rfl rfl (V_gtr rfl rfl rfl (by first | exact decide_eq_true (by omega) | exact decide_eq_false (by omega) | rfl)) ?_
        refine L_v rfl rfl rfl (V_move rfl rfl) ?_
        refine L_wv rfl rfl rfl rfl rfl rfl (V_fieldAddr rfl rfl Try.underlying60 rfl sz57b rfl) ?_
        refine L_wv rfl rfl rfl rfl rfl rfl (V_load1 0 rfl rfl rfl Try.underlying57 rfl (by first | rfl | exact dg_get (by omega) (by omega))) ?_
        refine L_wv rfl rfl rfl rfl rfl rfl (V_len rfl rfl Try.underlying57 rfl) ?_
        refine L_wv rfl rfl rfl rfl rfl rfl (V_gtr rfl rfl rfl (by first | exact decide_eq_true (by omega) | exact decide_eq_false (by omega) | rfl)) ?_
        first | refine L_v rfl rfl rfl (V_pickT rfl rfl rfl) ?_ | refine L_v rfl rfl rfl (V_pickF rfl rfl rfl) ?_
        refine L_v rfl rfl rfl (V_move rfl rfl) ?_
        refine L_wv rfl rfl rfl rfl rfl rfl (V_fieldAddr rfl rfl Try.underlying60 rfl sz58b rfl) ?_
        refine L_wv rfl rfl rfl rfl rfl rfl (V_load1 0 rfl rfl rfl Try.underlying58 rfl (by first | rfl | exact dg_get (by omega) (by omega))) ?_
        refine L_wv rfl rfl rfl rfl rfl rfl (V_len rfl rfl Try.underlying58 rfl) ?_
        refine L_wv rfl rfl rfl rfl rfl rfl (V_gtr rfl rfl rfl (by first | exact decide_eq_true (by omega) | exact decide_eq_false (by omega) | rfl)) ?_
        first | refine L_v rfl rfl rfl (V_pickT rfl rfl rfl) ?_ | refine L_v rfl rfl rfl (V_pickF rfl rfl rfl) ?_
        refine L_nil ?_
        change J _ _ _ _
        refine J_false rfl ?_
        refine J_skip ?_
        change J _ _ _ _
        refine J_seq ?_
        refine J_region ?_
        refine L_v rfl rfl rfl (V_assign rfl rfl) ?_
        refine L_nil ?_
        change J _ _ _ _
        refine J_seq ?_
        refine J_seq ?_
        refine J_region ?_
        refine L_v rfl rfl rfl (V_assign rfl rfl) ?_
        refine L_nil ?_
        change J _ _ _ _
        refine J_block ?_
        refine J_loop (X := Nat) (fun i => { env := [(1, .pointer (some ⟨b0, 0, none⟩)), (3, .int .i64 ((smU us i : Nat) : Int)), (4, .int .i64 (i : Int))], mem := [(b0, row 60 (drV e0 (.slice va1 us.length vc1) (.slice va2 hs.length vc2) (.slice va3 ss.length vc3)))], facts := factC 2 (.slice va1 us.length vc1) us.length (us.map usW).flatten :: factC 65 (.slice va2 hs.length vc2) hs.length (hs.map hdV).flatten :: factC 4 (.slice va3 ss.length vc3) ss.length (ss.map seV).flatten :: us.map usF }) (fun i => i ≤ us.length ∧ smU us i ≤ 10001) (fun i => us.length - i) 0 ⟨Nat.zero_le _, (by show 0 ≤ _; omega)⟩ ⟨⟨rfl, rfl, rfl, trivial⟩, List.Sublist.refl _, fun f hf => hf, rfl⟩ ?_
        rintro i ⟨hin, hsi⟩
        refine J_seq ?_
        refine J_seq ?_
        refine J_region ?_
        refine L_v rfl rfl rfl (V_move rfl rfl) ?_
        refine L_v rfl rfl rfl (V_fieldAddr rfl rfl Try.underlying60 rfl sz56b rfl) ?_
        refine L_v rfl rfl rfl (V_load1 0 rfl rfl rfl Try.underlying56 rfl (by first | rfl | exact dg_get (by omega) (by omega))) ?_
        refine L_v rfl rfl rfl (V_len rfl rfl Try.underlying56 rfl) ?_
        refine L_v rfl rfl rfl (V_lss rfl rfl rfl (by first | exact decide_eq_true (by omega) | exact decide_eq_false (by omega) | rfl)) ?_
        refine L_v rfl rfl rfl (V_move rfl rfl) ?_
        refine L_split 26 rfl (fun h1 => ?_) (fun h1 => ?_)
        ·
          first | (have h1 := of_decide_eq_true h1) | (have h1 := of_decide_eq_false h1) | skip
          have hi : i < us.length := by omega
          obtain ⟨ya, yc, hy⟩ : ∃ a c, (us.getD i UD).2 = .slice a (us.getD i UD).1.2.length c := SlC.form (hfs _ (List.mem_cons_of_mem _ (List.mem_cons_of_mem _ (List.mem_cons_of_mem _ (us_f hi))))).1
          refine L_wv rfl rfl rfl rfl rfl rfl (V_move rfl rfl) ?_
          refine L_wv rfl rfl rfl rfl rfl rfl (V_leq rfl rfl rfl (by first | exact decide_eq_true (by omega) | exact decide_eq_false (by omega) | rfl)) ?_
          first | refine L_v rfl rfl rfl (V_pickT rfl rfl rfl) ?_ | refine L_v rfl rfl rfl (V_pickF rfl rfl rfl) ?_
          refine L_nil ?_
          change J _ _ _ _
          refine J_cond rfl (fun h2 => ?_) (fun h2 => ?_)
          ·
            first | (have h2 := of_decide_eq_true h2) | (have h2 := of_decide_eq_false h2) | skip
            refine J_skip ?_
            change J _ _ _ _
            refine J_seq ?_
            refine J_block ?_
            refine J_region ?_
            refine L_v rfl rfl rfl (V_move rfl rfl) ?_
            refine L_v rfl rfl rfl (V_fieldAddr rfl rfl Try.underlying60 rfl sz56b rfl) ?_
            refine L_v rfl rfl rfl (V_load1 0 rfl rfl rfl Try.underlying56 rfl (by first | rfl | exact dg_get (by omega) (by omega))) ?_
            refine L_v rfl rfl rfl (V_move rfl rfl) ?_
            refine L_v rfl rfl rfl (V_indexC rfl rfl rfl Try.underlying56 sz103b (fun w hw => fC hw 0 rfl) (by omega) (by omega)) ?_
            refine L_v rfl rfl rfl (V_fieldC rfl rfl (fun w hw => (let ⟨b, o, e, _⟩ := SlC.cell (fC hw 0 rfl) (us_s hi); ⟨b, o, e⟩)) Try.underlying103 rfl sz101b rfl) ?_
            refine L_v rfl rfl rfl (V_loadC rfl rfl Try.underlying101 rfl (fun w hw => fC hw 0 rfl) (us_v hi hy)) ?_
            refine L_v rfl rfl rfl (V_len rfl rfl Try.underlying101 rfl) ?_
            refine L_v rfl rfl rfl (V_min rfl rfl rfl rfl) ?_
            refine L_v rfl rfl rfl (V_add rfl rfl rfl (by first | exact Go.IntWalk.i64_in _ (by omega) | rfl)) ?_
            refine L_v rfl rfl rfl (V_assign rfl rfl) ?_
            refine L_nil ?_
            change J _ _ _ _
            refine J_region ?_
            refine L_v rfl rfl rfl (V_move rfl rfl) ?_
            refine L_v rfl rfl rfl (V_add rfl rfl rfl (by first | exact Go.IntWalk.i64_in _ (by omega) | rfl)) ?_
            refine L_v rfl rfl rfl (V_assign rfl rfl) ?_
            refine L_nil ?_
            exact ⟨i + 1, ⟨by show i + 1 ≤ us.length; omega, by show smU us (i + 1) ≤ _; rw [smU_step hi]; omega⟩, by show us.length - (i + 1) < us.length - i; omega, ⟨rfl, (by show _ = some (Value.int .i64 ((smU us (i + 1) : Nat) : Int)); rw [smU_int hi]; rfl), rfl, trivial⟩, List.Sublist.refl _, fun f hf => hf, rfl⟩
          ·
            first | (have h2 := of_decide_eq_true h2) | (have h2 := of_decide_eq_false h2) | skip
            refine J_exit ?_
            change J _ _ _ _
            refine J_seq ?_
            refine J_region ?_
            refine L_v rfl rfl rfl (V_move rfl rfl) ?_
            refine L_v rfl rfl rfl (V_gtr rfl rfl rfl (by first | exact decide_eq_true (by omega) | exact decide_eq_false (by omega) | rfl)) ?_
            refine L_v rfl rfl rfl (V_assign rfl rfl) ?_
            refine L_nil ?_
            change J _ _ _ _
            refine J_ret ?_
            change Kret _ _ _ Exit.ret _
            refine ret1 rfl rfl (RV_t rfl) ?_
            exact fun w' h => ⟨rfl, h.fr⟩
        ·
          first | (have h1 := of_decide_eq_true h1) | (have h1 := of_decide_eq_false h1) | skip
          obtain rfl : i = us.length := by omega
          have h9 : 5000 < smU us us.length := by rcases hb with h | h | h | h <;> omega
          refine L_skip rfl rfl rfl rfl rfl rfl rfl ?_
          refine L_skip rfl rfl rfl rfl rfl rfl rfl ?_
          first | refine L_v rfl rfl rfl (V_pickT rfl rfl rfl) ?_ | refine L_v rfl rfl rfl (V_pickF rfl rfl rfl) ?_
          refine L_nil ?_
          change J _ _ _ _
          refine J_false rfl ?_
          refine J_exit ?_
          change J _ _ _ _
          refine J_seq ?_
          refine J_region ?_
          refine L_v rfl rfl rfl (V_move rfl rfl) ?_
          refine L_v rfl rfl rfl (V_gtr rfl rfl rfl (by first | exact decide_eq_true (by omega) | exact decide_eq_false (by omega) | rfl)) ?_
          refine L_v rfl rfl rfl (V_assign rfl rfl) ?_
          refine L_nil ?_
          change J _ _ _ _
          refine J_ret ?_
          change Kret _ _ _ Exit.ret _
          refine ret1 rfl rfl (RV_t rfl) ?_
          exact fun w' h => ⟨rfl, h.fr⟩

end Go.Proofs.Ytfgcfjojpakpjaa
