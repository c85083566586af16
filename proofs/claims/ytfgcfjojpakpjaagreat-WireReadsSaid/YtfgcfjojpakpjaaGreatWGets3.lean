/- What GetDirectory hands back. -/
import Derived.Test.YtfgcfjojpakpjaaGreatWGets
import Derived.Test.YtfgcfjojpakpjaaGreatWIn5
set_option linter.unusedVariables false
set_option linter.unusedSimpArgs false
set_option maxRecDepth 100000
set_option maxHeartbeats 4000000
namespace Go.Proofs.YtfgcfjojpakpjaaGreat
open Go.Sx
theorem sz63v : (Tryz.prog.info? 63).map (·.size) = some 4 := by kernel_rfl
theorem sz73v : (Tryz.prog.info? 73).map (·.size) = some 1 := by kernel_rfl
theorem sz110v : (Tryz.prog.info? 110).map (·.size) = some 1 := by kernel_rfl
theorem tx32v : Txt Tryz.prog 32 := txt_of Tryz.func32 rfl (by kernel_rfl)
theorem tx52v : Txt Tryz.prog 52 := txt_of Tryz.func52 rfl (by kernel_rfl)
theorem tx53v : Txt Tryz.prog 53 := txt_of Tryz.func53 rfl (by kernel_rfl)
theorem tx58v : Txt Tryz.prog 58 := txt_of Tryz.func58 rfl (by kernel_rfl)
theorem tx60v : Txt Tryz.prog 60 := txt_of Tryz.func60 rfl (by kernel_rfl)
theorem tx81v : Txt Tryz.prog 81 := txt_of Tryz.func81 rfl (by kernel_rfl)
theorem z63v : (Tryz.prog.info? 63).bind (·.zero) = some (.agg (drV 0 (.slice none 0 0) (.slice none 0 0) (.slice none 0 0)).toArray) := by kernel_rfl
theorem z73v : (Tryz.prog.info? 73).bind (·.zero) = some (.pointer none) := by kernel_rfl

theorem gdirectory_no (rb ib br bi bx : Nat) (u0 : Value) (l0 : List Int) (F : FuncId) (htx : Txt Tryz.prog F) (hone : Rds F #[.pointer (some ⟨ib, 0, none⟩)] (drC).rn (Wdr) rb ib u0 l0) (w : World) (a : Option Addr) (n c : Nat) (l : List Int) (hb : w.heap[rb]? = some (row 139 [.slice a n c])) (hx : w.heap[bx]? = some (row 63 (drV 0 (.slice none 0 0) (.slice none 0 0) (.slice none 0 0)))) (hne : rb ≠ bx) (hFS : ∀ f ∈ [factB u0 l0, factO ib (inO rb), factO br (row 98 [.func (.func F) #[] #[]]), factO bi (row 73 [.pointer (some ⟨ib, 0, none⟩)])], f.p w ∧ ∀ k, f.fp k → k < w.heap.size ∧ k ≠ rb ∧ k ≠ bx) (hD : ∀ W, SlB W u0 l0 → SlB W (.slice a n c) l) (hby : Byt l) (hcn : n ≤ c) (hl : l.length ≤ 1099511627776) (hG : (drC).rn l = none) :
    Calls Tryz.prog 81 #[.pointer (some ⟨br, 0, none⟩), .pointer (some ⟨bi, 0, none⟩), .pointer (some ⟨bx, 0, none⟩)] w fun e w' => GotP (.tuple #[]) (fun k => .panicked [stp 157 k]) w rb bx 63 u0 l0 (none) (Wdr) e w' := by
  refine calls_of_p (args := [.pointer (some ⟨br, 0, none⟩), .pointer (some ⟨bi, 0, none⟩), .pointer (some ⟨bx, 0, none⟩)]) ([rb]) ([rdM rb a n c]) ([factB u0 l0, factO ib (inO rb), factO br (row 98 [.func (.func F) #[] #[]]), factO bi (row 73 [.pointer (some ⟨ib, 0, none⟩)])]) Tryz.func81 rfl rfl (okM1' hb hFS) ?_
  refine J_regionP ?_
  refine LP_one ?_
  refine L_v rfl rfl rfl (V_load rfl rfl Tryz.underlying98 rfl (fun w hw => cell_of (hw.facts _ (List.mem_cons_of_mem _ (List.mem_cons_of_mem _ (List.mem_cons_self ..)))).1 rfl)) ?_
  refine L_nil ?_
  refine LP_one ?_
  refine L_v rfl rfl rfl (V_load rfl rfl Tryz.underlying73 rfl (fun w hw => cell_of (hw.facts _ (List.mem_cons_of_mem _ (List.mem_cons_of_mem _ (List.mem_cons_of_mem _ (List.mem_cons_self ..))))).1 rfl)) ?_
  refine L_nil ?_
  refine LP_in 0 rfl rfl rfl rfl rfl rfl htx rfl (fun w1 hw => hone w1 _ _ _ _ (hw.at (i := 0) rfl) (fxIn hw rfl) hD hby hcn hl) (fun hk => KretP_panic rfl (fun w' h => ⟨h.fr, rfl⟩)) (fun p1 l1 v1 fs1 a1 n1 c1 hr1 hV1 hc1 hD1 hnw1 => ?_)
  rw [hG] at hr1
  cases hr1

theorem gdirectory_yes (rb ib br bi bx : Nat) (u0 : Value) (l0 : List Int) (F : FuncId) (htx : Txt Tryz.prog F) (hone : Rds F #[.pointer (some ⟨ib, 0, none⟩)] (drC).rn (Wdr) rb ib u0 l0) (x0 : _) (lx : List Int) (w : World) (a : Option Addr) (n c : Nat) (l : List Int) (hb : w.heap[rb]? = some (row 139 [.slice a n c])) (hx : w.heap[bx]? = some (row 63 (drV 0 (.slice none 0 0) (.slice none 0 0) (.slice none 0 0)))) (hne : rb ≠ bx) (hFS : ∀ f ∈ [factB u0 l0, factO ib (inO rb), factO br (row 98 [.func (.func F) #[] #[]]), factO bi (row 73 [.pointer (some ⟨ib, 0, none⟩)])], f.p w ∧ ∀ k, f.fp k → k < w.heap.size ∧ k ≠ rb ∧ k ≠ bx) (hD : ∀ W, SlB W u0 l0 → SlB W (.slice a n c) l) (hby : Byt l) (hcn : n ≤ c) (hl : l.length ≤ 1099511627776) (hG : (drC).rn l = some (x0, lx)) :
    Calls Tryz.prog 81 #[.pointer (some ⟨br, 0, none⟩), .pointer (some ⟨bi, 0, none⟩), .pointer (some ⟨bx, 0, none⟩)] w fun e w' => GotP (.tuple #[]) (fun k => .panicked [stp 157 k]) w rb bx 63 u0 l0 (some (x0, lx)) (Wdr) e w' := by
  refine calls_of_p (args := [.pointer (some ⟨br, 0, none⟩), .pointer (some ⟨bi, 0, none⟩), .pointer (some ⟨bx, 0, none⟩)]) ([rb, bx]) ([rdM rb a n c, (bx, row 63 (drV 0 (.slice none 0 0) (.slice none 0 0) (.slice none 0 0)))]) ([factB u0 l0, factO ib (inO rb), factO br (row 98 [.func (.func F) #[] #[]]), factO bi (row 73 [.pointer (some ⟨ib, 0, none⟩)])]) Tryz.func81 rfl rfl (okM2 hb hx hne hFS) ?_
  refine J_regionP ?_
  refine LP_one ?_
  refine L_v rfl rfl rfl (V_load rfl rfl Tryz.underlying98 rfl (fun w hw => cell_of (hw.facts _ (List.mem_cons_of_mem _ (List.mem_cons_of_mem _ (List.mem_cons_self ..)))).1 rfl)) ?_
  refine L_nil ?_
  refine LP_one ?_
  refine L_v rfl rfl rfl (V_load rfl rfl Tryz.underlying73 rfl (fun w hw => cell_of (hw.facts _ (List.mem_cons_of_mem _ (List.mem_cons_of_mem _ (List.mem_cons_of_mem _ (List.mem_cons_self ..))))).1 rfl)) ?_
  refine L_nil ?_
  refine LP_in 0 rfl rfl rfl rfl rfl rfl htx rfl (fun w1 hw => hone w1 _ _ _ _ (hw.at (i := 0) rfl) (fxIn hw rfl) hD hby hcn hl) (fun hk => (by rw [hG] at hk; cases hk)) (fun p1 l1 v1 fs1 a1 n1 c1 hr1 hV1 hc1 hD1 hnw1 => ?_)
  rw [hG] at hr1
  simp only [Option.some.injEq, Prod.mk.injEq] at hr1
  obtain ⟨rfl, rfl⟩ := hr1
  obtain ⟨us, ya1, yc1, ya2, yc2, ya3, yc3, hus, rfl, rfl⟩ := hV1
  refine LP_one ?_
  refine L_storeW 1 rfl rfl rfl rfl rfl rfl (szd sz63v (by kernel_rfl)) (all_one (by kernel_rfl)) (by kernel_rfl) ?_
  refine L_nil ?_
  refine LP_nil ?_
  change KretP _ _ _ Exit.normal _
  refine KretP_normal ?_
  refine KretP_plain ?_
  refine ret0 rfl rfl  ?_
  exact fun w' h => ⟨h.fr, _, _, a1, n1, c1, rfl, ⟨us, ya1, yc1, ya2, yc2, ya3, yc3, hus, rfl, rfl⟩, inFacts h (fun f hf => List.mem_cons_of_mem _ (List.mem_cons_of_mem _ (List.mem_cons_of_mem _ (List.mem_cons_of_mem _ hf)))) hnw1, h.at (i := 0) rfl, hc1, hD1, h.at (i := 1) rfl⟩

theorem gdirectory_w (rb ib br bi bx : Nat) (u0 : Value) (l0 : List Int) (F : FuncId) (htx : Txt Tryz.prog F) (hone : Rds F #[.pointer (some ⟨ib, 0, none⟩)] (drC).rn (Wdr) rb ib u0 l0) (w : World) (a : Option Addr) (n c : Nat) (l : List Int) (hb : w.heap[rb]? = some (row 139 [.slice a n c])) (hx : w.heap[bx]? = some (row 63 (drV 0 (.slice none 0 0) (.slice none 0 0) (.slice none 0 0)))) (hne : rb ≠ bx) (hFS : ∀ f ∈ [factB u0 l0, factO ib (inO rb), factO br (row 98 [.func (.func F) #[] #[]]), factO bi (row 73 [.pointer (some ⟨ib, 0, none⟩)])], f.p w ∧ ∀ k, f.fp k → k < w.heap.size ∧ k ≠ rb ∧ k ≠ bx) (hD : ∀ W, SlB W u0 l0 → SlB W (.slice a n c) l) (hby : Byt l) (hcn : n ≤ c) (hl : l.length ≤ 1099511627776) :
    Calls Tryz.prog 81 #[.pointer (some ⟨br, 0, none⟩), .pointer (some ⟨bi, 0, none⟩), .pointer (some ⟨bx, 0, none⟩)] w (GotP (.tuple #[]) (fun k => .panicked [stp 157 k]) w rb bx 63 u0 l0 ((drC).rn l) (Wdr)) := by
  cases hG : (drC).rn l with
  | none => exact gdirectory_no rb ib br bi bx u0 l0 F htx hone w a n c l hb hx hne hFS hD hby hcn hl hG
  | some p => exact gdirectory_yes rb ib br bi bx u0 l0 F htx hone p.1 p.2 w a n c l hb hx hne hFS hD hby hcn hl hG

theorem gotdirectory_w (F : FuncId) (htx : Txt Tryz.prog F) (a : Option Addr) (n c : Nat) (l : List Int) (hone : ∀ rb ib, Rds F #[.pointer (some ⟨ib, 0, none⟩)] (drC).rn (Wdr) rb ib (.slice a n c) l) (w : World) (hu : SlB w (.slice a n c) l) (hby : Byt l) (hcn : n ≤ c) (hl : l.length ≤ 1099511627776) :
    Calls Tryz.prog 52 #[.slice a n c, .func (.func F) #[] #[]] w fun e w' => GetR w (getW (drC) l) (Wdr) (.agg (drV 0 (.slice none 0 0) (.slice none 0 0) (.slice none 0 0)).toArray) e w' := by
  refine calls_of (args := [.slice a n c, .func (.func F) #[] #[]]) ([]) ([]) ([factB (.slice a n c) l]) Tryz.func52 rfl rfl (okW_facts (fun f hf => by obtain rfl := List.mem_singleton.1 hf; exact ⟨hu, factB_lt hu⟩)) ?_
  rcases hG : (drC).rn l with _ | ⟨x, l1⟩
  ·
    refine J_seq ?_
    refine J_region ?_
    refine L_box rfl rfl rfl rfl rfl (fun b0 => ?_)
    refine L_alloc rfl rfl rfl rfl z63v (fun b1 => ?_)
    refine L_v rfl rfl rfl (V_assign rfl rfl) ?_
    refine L_nil ?_
    change J _ _ _ _
    refine J_seq ?_
    refine J_region ?_
    refine L_alloc rfl rfl rfl rfl z63v (fun b2 => ?_)
    refine L_nil ?_
    change J _ _ _ _
    refine J_seq ?_
    refine J_region ?_
    refine L_v rfl rfl rfl (V_move rfl rfl) ?_
    refine L_call rfl rfl rfl rfl tx58v (fun w1 hw => (new_w a n c w1).mono ?_)
    rintro e w' ⟨b3, rfl, hfr, hsz, hb3⟩
    refine ⟨_, _, _, rfl, hw.add hfr hb3 hsz, rfl, ?_⟩
    refine L_v rfl rfl rfl (V_build (vs := [(0, .pointer (some ⟨b3, 0, none⟩))]) rfl rfl (bdIn b3)) ?_
    refine L_box rfl rfl rfl rfl rfl (fun b4 => ?_)
    refine L_alloc rfl rfl rfl rfl z73v (fun b5 => ?_)
    refine L_store1 5 rfl rfl rfl rfl rfl rfl rfl sz73v (by first | exact Nat.zero_lt_succ _ | (simp only [dg_length, List.length_append, List.length_take, List.length_drop, zd_length]; omega) | omega) (by first | rfl | exact dg_set _ _ _) ?_
    refine L_nil ?_
    change J _ _ _ _
    refine J_seq ?_
    refine J_region ?_
    refine L_v rfl rfl rfl (V_makeFunc rfl rfl rfl) ?_
    refine L_call rfl rfl rfl rfl tx32v (fun w1 hw => (tryIn_w 63 (Wdr) 81 #[.pointer (some ⟨b0, 0, none⟩), .pointer (some ⟨b5, 0, none⟩), .pointer (some ⟨b1, 0, none⟩)] w1 b3 b1 a n c (.slice a n c) l (drV 0 (.slice none 0 0) (.slice none 0 0) (.slice none 0 0)) [factB (.slice a n c) l, factO b4 (inO b3), factO b0 (row 98 [.func (.func F) #[] #[]]), factO b5 (row 73 [.pointer (some ⟨b4, 0, none⟩)])] ((drC).rn l) tx81v (hw.at (i := 3) rfl) (hw.at (i := 1) rfl) (fx4 hw).1 (fx4 hw).2 (fun w2 h1 h2 h3 => gdirectory_w b3 b4 b0 b5 b1 (.slice a n c) l F htx (hone b3 b4) w2 a n c l h1 h2 (fx4 hw).1 h3 (fun W h => h) hby hcn hl)).mono ?_)
    rw [hG]
    rintro e w' ⟨hfr, rfl⟩
    refine ⟨_, [(b1, row 63 (drV 0 (.slice none 0 0) (.slice none 0 0) (.slice none 0 0))), (b2, row 63 (drV 0 (.slice none 0 0) (.slice none 0 0) (.slice none 0 0)))], [factB (.slice a n c) l], rfl, dropGot hw hfr, rfl, ?_⟩
    refine L_v rfl rfl rfl (V_assign rfl rfl) ?_
    refine L_nil ?_
    change J _ _ _ _
    refine J_seq ?_
    refine J_seq ?_
    refine J_region ?_
    refine L_v rfl rfl rfl (V_move rfl rfl) ?_
    refine L_v rfl rfl rfl (V_neq rfl rfl rfl (by first | exact decide_eq_true (by omega) | exact decide_eq_false (by omega) | rfl)) ?_
    refine L_v rfl rfl rfl (V_move rfl rfl) ?_
    refine L_skip rfl rfl rfl rfl rfl rfl rfl ?_
    refine L_skip rfl rfl rfl rfl rfl rfl rfl ?_
    refine L_skip rfl rfl rfl rfl rfl rfl rfl ?_
    refine L_skip rfl rfl rfl rfl rfl rfl rfl ?_
    refine L_skip rfl rfl rfl rfl rfl rfl rfl ?_
    refine L_skip rfl rfl rfl rfl rfl rfl rfl ?_
    first | refine L_v rfl rfl rfl (V_pickT rfl rfl rfl) ?_ | refine L_v rfl rfl rfl (V_pickF rfl rfl rfl) ?_
    refine L_nil ?_
    change J _ _ _ _
    refine J_true rfl ?_
    refine J_seq ?_
    refine J_region ?_
    refine L_v rfl rfl rfl (V_loadW 1 rfl rfl rfl Tryz.underlying63 rfl (szd sz63v (by kernel_rfl))) ?_
    refine L_storeW 0 rfl rfl rfl rfl rfl rfl (szd sz63v (by kernel_rfl)) (all_one (by kernel_rfl)) (by kernel_rfl) ?_
    refine L_v rfl rfl rfl (V_assign rfl rfl) ?_
    refine L_nil ?_
    change J _ _ _ _
    refine J_ret ?_
    change Kret _ _ _ Exit.ret _
    refine ret2 rfl rfl (RV_c 0 rfl rfl Tryz.underlying63 rfl (szd sz63v (by kernel_rfl))) (RV_t rfl) ?_
    exact fun w' h => GetR.no (getW_1 hG) h.fr
  ·
    by_cases hl1 : l1 = []
    ·
      skip
      refine J_seq ?_
      refine J_region ?_
      refine L_box rfl rfl rfl rfl rfl (fun b0 => ?_)
      refine L_alloc rfl rfl rfl rfl z63v (fun b1 => ?_)
      refine L_v rfl rfl rfl (V_assign rfl rfl) ?_
      refine L_nil ?_
      change J _ _ _ _
      refine J_seq ?_
      refine J_region ?_
      refine L_alloc rfl rfl rfl rfl z63v (fun b2 => ?_)
      refine L_nil ?_
      change J _ _ _ _
      refine J_seq ?_
      refine J_region ?_
      refine L_v rfl rfl rfl (V_move rfl rfl) ?_
      refine L_call rfl rfl rfl rfl tx58v (fun w1 hw => (new_w a n c w1).mono ?_)
      rintro e w' ⟨b3, rfl, hfr, hsz, hb3⟩
      refine ⟨_, _, _, rfl, hw.add hfr hb3 hsz, rfl, ?_⟩
      refine L_v rfl rfl rfl (V_build (vs := [(0, .pointer (some ⟨b3, 0, none⟩))]) rfl rfl (bdIn b3)) ?_
      refine L_box rfl rfl rfl rfl rfl (fun b4 => ?_)
      refine L_alloc rfl rfl rfl rfl z73v (fun b5 => ?_)
      refine L_store1 5 rfl rfl rfl rfl rfl rfl rfl sz73v (by first | exact Nat.zero_lt_succ _ | (simp only [dg_length, List.length_append, List.length_take, List.length_drop, zd_length]; omega) | omega) (by first | rfl | exact dg_set _ _ _) ?_
      refine L_nil ?_
      change J _ _ _ _
      refine J_seq ?_
      refine J_region ?_
      refine L_v rfl rfl rfl (V_makeFunc rfl rfl rfl) ?_
      refine L_call rfl rfl rfl rfl tx32v (fun w1 hw => (tryIn_w 63 (Wdr) 81 #[.pointer (some ⟨b0, 0, none⟩), .pointer (some ⟨b5, 0, none⟩), .pointer (some ⟨b1, 0, none⟩)] w1 b3 b1 a n c (.slice a n c) l (drV 0 (.slice none 0 0) (.slice none 0 0) (.slice none 0 0)) [factB (.slice a n c) l, factO b4 (inO b3), factO b0 (row 98 [.func (.func F) #[] #[]]), factO b5 (row 73 [.pointer (some ⟨b4, 0, none⟩)])] ((drC).rn l) tx81v (hw.at (i := 3) rfl) (hw.at (i := 1) rfl) (fx4 hw).1 (fx4 hw).2 (fun w2 h1 h2 h3 => gdirectory_w b3 b4 b0 b5 b1 (.slice a n c) l F htx (hone b3 b4) w2 a n c l h1 h2 (fx4 hw).1 h3 (fun W h => h) hby hcn hl)).mono ?_)
      rw [hG]
      rintro e w' ⟨hfr, vs, fs9, a9, n9, c9, rfl, hV, hf9, hb9, hnc9, hD9, hx9⟩
      have hz9 := (hD9 w1 (fB hw 0 rfl)).size
      have hz8 : n9 = 0 := by rw [← hz9, hl1]; rfl
      have hnw9 : ∀ f ∈ fs9, ∀ k, f.fp k → w.heap.size ≤ k := fun f hf k hk => Nat.le_trans hw.fr.size ((hf9 f hf).2 k hk).1
      obtain ⟨us, ya1, yc1, ya2, yc2, ya3, yc3, hus, e9, rfl⟩ := hV
      obtain rfl : vs = drV x.1 (Sl ya1 us.length yc1) (Sl ya2 x.2.2.1.length yc2) (Sl ya3 x.2.2.2.length yc3) := agg_inj e9
      refine ⟨_, _, _, rfl, OkW.set2 hw (i := 3) (j := 1) rfl rfl (by decide) hfr hb9 hx9 hf9, rfl, ?_⟩
      refine L_v rfl rfl rfl (V_assign rfl rfl) ?_
      refine L_nil ?_
      change J _ _ _ _
      refine J_seq ?_
      refine J_seq ?_
      refine J_region ?_
      refine L_v rfl rfl rfl (V_move rfl rfl) ?_
      refine L_v rfl rfl rfl (V_neq rfl rfl rfl (by first | exact decide_eq_true (by omega) | exact decide_eq_false (by omega) | rfl)) ?_
      refine L_v rfl rfl rfl (V_move rfl rfl) ?_
      refine L_wv rfl rfl rfl rfl rfl rfl (V_load1 5 rfl rfl rfl Tryz.underlying73 rfl (by first | rfl | exact dg_get (by omega) (by omega))) ?_
      refine L_wv rfl rfl rfl rfl rfl rfl (V_nilCheck rfl rfl) ?_
      refine L_wv rfl rfl rfl rfl rfl rfl (V_fieldAddr rfl rfl Tryz.underlying113 rfl sz110v rfl) ?_
      refine L_wv rfl rfl rfl rfl rfl rfl (V_load1 4 rfl rfl rfl Tryz.underlying110 rfl rfl) ?_
      refine L_wcallV rfl rfl rfl rfl rfl rfl rfl rfl rfl tx60v (fun w1 hw => left_w b3 a9 n9 c9 w1 (hw.at (i := 3) rfl)) ?_
      refine L_wv rfl rfl rfl rfl rfl rfl (V_gtr rfl rfl rfl (by first | exact decide_eq_true (by omega) | exact decide_eq_false (by omega) | rfl)) ?_
      first | refine L_v rfl rfl rfl (V_pickT rfl rfl rfl) ?_ | refine L_v rfl rfl rfl (V_pickF rfl rfl rfl) ?_
      refine L_nil ?_
      change J _ _ _ _
      skip
      refine J_false rfl ?_
      refine J_skip ?_
      change J _ _ _ _
      refine J_seq ?_
      refine J_region ?_
      refine L_v rfl rfl rfl (V_loadW 1 rfl rfl rfl Tryz.underlying63 rfl (szd sz63v (by kernel_rfl))) ?_
      refine L_storeW 1 rfl rfl rfl rfl rfl rfl (szd sz63v (by kernel_rfl)) (all_one (by kernel_rfl)) (by kernel_rfl) ?_
      refine L_v rfl rfl rfl (V_assign rfl rfl) ?_
      refine L_nil ?_
      change J _ _ _ _
      refine J_ret ?_
      change Kret _ _ _ Exit.ret _
      refine ret2 rfl rfl (RV_c 1 rfl rfl Tryz.underlying63 rfl (szd sz63v (by kernel_rfl))) (RV_t rfl) ?_
      exact fun w' h => GetR.yes (getW_3 (by rw [hG, hl1])) h.fr ⟨us, ya1, yc1, ya2, yc2, ya3, yc3, hus, rfl, rfl⟩ (inFacts h (fun f hf => List.mem_cons_of_mem _ hf) hnw9)
    ·
      refine J_seq ?_
      refine J_region ?_
      refine L_box rfl rfl rfl rfl rfl (fun b0 => ?_)
      refine L_alloc rfl rfl rfl rfl z63v (fun b1 => ?_)
      refine L_v rfl rfl rfl (V_assign rfl rfl) ?_
      refine L_nil ?_
      change J _ _ _ _
      refine J_seq ?_
      refine J_region ?_
      refine L_alloc rfl rfl rfl rfl z63v (fun b2 => ?_)
      refine L_nil ?_
      change J _ _ _ _
      refine J_seq ?_
      refine J_region ?_
      refine L_v rfl rfl rfl (V_move rfl rfl) ?_
      refine L_call rfl rfl rfl rfl tx58v (fun w1 hw => (new_w a n c w1).mono ?_)
      rintro e w' ⟨b3, rfl, hfr, hsz, hb3⟩
      refine ⟨_, _, _, rfl, hw.add hfr hb3 hsz, rfl, ?_⟩
      refine L_v rfl rfl rfl (V_build (vs := [(0, .pointer (some ⟨b3, 0, none⟩))]) rfl rfl (bdIn b3)) ?_
      refine L_box rfl rfl rfl rfl rfl (fun b4 => ?_)
      refine L_alloc rfl rfl rfl rfl z73v (fun b5 => ?_)
      refine L_store1 5 rfl rfl rfl rfl rfl rfl rfl sz73v (by first | exact Nat.zero_lt_succ _ | (simp only [dg_length, List.length_append, List.length_take, List.length_drop, zd_length]; omega) | omega) (by first | rfl | exact dg_set _ _ _) ?_
      refine L_nil ?_
      change J _ _ _ _
      refine J_seq ?_
      refine J_region ?_
      refine L_v rfl rfl rfl (V_makeFunc rfl rfl rfl) ?_
      refine L_call rfl rfl rfl rfl tx32v (fun w1 hw => (tryIn_w 63 (Wdr) 81 #[.pointer (some ⟨b0, 0, none⟩), .pointer (some ⟨b5, 0, none⟩), .pointer (some ⟨b1, 0, none⟩)] w1 b3 b1 a n c (.slice a n c) l (drV 0 (.slice none 0 0) (.slice none 0 0) (.slice none 0 0)) [factB (.slice a n c) l, factO b4 (inO b3), factO b0 (row 98 [.func (.func F) #[] #[]]), factO b5 (row 73 [.pointer (some ⟨b4, 0, none⟩)])] ((drC).rn l) tx81v (hw.at (i := 3) rfl) (hw.at (i := 1) rfl) (fx4 hw).1 (fx4 hw).2 (fun w2 h1 h2 h3 => gdirectory_w b3 b4 b0 b5 b1 (.slice a n c) l F htx (hone b3 b4) w2 a n c l h1 h2 (fx4 hw).1 h3 (fun W h => h) hby hcn hl)).mono ?_)
      rw [hG]
      rintro e w' ⟨hfr, vs, fs9, a9, n9, c9, rfl, hV, hf9, hb9, hnc9, hD9, hx9⟩
      have hz9 := (hD9 w1 (fB hw 0 rfl)).size
      have hz8 : 0 < n9 := by rw [← hz9]; exact List.length_pos_iff.2 hl1
      have hnw9 : ∀ f ∈ fs9, ∀ k, f.fp k → w.heap.size ≤ k := fun f hf k hk => Nat.le_trans hw.fr.size ((hf9 f hf).2 k hk).1
      obtain ⟨us, ya1, yc1, ya2, yc2, ya3, yc3, hus, e9, rfl⟩ := hV
      obtain rfl : vs = drV x.1 (Sl ya1 us.length yc1) (Sl ya2 x.2.2.1.length yc2) (Sl ya3 x.2.2.2.length yc3) := agg_inj e9
      refine ⟨_, _, _, rfl, OkW.set2 hw (i := 3) (j := 1) rfl rfl (by decide) hfr hb9 hx9 hf9, rfl, ?_⟩
      refine L_v rfl rfl rfl (V_assign rfl rfl) ?_
      refine L_nil ?_
      change J _ _ _ _
      refine J_seq ?_
      refine J_seq ?_
      refine J_region ?_
      refine L_v rfl rfl rfl (V_move rfl rfl) ?_
      refine L_v rfl rfl rfl (V_neq rfl rfl rfl (by first | exact decide_eq_true (by omega) | exact decide_eq_false (by omega) | rfl)) ?_
      refine L_v rfl rfl rfl (V_move rfl rfl) ?_
      refine L_wv rfl rfl rfl rfl rfl rfl (V_load1 5 rfl rfl rfl Tryz.underlying73 rfl (by first | rfl | exact dg_get (by omega) (by omega))) ?_
      refine L_wv rfl rfl rfl rfl rfl rfl (V_nilCheck rfl rfl) ?_
      refine L_wv rfl rfl rfl rfl rfl rfl (V_fieldAddr rfl rfl Tryz.underlying113 rfl sz110v rfl) ?_
      refine L_wv rfl rfl rfl rfl rfl rfl (V_load1 4 rfl rfl rfl Tryz.underlying110 rfl rfl) ?_
      refine L_wcallV rfl rfl rfl rfl rfl rfl rfl rfl rfl tx60v (fun w1 hw => left_w b3 a9 n9 c9 w1 (hw.at (i := 3) rfl)) ?_
      refine L_wv rfl rfl rfl rfl rfl rfl (V_gtr rfl rfl rfl (by first | exact decide_eq_true (by omega) | exact decide_eq_false (by omega) | rfl)) ?_
      first | refine L_v rfl rfl rfl (V_pickT rfl rfl rfl) ?_ | refine L_v rfl rfl rfl (V_pickF rfl rfl rfl) ?_
      refine L_nil ?_
      change J _ _ _ _
      refine J_true rfl ?_
      refine J_seq ?_
      refine J_region ?_
      refine L_v rfl rfl rfl (V_loadW 2 rfl rfl rfl Tryz.underlying63 rfl (szd sz63v (by kernel_rfl))) ?_
      refine L_storeW 1 rfl rfl rfl rfl rfl rfl (szd sz63v (by kernel_rfl)) (all_one (by kernel_rfl)) (by kernel_rfl) ?_
      refine L_v rfl rfl rfl (V_assign rfl rfl) ?_
      refine L_nil ?_
      change J _ _ _ _
      refine J_ret ?_
      change Kret _ _ _ Exit.ret _
      refine ret2 rfl rfl (RV_c 1 rfl rfl Tryz.underlying63 rfl (szd sz63v (by kernel_rfl))) (RV_t rfl) ?_
      exact fun w' h => GetR.no (getW_2 hG hl1) h.fr

theorem getdirectory_w (a : Option Addr) (n c : Nat) (l : List Int) (w : World) (hu : SlB w (.slice a n c) l) (hby : Byt l) (hcn : n ≤ c) (hl : l.length ≤ 1099511627776) :
    Calls Tryz.prog 18 #[.slice a n c] w fun e w' => GetR w (getW (drC) l) (Wdr) (.agg (drV 0 (.slice none 0 0) (.slice none 0 0) (.slice none 0 0)).toArray) e w' := by
  refine calls_of (args := [.slice a n c]) ([]) ([]) ([factB (.slice a n c) l]) Tryz.func18 rfl rfl (okW_facts (fun f hf => by obtain rfl := List.mem_singleton.1 hf; exact ⟨hu, factB_lt hu⟩)) ?_
  rcases hG : getW (drC) l with _ | x
  ·
    refine J_seq ?_
    refine J_region ?_
    refine L_alloc rfl rfl rfl rfl z63v (fun b0 => ?_)
    refine L_v rfl rfl rfl (V_assign rfl rfl) ?_
    refine L_nil ?_
    change J _ _ _ _
    refine J_seq ?_
    refine J_region ?_
    refine L_v rfl rfl rfl (V_move rfl rfl) ?_
    refine L_call rfl rfl rfl rfl tx52v (fun w1 hw => (gotdirectory_w 53 tx53v a n c l (fun rb ib => (fun W a9 n9 c9 l9 h1 h2 h3 h4 h5 h6 => in_directory rb ib (.slice a n c) l W a9 n9 c9 l9 h1 h2 h3 h4 h5 h6)) w1 (fB hw 0 rfl) hby hcn hl).mono ?_)
    rw [hG]
    rintro e w' ⟨hfr, rfl⟩
    refine ⟨_, _, _, rfl, hw.fr0 hfr, rfl, ?_⟩
    refine L_v rfl rfl rfl (V_extract rfl rfl rfl) ?_
    refine L_v rfl rfl rfl (V_extract rfl rfl rfl) ?_
    refine L_storeW 0 rfl rfl rfl rfl rfl rfl (szd sz63v (by kernel_rfl)) (all_one (by kernel_rfl)) (by kernel_rfl) ?_
    refine L_v rfl rfl rfl (V_assign rfl rfl) ?_
    refine L_nil ?_
    change J _ _ _ _
    refine J_ret ?_
    change Kret _ _ _ Exit.ret _
    refine ret2 rfl rfl (RV_c 0 rfl rfl Tryz.underlying63 rfl (szd sz63v (by kernel_rfl))) (RV_t rfl) ?_
    exact fun w' h => ⟨h.fr, rfl⟩
  ·
    refine J_seq ?_
    refine J_region ?_
    refine L_alloc rfl rfl rfl rfl z63v (fun b0 => ?_)
    refine L_v rfl rfl rfl (V_assign rfl rfl) ?_
    refine L_nil ?_
    change J _ _ _ _
    refine J_seq ?_
    refine J_region ?_
    refine L_v rfl rfl rfl (V_move rfl rfl) ?_
    refine L_call rfl rfl rfl rfl tx52v (fun w1 hw => (gotdirectory_w 53 tx53v a n c l (fun rb ib => (fun W a9 n9 c9 l9 h1 h2 h3 h4 h5 h6 => in_directory rb ib (.slice a n c) l W a9 n9 c9 l9 h1 h2 h3 h4 h5 h6)) w1 (fB hw 0 rfl) hby hcn hl).mono ?_)
    rw [hG]
    rintro e w' ⟨hfr, v, fs9, rfl, hV, hf9⟩
    have hnw9 : ∀ f ∈ fs9, ∀ k, f.fp k → w.heap.size ≤ k := fun f hf k hk => Nat.le_trans hw.fr.size ((hf9 f hf).2 k hk).1
    obtain ⟨us, ya1, yc1, ya2, yc2, ya3, yc3, hus, rfl, rfl⟩ := hV
    refine ⟨_, _, _, rfl, OkW.fr0F hw hfr hf9, rfl, ?_⟩
    refine L_v rfl rfl rfl (V_extract rfl rfl rfl) ?_
    refine L_v rfl rfl rfl (V_extract rfl rfl rfl) ?_
    refine L_storeW 0 rfl rfl rfl rfl rfl rfl (szd sz63v (by kernel_rfl)) (all_one (by kernel_rfl)) (by kernel_rfl) ?_
    refine L_v rfl rfl rfl (V_assign rfl rfl) ?_
    refine L_nil ?_
    change J _ _ _ _
    refine J_ret ?_
    change Kret _ _ _ Exit.ret _
    refine ret2 rfl rfl (RV_c 0 rfl rfl Tryz.underlying63 rfl (szd sz63v (by kernel_rfl))) (RV_t rfl) ?_
    exact fun w' h => ⟨h.fr, _, _, rfl, ⟨us, ya1, yc1, ya2, yc2, ya3, yc3, hus, rfl, rfl⟩, inFacts h (fun f hf => List.mem_cons_of_mem _ hf) hnw9⟩

end Go.Proofs.YtfgcfjojpakpjaaGreat
