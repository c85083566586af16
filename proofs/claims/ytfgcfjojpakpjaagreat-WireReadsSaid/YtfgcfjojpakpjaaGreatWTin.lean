/- What the reference of layer 8 reads. -/
import Derived.Test.YtfgcfjojpakpjaaGreatSx14
import Derived.Test.YtfgcfjojpakpjaaGreatWIn5
set_option linter.unusedVariables false
set_option linter.unusedSimpArgs false
set_option maxRecDepth 100000
namespace Go.Proofs.YtfgcfjojpakpjaaGreat
open Go.Sx
theorem fxT {cx : Cx} {m : Mem} {f0 : Fact} {fs : List Fact} {w : World} {rb i : Nat} {p : Obj} (h : OkW cx m (f0 :: fs) w) (h0 : m[i]? = some (rb, p)) : Fx [f0] w rb := fun f hf => by
  obtain rfl := List.mem_singleton.1 hf
  have h1 := h.facts _ (List.mem_cons_self ..)
  exact ⟨h1.1, fun k hk => ⟨(h1.2 k hk).1, fun e => (h1.2 k hk).2 (by subst e; exact List.mem_map.2 ⟨_, List.mem_of_getElem? h0, rfl⟩)⟩⟩
theorem prF_e {α β : Type} {f : RSt → α × RSt} {g : RSt → β × RSt} {s s1 s2 : RSt} {x : α} {y : β} (h1 : f s = (x, s1)) (h2 : g s1 = (y, s2)) : prF f g s = ((x, y), s2) := by
  unfold prF
  rw [h1]
  simp only
  rw [h2]
theorem rcJ {l : List Int} (hby : Byt l) (h0 : (rc l).2.2 = 0) : ∃ j : Nat, (rc l).2.1 = j ∧ j ≤ l.length := by
  rcases rc_ok hby with ⟨_, _, _, k, h1, h2, h3, h4⟩ | ⟨hk, _⟩
  · exact ⟨k, by omega, by omega⟩
  · exact absurd h0 hk
theorem rbJ {l : List Int} (hby : Byt l) (h0 : (_root_.Go.Proofs.YtfgcfjojpakpjaaGreat.rb l).2.2 = 0) : ∃ j : Nat, (_root_.Go.Proofs.YtfgcfjojpakpjaaGreat.rb l).2.1 = j ∧ j ≤ l.length := by
  rcases rb_ok hby with ⟨_, k, h1, h2, h3, h4, h5⟩ | ⟨hk, _⟩
  · exact ⟨k, by omega, by omega⟩
  · exact absurd h0 hk
theorem rdJ {l : List Int} (h0 : (rd l).2.2 = 0) : ∃ j : Nat, (rd l).2.1 = j ∧ j ≤ l.length := by
  by_cases h : l.length < 32
  · unfold rd at h0
    rw [if_pos h] at h0
    exact absurd h0 (by decide)
  · refine ⟨32, ?_, by omega⟩
    unfold rd
    rw [if_neg h]
    rfl
theorem rd_l32' (l : List Int) : dg (rd l).1 = dg (l32 (ofL (rd l).1)) := by rw [l32_ofL (rd_size l)]
theorem agM.byt {s : RSt} (hb : Byt s.1) : Byt (manyF s).2.1 := by
  obtain ⟨k, hk⟩ := many_rest s
  rw [hk]
  exact fun x hx => hb x (List.mem_of_mem_drop hx)
theorem agM.short {s : RSt} {B : Nat} (hb : s.1.length ≤ B) : (manyF s).2.1.length ≤ B := by
  obtain ⟨k, hk⟩ := many_rest s
  rw [hk, List.length_drop]
  omega
theorem many_le (s : RSt) : (manyF s).1 ≤ 4096 := by
  unfold manyF
  split
  · exact (by decide : (0 : Int) ≤ 4096)
  · split
    · exact (by decide : (0 : Int) ≤ 4096)
    · omega
theorem loop_end {α : Type} {f : RSt → α × RSt} {N : Nat} {s s0 : RSt} {acc : List α} (h : loopF f (N - N) s acc = loopF f N s0 []) : loopF f N s0 [] = (acc, s) := by
  rw [← h, Nat.sub_self]
  rfl
theorem loop_stop {α : Type} {f : RSt → α × RSt} {k N : Nat} {l : List Int} {s0 : RSt} {acc : List α} (h : loopF f k (l, true) acc = loopF f N s0 []) : loopF f N s0 [] = (acc, (l, true)) := by
  rw [← h]
  cases k with
  | zero => rfl
  | succ k => exact if_pos rfl
theorem loop_go {α : Type} {f : RSt → α × RSt} {i N : Nat} {l : List Int} {s0 s1 : RSt} {acc : List α} {x : α} (hi : i < N) (h : loopF f (N - i) (l, false) acc = loopF f N s0 []) (h1 : f (l, false) = (x, s1)) : loopF f (N - (i + 1)) s1 (acc ++ [x]) = loopF f N s0 [] := by
  rw [← h, show N - i = (N - (i + 1)) + 1 by omega, loopF, if_neg (by simp), h1]
theorem lsF_e {α : Type} {f : RSt → α × RSt} {s s1 : RSt} {p : Int} (h : manyF s = (p, s1)) : lsF f s = loopF f p.toNat s1 [] := by
  unfold lsF
  rw [h]
theorem sz3ti : (Tryz.prog.info? 3).map (·.size) = some 1 := by kernel_rfl
theorem sz4ti : (Tryz.prog.info? 4).map (·.size) = some 1 := by kernel_rfl
theorem sz5ti : (Tryz.prog.info? 5).map (·.size) = some 1 := by kernel_rfl
theorem sz9ti : (Tryz.prog.info? 9).map (·.size) = some 1 := by kernel_rfl
theorem sz22ti : (Tryz.prog.info? 22).map (·.size) = some 1 := by kernel_rfl
theorem sz23ti : (Tryz.prog.info? 23).map (·.size) = some 1 := by kernel_rfl
theorem sz25ti : (Tryz.prog.info? 25).map (·.size) = some 32 := by kernel_rfl
theorem sz27ti : (Tryz.prog.info? 27).map (·.size) = some 38 := by kernel_rfl
theorem sz33ti : (Tryz.prog.info? 33).map (·.size) = some 1 := by kernel_rfl
theorem sz34ti : (Tryz.prog.info? 34).map (·.size) = some 1 := by kernel_rfl
theorem sz36ti : (Tryz.prog.info? 36).map (·.size) = some 2 := by kernel_rfl
theorem sz38ti : (Tryz.prog.info? 38).map (·.size) = some 43 := by kernel_rfl
theorem sz43ti : (Tryz.prog.info? 43).map (·.size) = some 1 := by kernel_rfl
theorem sz45ti : (Tryz.prog.info? 45).map (·.size) = some 5 := by kernel_rfl
theorem sz47ti : (Tryz.prog.info? 47).map (·.size) = some 65 := by kernel_rfl
theorem sz49ti : (Tryz.prog.info? 49).map (·.size) = some 97 := by kernel_rfl
theorem sz51ti : (Tryz.prog.info? 51).map (·.size) = some 149 := by kernel_rfl
theorem tx29ti : Txt Tryz.prog 29 := txt_of Tryz.func29 rfl (by kernel_rfl)
theorem tx37ti : Txt Tryz.prog 37 := txt_of Tryz.func37 rfl (by kernel_rfl)
theorem tx49ti : Txt Tryz.prog 49 := txt_of Tryz.func49 rfl (by kernel_rfl)
theorem tx64ti : Txt Tryz.prog 64 := txt_of Tryz.func64 rfl (by kernel_rfl)
theorem tx65ti : Txt Tryz.prog 65 := txt_of Tryz.func65 rfl (by kernel_rfl)
theorem tx66ti : Txt Tryz.prog 66 := txt_of Tryz.func66 rfl (by kernel_rfl)
theorem tx73ti : Txt Tryz.prog 73 := txt_of Tryz.func73 rfl (by kernel_rfl)
theorem tx79ti : Txt Tryz.prog 79 := txt_of Tryz.func79 rfl (by kernel_rfl)
theorem tx88ti : Txt Tryz.prog 88 := txt_of Tryz.func88 rfl (by kernel_rfl)
theorem tx100ti : Txt Tryz.prog 100 := txt_of Tryz.func100 rfl (by kernel_rfl)
theorem tx101ti : Txt Tryz.prog 101 := txt_of Tryz.func101 rfl (by kernel_rfl)
theorem tx102ti : Txt Tryz.prog 102 := txt_of Tryz.func102 rfl (by kernel_rfl)
theorem tx103ti : Txt Tryz.prog 103 := txt_of Tryz.func103 rfl (by kernel_rfl)
theorem tx108ti : Txt Tryz.prog 108 := txt_of Tryz.func108 rfl (by kernel_rfl)
theorem z25ti : (Tryz.prog.info? 25).bind (·.zero) = some (.agg (dg zd).toArray) := by kernel_rfl
theorem z27ti : (Tryz.prog.info? 27).bind (·.zero) = some (.agg [.int .i64 0, .int .i64 0, .int .i64 0, .string ByteArray.empty, .string ByteArray.empty, .int .i64 0, .int .u8 0, .int .u8 0, .int .u8 0, .int .u8 0, .int .u8 0, .int .u8 0, .int .u8 0, .int .u8 0, .int .u8 0, .int .u8 0, .int .u8 0, .int .u8 0, .int .u8 0, .int .u8 0, .int .u8 0, .int .u8 0, .int .u8 0, .int .u8 0, .int .u8 0, .int .u8 0, .int .u8 0, .int .u8 0, .int .u8 0, .int .u8 0, .int .u8 0, .int .u8 0, .int .u8 0, .int .u8 0, .int .u8 0, .int .u8 0, .int .u8 0, .int .u8 0].toArray) := by kernel_rfl
theorem z36ti : (Tryz.prog.info? 36).bind (·.zero) = some (.agg [.slice none 0 0, .slice none 0 0].toArray) := by kernel_rfl
theorem z38ti : (Tryz.prog.info? 38).bind (·.zero) = some (.agg [.int .i64 0, .int .i64 0, .int .i64 0, .int .i64 0, .int .i64 0, .int .i64 0, .string ByteArray.empty, .string ByteArray.empty, .int .i64 0, .int .u8 0, .int .u8 0, .int .u8 0, .int .u8 0, .int .u8 0, .int .u8 0, .int .u8 0, .int .u8 0, .int .u8 0, .int .u8 0, .int .u8 0, .int .u8 0, .int .u8 0, .int .u8 0, .int .u8 0, .int .u8 0, .int .u8 0, .int .u8 0, .int .u8 0, .int .u8 0, .int .u8 0, .int .u8 0, .int .u8 0, .int .u8 0, .int .u8 0, .int .u8 0, .int .u8 0, .int .u8 0, .int .u8 0, .int .u8 0, .int .u8 0, .int .u8 0, .slice none 0 0, .slice none 0 0].toArray) := by kernel_rfl
theorem z47ti : (Tryz.prog.info? 47).bind (·.zero) = some (.agg [.int .i64 0, .int .u8 0, .int .u8 0, .int .u8 0, .int .u8 0, .int .u8 0, .int .u8 0, .int .u8 0, .int .u8 0, .int .u8 0, .int .u8 0, .int .u8 0, .int .u8 0, .int .u8 0, .int .u8 0, .int .u8 0, .int .u8 0, .int .u8 0, .int .u8 0, .int .u8 0, .int .u8 0, .int .u8 0, .int .u8 0, .int .u8 0, .int .u8 0, .int .u8 0, .int .u8 0, .int .u8 0, .int .u8 0, .int .u8 0, .int .u8 0, .int .u8 0, .int .u8 0, .int .u8 0, .int .u8 0, .int .u8 0, .int .u8 0, .int .u8 0, .int .u8 0, .int .u8 0, .int .u8 0, .int .u8 0, .int .u8 0, .int .u8 0, .int .u8 0, .int .u8 0, .int .u8 0, .int .u8 0, .int .u8 0, .int .u8 0, .int .u8 0, .int .u8 0, .int .u8 0, .int .u8 0, .int .u8 0, .int .u8 0, .int .u8 0, .int .u8 0, .int .u8 0, .int .u8 0, .int .u8 0, .int .u8 0, .int .u8 0, .int .u8 0, .int .u8 0].toArray) := by kernel_rfl
theorem z49ti : (Tryz.prog.info? 49).bind (·.zero) = some (.agg [.int .i64 0, .int .u8 0, .int .u8 0, .int .u8 0, .int .u8 0, .int .u8 0, .int .u8 0, .int .u8 0, .int .u8 0, .int .u8 0, .int .u8 0, .int .u8 0, .int .u8 0, .int .u8 0, .int .u8 0, .int .u8 0, .int .u8 0, .int .u8 0, .int .u8 0, .int .u8 0, .int .u8 0, .int .u8 0, .int .u8 0, .int .u8 0, .int .u8 0, .int .u8 0, .int .u8 0, .int .u8 0, .int .u8 0, .int .u8 0, .int .u8 0, .int .u8 0, .int .u8 0, .int .u8 0, .int .u8 0, .int .u8 0, .int .u8 0, .int .u8 0, .int .u8 0, .int .u8 0, .int .u8 0, .int .u8 0, .int .u8 0, .int .u8 0, .int .u8 0, .int .u8 0, .int .u8 0, .int .u8 0, .int .u8 0, .int .u8 0, .int .u8 0, .int .u8 0, .int .u8 0, .int .u8 0, .int .u8 0, .int .u8 0, .int .u8 0, .int .u8 0, .int .u8 0, .int .u8 0, .int .u8 0, .int .u8 0, .int .u8 0, .int .u8 0, .int .u8 0, .int .u8 0, .int .u8 0, .int .u8 0, .int .u8 0, .int .u8 0, .int .u8 0, .int .u8 0, .int .u8 0, .int .u8 0, .int .u8 0, .int .u8 0, .int .u8 0, .int .u8 0, .int .u8 0, .int .u8 0, .int .u8 0, .int .u8 0, .int .u8 0, .int .u8 0, .int .u8 0, .int .u8 0, .int .u8 0, .int .u8 0, .int .u8 0, .int .u8 0, .int .u8 0, .int .u8 0, .int .u8 0, .int .u8 0, .int .u8 0, .int .u8 0, .int .u8 0].toArray) := by kernel_rfl
theorem z51ti : (Tryz.prog.info? 51).bind (·.zero) = some (.agg [.int .i64 0, .int .i64 0, .int .i64 0, .int .i64 0, .int .i64 0, .int .i64 0, .int .i64 0, .int .i64 0, .int .i64 0, .string ByteArray.empty, .string ByteArray.empty, .int .i64 0, .int .u8 0, .int .u8 0, .int .u8 0, .int .u8 0, .int .u8 0, .int .u8 0, .int .u8 0, .int .u8 0, .int .u8 0, .int .u8 0, .int .u8 0, .int .u8 0, .int .u8 0, .int .u8 0, .int .u8 0, .int .u8 0, .int .u8 0, .int .u8 0, .int .u8 0, .int .u8 0, .int .u8 0, .int .u8 0, .int .u8 0, .int .u8 0, .int .u8 0, .int .u8 0, .int .u8 0, .int .u8 0, .int .u8 0, .int .u8 0, .int .u8 0, .int .u8 0, .slice none 0 0, .slice none 0 0, .int .i64 0, .int .i64 0, .int .i64 0, .slice none 0 0, .slice none 0 0, .string ByteArray.empty, .int .i64 0, .int .u8 0, .int .u8 0, .int .u8 0, .int .u8 0, .int .u8 0, .int .u8 0, .int .u8 0, .int .u8 0, .int .u8 0, .int .u8 0, .int .u8 0, .int .u8 0, .int .u8 0, .int .u8 0, .int .u8 0, .int .u8 0, .int .u8 0, .int .u8 0, .int .u8 0, .int .u8 0, .int .u8 0, .int .u8 0, .int .u8 0, .int .u8 0, .int .u8 0, .int .u8 0, .int .u8 0, .int .u8 0, .int .u8 0, .int .u8 0, .int .u8 0, .int .u8 0, .int .u8 0, .int .u8 0, .int .u8 0, .int .u8 0, .int .u8 0, .int .u8 0, .int .u8 0, .int .u8 0, .int .u8 0, .int .u8 0, .int .u8 0, .int .u8 0, .int .u8 0, .int .u8 0, .int .u8 0, .int .u8 0, .int .u8 0, .int .u8 0, .int .u8 0, .int .u8 0, .int .u8 0, .int .u8 0, .int .u8 0, .int .u8 0, .int .u8 0, .int .u8 0, .int .u8 0, .int .u8 0, .int .u8 0, .int .u8 0, .int .u8 0, .int .u8 0, .int .u8 0, .int .u8 0, .int .u8 0, .int .u8 0, .int .u8 0, .int .u8 0, .int .u8 0, .int .u8 0, .int .u8 0, .int .u8 0, .int .u8 0, .int .u8 0, .int .u8 0, .int .u8 0, .int .u8 0, .int .u8 0, .int .u8 0, .int .u8 0, .int .u8 0, .int .u8 0, .int .u8 0, .int .u8 0, .int .u8 0, .int .u8 0, .int .u8 0, .int .u8 0, .int .u8 0, .int .u8 0, .int .u8 0, .int .u8 0, .int .u8 0, .int .u8 0].toArray) := by kernel_rfl

theorem step_no (rb : Nat) (a : Option Addr) (n c : Nat) (bd : Bool) (m k : Int) (w : World) (hb : w.heap[rb]? = some (row 76 [.slice a n c, .bool bd])) (hk : k ≠ 0) :
    Calls Tryz.prog 101 #[.pointer (some ⟨rb, 0, none⟩), vi m, vi k] w fun e w' => e = .returned (.tuple #[]) ∧ Fr [rb] w w' ∧ w'.heap[rb]? = some (row 76 [.slice none 0 0, .bool true]) := by
  refine calls_of (args := [.pointer (some ⟨rb, 0, none⟩), vi m, vi k]) ([rb]) ([(rb, row 76 [.slice a n c, .bool bd])]) ([]) Tryz.func101 rfl rfl (okM1 hb (by intro f hf; cases hf)) ?_
  refine J_seq ?_
  refine J_seq ?_
  refine J_region ?_
  refine L_v rfl rfl rfl (V_move rfl rfl) ?_
  refine L_v rfl rfl rfl (V_neq rfl rfl rfl (decide_eq_true hk)) ?_
  refine L_nil ?_
  change J _ _ _ _
  refine J_true rfl ?_
  refine J_seq ?_
  refine J_region ?_
  refine L_v rfl rfl rfl (V_move rfl rfl) ?_
  refine L_v rfl rfl rfl (V_nilCheck rfl rfl) ?_
  refine L_v rfl rfl rfl (V_fieldAddr rfl rfl Tryz.underlying76 rfl sz4ti rfl) ?_
  refine L_store1 0 rfl rfl rfl rfl rfl rfl rfl sz4ti (by first | exact Nat.zero_lt_succ _ | exact (by decide : 1 < 2) | exact (Nat.le_of_ble_eq_true (by kernel_rfl))) (by first | rfl | exact dg_set _ _ _) ?_
  refine L_nil ?_
  change J _ _ _ _
  refine J_seq ?_
  refine J_region ?_
  refine L_v rfl rfl rfl (V_move rfl rfl) ?_
  refine L_v rfl rfl rfl (V_nilCheck rfl rfl) ?_
  refine L_v rfl rfl rfl (V_fieldAddr rfl rfl Tryz.underlying76 rfl sz22ti rfl) ?_
  refine L_store1 0 rfl rfl rfl rfl rfl rfl rfl sz22ti (by first | exact Nat.zero_lt_succ _ | exact (by decide : 1 < 2) | exact (Nat.le_of_ble_eq_true (by kernel_rfl))) (by first | rfl | exact dg_set _ _ _) ?_
  refine L_nil ?_
  change J _ _ _ _
  refine J_ret ?_
  change Kret _ _ _ Exit.ret _
  refine ret0 rfl rfl  ?_
  exact fun w' h => ⟨rfl, h.fr, h.at (i := 0) rfl⟩

theorem step_ok (rb : Nat) (a : Option Addr) (n c : Nat) (bd : Bool) (m k : Int) (j : Nat) (w : World) (hb : w.heap[rb]? = some (row 76 [.slice a n c, .bool bd])) (hk : k = 0) (hm : m = j) (hj : j ≤ n) (hcn : n ≤ c) :
    Calls Tryz.prog 101 #[.pointer (some ⟨rb, 0, none⟩), vi m, vi k] w fun e w' => ∃ a1 n1 c1, e = .returned (.tuple #[]) ∧ Fr [rb] w w' ∧ w'.heap[rb]? = some (row 76 [.slice a1 n1 c1, .bool bd]) ∧ n1 ≤ c1 ∧ ∀ W L, SlB W (.slice a n c) L → SlB W (.slice a1 n1 c1) (L.drop j) := by
  refine calls_of (args := [.pointer (some ⟨rb, 0, none⟩), vi m, vi k]) ([rb]) ([(rb, row 76 [.slice a n c, .bool bd])]) ([]) Tryz.func101 rfl rfl (okM1 hb (by intro f hf; cases hf)) ?_
  refine J_seq ?_
  refine J_seq ?_
  refine J_region ?_
  refine L_v rfl rfl rfl (V_move rfl rfl) ?_
  refine L_v rfl rfl rfl (V_neq rfl rfl rfl (decide_eq_false (fun h => h hk))) ?_
  refine L_nil ?_
  change J _ _ _ _
  refine J_false rfl ?_
  refine J_skip ?_
  change J _ _ _ _
  refine J_region ?_
  refine L_v rfl rfl rfl (V_move rfl rfl) ?_
  refine L_v rfl rfl rfl (V_move rfl rfl) ?_
  refine L_v rfl rfl rfl (V_nilCheck rfl rfl) ?_
  refine L_v rfl rfl rfl (V_fieldAddr rfl rfl Tryz.underlying76 rfl sz22ti rfl) ?_
  refine L_v rfl rfl rfl (V_load1 0 rfl rfl rfl Tryz.underlying22 rfl (by first | rfl | exact dg_get (by omega) (by omega))) ?_
  refine L_v rfl rfl rfl (V_move rfl rfl) ?_
  refine L_v rfl rfl rfl (V_sliceS rfl rfl Tryz.underlying22 sz5ti (Bd.at (v := j) rfl hm) rfl rfl rfl (by first | omega | (simp; omega)) (by first | omega | (simp; omega)) (by first | omega | (simp; omega)) rfl) ?_
  refine L_v rfl rfl rfl (V_nilCheck rfl rfl) ?_
  refine L_v rfl rfl rfl (V_fieldAddr rfl rfl Tryz.underlying76 rfl sz22ti rfl) ?_
  refine L_store1 0 rfl rfl rfl rfl rfl rfl rfl sz22ti (by first | exact Nat.zero_lt_succ _ | exact (by decide : 1 < 2) | exact (Nat.le_of_ble_eq_true (by kernel_rfl))) (by first | rfl | exact dg_set _ _ _) ?_
  refine L_nil ?_
  change Kret _ _ _ Exit.normal _
  refine Kret_normal ?_
  refine ret0 rfl rfl  ?_
  exact fun w' h => ⟨_, _, _, rfl, h.fr, h.at (i := 0) rfl, by omega, fun W L hW => by
    have := hW.part (l := j) (hh := n) (m := c) (by omega) (Nat.le_refl _) hcn
    have hz := hW.size
    rwa [List.take_of_length_le (by rw [List.length_drop]; omega)] at this⟩

theorem tn_w (rb : Nat) (u0 : Value) (l0 : List Int) (w : World) (a : Option Addr) (n c : Nat) (l : List Int) (bd : Bool) (hb : w.heap[rb]? = some (row 76 [.slice a n c, .bool bd])) (hfs : Fx [factB u0 l0] w rb) (hD : ∀ W, SlB W u0 l0 → SlB W (.slice a n c) l) (hby : Byt l) (hcn : n ≤ c) (hl : l.length ≤ 1099511627776) :
    Calls Tryz.prog 64 #[.pointer (some ⟨rb, 0, none⟩)] w fun e w' => InT 76 w rb u0 l0 (cF (l, bd)) (Vi) e w' := by
  refine calls_of (args := [.pointer (some ⟨rb, 0, none⟩)]) ([rb]) ([(rb, row 76 [.slice a n c, .bool bd])]) ([factB u0 l0]) Tryz.func64 rfl rfl (okM1 hb hfs) ?_
  by_cases h0 : (rc l).2.2 = 0
  ·
    obtain ⟨j, hj1, hj2⟩ := rcJ hby h0
    refine J_seq ?_
    refine J_region ?_
    refine L_v rfl rfl rfl (V_assign rfl rfl) ?_
    refine L_nil ?_
    change J _ _ _ _
    refine J_seq ?_
    refine J_region ?_
    refine L_v rfl rfl rfl (V_move rfl rfl) ?_
    refine L_v rfl rfl rfl (V_nilCheck rfl rfl) ?_
    refine L_v rfl rfl rfl (V_fieldAddr rfl rfl Tryz.underlying76 rfl sz22ti rfl) ?_
    refine L_v rfl rfl rfl (V_load1 0 rfl rfl rfl Tryz.underlying22 rfl (by first | rfl | exact dg_get (by omega) (by omega))) ?_
    refine L_callV rfl rfl rfl rfl rfl rfl tx100ti (fun w1 hw => readCount_w a n c l w1 (hD w1 (fB hw 0 rfl)) hby hcn (by have := (hD w1 (fB hw 0 rfl)).size; omega)) ?_
    refine L_v rfl rfl rfl (V_move rfl rfl) ?_
    refine L_v rfl rfl rfl (V_extract rfl rfl rfl) ?_
    refine L_v rfl rfl rfl (V_extract rfl rfl rfl) ?_
    refine L_v rfl rfl rfl (V_extract rfl rfl rfl) ?_
    refine L_v rfl rfl rfl (V_assign rfl rfl) ?_
    refine L_v rfl rfl rfl (V_assign rfl rfl) ?_
    refine L_v rfl rfl rfl (V_assign rfl rfl) ?_
    refine L_nil ?_
    change J _ _ _ _
    refine J_seq ?_
    refine J_region ?_
    refine L_v rfl rfl rfl (V_move rfl rfl) ?_
    refine L_v rfl rfl rfl (V_move rfl rfl) ?_
    refine L_v rfl rfl rfl (V_move rfl rfl) ?_
    refine L_call rfl rfl rfl rfl tx101ti (fun w1 hw => (step_ok rb a n c bd _ _ j w1 (hw.at (i := 0) rfl) h0 hj1 (by have := (hD w1 (fB hw 0 rfl)).size; omega) hcn).mono ?_)
    rintro e w' ⟨a1, n1, c1, rfl, hfr1, hb1, hc1, hs1⟩
    refine ⟨_, _, _, rfl, hw.set (i := 0) rfl hfr1 hb1, rfl, ?_⟩
    refine L_nil ?_
    change J _ _ _ _
    refine J_seq ?_
    refine J_region ?_
    refine L_v rfl rfl rfl (V_move rfl rfl) ?_
    refine L_v rfl rfl rfl (V_assign rfl rfl) ?_
    refine L_nil ?_
    change J _ _ _ _
    refine J_ret ?_
    change Kret _ _ _ Exit.ret _
    refine ret1 rfl rfl (RV_t rfl) ?_
    exact fun w' h => InT.of h.fr ⟨rfl, rfl⟩ (by simp) (h.at (i := 0) rfl) hc1 (fun W hW => hs1 W l (hD W hW)) (by show (cF (l, bd)).2 = (l.drop j, bd); unfold cF; simp only; rw [if_pos h0, hj1, Int.toNat_natCast])
  ·
    refine J_seq ?_
    refine J_region ?_
    refine L_v rfl rfl rfl (V_assign rfl rfl) ?_
    refine L_nil ?_
    change J _ _ _ _
    refine J_seq ?_
    refine J_region ?_
    refine L_v rfl rfl rfl (V_move rfl rfl) ?_
    refine L_v rfl rfl rfl (V_nilCheck rfl rfl) ?_
    refine L_v rfl rfl rfl (V_fieldAddr rfl rfl Tryz.underlying76 rfl sz22ti rfl) ?_
    refine L_v rfl rfl rfl (V_load1 0 rfl rfl rfl Tryz.underlying22 rfl (by first | rfl | exact dg_get (by omega) (by omega))) ?_
    refine L_callV rfl rfl rfl rfl rfl rfl tx100ti (fun w1 hw => readCount_w a n c l w1 (hD w1 (fB hw 0 rfl)) hby hcn (by have := (hD w1 (fB hw 0 rfl)).size; omega)) ?_
    refine L_v rfl rfl rfl (V_move rfl rfl) ?_
    refine L_v rfl rfl rfl (V_extract rfl rfl rfl) ?_
    refine L_v rfl rfl rfl (V_extract rfl rfl rfl) ?_
    refine L_v rfl rfl rfl (V_extract rfl rfl rfl) ?_
    refine L_v rfl rfl rfl (V_assign rfl rfl) ?_
    refine L_v rfl rfl rfl (V_assign rfl rfl) ?_
    refine L_v rfl rfl rfl (V_assign rfl rfl) ?_
    refine L_nil ?_
    change J _ _ _ _
    refine J_seq ?_
    refine J_region ?_
    refine L_v rfl rfl rfl (V_move rfl rfl) ?_
    refine L_v rfl rfl rfl (V_move rfl rfl) ?_
    refine L_v rfl rfl rfl (V_move rfl rfl) ?_
    refine L_call rfl rfl rfl rfl tx101ti (fun w1 hw => (step_no rb a n c bd _ _ w1 (hw.at (i := 0) rfl) h0).mono ?_)
    rintro e w' ⟨rfl, hfr1, hb1⟩
    refine ⟨_, _, _, rfl, hw.set (i := 0) rfl hfr1 hb1, rfl, ?_⟩
    refine L_nil ?_
    change J _ _ _ _
    refine J_seq ?_
    refine J_region ?_
    refine L_v rfl rfl rfl (V_move rfl rfl) ?_
    refine L_v rfl rfl rfl (V_assign rfl rfl) ?_
    refine L_nil ?_
    change J _ _ _ _
    refine J_ret ?_
    change Kret _ _ _ Exit.ret _
    refine ret1 rfl rfl (RV_t rfl) ?_
    exact fun w' h => InT.of h.fr ⟨rfl, rfl⟩ (by simp) (h.at (i := 0) rfl) (Nat.le_refl _) (fun W hW => .inl ⟨rfl, none, 0, rfl⟩) (by show (cF (l, bd)).2 = ([], true); unfold cF; simp only; rw [if_neg h0])

theorem ts_w (rb : Nat) (u0 : Value) (l0 : List Int) (w : World) (a : Option Addr) (n c : Nat) (l : List Int) (bd : Bool) (hb : w.heap[rb]? = some (row 76 [.slice a n c, .bool bd])) (hfs : Fx [factB u0 l0] w rb) (hD : ∀ W, SlB W u0 l0 → SlB W (.slice a n c) l) (hby : Byt l) (hcn : n ≤ c) (hl : l.length ≤ 1099511627776) :
    Calls Tryz.prog 65 #[.pointer (some ⟨rb, 0, none⟩)] w fun e w' => InT 76 w rb u0 l0 (sF (l, bd)) (Vs) e w' := by
  refine calls_of (args := [.pointer (some ⟨rb, 0, none⟩)]) ([rb]) ([(rb, row 76 [.slice a n c, .bool bd])]) ([factB u0 l0]) Tryz.func65 rfl rfl (okM1 hb hfs) ?_
  by_cases h0 : (_root_.Go.Proofs.YtfgcfjojpakpjaaGreat.rb l).2.2 = 0
  ·
    obtain ⟨j, hj1, hj2⟩ := rbJ hby h0
    refine J_seq ?_
    refine J_region ?_
    refine L_v rfl rfl rfl (V_assign rfl rfl) ?_
    refine L_nil ?_
    change J _ _ _ _
    refine J_seq ?_
    refine J_region ?_
    refine L_v rfl rfl rfl (V_move rfl rfl) ?_
    refine L_v rfl rfl rfl (V_nilCheck rfl rfl) ?_
    refine L_v rfl rfl rfl (V_fieldAddr rfl rfl Tryz.underlying76 rfl sz22ti rfl) ?_
    refine L_v rfl rfl rfl (V_load1 0 rfl rfl rfl Tryz.underlying22 rfl (by first | rfl | exact dg_get (by omega) (by omega))) ?_
    refine L_callV rfl rfl rfl rfl rfl rfl tx102ti (fun w1 hw => readBytes_w a n c l w1 (hD w1 (fB hw 0 rfl)) hby hcn (by have := (hD w1 (fB hw 0 rfl)).size; omega)) ?_
    refine L_v rfl rfl rfl (V_move rfl rfl) ?_
    refine L_v rfl rfl rfl (V_extract rfl rfl rfl) ?_
    refine L_v rfl rfl rfl (V_extract rfl rfl rfl) ?_
    refine L_v rfl rfl rfl (V_extract rfl rfl rfl) ?_
    refine L_v rfl rfl rfl (V_assign rfl rfl) ?_
    refine L_v rfl rfl rfl (V_assign rfl rfl) ?_
    refine L_v rfl rfl rfl (V_assign rfl rfl) ?_
    refine L_nil ?_
    change J _ _ _ _
    refine J_seq ?_
    refine J_region ?_
    refine L_v rfl rfl rfl (V_move rfl rfl) ?_
    refine L_v rfl rfl rfl (V_move rfl rfl) ?_
    refine L_v rfl rfl rfl (V_move rfl rfl) ?_
    refine L_call rfl rfl rfl rfl tx101ti (fun w1 hw => (step_ok rb a n c bd _ _ j w1 (hw.at (i := 0) rfl) h0 hj1 (by have := (hD w1 (fB hw 0 rfl)).size; omega) hcn).mono ?_)
    rintro e w' ⟨a1, n1, c1, rfl, hfr1, hb1, hc1, hs1⟩
    refine ⟨_, _, _, rfl, hw.set (i := 0) rfl hfr1 hb1, rfl, ?_⟩
    refine L_nil ?_
    change J _ _ _ _
    refine J_seq ?_
    refine J_region ?_
    refine L_v rfl rfl rfl (V_move rfl rfl) ?_
    refine L_v rfl rfl rfl (V_assign rfl rfl) ?_
    refine L_nil ?_
    change J _ _ _ _
    refine J_ret ?_
    change Kret _ _ _ Exit.ret _
    refine ret1 rfl rfl (RV_t rfl) ?_
    exact fun w' h => InT.of h.fr ⟨rfl, rfl⟩ (by simp) (h.at (i := 0) rfl) hc1 (fun W hW => hs1 W l (hD W hW)) (by show (sF (l, bd)).2 = (l.drop j, bd); unfold sF; simp only; rw [if_pos h0, hj1, Int.toNat_natCast])
  ·
    refine J_seq ?_
    refine J_region ?_
    refine L_v rfl rfl rfl (V_assign rfl rfl) ?_
    refine L_nil ?_
    change J _ _ _ _
    refine J_seq ?_
    refine J_region ?_
    refine L_v rfl rfl rfl (V_move rfl rfl) ?_
    refine L_v rfl rfl rfl (V_nilCheck rfl rfl) ?_
    refine L_v rfl rfl rfl (V_fieldAddr rfl rfl Tryz.underlying76 rfl sz22ti rfl) ?_
    refine L_v rfl rfl rfl (V_load1 0 rfl rfl rfl Tryz.underlying22 rfl (by first | rfl | exact dg_get (by omega) (by omega))) ?_
    refine L_callV rfl rfl rfl rfl rfl rfl tx102ti (fun w1 hw => readBytes_w a n c l w1 (hD w1 (fB hw 0 rfl)) hby hcn (by have := (hD w1 (fB hw 0 rfl)).size; omega)) ?_
    refine L_v rfl rfl rfl (V_move rfl rfl) ?_
    refine L_v rfl rfl rfl (V_extract rfl rfl rfl) ?_
    refine L_v rfl rfl rfl (V_extract rfl rfl rfl) ?_
    refine L_v rfl rfl rfl (V_extract rfl rfl rfl) ?_
    refine L_v rfl rfl rfl (V_assign rfl rfl) ?_
    refine L_v rfl rfl rfl (V_assign rfl rfl) ?_
    refine L_v rfl rfl rfl (V_assign rfl rfl) ?_
    refine L_nil ?_
    change J _ _ _ _
    refine J_seq ?_
    refine J_region ?_
    refine L_v rfl rfl rfl (V_move rfl rfl) ?_
    refine L_v rfl rfl rfl (V_move rfl rfl) ?_
    refine L_v rfl rfl rfl (V_move rfl rfl) ?_
    refine L_call rfl rfl rfl rfl tx101ti (fun w1 hw => (step_no rb a n c bd _ _ w1 (hw.at (i := 0) rfl) h0).mono ?_)
    rintro e w' ⟨rfl, hfr1, hb1⟩
    refine ⟨_, _, _, rfl, hw.set (i := 0) rfl hfr1 hb1, rfl, ?_⟩
    refine L_nil ?_
    change J _ _ _ _
    refine J_seq ?_
    refine J_region ?_
    refine L_v rfl rfl rfl (V_move rfl rfl) ?_
    refine L_v rfl rfl rfl (V_assign rfl rfl) ?_
    refine L_nil ?_
    change J _ _ _ _
    refine J_ret ?_
    change Kret _ _ _ Exit.ret _
    refine ret1 rfl rfl (RV_t rfl) ?_
    exact fun w' h => InT.of h.fr ⟨rfl, rfl⟩ (by simp) (h.at (i := 0) rfl) (Nat.le_refl _) (fun W hW => .inl ⟨rfl, none, 0, rfl⟩) (by show (sF (l, bd)).2 = ([], true); unfold sF; simp only; rw [if_neg h0])

theorem td_w (rb : Nat) (u0 : Value) (l0 : List Int) (w : World) (a : Option Addr) (n c : Nat) (l : List Int) (bd : Bool) (hb : w.heap[rb]? = some (row 76 [.slice a n c, .bool bd])) (hfs : Fx [factB u0 l0] w rb) (hD : ∀ W, SlB W u0 l0 → SlB W (.slice a n c) l) (hby : Byt l) (hcn : n ≤ c) (hl : l.length ≤ 1099511627776) :
    Calls Tryz.prog 66 #[.pointer (some ⟨rb, 0, none⟩)] w fun e w' => InT 76 w rb u0 l0 (dF (l, bd)) (Vd) e w' := by
  refine calls_of (args := [.pointer (some ⟨rb, 0, none⟩)]) ([rb]) ([(rb, row 76 [.slice a n c, .bool bd])]) ([factB u0 l0]) Tryz.func66 rfl rfl (okM1 hb hfs) ?_
  by_cases h0 : (rd l).2.2 = 0
  ·
    obtain ⟨j, hj1, hj2⟩ := rdJ h0
    refine J_seq ?_
    refine J_region ?_
    refine L_alloc rfl rfl rfl rfl z25ti (fun b1 => ?_)
    refine L_nil ?_
    change J _ _ _ _
    refine J_seq ?_
    refine J_region ?_
    refine L_v rfl rfl rfl (V_move rfl rfl) ?_
    refine L_v rfl rfl rfl (V_nilCheck rfl rfl) ?_
    refine L_v rfl rfl rfl (V_fieldAddr rfl rfl Tryz.underlying76 rfl sz22ti rfl) ?_
    refine L_v rfl rfl rfl (V_load1 0 rfl rfl rfl Tryz.underlying22 rfl (by first | rfl | exact dg_get (by omega) (by omega))) ?_
    refine L_callV rfl rfl rfl rfl rfl rfl tx103ti (fun w1 hw => readDigest_w a n c l w1 (hD w1 (fB hw 0 rfl)) hby hcn (by have := (hD w1 (fB hw 0 rfl)).size; omega)) ?_
    refine L_v rfl rfl rfl (V_move rfl rfl) ?_
    refine L_v rfl rfl rfl (V_extract rfl rfl rfl) ?_
    refine L_v rfl rfl rfl (V_extract rfl rfl rfl) ?_
    refine L_v rfl rfl rfl (V_extract rfl rfl rfl) ?_
    refine L_alloc rfl rfl rfl rfl z25ti (fun b2 => ?_)
    refine L_storeW 2 rfl rfl rfl rfl rfl rfl (szd sz25ti (by rw [dg_length]; exact rd_size l)) (dg_one _) (by rw [dg_length, dg_length]; exact (rd_size l).symm) ?_
    refine L_v rfl rfl rfl (V_assign rfl rfl) ?_
    refine L_v rfl rfl rfl (V_assign rfl rfl) ?_
    refine L_nil ?_
    change J _ _ _ _
    refine J_seq ?_
    refine J_region ?_
    refine L_v rfl rfl rfl (V_move rfl rfl) ?_
    refine L_v rfl rfl rfl (V_move rfl rfl) ?_
    refine L_v rfl rfl rfl (V_move rfl rfl) ?_
    refine L_call rfl rfl rfl rfl tx101ti (fun w1 hw => (step_ok rb a n c bd _ _ j w1 (hw.at (i := 0) rfl) h0 hj1 (by have := (hD w1 (fB hw 0 rfl)).size; omega) hcn).mono ?_)
    rintro e w' ⟨a1, n1, c1, rfl, hfr1, hb1, hc1, hs1⟩
    refine ⟨_, _, _, rfl, hw.set (i := 0) rfl hfr1 hb1, rfl, ?_⟩
    refine L_nil ?_
    change J _ _ _ _
    refine J_seq ?_
    refine J_region ?_
    refine L_v rfl rfl rfl (V_loadW 2 rfl rfl rfl Tryz.underlying25 rfl (szd sz25ti (by rw [dg_length]; exact rd_size l))) ?_
    refine L_storeW 1 rfl rfl rfl rfl rfl rfl (szd sz25ti (by rw [dg_length]; exact rd_size l)) (dg_one _) (by rw [dg_length, dg_length]; exact (rd_size l).symm) ?_
    refine L_nil ?_
    change J _ _ _ _
    refine J_ret ?_
    change Kret _ _ _ Exit.ret _
    refine ret1 rfl rfl (RV_c 1 rfl rfl Tryz.underlying25 rfl (szd sz25ti (by rw [dg_length]; exact rd_size l))) ?_
    exact fun w' h => InT.of h.fr ⟨by show _ = Value.agg (dg (l32 (ofL (rd l).1))).toArray; rw [← rd_l32' l], rfl⟩ (by simp) (h.at (i := 0) rfl) hc1 (fun W hW => hs1 W l (hD W hW)) (by show (dF (l, bd)).2 = (l.drop j, bd); unfold dF; simp only; rw [if_pos h0, hj1, Int.toNat_natCast])
  ·
    refine J_seq ?_
    refine J_region ?_
    refine L_alloc rfl rfl rfl rfl z25ti (fun b1 => ?_)
    refine L_nil ?_
    change J _ _ _ _
    refine J_seq ?_
    refine J_region ?_
    refine L_v rfl rfl rfl (V_move rfl rfl) ?_
    refine L_v rfl rfl rfl (V_nilCheck rfl rfl) ?_
    refine L_v rfl rfl rfl (V_fieldAddr rfl rfl Tryz.underlying76 rfl sz22ti rfl) ?_
    refine L_v rfl rfl rfl (V_load1 0 rfl rfl rfl Tryz.underlying22 rfl (by first | rfl | exact dg_get (by omega) (by omega))) ?_
    refine L_callV rfl rfl rfl rfl rfl rfl tx103ti (fun w1 hw => readDigest_w a n c l w1 (hD w1 (fB hw 0 rfl)) hby hcn (by have := (hD w1 (fB hw 0 rfl)).size; omega)) ?_
    refine L_v rfl rfl rfl (V_move rfl rfl) ?_
    refine L_v rfl rfl rfl (V_extract rfl rfl rfl) ?_
    refine L_v rfl rfl rfl (V_extract rfl rfl rfl) ?_
    refine L_v rfl rfl rfl (V_extract rfl rfl rfl) ?_
    refine L_alloc rfl rfl rfl rfl z25ti (fun b2 => ?_)
    refine L_storeW 2 rfl rfl rfl rfl rfl rfl (szd sz25ti (by rw [dg_length]; exact rd_size l)) (dg_one _) (by rw [dg_length, dg_length]; exact (rd_size l).symm) ?_
    refine L_v rfl rfl rfl (V_assign rfl rfl) ?_
    refine L_v rfl rfl rfl (V_assign rfl rfl) ?_
    refine L_nil ?_
    change J _ _ _ _
    refine J_seq ?_
    refine J_region ?_
    refine L_v rfl rfl rfl (V_move rfl rfl) ?_
    refine L_v rfl rfl rfl (V_move rfl rfl) ?_
    refine L_v rfl rfl rfl (V_move rfl rfl) ?_
    refine L_call rfl rfl rfl rfl tx101ti (fun w1 hw => (step_no rb a n c bd _ _ w1 (hw.at (i := 0) rfl) h0).mono ?_)
    rintro e w' ⟨rfl, hfr1, hb1⟩
    refine ⟨_, _, _, rfl, hw.set (i := 0) rfl hfr1 hb1, rfl, ?_⟩
    refine L_nil ?_
    change J _ _ _ _
    refine J_seq ?_
    refine J_region ?_
    refine L_v rfl rfl rfl (V_loadW 2 rfl rfl rfl Tryz.underlying25 rfl (szd sz25ti (by rw [dg_length]; exact rd_size l))) ?_
    refine L_storeW 1 rfl rfl rfl rfl rfl rfl (szd sz25ti (by rw [dg_length]; exact rd_size l)) (dg_one _) (by rw [dg_length, dg_length]; exact (rd_size l).symm) ?_
    refine L_nil ?_
    change J _ _ _ _
    refine J_ret ?_
    change Kret _ _ _ Exit.ret _
    refine ret1 rfl rfl (RV_c 1 rfl rfl Tryz.underlying25 rfl (szd sz25ti (by rw [dg_length]; exact rd_size l))) ?_
    exact fun w' h => InT.of h.fr ⟨by show _ = Value.agg (dg (l32 (ofL (rd l).1))).toArray; rw [← rd_l32' l], rfl⟩ (by simp) (h.at (i := 0) rfl) (Nat.le_refl _) (fun W hW => .inl ⟨rfl, none, 0, rfl⟩) (by show (dF (l, bd)).2 = ([], true); unfold dF; simp only; rw [if_neg h0])

theorem tmany_w (rb : Nat) (u0 : Value) (l0 : List Int) (w : World) (a : Option Addr) (n c : Nat) (l : List Int) (bd : Bool) (hb : w.heap[rb]? = some (row 76 [.slice a n c, .bool bd])) (hfs : Fx [factB u0 l0] w rb) (hD : ∀ W, SlB W u0 l0 → SlB W (.slice a n c) l) (hby : Byt l) (hcn : n ≤ c) (hl : l.length ≤ 1099511627776) :
    Calls Tryz.prog 88 #[.pointer (some ⟨rb, 0, none⟩)] w fun e w' => InT 76 w rb u0 l0 (manyF (l, bd)) (Vi) e w' := by
  refine calls_of (args := [.pointer (some ⟨rb, 0, none⟩)]) ([rb]) ([(rb, row 76 [.slice a n c, .bool bd])]) ([factB u0 l0]) Tryz.func88 rfl rfl (okM1 hb hfs) ?_
  refine J_seq ?_
  refine J_region ?_
  refine L_v rfl rfl rfl (V_assign rfl rfl) ?_
  refine L_nil ?_
  change J _ _ _ _
  refine J_seq ?_
  refine J_region ?_
  refine L_v rfl rfl rfl (V_move rfl rfl) ?_
  obtain ⟨p1, l1, d1, hr1⟩ : ∃ p l' d, cF (l, bd) = (p, (l', d)) := ⟨_, _, _, rfl⟩
  refine L_inT 0 (r := (p1, (l1, d1))) rfl rfl rfl rfl rfl rfl tx64ti rfl (fun w1 hw => hr1 ▸ tn_w rb u0 l0 w1 _ _ _ _ _ (hw.at (i := 0) rfl) (fxT (i := 0) hw rfl) hD hby hcn hl) (fun v1 fs1 a1 n1 c1 hV1 hc1 hD1 hnw1 => ?_)
  obtain ⟨rfl, rfl⟩ := hV1
  have hby1 : Byt l1 := by have h9 := agC.byt (s := (l, bd)) hby; rw [hr1] at h9; exact h9
  have hl1 : l1.length ≤ 1099511627776 := by have h9 := agC.short (s := (l, bd)) (B := 1099511627776) hl; rw [hr1] at h9; exact h9
  refine L_v rfl rfl rfl (V_assign rfl rfl) ?_
  refine L_nil ?_
  change J _ _ _ _
  refine J_seq ?_
  refine J_seq ?_
  refine J_region ?_
  refine L_v rfl rfl rfl (V_move rfl rfl) ?_
  refine L_v rfl rfl rfl (V_gtr rfl rfl rfl (by first | exact decide_eq_true (by omega) | exact decide_eq_false (by omega) | rfl)) ?_
  refine L_nil ?_
  change J _ _ _ _
  refine J_cond rfl (fun h1 => ?_) (fun h1 => ?_)
  ·
    first | (have h1 := of_decide_eq_true h1) | (have h1 := of_decide_eq_false h1) | skip
    refine J_region ?_
    refine L_v rfl rfl rfl (V_move rfl rfl) ?_
    refine L_v rfl rfl rfl (V_nilCheck rfl rfl) ?_
    refine L_v rfl rfl rfl (V_fieldAddr rfl rfl Tryz.underlying76 rfl sz4ti rfl) ?_
    refine L_store1 0 rfl rfl rfl rfl rfl rfl rfl sz4ti (by first | exact Nat.zero_lt_succ _ | exact (by decide : 1 < 2) | exact (Nat.le_of_ble_eq_true (by kernel_rfl))) (by first | rfl | exact dg_set _ _ _) ?_
    refine L_nil ?_
    change J _ _ _ _
    refine J_seq ?_
    refine J_seq ?_
    refine J_region ?_
    refine L_v rfl rfl rfl (V_move rfl rfl) ?_
    refine L_v rfl rfl rfl (V_nilCheck rfl rfl) ?_
    refine L_v rfl rfl rfl (V_fieldAddr rfl rfl Tryz.underlying76 rfl sz4ti rfl) ?_
    refine L_v rfl rfl rfl (V_load1 0 rfl rfl rfl Tryz.underlying4 rfl (by first | rfl | exact dg_get (by omega) (by omega))) ?_
    refine L_nil ?_
    change J _ _ _ _
    refine J_true rfl ?_
    refine J_seq ?_
    refine J_region ?_
    refine L_v rfl rfl rfl (V_assign rfl rfl) ?_
    refine L_nil ?_
    change J _ _ _ _
    refine J_ret ?_
    change Kret _ _ _ Exit.ret _
    refine ret1 rfl rfl (RV_t rfl) ?_
    have e9 : manyF (l, bd) = (0, (l1, true)) := by unfold manyF; rw [hr1]; simp [show 4096 < p1 from h1]
    exact fun w' h => by rw [e9]; exact InT.of h.fr ⟨rfl, rfl⟩ (by simp) (h.at (i := 0) rfl) hc1 hD1 rfl
  ·
    first | (have h1 := of_decide_eq_true h1) | (have h1 := of_decide_eq_false h1) | skip
    rcases d1 with _ | _
    ·
      refine J_skip ?_
      change J _ _ _ _
      refine J_seq ?_
      refine J_seq ?_
      refine J_region ?_
      refine L_v rfl rfl rfl (V_move rfl rfl) ?_
      refine L_v rfl rfl rfl (V_nilCheck rfl rfl) ?_
      refine L_v rfl rfl rfl (V_fieldAddr rfl rfl Tryz.underlying76 rfl sz4ti rfl) ?_
      refine L_v rfl rfl rfl (V_load1 0 rfl rfl rfl Tryz.underlying4 rfl (by first | rfl | exact dg_get (by omega) (by omega))) ?_
      refine L_nil ?_
      change J _ _ _ _
      refine J_false rfl ?_
      refine J_skip ?_
      change J _ _ _ _
      refine J_seq ?_
      refine J_region ?_
      refine L_v rfl rfl rfl (V_move rfl rfl) ?_
      refine L_v rfl rfl rfl (V_assign rfl rfl) ?_
      refine L_nil ?_
      change J _ _ _ _
      refine J_ret ?_
      change Kret _ _ _ Exit.ret _
      refine ret1 rfl rfl (RV_t rfl) ?_
      have e9 : manyF (l, bd) = (p1, (l1, false)) := by unfold manyF; rw [hr1]; simp [show ¬ 4096 < p1 from h1]
      exact fun w' h => by rw [e9]; exact InT.of h.fr ⟨rfl, rfl⟩ (by simp) (h.at (i := 0) rfl) hc1 hD1 rfl
    ·
      refine J_skip ?_
      change J _ _ _ _
      refine J_seq ?_
      refine J_seq ?_
      refine J_region ?_
      refine L_v rfl rfl rfl (V_move rfl rfl) ?_
      refine L_v rfl rfl rfl (V_nilCheck rfl rfl) ?_
      refine L_v rfl rfl rfl (V_fieldAddr rfl rfl Tryz.underlying76 rfl sz4ti rfl) ?_
      refine L_v rfl rfl rfl (V_load1 0 rfl rfl rfl Tryz.underlying4 rfl (by first | rfl | exact dg_get (by omega) (by omega))) ?_
      refine L_nil ?_
      change J _ _ _ _
      refine J_true rfl ?_
      refine J_seq ?_
      refine J_region ?_
      refine L_v rfl rfl rfl (V_assign rfl rfl) ?_
      refine L_nil ?_
      change J _ _ _ _
      refine J_ret ?_
      change Kret _ _ _ Exit.ret _
      refine ret1 rfl rfl (RV_t rfl) ?_
      have e9 : manyF (l, bd) = (0, (l1, true)) := by unfold manyF; rw [hr1]; simp [show ¬ 4096 < p1 from h1]
      exact fun w' h => by rw [e9]; exact InT.of h.fr ⟨rfl, rfl⟩ (by simp) (h.at (i := 0) rfl) hc1 hD1 rfl

theorem tints_w (rb : Nat) (u0 : Value) (l0 : List Int) (w : World) (a : Option Addr) (n c : Nat) (l : List Int) (bd : Bool) (hb : w.heap[rb]? = some (row 76 [.slice a n c, .bool bd])) (hfs : Fx [factB u0 l0] w rb) (hD : ∀ W, SlB W u0 l0 → SlB W (.slice a n c) l) (hby : Byt l) (hcn : n ≤ c) (hl : l.length ≤ 1099511627776) :
    Calls Tryz.prog 108 #[.pointer (some ⟨rb, 0, none⟩)] w fun e w' => InT 76 w rb u0 l0 (lsF cF (l, bd)) (VlI) e w' := by
  refine calls_of (args := [.pointer (some ⟨rb, 0, none⟩)]) ([rb]) ([(rb, row 76 [.slice a n c, .bool bd])]) ([factB u0 l0]) Tryz.func108 rfl rfl (okM1 hb hfs) ?_
  refine J_seq ?_
  refine J_region ?_
  refine L_v rfl rfl rfl (V_assign rfl rfl) ?_
  refine L_nil ?_
  change J _ _ _ _
  refine J_seq ?_
  refine J_region ?_
  refine L_v rfl rfl rfl (V_assign rfl rfl) ?_
  refine L_nil ?_
  change J _ _ _ _
  refine J_seq ?_
  refine J_region ?_
  refine L_v rfl rfl rfl (V_move rfl rfl) ?_
  obtain ⟨p1, l1, d1, hr1⟩ : ∃ p l' d, manyF (l, bd) = (p, (l', d)) := ⟨_, _, _, rfl⟩
  refine L_inT 0 (r := (p1, (l1, d1))) rfl rfl rfl rfl rfl rfl tx88ti rfl (fun w1 hw => hr1 ▸ tmany_w rb u0 l0 w1 _ _ _ _ _ (hw.at (i := 0) rfl) (fxT (i := 0) hw rfl) hD hby hcn hl) (fun v1 fs1 a1 n1 c1 hV1 hc1 hD1 hnw1 => ?_)
  obtain ⟨rfl, rfl⟩ := hV1
  have hby1 : Byt l1 := by have h9 := agM.byt (s := (l, bd)) hby; rw [hr1] at h9; exact h9
  have hl1 : l1.length ≤ 1099511627776 := by have h9 := agM.short (s := (l, bd)) (B := 1099511627776) hl; rw [hr1] at h9; exact h9
  have hp1 : p1 ≤ 4096 := by have h9 := many_le (l, bd); rw [hr1] at h9; exact h9
  refine L_v rfl rfl rfl (V_assign rfl rfl) ?_
  refine L_nil ?_
  change J _ _ _ _
  refine J_seq ?_
  refine J_seq ?_
  refine J_region ?_
  refine L_v rfl rfl rfl (V_assign rfl rfl) ?_
  refine L_nil ?_
  change J _ _ _ _
  refine J_block ?_
  refine J_loop (X := Nat × OwnR × List Int × (Option Addr × Nat × Nat) × List Int × Bool) (fun x => { env := [(0, .pointer (some ⟨rb, 0, none⟩)), (3, ownV x.2.1 x.1), (4, vi p1), (5, vi (x.1 : Int))], mem := (rb, row 76 [.slice x.2.2.2.1.1 x.2.2.2.1.2.1 x.2.2.2.1.2.2, .bool x.2.2.2.2.2]) :: ownM 3 x.2.1 (ints x.2.2.1), facts := [factB u0 l0] }) (fun x => x.1 ≤ p1.toNat ∧ x.2.2.1.length = x.1 ∧ OwnC 1 x.2.1 x.1 (ints x.2.2.1) ∧ (∀ W, SlB W u0 l0 → SlB W (.slice x.2.2.2.1.1 x.2.2.2.1.2.1 x.2.2.2.1.2.2) x.2.2.2.2.1) ∧ Byt x.2.2.2.2.1 ∧ x.2.2.2.1.2.1 ≤ x.2.2.2.1.2.2 ∧ x.2.2.2.2.1.length ≤ 1099511627776 ∧ loopF cF (p1.toNat - x.1) (x.2.2.2.2.1, x.2.2.2.2.2) x.2.2.1 = loopF cF p1.toNat (l1, d1) []) (fun x => p1.toNat - x.1) (0, none, [], (a1, n1, c1), l1, d1) ⟨Nat.zero_le _, rfl, ⟨rfl, rfl⟩, hD1, hby1, hc1, hl1, rfl⟩ ⟨⟨rfl, rfl, rfl, rfl, trivial⟩, List.Sublist.refl _, fun f hf => List.mem_append_left _ hf, rfl⟩ ?_
  rintro ⟨i, q, acc, ⟨a', n', c'⟩, l', d'⟩ ⟨hi, hal, hq, hD', hby', hc', hl', hR⟩
  simp only at hi hal hq hD' hby' hc' hl' hR ⊢
  rcases d' with _ | _
  ·
    refine J_seq ?_
    refine J_seq ?_
    refine J_region ?_
    refine L_v rfl rfl rfl (V_move rfl rfl) ?_
    refine L_v rfl rfl rfl (V_move rfl rfl) ?_
    refine L_v rfl rfl rfl (V_lss rfl rfl rfl (by first | exact decide_eq_true (by omega) | exact decide_eq_false (by omega) | rfl)) ?_
    refine L_v rfl rfl rfl (V_move rfl rfl) ?_
    refine L_split 12 rfl (fun h1 => ?_) (fun h1 => ?_)
    ·
      first | (have h1 := of_decide_eq_true h1) | (have h1 := of_decide_eq_false h1) | skip
      refine L_wv rfl rfl rfl rfl rfl rfl (V_move rfl rfl) ?_
      refine L_wv rfl rfl rfl rfl rfl rfl (V_nilCheck rfl rfl) ?_
      refine L_wv rfl rfl rfl rfl rfl rfl (V_fieldAddr rfl rfl Tryz.underlying76 rfl sz4ti rfl) ?_
      refine L_wv rfl rfl rfl rfl rfl rfl (V_load1 0 rfl rfl rfl Tryz.underlying4 rfl (by first | rfl | exact dg_get (by omega) (by omega))) ?_
      refine L_wv rfl rfl rfl rfl rfl rfl (V_not rfl rfl rfl) ?_
      first | refine L_v rfl rfl rfl (V_pickT rfl rfl rfl) ?_ | refine L_v rfl rfl rfl (V_pickF rfl rfl rfl) ?_
      refine L_nil ?_
      change J _ _ _ _
      refine J_true rfl ?_
      refine J_skip ?_
      change J _ _ _ _
      refine J_seq ?_
      refine J_block ?_
      refine J_seq ?_
      refine J_region ?_
      refine L_v rfl rfl rfl (V_move rfl rfl) ?_
      obtain ⟨p2, l2, d2, hr2⟩ : ∃ p l'' d, cF (l', false) = (p, (l'', d)) := ⟨_, _, _, rfl⟩
      refine L_inT 0 (r := (p2, (l2, d2))) rfl rfl rfl rfl rfl rfl tx64ti rfl (fun w1 hw => hr2 ▸ tn_w rb u0 l0 w1 _ _ _ _ _ (hw.at (i := 0) rfl) (fxT (i := 0) hw rfl) hD' hby' hc' hl') (fun v2 fs2 a2 n2 c2 hV2 hc2 hD2 hnw2 => ?_)
      obtain ⟨rfl, rfl⟩ := hV2
      have hby2 : Byt l2 := by have h9 := agC.byt (s := (l', false)) hby'; rw [hr2] at h9; exact h9
      have hl2 : l2.length ≤ 1099511627776 := by have h9 := agC.short (s := (l', false)) (B := 1099511627776) hl'; rw [hr2] at h9; exact h9
      refine L_v rfl rfl rfl (V_assign rfl rfl) ?_
      refine L_nil ?_
      change J _ _ _ _
      refine J_region ?_
      refine L_v rfl rfl rfl (V_move rfl rfl) ?_
      refine L_v rfl rfl rfl (V_move rfl rfl) ?_
      refine L_buildSlice (vs := [(0, vi p2)]) (l := ints [p2]) rfl rfl rfl rfl rfl (bsI1 _) (fun b9 => ?_)
      refine L_appN [(rb, row 76 [.slice a2 n2 c2, .bool d2])] [(b9, row 3 (ints [p2]))] q (ints acc) (n' := i + 1) (ks' := ints (acc ++ [p2])) rfl rfl rfl rfl rfl Tryz.underlying34 eli rfl hq (fun w1 hw => src_C Tryz.underlying34 (SlC.in hw (ks := ints [p2]) (r := []) (fz := (0, 0)) (List.mem_cons_of_mem _ (List.mem_append_right _ (by rw [List.append_nil]; exact List.mem_singleton.2 rfl))) rfl 1) (ints_one _)) rfl (ints_app acc p2) (by omega) (by omega) (fun q' hq' => ?_)
      refine L_v rfl rfl rfl (V_assign rfl rfl) ?_
      refine L_nil ?_
      change J _ _ _ _
      refine J_region ?_
      refine L_v rfl rfl rfl (V_move rfl rfl) ?_
      refine L_v rfl rfl rfl (V_add rfl rfl rfl (by first | exact Go.IntWalk.i64_in _ (by omega) | rfl)) ?_
      refine L_v rfl rfl rfl (V_assign rfl rfl) ?_
      refine L_nil ?_
      exact ⟨(i + 1, q', acc ++ [p2], (a2, n2, c2), l2, d2), ⟨by show i + 1 ≤ p1.toNat; omega, by show (acc ++ [p2]).length = i + 1; simp [hal], hq', hD2, hby2, hc2, hl2, loop_go (by omega) hR hr2⟩, by show p1.toNat - (i + 1) < p1.toNat - i; omega, ⟨rfl, rfl, rfl, rfl, trivial⟩, List.Sublist.cons_cons _ (List.sublist_append_left _ _), (fun f hf => List.mem_append_left _ hf), rfl⟩
    ·
      first | (have h1 := of_decide_eq_true h1) | (have h1 := of_decide_eq_false h1) | skip
      refine L_skip rfl rfl rfl rfl rfl rfl rfl ?_
      refine L_skip rfl rfl rfl rfl rfl rfl rfl ?_
      refine L_skip rfl rfl rfl rfl rfl rfl rfl ?_
      refine L_skip rfl rfl rfl rfl rfl rfl rfl ?_
      refine L_skip rfl rfl rfl rfl rfl rfl rfl ?_
      first | refine L_v rfl rfl rfl (V_pickT rfl rfl rfl) ?_ | refine L_v rfl rfl rfl (V_pickF rfl rfl rfl) ?_
      refine L_nil ?_
      change J _ _ _ _
      refine J_false rfl ?_
      refine J_exit ?_
      change J _ _ _ _
      refine J_seq ?_
      refine J_region ?_
      refine L_v rfl rfl rfl (V_move rfl rfl) ?_
      refine L_v rfl rfl rfl (V_assign rfl rfl) ?_
      refine L_nil ?_
      change J _ _ _ _
      refine J_ret ?_
      change Kret _ _ _ Exit.ret _
      refine ret1 rfl rfl (RV_t rfl) ?_
      have hip : i = p1.toNat := by omega
      have e9 : lsF cF (l, bd) = (acc, (l', false)) := (lsF_e hr1).trans (loop_end (by rw [hip] at hR; exact hR))
      exact fun w' h => by rw [e9]; exact InT.of h.fr (show VlI acc (ownV q i) [factC 1 (ownV q i) i (ints acc)] from by subst hal; exact ⟨⟨_, _, rfl⟩, rfl⟩) (fun f hf => by obtain rfl := List.mem_singleton.1 hf; exact own_fact (T := 3) h rfl (fun x hx => hx) hq) (h.at (i := 0) rfl) hc' hD' rfl
  ·
    refine J_seq ?_
    refine J_seq ?_
    refine J_region ?_
    refine L_v rfl rfl rfl (V_move rfl rfl) ?_
    refine L_v rfl rfl rfl (V_move rfl rfl) ?_
    refine L_v rfl rfl rfl (V_lss rfl rfl rfl (by first | exact decide_eq_true (by omega) | exact decide_eq_false (by omega) | rfl)) ?_
    refine L_v rfl rfl rfl (V_move rfl rfl) ?_
    refine L_split 12 rfl (fun h1 => ?_) (fun h1 => ?_)
    ·
      first | (have h1 := of_decide_eq_true h1) | (have h1 := of_decide_eq_false h1) | skip
      refine L_wv rfl rfl rfl rfl rfl rfl (V_move rfl rfl) ?_
      refine L_wv rfl rfl rfl rfl rfl rfl (V_nilCheck rfl rfl) ?_
      refine L_wv rfl rfl rfl rfl rfl rfl (V_fieldAddr rfl rfl Tryz.underlying76 rfl sz4ti rfl) ?_
      refine L_wv rfl rfl rfl rfl rfl rfl (V_load1 0 rfl rfl rfl Tryz.underlying4 rfl (by first | rfl | exact dg_get (by omega) (by omega))) ?_
      refine L_wv rfl rfl rfl rfl rfl rfl (V_not rfl rfl rfl) ?_
      first | refine L_v rfl rfl rfl (V_pickT rfl rfl rfl) ?_ | refine L_v rfl rfl rfl (V_pickF rfl rfl rfl) ?_
      refine L_nil ?_
      change J _ _ _ _
      refine J_false rfl ?_
      refine J_exit ?_
      change J _ _ _ _
      refine J_seq ?_
      refine J_region ?_
      refine L_v rfl rfl rfl (V_move rfl rfl) ?_
      refine L_v rfl rfl rfl (V_assign rfl rfl) ?_
      refine L_nil ?_
      change J _ _ _ _
      refine J_ret ?_
      change Kret _ _ _ Exit.ret _
      refine ret1 rfl rfl (RV_t rfl) ?_
      have e9 : lsF cF (l, bd) = (acc, (l', true)) := (lsF_e hr1).trans (loop_stop hR)
      exact fun w' h => by rw [e9]; exact InT.of h.fr (show VlI acc (ownV q i) [factC 1 (ownV q i) i (ints acc)] from by subst hal; exact ⟨⟨_, _, rfl⟩, rfl⟩) (fun f hf => by obtain rfl := List.mem_singleton.1 hf; exact own_fact (T := 3) h rfl (fun x hx => hx) hq) (h.at (i := 0) rfl) hc' hD' rfl
    ·
      first | (have h1 := of_decide_eq_true h1) | (have h1 := of_decide_eq_false h1) | skip
      refine L_skip rfl rfl rfl rfl rfl rfl rfl ?_
      refine L_skip rfl rfl rfl rfl rfl rfl rfl ?_
      refine L_skip rfl rfl rfl rfl rfl rfl rfl ?_
      refine L_skip rfl rfl rfl rfl rfl rfl rfl ?_
      refine L_skip rfl rfl rfl rfl rfl rfl rfl ?_
      first | refine L_v rfl rfl rfl (V_pickT rfl rfl rfl) ?_ | refine L_v rfl rfl rfl (V_pickF rfl rfl rfl) ?_
      refine L_nil ?_
      change J _ _ _ _
      refine J_false rfl ?_
      refine J_exit ?_
      change J _ _ _ _
      refine J_seq ?_
      refine J_region ?_
      refine L_v rfl rfl rfl (V_move rfl rfl) ?_
      refine L_v rfl rfl rfl (V_assign rfl rfl) ?_
      refine L_nil ?_
      change J _ _ _ _
      refine J_ret ?_
      change Kret _ _ _ Exit.ret _
      refine ret1 rfl rfl (RV_t rfl) ?_
      have e9 : lsF cF (l, bd) = (acc, (l', true)) := (lsF_e hr1).trans (loop_stop hR)
      exact fun w' h => by rw [e9]; exact InT.of h.fr (show VlI acc (ownV q i) [factC 1 (ownV q i) i (ints acc)] from by subst hal; exact ⟨⟨_, _, rfl⟩, rfl⟩) (fun f hf => by obtain rfl := List.mem_singleton.1 hf; exact own_fact (T := 3) h rfl (fun x hx => hx) hq) (h.at (i := 0) rfl) hc' hD' rfl

theorem bz_tcmd_w (w : World) : (Instr.build 27 ([] : List (Nat × Value)).toArray).run Tryz.prog w = .ok (.agg (cmdV (0, 0, 0, ⟨#[]⟩, ⟨#[]⟩, 0, dz)).toArray) w := by kernel_rfl
theorem tcmd_w (rb : Nat) (u0 : Value) (l0 : List Int) (w : World) (a : Option Addr) (n c : Nat) (l : List Int) (bd : Bool) (hb : w.heap[rb]? = some (row 76 [.slice a n c, .bool bd])) (hfs : Fx [factB u0 l0] w rb) (hD : ∀ W, SlB W u0 l0 → SlB W (.slice a n c) l) (hby : Byt l) (hcn : n ≤ c) (hl : l.length ≤ 1099511627776) :
    Calls Tryz.prog 29 #[.pointer (some ⟨rb, 0, none⟩)] w fun e w' => InT 76 w rb u0 l0 (cmdF (l, bd)) (Va cmdV) e w' := by
  refine calls_of (args := [.pointer (some ⟨rb, 0, none⟩)]) ([rb]) ([(rb, row 76 [.slice a n c, .bool bd])]) ([factB u0 l0]) Tryz.func29 rfl rfl (okM1 hb hfs) ?_
  refine J_seq ?_
  refine J_region ?_
  refine L_alloc rfl rfl rfl rfl z27ti (fun b1 => ?_)
  refine L_nil ?_
  change J _ _ _ _
  refine J_seq ?_
  refine J_region ?_
  refine L_v rfl rfl rfl (V_build (vs := []) rfl rfl bz_tcmd_w) ?_
  refine L_alloc rfl rfl rfl rfl z27ti (fun b2 => ?_)
  refine L_storeW 2 rfl rfl rfl rfl rfl rfl (szd sz27ti (by kernel_rfl)) (all_one (by kernel_rfl)) (by kernel_rfl) ?_
  refine L_nil ?_
  change J _ _ _ _
  refine J_seq ?_
  refine J_region ?_
  refine L_v rfl rfl rfl (V_move rfl rfl) ?_
  obtain ⟨p1, l1, d1, hr1⟩ : ∃ p l' d, cF (l, bd) = (p, (l', d)) := ⟨_, _, _, rfl⟩
  refine L_inT 0 (r := (p1, (l1, d1))) rfl rfl rfl rfl rfl rfl tx64ti rfl (fun w1 hw => hr1 ▸ tn_w rb u0 l0 w1 _ _ _ _ _ (hw.at (i := 0) rfl) (fxT (i := 0) hw rfl) hD hby hcn hl) (fun v1 fs1 a1 n1 c1 hV1 hc1 hD1 hnw1 => ?_)
  obtain ⟨rfl, rfl⟩ := hV1
  have hby1 : Byt l1 := by have h9 := agC.byt (s := (l, bd)) hby; rw [hr1] at h9; exact h9
  have hl1 : l1.length ≤ 1099511627776 := by have h9 := agC.short (s := (l, bd)) (B := 1099511627776) hl; rw [hr1] at h9; exact h9
  refine L_v rfl rfl rfl (V_assign rfl rfl) ?_
  refine L_nil ?_
  change J _ _ _ _
  refine J_seq ?_
  refine J_region ?_
  refine L_v rfl rfl rfl (V_move rfl rfl) ?_
  refine L_v rfl rfl rfl (V_fieldAddr rfl rfl Tryz.underlying27 rfl sz23ti rfl) ?_
  refine L_store1 2 (l' := cmdV (p1, 0, 0, ⟨#[]⟩, ⟨#[]⟩, 0, dz)) rfl rfl rfl rfl rfl rfl rfl sz23ti (Nat.le_of_ble_eq_true (by kernel_rfl)) (by kernel_rfl) ?_
  refine L_nil ?_
  change J _ _ _ _
  refine J_seq ?_
  refine J_le (st' := { env := [(0, .pointer (some ⟨rb, 0, none⟩)), (2, .pointer (some ⟨b1, 0, none⟩)), (3, .pointer (some ⟨b2, 0, none⟩))], mem := [(rb, row 76 [.slice a1 n1 c1, .bool d1]), (b1, row 27 (cmdV (0, 0, 0, ⟨#[]⟩, ⟨#[]⟩, 0, dz))), (b2, row 27 (cmdV (p1, 0, 0, ⟨#[]⟩, ⟨#[]⟩, 0, dz)))], facts := [factB u0 l0] }) ⟨⟨rfl, rfl, rfl, trivial⟩, List.Sublist.refl _, (by first | exact fun f hf => hf | exact fun f hf => List.mem_append_left _ hf), rfl⟩ ?_
  refine J_region ?_
  refine L_v rfl rfl rfl (V_move rfl rfl) ?_
  obtain ⟨p2, l2, d2, hr2⟩ : ∃ p l' d, cF (l1, d1) = (p, (l', d)) := ⟨_, _, _, rfl⟩
  refine L_inT 0 (r := (p2, (l2, d2))) rfl rfl rfl rfl rfl rfl tx64ti rfl (fun w1 hw => hr2 ▸ tn_w rb u0 l0 w1 _ _ _ _ _ (hw.at (i := 0) rfl) (fxT (i := 0) hw rfl) hD1 hby1 hc1 hl1) (fun v2 fs2 a2 n2 c2 hV2 hc2 hD2 hnw2 => ?_)
  obtain ⟨rfl, rfl⟩ := hV2
  have hby2 : Byt l2 := by have h9 := agC.byt (s := (l1, d1)) hby1; rw [hr2] at h9; exact h9
  have hl2 : l2.length ≤ 1099511627776 := by have h9 := agC.short (s := (l1, d1)) (B := 1099511627776) hl1; rw [hr2] at h9; exact h9
  refine L_v rfl rfl rfl (V_fieldAddr rfl rfl Tryz.underlying27 rfl sz3ti rfl) ?_
  refine L_store1 2 (l' := cmdV (p1, p2, 0, ⟨#[]⟩, ⟨#[]⟩, 0, dz)) rfl rfl rfl rfl rfl rfl rfl sz3ti (Nat.le_of_ble_eq_true (by kernel_rfl)) (by kernel_rfl) ?_
  refine L_nil ?_
  change J _ _ _ _
  refine J_seq ?_
  refine J_le (st' := { env := [(0, .pointer (some ⟨rb, 0, none⟩)), (2, .pointer (some ⟨b1, 0, none⟩)), (3, .pointer (some ⟨b2, 0, none⟩))], mem := [(rb, row 76 [.slice a2 n2 c2, .bool d2]), (b1, row 27 (cmdV (0, 0, 0, ⟨#[]⟩, ⟨#[]⟩, 0, dz))), (b2, row 27 (cmdV (p1, p2, 0, ⟨#[]⟩, ⟨#[]⟩, 0, dz)))], facts := [factB u0 l0] }) ⟨⟨rfl, rfl, rfl, trivial⟩, List.Sublist.refl _, (by first | exact fun f hf => hf | exact fun f hf => List.mem_append_left _ hf), rfl⟩ ?_
  refine J_region ?_
  refine L_v rfl rfl rfl (V_move rfl rfl) ?_
  obtain ⟨p3, l3, d3, hr3⟩ : ∃ p l' d, cF (l2, d2) = (p, (l', d)) := ⟨_, _, _, rfl⟩
  refine L_inT 0 (r := (p3, (l3, d3))) rfl rfl rfl rfl rfl rfl tx64ti rfl (fun w1 hw => hr3 ▸ tn_w rb u0 l0 w1 _ _ _ _ _ (hw.at (i := 0) rfl) (fxT (i := 0) hw rfl) hD2 hby2 hc2 hl2) (fun v3 fs3 a3 n3 c3 hV3 hc3 hD3 hnw3 => ?_)
  obtain ⟨rfl, rfl⟩ := hV3
  have hby3 : Byt l3 := by have h9 := agC.byt (s := (l2, d2)) hby2; rw [hr3] at h9; exact h9
  have hl3 : l3.length ≤ 1099511627776 := by have h9 := agC.short (s := (l2, d2)) (B := 1099511627776) hl2; rw [hr3] at h9; exact h9
  refine L_v rfl rfl rfl (V_fieldAddr rfl rfl Tryz.underlying27 rfl sz3ti rfl) ?_
  refine L_store1 2 (l' := cmdV (p1, p2, p3, ⟨#[]⟩, ⟨#[]⟩, 0, dz)) rfl rfl rfl rfl rfl rfl rfl sz3ti (Nat.le_of_ble_eq_true (by kernel_rfl)) (by kernel_rfl) ?_
  refine L_nil ?_
  change J _ _ _ _
  refine J_seq ?_
  refine J_le (st' := { env := [(0, .pointer (some ⟨rb, 0, none⟩)), (2, .pointer (some ⟨b1, 0, none⟩)), (3, .pointer (some ⟨b2, 0, none⟩))], mem := [(rb, row 76 [.slice a3 n3 c3, .bool d3]), (b1, row 27 (cmdV (0, 0, 0, ⟨#[]⟩, ⟨#[]⟩, 0, dz))), (b2, row 27 (cmdV (p1, p2, p3, ⟨#[]⟩, ⟨#[]⟩, 0, dz)))], facts := [factB u0 l0] }) ⟨⟨rfl, rfl, rfl, trivial⟩, List.Sublist.refl _, (by first | exact fun f hf => hf | exact fun f hf => List.mem_append_left _ hf), rfl⟩ ?_
  refine J_region ?_
  refine L_v rfl rfl rfl (V_move rfl rfl) ?_
  obtain ⟨p4, l4, d4, hr4⟩ : ∃ p l' d, sF (l3, d3) = (p, (l', d)) := ⟨_, _, _, rfl⟩
  refine L_inT 0 (r := (p4, (l4, d4))) rfl rfl rfl rfl rfl rfl tx65ti rfl (fun w1 hw => hr4 ▸ ts_w rb u0 l0 w1 _ _ _ _ _ (hw.at (i := 0) rfl) (fxT (i := 0) hw rfl) hD3 hby3 hc3 hl3) (fun v4 fs4 a4 n4 c4 hV4 hc4 hD4 hnw4 => ?_)
  obtain ⟨rfl, rfl⟩ := hV4
  have hby4 : Byt l4 := by have h9 := agS.byt (s := (l3, d3)) hby3; rw [hr4] at h9; exact h9
  have hl4 : l4.length ≤ 1099511627776 := by have h9 := agS.short (s := (l3, d3)) (B := 1099511627776) hl3; rw [hr4] at h9; exact h9
  refine L_v rfl rfl rfl (V_fieldAddr rfl rfl Tryz.underlying27 rfl sz9ti rfl) ?_
  refine L_store1 2 (l' := cmdV (p1, p2, p3, p4, ⟨#[]⟩, 0, dz)) rfl rfl rfl rfl rfl rfl rfl sz9ti (Nat.le_of_ble_eq_true (by kernel_rfl)) (by kernel_rfl) ?_
  refine L_nil ?_
  change J _ _ _ _
  refine J_seq ?_
  refine J_le (st' := { env := [(0, .pointer (some ⟨rb, 0, none⟩)), (2, .pointer (some ⟨b1, 0, none⟩)), (3, .pointer (some ⟨b2, 0, none⟩))], mem := [(rb, row 76 [.slice a4 n4 c4, .bool d4]), (b1, row 27 (cmdV (0, 0, 0, ⟨#[]⟩, ⟨#[]⟩, 0, dz))), (b2, row 27 (cmdV (p1, p2, p3, p4, ⟨#[]⟩, 0, dz)))], facts := [factB u0 l0] }) ⟨⟨rfl, rfl, rfl, trivial⟩, List.Sublist.refl _, (by first | exact fun f hf => hf | exact fun f hf => List.mem_append_left _ hf), rfl⟩ ?_
  refine J_region ?_
  refine L_v rfl rfl rfl (V_move rfl rfl) ?_
  obtain ⟨p5, l5, d5, hr5⟩ : ∃ p l' d, sF (l4, d4) = (p, (l', d)) := ⟨_, _, _, rfl⟩
  refine L_inT 0 (r := (p5, (l5, d5))) rfl rfl rfl rfl rfl rfl tx65ti rfl (fun w1 hw => hr5 ▸ ts_w rb u0 l0 w1 _ _ _ _ _ (hw.at (i := 0) rfl) (fxT (i := 0) hw rfl) hD4 hby4 hc4 hl4) (fun v5 fs5 a5 n5 c5 hV5 hc5 hD5 hnw5 => ?_)
  obtain ⟨rfl, rfl⟩ := hV5
  have hby5 : Byt l5 := by have h9 := agS.byt (s := (l4, d4)) hby4; rw [hr5] at h9; exact h9
  have hl5 : l5.length ≤ 1099511627776 := by have h9 := agS.short (s := (l4, d4)) (B := 1099511627776) hl4; rw [hr5] at h9; exact h9
  refine L_v rfl rfl rfl (V_fieldAddr rfl rfl Tryz.underlying27 rfl sz9ti rfl) ?_
  refine L_store1 2 (l' := cmdV (p1, p2, p3, p4, p5, 0, dz)) rfl rfl rfl rfl rfl rfl rfl sz9ti (Nat.le_of_ble_eq_true (by kernel_rfl)) (by kernel_rfl) ?_
  refine L_nil ?_
  change J _ _ _ _
  refine J_seq ?_
  refine J_le (st' := { env := [(0, .pointer (some ⟨rb, 0, none⟩)), (2, .pointer (some ⟨b1, 0, none⟩)), (3, .pointer (some ⟨b2, 0, none⟩))], mem := [(rb, row 76 [.slice a5 n5 c5, .bool d5]), (b1, row 27 (cmdV (0, 0, 0, ⟨#[]⟩, ⟨#[]⟩, 0, dz))), (b2, row 27 (cmdV (p1, p2, p3, p4, p5, 0, dz)))], facts := [factB u0 l0] }) ⟨⟨rfl, rfl, rfl, trivial⟩, List.Sublist.refl _, (by first | exact fun f hf => hf | exact fun f hf => List.mem_append_left _ hf), rfl⟩ ?_
  refine J_region ?_
  refine L_v rfl rfl rfl (V_move rfl rfl) ?_
  obtain ⟨p6, l6, d6, hr6⟩ : ∃ p l' d, cF (l5, d5) = (p, (l', d)) := ⟨_, _, _, rfl⟩
  refine L_inT 0 (r := (p6, (l6, d6))) rfl rfl rfl rfl rfl rfl tx64ti rfl (fun w1 hw => hr6 ▸ tn_w rb u0 l0 w1 _ _ _ _ _ (hw.at (i := 0) rfl) (fxT (i := 0) hw rfl) hD5 hby5 hc5 hl5) (fun v6 fs6 a6 n6 c6 hV6 hc6 hD6 hnw6 => ?_)
  obtain ⟨rfl, rfl⟩ := hV6
  have hby6 : Byt l6 := by have h9 := agC.byt (s := (l5, d5)) hby5; rw [hr6] at h9; exact h9
  have hl6 : l6.length ≤ 1099511627776 := by have h9 := agC.short (s := (l5, d5)) (B := 1099511627776) hl5; rw [hr6] at h9; exact h9
  refine L_v rfl rfl rfl (V_fieldAddr rfl rfl Tryz.underlying27 rfl sz3ti rfl) ?_
  refine L_store1 2 (l' := cmdV (p1, p2, p3, p4, p5, p6, dz)) rfl rfl rfl rfl rfl rfl rfl sz3ti (Nat.le_of_ble_eq_true (by kernel_rfl)) (by kernel_rfl) ?_
  refine L_nil ?_
  change J _ _ _ _
  refine J_seq ?_
  refine J_le (st' := { env := [(0, .pointer (some ⟨rb, 0, none⟩)), (2, .pointer (some ⟨b1, 0, none⟩)), (3, .pointer (some ⟨b2, 0, none⟩))], mem := [(rb, row 76 [.slice a6 n6 c6, .bool d6]), (b1, row 27 (cmdV (0, 0, 0, ⟨#[]⟩, ⟨#[]⟩, 0, dz))), (b2, row 27 (cmdV (p1, p2, p3, p4, p5, p6, dz)))], facts := [factB u0 l0] }) ⟨⟨rfl, rfl, rfl, trivial⟩, List.Sublist.refl _, (by first | exact fun f hf => hf | exact fun f hf => List.mem_append_left _ hf), rfl⟩ ?_
  refine J_region ?_
  refine L_v rfl rfl rfl (V_move rfl rfl) ?_
  obtain ⟨p7, l7, d7, hr7⟩ : ∃ p l' d, dF (l6, d6) = (p, (l', d)) := ⟨_, _, _, rfl⟩
  refine L_inT 0 (r := (p7, (l7, d7))) rfl rfl rfl rfl rfl rfl tx66ti rfl (fun w1 hw => hr7 ▸ td_w rb u0 l0 w1 _ _ _ _ _ (hw.at (i := 0) rfl) (fxT (i := 0) hw rfl) hD6 hby6 hc6 hl6) (fun v7 fs7 a7 n7 c7 hV7 hc7 hD7 hnw7 => ?_)
  obtain ⟨rfl, rfl⟩ := hV7
  have hby7 : Byt l7 := by have h9 := agD.byt (s := (l6, d6)) hby6; rw [hr7] at h9; exact h9
  have hl7 : l7.length ≤ 1099511627776 := by have h9 := agD.short (s := (l6, d6)) (B := 1099511627776) hl6; rw [hr7] at h9; exact h9
  refine L_v rfl rfl rfl (V_fieldAddr rfl rfl Tryz.underlying27 rfl sz25ti rfl) ?_
  refine L_storeT 2 (l' := cmdV (p1, p2, p3, p4, p5, p6, p7)) rfl rfl rfl rfl rfl rfl (szd sz25ti (by kernel_rfl)) (all_one (by kernel_rfl)) (Nat.le_of_ble_eq_true (by kernel_rfl)) (by kernel_rfl) ?_
  refine L_nil ?_
  change J _ _ _ _
  refine J_seq ?_
  refine J_le (st' := { env := [(0, .pointer (some ⟨rb, 0, none⟩)), (2, .pointer (some ⟨b1, 0, none⟩)), (3, .pointer (some ⟨b2, 0, none⟩))], mem := [(rb, row 76 [.slice a7 n7 c7, .bool d7]), (b1, row 27 (cmdV (0, 0, 0, ⟨#[]⟩, ⟨#[]⟩, 0, dz))), (b2, row 27 (cmdV (p1, p2, p3, p4, p5, p6, p7)))], facts := [factB u0 l0] }) ⟨⟨rfl, rfl, rfl, trivial⟩, List.Sublist.refl _, (by first | exact fun f hf => hf | exact fun f hf => List.mem_append_left _ hf), rfl⟩ ?_
  refine J_region ?_
  refine L_v rfl rfl rfl (V_loadW 2 rfl rfl rfl Tryz.underlying27 rfl (szd sz27ti (by kernel_rfl))) ?_
  refine L_storeW 1 rfl rfl rfl rfl rfl rfl (szd sz27ti (by kernel_rfl)) (all_one (by kernel_rfl)) (by kernel_rfl) ?_
  refine L_nil ?_
  change J _ _ _ _
  refine J_ret ?_
  change Kret _ _ _ Exit.ret _
  refine ret1 rfl rfl (RV_c 1 rfl rfl Tryz.underlying27 rfl (szd sz27ti (by kernel_rfl))) ?_
  have e9 : cmdF (l, bd) = _ := prF_e (hr1) (prF_e (hr2) (prF_e (hr3) (prF_e (hr4) (prF_e (hr5) (prF_e (hr6) (hr7))))))
  exact fun w' h => by rw [e9]; exact InT.of h.fr ⟨rfl, rfl⟩ (by intro f hf; cases hf) (h.at (i := 0) rfl) hc7 hD7 rfl

theorem bz_thd_w (w : World) : (Instr.build 47 ([] : List (Nat × Value)).toArray).run Tryz.prog w = .ok (.agg (hdV (0, dz, dz)).toArray) w := by kernel_rfl
theorem thd_w (rb : Nat) (u0 : Value) (l0 : List Int) (w : World) (a : Option Addr) (n c : Nat) (l : List Int) (bd : Bool) (hb : w.heap[rb]? = some (row 76 [.slice a n c, .bool bd])) (hfs : Fx [factB u0 l0] w rb) (hD : ∀ W, SlB W u0 l0 → SlB W (.slice a n c) l) (hby : Byt l) (hcn : n ≤ c) (hl : l.length ≤ 1099511627776) :
    Calls Tryz.prog 79 #[.pointer (some ⟨rb, 0, none⟩)] w fun e w' => InT 76 w rb u0 l0 (hdF (l, bd)) (Va hdV) e w' := by
  refine calls_of (args := [.pointer (some ⟨rb, 0, none⟩)]) ([rb]) ([(rb, row 76 [.slice a n c, .bool bd])]) ([factB u0 l0]) Tryz.func79 rfl rfl (okM1 hb hfs) ?_
  refine J_seq ?_
  refine J_region ?_
  refine L_alloc rfl rfl rfl rfl z47ti (fun b1 => ?_)
  refine L_nil ?_
  change J _ _ _ _
  refine J_seq ?_
  refine J_region ?_
  refine L_v rfl rfl rfl (V_build (vs := []) rfl rfl bz_thd_w) ?_
  refine L_alloc rfl rfl rfl rfl z47ti (fun b2 => ?_)
  refine L_storeW 2 rfl rfl rfl rfl rfl rfl (szd sz47ti (by kernel_rfl)) (all_one (by kernel_rfl)) (by kernel_rfl) ?_
  refine L_nil ?_
  change J _ _ _ _
  refine J_seq ?_
  refine J_region ?_
  refine L_v rfl rfl rfl (V_move rfl rfl) ?_
  obtain ⟨p1, l1, d1, hr1⟩ : ∃ p l' d, cF (l, bd) = (p, (l', d)) := ⟨_, _, _, rfl⟩
  refine L_inT 0 (r := (p1, (l1, d1))) rfl rfl rfl rfl rfl rfl tx64ti rfl (fun w1 hw => hr1 ▸ tn_w rb u0 l0 w1 _ _ _ _ _ (hw.at (i := 0) rfl) (fxT (i := 0) hw rfl) hD hby hcn hl) (fun v1 fs1 a1 n1 c1 hV1 hc1 hD1 hnw1 => ?_)
  obtain ⟨rfl, rfl⟩ := hV1
  have hby1 : Byt l1 := by have h9 := agC.byt (s := (l, bd)) hby; rw [hr1] at h9; exact h9
  have hl1 : l1.length ≤ 1099511627776 := by have h9 := agC.short (s := (l, bd)) (B := 1099511627776) hl; rw [hr1] at h9; exact h9
  refine L_v rfl rfl rfl (V_fieldAddr rfl rfl Tryz.underlying47 rfl sz3ti rfl) ?_
  refine L_store1 2 (l' := hdV (p1, dz, dz)) rfl rfl rfl rfl rfl rfl rfl sz3ti (Nat.le_of_ble_eq_true (by kernel_rfl)) (by kernel_rfl) ?_
  refine L_nil ?_
  change J _ _ _ _
  refine J_seq ?_
  refine J_le (st' := { env := [(0, .pointer (some ⟨rb, 0, none⟩)), (2, .pointer (some ⟨b1, 0, none⟩)), (3, .pointer (some ⟨b2, 0, none⟩))], mem := [(rb, row 76 [.slice a1 n1 c1, .bool d1]), (b1, row 47 (hdV (0, dz, dz))), (b2, row 47 (hdV (p1, dz, dz)))], facts := [factB u0 l0] }) ⟨⟨rfl, rfl, rfl, trivial⟩, List.Sublist.refl _, (by first | exact fun f hf => hf | exact fun f hf => List.mem_append_left _ hf), rfl⟩ ?_
  refine J_region ?_
  refine L_v rfl rfl rfl (V_move rfl rfl) ?_
  obtain ⟨p2, l2, d2, hr2⟩ : ∃ p l' d, dF (l1, d1) = (p, (l', d)) := ⟨_, _, _, rfl⟩
  refine L_inT 0 (r := (p2, (l2, d2))) rfl rfl rfl rfl rfl rfl tx66ti rfl (fun w1 hw => hr2 ▸ td_w rb u0 l0 w1 _ _ _ _ _ (hw.at (i := 0) rfl) (fxT (i := 0) hw rfl) hD1 hby1 hc1 hl1) (fun v2 fs2 a2 n2 c2 hV2 hc2 hD2 hnw2 => ?_)
  obtain ⟨rfl, rfl⟩ := hV2
  have hby2 : Byt l2 := by have h9 := agD.byt (s := (l1, d1)) hby1; rw [hr2] at h9; exact h9
  have hl2 : l2.length ≤ 1099511627776 := by have h9 := agD.short (s := (l1, d1)) (B := 1099511627776) hl1; rw [hr2] at h9; exact h9
  refine L_v rfl rfl rfl (V_fieldAddr rfl rfl Tryz.underlying47 rfl sz25ti rfl) ?_
  refine L_storeT 2 (l' := hdV (p1, p2, dz)) rfl rfl rfl rfl rfl rfl (szd sz25ti (by kernel_rfl)) (all_one (by kernel_rfl)) (Nat.le_of_ble_eq_true (by kernel_rfl)) (by kernel_rfl) ?_
  refine L_nil ?_
  change J _ _ _ _
  refine J_seq ?_
  refine J_le (st' := { env := [(0, .pointer (some ⟨rb, 0, none⟩)), (2, .pointer (some ⟨b1, 0, none⟩)), (3, .pointer (some ⟨b2, 0, none⟩))], mem := [(rb, row 76 [.slice a2 n2 c2, .bool d2]), (b1, row 47 (hdV (0, dz, dz))), (b2, row 47 (hdV (p1, p2, dz)))], facts := [factB u0 l0] }) ⟨⟨rfl, rfl, rfl, trivial⟩, List.Sublist.refl _, (by first | exact fun f hf => hf | exact fun f hf => List.mem_append_left _ hf), rfl⟩ ?_
  refine J_region ?_
  refine L_v rfl rfl rfl (V_move rfl rfl) ?_
  obtain ⟨p3, l3, d3, hr3⟩ : ∃ p l' d, dF (l2, d2) = (p, (l', d)) := ⟨_, _, _, rfl⟩
  refine L_inT 0 (r := (p3, (l3, d3))) rfl rfl rfl rfl rfl rfl tx66ti rfl (fun w1 hw => hr3 ▸ td_w rb u0 l0 w1 _ _ _ _ _ (hw.at (i := 0) rfl) (fxT (i := 0) hw rfl) hD2 hby2 hc2 hl2) (fun v3 fs3 a3 n3 c3 hV3 hc3 hD3 hnw3 => ?_)
  obtain ⟨rfl, rfl⟩ := hV3
  have hby3 : Byt l3 := by have h9 := agD.byt (s := (l2, d2)) hby2; rw [hr3] at h9; exact h9
  have hl3 : l3.length ≤ 1099511627776 := by have h9 := agD.short (s := (l2, d2)) (B := 1099511627776) hl2; rw [hr3] at h9; exact h9
  refine L_v rfl rfl rfl (V_fieldAddr rfl rfl Tryz.underlying47 rfl sz25ti rfl) ?_
  refine L_storeT 2 (l' := hdV (p1, p2, p3)) rfl rfl rfl rfl rfl rfl (szd sz25ti (by kernel_rfl)) (all_one (by kernel_rfl)) (Nat.le_of_ble_eq_true (by kernel_rfl)) (by kernel_rfl) ?_
  refine L_nil ?_
  change J _ _ _ _
  refine J_seq ?_
  refine J_le (st' := { env := [(0, .pointer (some ⟨rb, 0, none⟩)), (2, .pointer (some ⟨b1, 0, none⟩)), (3, .pointer (some ⟨b2, 0, none⟩))], mem := [(rb, row 76 [.slice a3 n3 c3, .bool d3]), (b1, row 47 (hdV (0, dz, dz))), (b2, row 47 (hdV (p1, p2, p3)))], facts := [factB u0 l0] }) ⟨⟨rfl, rfl, rfl, trivial⟩, List.Sublist.refl _, (by first | exact fun f hf => hf | exact fun f hf => List.mem_append_left _ hf), rfl⟩ ?_
  refine J_region ?_
  refine L_v rfl rfl rfl (V_loadW 2 rfl rfl rfl Tryz.underlying47 rfl (szd sz47ti (by kernel_rfl))) ?_
  refine L_storeW 1 rfl rfl rfl rfl rfl rfl (szd sz47ti (by kernel_rfl)) (all_one (by kernel_rfl)) (by kernel_rfl) ?_
  refine L_nil ?_
  change J _ _ _ _
  refine J_ret ?_
  change Kret _ _ _ Exit.ret _
  refine ret1 rfl rfl (RV_c 1 rfl rfl Tryz.underlying47 rfl (szd sz47ti (by kernel_rfl))) ?_
  have e9 : hdF (l, bd) = _ := prF_e (hr1) (prF_e (hr2) (hr3))
  exact fun w' h => by rw [e9]; exact InT.of h.fr ⟨rfl, rfl⟩ (by intro f hf; cases hf) (h.at (i := 0) rfl) hc3 hD3 rfl

theorem bz_tsg_w (w : World) : (Instr.build 49 ([] : List (Nat × Value)).toArray).run Tryz.prog w = .ok (.agg (sgV ((0, dz, dz), dz)).toArray) w := by kernel_rfl
theorem tsg_w (rb : Nat) (u0 : Value) (l0 : List Int) (w : World) (a : Option Addr) (n c : Nat) (l : List Int) (bd : Bool) (hb : w.heap[rb]? = some (row 76 [.slice a n c, .bool bd])) (hfs : Fx [factB u0 l0] w rb) (hD : ∀ W, SlB W u0 l0 → SlB W (.slice a n c) l) (hby : Byt l) (hcn : n ≤ c) (hl : l.length ≤ 1099511627776) :
    Calls Tryz.prog 49 #[.pointer (some ⟨rb, 0, none⟩)] w fun e w' => InT 76 w rb u0 l0 (sgF (l, bd)) (Va sgV) e w' := by
  refine calls_of (args := [.pointer (some ⟨rb, 0, none⟩)]) ([rb]) ([(rb, row 76 [.slice a n c, .bool bd])]) ([factB u0 l0]) Tryz.func49 rfl rfl (okM1 hb hfs) ?_
  refine J_seq ?_
  refine J_region ?_
  refine L_alloc rfl rfl rfl rfl z49ti (fun b1 => ?_)
  refine L_nil ?_
  change J _ _ _ _
  refine J_seq ?_
  refine J_region ?_
  refine L_v rfl rfl rfl (V_build (vs := []) rfl rfl bz_tsg_w) ?_
  refine L_alloc rfl rfl rfl rfl z49ti (fun b2 => ?_)
  refine L_storeW 2 rfl rfl rfl rfl rfl rfl (szd sz49ti (by kernel_rfl)) (all_one (by kernel_rfl)) (by kernel_rfl) ?_
  refine L_nil ?_
  change J _ _ _ _
  refine J_seq ?_
  refine J_region ?_
  refine L_v rfl rfl rfl (V_move rfl rfl) ?_
  obtain ⟨p1, l1, d1, hr1⟩ : ∃ p l' d, hdF (l, bd) = (p, (l', d)) := ⟨_, _, _, rfl⟩
  refine L_inT 0 (r := (p1, (l1, d1))) rfl rfl rfl rfl rfl rfl tx79ti rfl (fun w1 hw => hr1 ▸ thd_w rb u0 l0 w1 _ _ _ _ _ (hw.at (i := 0) rfl) (fxT (i := 0) hw rfl) hD hby hcn hl) (fun v1 fs1 a1 n1 c1 hV1 hc1 hD1 hnw1 => ?_)
  obtain ⟨rfl, rfl⟩ := hV1
  have hby1 : Byt l1 := by have h9 := agHd.byt (s := (l, bd)) hby; rw [hr1] at h9; exact h9
  have hl1 : l1.length ≤ 1099511627776 := by have h9 := agHd.short (s := (l, bd)) (B := 1099511627776) hl; rw [hr1] at h9; exact h9
  refine L_v rfl rfl rfl (V_fieldAddr rfl rfl Tryz.underlying49 rfl sz47ti rfl) ?_
  refine L_storeT 2 (l' := sgV (p1, dz)) rfl rfl rfl rfl rfl rfl (szd sz47ti (by kernel_rfl)) (all_one (by kernel_rfl)) (Nat.le_of_ble_eq_true (by kernel_rfl)) (by kernel_rfl) ?_
  refine L_nil ?_
  change J _ _ _ _
  refine J_seq ?_
  refine J_le (st' := { env := [(0, .pointer (some ⟨rb, 0, none⟩)), (2, .pointer (some ⟨b1, 0, none⟩)), (3, .pointer (some ⟨b2, 0, none⟩))], mem := [(rb, row 76 [.slice a1 n1 c1, .bool d1]), (b1, row 49 (sgV ((0, dz, dz), dz))), (b2, row 49 (sgV (p1, dz)))], facts := [factB u0 l0] }) ⟨⟨rfl, rfl, rfl, trivial⟩, List.Sublist.refl _, (by first | exact fun f hf => hf | exact fun f hf => List.mem_append_left _ hf), rfl⟩ ?_
  refine J_region ?_
  refine L_v rfl rfl rfl (V_move rfl rfl) ?_
  obtain ⟨p2, l2, d2, hr2⟩ : ∃ p l' d, dF (l1, d1) = (p, (l', d)) := ⟨_, _, _, rfl⟩
  refine L_inT 0 (r := (p2, (l2, d2))) rfl rfl rfl rfl rfl rfl tx66ti rfl (fun w1 hw => hr2 ▸ td_w rb u0 l0 w1 _ _ _ _ _ (hw.at (i := 0) rfl) (fxT (i := 0) hw rfl) hD1 hby1 hc1 hl1) (fun v2 fs2 a2 n2 c2 hV2 hc2 hD2 hnw2 => ?_)
  obtain ⟨rfl, rfl⟩ := hV2
  have hby2 : Byt l2 := by have h9 := agD.byt (s := (l1, d1)) hby1; rw [hr2] at h9; exact h9
  have hl2 : l2.length ≤ 1099511627776 := by have h9 := agD.short (s := (l1, d1)) (B := 1099511627776) hl1; rw [hr2] at h9; exact h9
  refine L_v rfl rfl rfl (V_fieldAddr rfl rfl Tryz.underlying49 rfl sz25ti rfl) ?_
  refine L_storeT 2 (l' := sgV (p1, p2)) rfl rfl rfl rfl rfl rfl (szd sz25ti (by kernel_rfl)) (all_one (by kernel_rfl)) (Nat.le_of_ble_eq_true (by kernel_rfl)) (by kernel_rfl) ?_
  refine L_nil ?_
  change J _ _ _ _
  refine J_seq ?_
  refine J_le (st' := { env := [(0, .pointer (some ⟨rb, 0, none⟩)), (2, .pointer (some ⟨b1, 0, none⟩)), (3, .pointer (some ⟨b2, 0, none⟩))], mem := [(rb, row 76 [.slice a2 n2 c2, .bool d2]), (b1, row 49 (sgV ((0, dz, dz), dz))), (b2, row 49 (sgV (p1, p2)))], facts := [factB u0 l0] }) ⟨⟨rfl, rfl, rfl, trivial⟩, List.Sublist.refl _, (by first | exact fun f hf => hf | exact fun f hf => List.mem_append_left _ hf), rfl⟩ ?_
  refine J_region ?_
  refine L_v rfl rfl rfl (V_loadW 2 rfl rfl rfl Tryz.underlying49 rfl (szd sz49ti (by kernel_rfl))) ?_
  refine L_storeW 1 rfl rfl rfl rfl rfl rfl (szd sz49ti (by kernel_rfl)) (all_one (by kernel_rfl)) (by kernel_rfl) ?_
  refine L_nil ?_
  change J _ _ _ _
  refine J_ret ?_
  change Kret _ _ _ Exit.ret _
  refine ret1 rfl rfl (RV_c 1 rfl rfl Tryz.underlying49 rfl (szd sz49ti (by kernel_rfl))) ?_
  have e9 : sgF (l, bd) = _ := prF_e (hr1) (hr2)
  exact fun w' h => by rw [e9]; exact InT.of h.fr ⟨rfl, rfl⟩ (by intro f hf; cases hf) (h.at (i := 0) rfl) hc2 hD2 rfl

theorem bz_tcl_w (w : World) : (Instr.build 36 ([] : List (Nat × Value)).toArray).run Tryz.prog w = .ok (.agg (clV (.slice none 0 0) (.slice none 0 0)).toArray) w := by kernel_rfl
theorem tcl_w (rb : Nat) (u0 : Value) (l0 : List Int) (w : World) (a : Option Addr) (n c : Nat) (l : List Int) (bd : Bool) (hb : w.heap[rb]? = some (row 76 [.slice a n c, .bool bd])) (hfs : Fx [factB u0 l0] w rb) (hD : ∀ W, SlB W u0 l0 → SlB W (.slice a n c) l) (hby : Byt l) (hcn : n ≤ c) (hl : l.length ≤ 1099511627776) :
    Calls Tryz.prog 73 #[.pointer (some ⟨rb, 0, none⟩)] w fun e w' => InT 76 w rb u0 l0 (clRF (l, bd)) (Wcl) e w' := by
  refine calls_of (args := [.pointer (some ⟨rb, 0, none⟩)]) ([rb]) ([(rb, row 76 [.slice a n c, .bool bd])]) ([factB u0 l0]) Tryz.func73 rfl rfl (okM1 hb hfs) ?_
  refine J_seq ?_
  refine J_region ?_
  refine L_alloc rfl rfl rfl rfl z36ti (fun b1 => ?_)
  refine L_nil ?_
  change J _ _ _ _
  refine J_seq ?_
  refine J_region ?_
  refine L_v rfl rfl rfl (V_build (vs := []) rfl rfl bz_tcl_w) ?_
  refine L_alloc rfl rfl rfl rfl z36ti (fun b2 => ?_)
  refine L_storeW 2 rfl rfl rfl rfl rfl rfl (szd sz36ti (by kernel_rfl)) (all_one (by kernel_rfl)) (by kernel_rfl) ?_
  refine L_nil ?_
  change J _ _ _ _
  refine J_seq ?_
  refine J_region ?_
  refine L_v rfl rfl rfl (V_move rfl rfl) ?_
  obtain ⟨p1, l1, d1, hr1⟩ : ∃ p l' d, (lsF cF) (l, bd) = (p, (l', d)) := ⟨_, _, _, rfl⟩
  refine L_inT 0 (r := (p1, (l1, d1))) rfl rfl rfl rfl rfl rfl tx108ti rfl (fun w1 hw => hr1 ▸ tints_w rb u0 l0 w1 _ _ _ _ _ (hw.at (i := 0) rfl) (fxT (i := 0) hw rfl) hD hby hcn hl) (fun v1 fs1 a1 n1 c1 hV1 hc1 hD1 hnw1 => ?_)
  obtain ⟨⟨va1, vc1, rfl⟩, rfl⟩ := hV1
  have hby1 : Byt l1 := by have h9 := (agL agC).byt (s := (l, bd)) hby; rw [hr1] at h9; exact h9
  have hl1 : l1.length ≤ 1099511627776 := by have h9 := (agL agC).short (s := (l, bd)) (B := 1099511627776) hl; rw [hr1] at h9; exact h9
  refine L_v rfl rfl rfl (V_fieldAddr rfl rfl Tryz.underlying36 rfl sz34ti rfl) ?_
  refine L_store1 2 (l' := clV (Sl va1 p1.length vc1) (.slice none 0 0)) rfl rfl rfl rfl rfl rfl rfl sz34ti (Nat.le_of_ble_eq_true (by kernel_rfl)) (by kernel_rfl) ?_
  refine L_nil ?_
  change J _ _ _ _
  refine J_seq ?_
  refine J_le (st' := { env := [(0, .pointer (some ⟨rb, 0, none⟩)), (2, .pointer (some ⟨b1, 0, none⟩)), (3, .pointer (some ⟨b2, 0, none⟩))], mem := [(rb, row 76 [.slice a1 n1 c1, .bool d1]), (b1, row 36 (clV (.slice none 0 0) (.slice none 0 0))), (b2, row 36 (clV (Sl va1 p1.length vc1) (.slice none 0 0)))], facts := [factB u0 l0] ++ [factC 1 (Sl va1 p1.length vc1) p1.length (ints p1)] }) ⟨⟨rfl, rfl, rfl, trivial⟩, List.Sublist.refl _, (by first | exact fun f hf => hf | exact fun f hf => List.mem_append_left _ hf), rfl⟩ ?_
  refine J_region ?_
  refine L_v rfl rfl rfl (V_move rfl rfl) ?_
  obtain ⟨p2, l2, d2, hr2⟩ : ∃ p l' d, (lsF cF) (l1, d1) = (p, (l', d)) := ⟨_, _, _, rfl⟩
  refine L_inT 0 (r := (p2, (l2, d2))) rfl rfl rfl rfl rfl rfl tx108ti rfl (fun w1 hw => hr2 ▸ tints_w rb u0 l0 w1 _ _ _ _ _ (hw.at (i := 0) rfl) (fxT (i := 0) hw rfl) hD1 hby1 hc1 hl1) (fun v2 fs2 a2 n2 c2 hV2 hc2 hD2 hnw2 => ?_)
  obtain ⟨⟨va2, vc2, rfl⟩, rfl⟩ := hV2
  have hby2 : Byt l2 := by have h9 := (agL agC).byt (s := (l1, d1)) hby1; rw [hr2] at h9; exact h9
  have hl2 : l2.length ≤ 1099511627776 := by have h9 := (agL agC).short (s := (l1, d1)) (B := 1099511627776) hl1; rw [hr2] at h9; exact h9
  refine L_v rfl rfl rfl (V_fieldAddr rfl rfl Tryz.underlying36 rfl sz34ti rfl) ?_
  refine L_store1 2 (l' := clV (Sl va1 p1.length vc1) (Sl va2 p2.length vc2)) rfl rfl rfl rfl rfl rfl rfl sz34ti (Nat.le_of_ble_eq_true (by kernel_rfl)) (by kernel_rfl) ?_
  refine L_nil ?_
  change J _ _ _ _
  refine J_seq ?_
  refine J_le (st' := { env := [(0, .pointer (some ⟨rb, 0, none⟩)), (2, .pointer (some ⟨b1, 0, none⟩)), (3, .pointer (some ⟨b2, 0, none⟩))], mem := [(rb, row 76 [.slice a2 n2 c2, .bool d2]), (b1, row 36 (clV (.slice none 0 0) (.slice none 0 0))), (b2, row 36 (clV (Sl va1 p1.length vc1) (Sl va2 p2.length vc2)))], facts := [factB u0 l0] ++ [factC 1 (Sl va1 p1.length vc1) p1.length (ints p1)] ++ [factC 1 (Sl va2 p2.length vc2) p2.length (ints p2)] }) ⟨⟨rfl, rfl, rfl, trivial⟩, List.Sublist.refl _, (by first | exact fun f hf => hf | exact fun f hf => List.mem_append_left _ hf), rfl⟩ ?_
  refine J_region ?_
  refine L_v rfl rfl rfl (V_loadW 2 rfl rfl rfl Tryz.underlying36 rfl (szd sz36ti (by kernel_rfl))) ?_
  refine L_storeW 1 rfl rfl rfl rfl rfl rfl (szd sz36ti (by kernel_rfl)) (all_one (by kernel_rfl)) (by kernel_rfl) ?_
  refine L_nil ?_
  change J _ _ _ _
  refine J_ret ?_
  change Kret _ _ _ Exit.ret _
  refine ret1 rfl rfl (RV_c 1 rfl rfl Tryz.underlying36 rfl (szd sz36ti (by kernel_rfl))) ?_
  have e9 : clRF (l, bd) = _ := prF_e (hr1) (hr2)
  exact fun w' h => by rw [e9]; exact InT.of h.fr ⟨va1, vc1, va2, vc2, rfl, rfl⟩ (inFacts h (fun f hf => List.mem_cons_of_mem _ hf) (by intro f hf; simp only [clF, List.mem_cons, List.not_mem_nil, or_false] at hf; rcases hf with rfl | rfl; exact hnw1 _ (List.mem_singleton.2 rfl); exact hnw2 _ (List.mem_singleton.2 rfl))) (h.at (i := 0) rfl) hc2 hD2 rfl

theorem bz_ten_w (w : World) : (Instr.build 38 ([] : List (Nat × Value)).toArray).run Tryz.prog w = .ok (.agg (enV (0, 0, 0, (0, 0, 0, ⟨#[]⟩, ⟨#[]⟩, 0, dz), ([], [])) (.slice none 0 0) (.slice none 0 0)).toArray) w := by kernel_rfl
theorem ten_w (rb : Nat) (u0 : Value) (l0 : List Int) (w : World) (a : Option Addr) (n c : Nat) (l : List Int) (bd : Bool) (hb : w.heap[rb]? = some (row 76 [.slice a n c, .bool bd])) (hfs : Fx [factB u0 l0] w rb) (hD : ∀ W, SlB W u0 l0 → SlB W (.slice a n c) l) (hby : Byt l) (hcn : n ≤ c) (hl : l.length ≤ 1099511627776) :
    Calls Tryz.prog 37 #[.pointer (some ⟨rb, 0, none⟩)] w fun e w' => InT 76 w rb u0 l0 (enF (l, bd)) (Wen) e w' := by
  refine calls_of (args := [.pointer (some ⟨rb, 0, none⟩)]) ([rb]) ([(rb, row 76 [.slice a n c, .bool bd])]) ([factB u0 l0]) Tryz.func37 rfl rfl (okM1 hb hfs) ?_
  refine J_seq ?_
  refine J_region ?_
  refine L_alloc rfl rfl rfl rfl z38ti (fun b1 => ?_)
  refine L_nil ?_
  change J _ _ _ _
  refine J_seq ?_
  refine J_region ?_
  refine L_v rfl rfl rfl (V_build (vs := []) rfl rfl bz_ten_w) ?_
  refine L_alloc rfl rfl rfl rfl z38ti (fun b2 => ?_)
  refine L_storeW 2 rfl rfl rfl rfl rfl rfl (szd sz38ti (by kernel_rfl)) (all_one (by kernel_rfl)) (by kernel_rfl) ?_
  refine L_nil ?_
  change J _ _ _ _
  refine J_seq ?_
  refine J_region ?_
  refine L_v rfl rfl rfl (V_move rfl rfl) ?_
  obtain ⟨p1, l1, d1, hr1⟩ : ∃ p l' d, cF (l, bd) = (p, (l', d)) := ⟨_, _, _, rfl⟩
  refine L_inT 0 (r := (p1, (l1, d1))) rfl rfl rfl rfl rfl rfl tx64ti rfl (fun w1 hw => hr1 ▸ tn_w rb u0 l0 w1 _ _ _ _ _ (hw.at (i := 0) rfl) (fxT (i := 0) hw rfl) hD hby hcn hl) (fun v1 fs1 a1 n1 c1 hV1 hc1 hD1 hnw1 => ?_)
  obtain ⟨rfl, rfl⟩ := hV1
  have hby1 : Byt l1 := by have h9 := agC.byt (s := (l, bd)) hby; rw [hr1] at h9; exact h9
  have hl1 : l1.length ≤ 1099511627776 := by have h9 := agC.short (s := (l, bd)) (B := 1099511627776) hl; rw [hr1] at h9; exact h9
  refine L_v rfl rfl rfl (V_fieldAddr rfl rfl Tryz.underlying38 rfl sz3ti rfl) ?_
  refine L_store1 2 (l' := enV (p1, 0, 0, (0, 0, 0, ⟨#[]⟩, ⟨#[]⟩, 0, dz), ([], [])) (.slice none 0 0) (.slice none 0 0)) rfl rfl rfl rfl rfl rfl rfl sz3ti (Nat.le_of_ble_eq_true (by kernel_rfl)) (by kernel_rfl) ?_
  refine L_nil ?_
  change J _ _ _ _
  refine J_seq ?_
  refine J_le (st' := { env := [(0, .pointer (some ⟨rb, 0, none⟩)), (2, .pointer (some ⟨b1, 0, none⟩)), (3, .pointer (some ⟨b2, 0, none⟩))], mem := [(rb, row 76 [.slice a1 n1 c1, .bool d1]), (b1, row 38 (enV (0, 0, 0, (0, 0, 0, ⟨#[]⟩, ⟨#[]⟩, 0, dz), ([], [])) (.slice none 0 0) (.slice none 0 0))), (b2, row 38 (enV (p1, 0, 0, (0, 0, 0, ⟨#[]⟩, ⟨#[]⟩, 0, dz), ([], [])) (.slice none 0 0) (.slice none 0 0)))], facts := [factB u0 l0] }) ⟨⟨rfl, rfl, rfl, trivial⟩, List.Sublist.refl _, (by first | exact fun f hf => hf | exact fun f hf => List.mem_append_left _ hf), rfl⟩ ?_
  refine J_region ?_
  refine L_v rfl rfl rfl (V_move rfl rfl) ?_
  obtain ⟨p2, l2, d2, hr2⟩ : ∃ p l' d, cF (l1, d1) = (p, (l', d)) := ⟨_, _, _, rfl⟩
  refine L_inT 0 (r := (p2, (l2, d2))) rfl rfl rfl rfl rfl rfl tx64ti rfl (fun w1 hw => hr2 ▸ tn_w rb u0 l0 w1 _ _ _ _ _ (hw.at (i := 0) rfl) (fxT (i := 0) hw rfl) hD1 hby1 hc1 hl1) (fun v2 fs2 a2 n2 c2 hV2 hc2 hD2 hnw2 => ?_)
  obtain ⟨rfl, rfl⟩ := hV2
  have hby2 : Byt l2 := by have h9 := agC.byt (s := (l1, d1)) hby1; rw [hr2] at h9; exact h9
  have hl2 : l2.length ≤ 1099511627776 := by have h9 := agC.short (s := (l1, d1)) (B := 1099511627776) hl1; rw [hr2] at h9; exact h9
  refine L_v rfl rfl rfl (V_fieldAddr rfl rfl Tryz.underlying38 rfl sz3ti rfl) ?_
  refine L_store1 2 (l' := enV (p1, p2, 0, (0, 0, 0, ⟨#[]⟩, ⟨#[]⟩, 0, dz), ([], [])) (.slice none 0 0) (.slice none 0 0)) rfl rfl rfl rfl rfl rfl rfl sz3ti (Nat.le_of_ble_eq_true (by kernel_rfl)) (by kernel_rfl) ?_
  refine L_nil ?_
  change J _ _ _ _
  refine J_seq ?_
  refine J_le (st' := { env := [(0, .pointer (some ⟨rb, 0, none⟩)), (2, .pointer (some ⟨b1, 0, none⟩)), (3, .pointer (some ⟨b2, 0, none⟩))], mem := [(rb, row 76 [.slice a2 n2 c2, .bool d2]), (b1, row 38 (enV (0, 0, 0, (0, 0, 0, ⟨#[]⟩, ⟨#[]⟩, 0, dz), ([], [])) (.slice none 0 0) (.slice none 0 0))), (b2, row 38 (enV (p1, p2, 0, (0, 0, 0, ⟨#[]⟩, ⟨#[]⟩, 0, dz), ([], [])) (.slice none 0 0) (.slice none 0 0)))], facts := [factB u0 l0] }) ⟨⟨rfl, rfl, rfl, trivial⟩, List.Sublist.refl _, (by first | exact fun f hf => hf | exact fun f hf => List.mem_append_left _ hf), rfl⟩ ?_
  refine J_region ?_
  refine L_v rfl rfl rfl (V_move rfl rfl) ?_
  obtain ⟨p3, l3, d3, hr3⟩ : ∃ p l' d, cF (l2, d2) = (p, (l', d)) := ⟨_, _, _, rfl⟩
  refine L_inT 0 (r := (p3, (l3, d3))) rfl rfl rfl rfl rfl rfl tx64ti rfl (fun w1 hw => hr3 ▸ tn_w rb u0 l0 w1 _ _ _ _ _ (hw.at (i := 0) rfl) (fxT (i := 0) hw rfl) hD2 hby2 hc2 hl2) (fun v3 fs3 a3 n3 c3 hV3 hc3 hD3 hnw3 => ?_)
  obtain ⟨rfl, rfl⟩ := hV3
  have hby3 : Byt l3 := by have h9 := agC.byt (s := (l2, d2)) hby2; rw [hr3] at h9; exact h9
  have hl3 : l3.length ≤ 1099511627776 := by have h9 := agC.short (s := (l2, d2)) (B := 1099511627776) hl2; rw [hr3] at h9; exact h9
  refine L_v rfl rfl rfl (V_assign rfl rfl) ?_
  refine L_nil ?_
  change J _ _ _ _
  refine J_seq ?_
  refine J_region ?_
  refine L_v rfl rfl rfl (V_move rfl rfl) ?_
  refine L_v rfl rfl rfl (V_fieldAddr rfl rfl Tryz.underlying38 rfl sz33ti rfl) ?_
  refine L_store1 2 (l' := enV (p1, p2, p3, (0, 0, 0, ⟨#[]⟩, ⟨#[]⟩, 0, dz), ([], [])) (.slice none 0 0) (.slice none 0 0)) rfl rfl rfl rfl rfl rfl rfl sz33ti (Nat.le_of_ble_eq_true (by kernel_rfl)) (by kernel_rfl) ?_
  refine L_nil ?_
  change J _ _ _ _
  refine J_seq ?_
  refine J_le (st' := { env := [(0, .pointer (some ⟨rb, 0, none⟩)), (2, .pointer (some ⟨b1, 0, none⟩)), (3, .pointer (some ⟨b2, 0, none⟩))], mem := [(rb, row 76 [.slice a3 n3 c3, .bool d3]), (b1, row 38 (enV (0, 0, 0, (0, 0, 0, ⟨#[]⟩, ⟨#[]⟩, 0, dz), ([], [])) (.slice none 0 0) (.slice none 0 0))), (b2, row 38 (enV (p1, p2, p3, (0, 0, 0, ⟨#[]⟩, ⟨#[]⟩, 0, dz), ([], [])) (.slice none 0 0) (.slice none 0 0)))], facts := [factB u0 l0] }) ⟨⟨rfl, rfl, rfl, trivial⟩, List.Sublist.refl _, (by first | exact fun f hf => hf | exact fun f hf => List.mem_append_left _ hf), rfl⟩ ?_
  refine J_region ?_
  refine L_v rfl rfl rfl (V_move rfl rfl) ?_
  obtain ⟨p4, l4, d4, hr4⟩ : ∃ p l' d, cmdF (l3, d3) = (p, (l', d)) := ⟨_, _, _, rfl⟩
  refine L_inT 0 (r := (p4, (l4, d4))) rfl rfl rfl rfl rfl rfl tx29ti rfl (fun w1 hw => hr4 ▸ tcmd_w rb u0 l0 w1 _ _ _ _ _ (hw.at (i := 0) rfl) (fxT (i := 0) hw rfl) hD3 hby3 hc3 hl3) (fun v4 fs4 a4 n4 c4 hV4 hc4 hD4 hnw4 => ?_)
  obtain ⟨rfl, rfl⟩ := hV4
  have hby4 : Byt l4 := by have h9 := agCmd.byt (s := (l3, d3)) hby3; rw [hr4] at h9; exact h9
  have hl4 : l4.length ≤ 1099511627776 := by have h9 := agCmd.short (s := (l3, d3)) (B := 1099511627776) hl3; rw [hr4] at h9; exact h9
  refine L_v rfl rfl rfl (V_fieldAddr rfl rfl Tryz.underlying38 rfl sz27ti rfl) ?_
  refine L_storeT 2 (l' := enV (p1, p2, p3, p4, ([], [])) (.slice none 0 0) (.slice none 0 0)) rfl rfl rfl rfl rfl rfl (szd sz27ti (by kernel_rfl)) (all_one (by kernel_rfl)) (Nat.le_of_ble_eq_true (by kernel_rfl)) (by kernel_rfl) ?_
  refine L_nil ?_
  change J _ _ _ _
  refine J_seq ?_
  refine J_le (st' := { env := [(0, .pointer (some ⟨rb, 0, none⟩)), (2, .pointer (some ⟨b1, 0, none⟩)), (3, .pointer (some ⟨b2, 0, none⟩))], mem := [(rb, row 76 [.slice a4 n4 c4, .bool d4]), (b1, row 38 (enV (0, 0, 0, (0, 0, 0, ⟨#[]⟩, ⟨#[]⟩, 0, dz), ([], [])) (.slice none 0 0) (.slice none 0 0))), (b2, row 38 (enV (p1, p2, p3, p4, ([], [])) (.slice none 0 0) (.slice none 0 0)))], facts := [factB u0 l0] }) ⟨⟨rfl, rfl, rfl, trivial⟩, List.Sublist.refl _, (by first | exact fun f hf => hf | exact fun f hf => List.mem_append_left _ hf), rfl⟩ ?_
  refine J_region ?_
  refine L_v rfl rfl rfl (V_move rfl rfl) ?_
  obtain ⟨p5, l5, d5, hr5⟩ : ∃ p l' d, clRF (l4, d4) = (p, (l', d)) := ⟨_, _, _, rfl⟩
  refine L_inT 0 (r := (p5, (l5, d5))) rfl rfl rfl rfl rfl rfl tx73ti rfl (fun w1 hw => hr5 ▸ tcl_w rb u0 l0 w1 _ _ _ _ _ (hw.at (i := 0) rfl) (fxT (i := 0) hw rfl) hD4 hby4 hc4 hl4) (fun v5 fs5 a5 n5 c5 hV5 hc5 hD5 hnw5 => ?_)
  obtain ⟨va5, vc5, vb5, vd5, rfl, rfl⟩ := hV5
  have hby5 : Byt l5 := by have h9 := agCl.byt (s := (l4, d4)) hby4; rw [hr5] at h9; exact h9
  have hl5 : l5.length ≤ 1099511627776 := by have h9 := agCl.short (s := (l4, d4)) (B := 1099511627776) hl4; rw [hr5] at h9; exact h9
  refine L_v rfl rfl rfl (V_fieldAddr rfl rfl Tryz.underlying38 rfl sz36ti rfl) ?_
  refine L_storeT 2 (l' := enV (p1, p2, p3, p4, p5) (Sl va5 p5.1.length vc5) (Sl vb5 p5.2.length vd5)) rfl rfl rfl rfl rfl rfl (szd sz36ti (by kernel_rfl)) (all_one (by kernel_rfl)) (Nat.le_of_ble_eq_true (by kernel_rfl)) (by kernel_rfl) ?_
  refine L_nil ?_
  change J _ _ _ _
  refine J_seq ?_
  refine J_le (st' := { env := [(0, .pointer (some ⟨rb, 0, none⟩)), (2, .pointer (some ⟨b1, 0, none⟩)), (3, .pointer (some ⟨b2, 0, none⟩))], mem := [(rb, row 76 [.slice a5 n5 c5, .bool d5]), (b1, row 38 (enV (0, 0, 0, (0, 0, 0, ⟨#[]⟩, ⟨#[]⟩, 0, dz), ([], [])) (.slice none 0 0) (.slice none 0 0))), (b2, row 38 (enV (p1, p2, p3, p4, p5) (Sl va5 p5.1.length vc5) (Sl vb5 p5.2.length vd5)))], facts := [factB u0 l0] ++ clF (Sl va5 p5.1.length vc5) (Sl vb5 p5.2.length vd5) p5 }) ⟨⟨rfl, rfl, rfl, trivial⟩, List.Sublist.refl _, (by first | exact fun f hf => hf | exact fun f hf => List.mem_append_left _ hf), rfl⟩ ?_
  refine J_region ?_
  refine L_v rfl rfl rfl (V_loadW 2 rfl rfl rfl Tryz.underlying38 rfl (szd sz38ti (by kernel_rfl))) ?_
  refine L_storeW 1 rfl rfl rfl rfl rfl rfl (szd sz38ti (by kernel_rfl)) (all_one (by kernel_rfl)) (by kernel_rfl) ?_
  refine L_nil ?_
  change J _ _ _ _
  refine J_ret ?_
  change Kret _ _ _ Exit.ret _
  refine ret1 rfl rfl (RV_c 1 rfl rfl Tryz.underlying38 rfl (szd sz38ti (by kernel_rfl))) ?_
  have e9 : enF (l, bd) = _ := prF_e (hr1) (prF_e (hr2) (prF_e (hr3) (prF_e (hr4) (hr5))))
  exact fun w' h => by rw [e9]; exact InT.of h.fr ⟨va5, vc5, vb5, vd5, rfl, rfl⟩ (inFacts h (fun f hf => List.mem_cons_of_mem _ hf) (hnw5)) (h.at (i := 0) rfl) hc5 hD5 rfl

theorem bz_trec_w (w : World) : (Instr.build 51 ([] : List (Nat × Value)).toArray).run Tryz.prog w = .ok (.agg (recV (0, 0, 0, (0, 0, 0, (0, 0, 0, ⟨#[]⟩, ⟨#[]⟩, 0, dz), ([], [])), 0, (0, 0, ([], []), ⟨#[]⟩), ((0, dz, dz), dz)) (.slice none 0 0) (.slice none 0 0) (.slice none 0 0) (.slice none 0 0)).toArray) w := by kernel_rfl
set_option maxHeartbeats 2000000 in
theorem trec_w (rb : Nat) (u0 : Value) (l0 : List Int) (w : World) (a : Option Addr) (n c : Nat) (l : List Int) (bd : Bool) (hb : w.heap[rb]? = some (row 76 [.slice a n c, .bool bd])) (hfs : Fx [factB u0 l0] w rb) (hD : ∀ W, SlB W u0 l0 → SlB W (.slice a n c) l) (hby : Byt l) (hcn : n ≤ c) (hl : l.length ≤ 1099511627776) :
    Calls Tryz.prog 43 #[.pointer (some ⟨rb, 0, none⟩)] w fun e w' => InT 76 w rb u0 l0 (recF (l, bd)) (Wrec) e w' := by
  refine calls_of (args := [.pointer (some ⟨rb, 0, none⟩)]) ([rb]) ([(rb, row 76 [.slice a n c, .bool bd])]) ([factB u0 l0]) Tryz.func43 rfl rfl (okM1 hb hfs) ?_
  refine J_seq ?_
  refine J_region ?_
  refine L_alloc rfl rfl rfl rfl z51ti (fun b1 => ?_)
  refine L_nil ?_
  change J _ _ _ _
  refine J_seq ?_
  refine J_region ?_
  refine L_v rfl rfl rfl (V_build (vs := []) rfl rfl bz_trec_w) ?_
  refine L_alloc rfl rfl rfl rfl z51ti (fun b2 => ?_)
  refine L_storeW 2 rfl rfl rfl rfl rfl rfl (szd sz51ti (by kernel_rfl)) (all_one (by kernel_rfl)) (by kernel_rfl) ?_
  refine L_nil ?_
  change J _ _ _ _
  refine J_seq ?_
  refine J_region ?_
  refine L_v rfl rfl rfl (V_move rfl rfl) ?_
  obtain ⟨p1, l1, d1, hr1⟩ : ∃ p l' d, cF (l, bd) = (p, (l', d)) := ⟨_, _, _, rfl⟩
  refine L_inT 0 (r := (p1, (l1, d1))) rfl rfl rfl rfl rfl rfl tx64ti rfl (fun w1 hw => hr1 ▸ tn_w rb u0 l0 w1 _ _ _ _ _ (hw.at (i := 0) rfl) (fxT (i := 0) hw rfl) hD hby hcn hl) (fun v1 fs1 a1 n1 c1 hV1 hc1 hD1 hnw1 => ?_)
  obtain ⟨rfl, rfl⟩ := hV1
  have hby1 : Byt l1 := by have h9 := agC.byt (s := (l, bd)) hby; rw [hr1] at h9; exact h9
  have hl1 : l1.length ≤ 1099511627776 := by have h9 := agC.short (s := (l, bd)) (B := 1099511627776) hl; rw [hr1] at h9; exact h9
  refine L_v rfl rfl rfl (V_assign rfl rfl) ?_
  refine L_nil ?_
  change J _ _ _ _
  refine J_seq ?_
  refine J_region ?_
  refine L_v rfl rfl rfl (V_move rfl rfl) ?_
  refine L_v rfl rfl rfl (V_fieldAddr rfl rfl Tryz.underlying51 rfl sz43ti rfl) ?_
  refine L_store1 2 (l' := recV (p1, 0, 0, (0, 0, 0, (0, 0, 0, ⟨#[]⟩, ⟨#[]⟩, 0, dz), ([], [])), 0, (0, 0, ([], []), ⟨#[]⟩), ((0, dz, dz), dz)) (.slice none 0 0) (.slice none 0 0) (.slice none 0 0) (.slice none 0 0)) rfl rfl rfl rfl rfl rfl rfl sz43ti (Nat.le_of_ble_eq_true (by kernel_rfl)) (by kernel_rfl) ?_
  refine L_nil ?_
  change J _ _ _ _
  refine J_seq ?_
  refine J_le (st' := { env := [(0, .pointer (some ⟨rb, 0, none⟩)), (2, .pointer (some ⟨b1, 0, none⟩)), (3, .pointer (some ⟨b2, 0, none⟩))], mem := [(rb, row 76 [.slice a1 n1 c1, .bool d1]), (b1, row 51 (recV (0, 0, 0, (0, 0, 0, (0, 0, 0, ⟨#[]⟩, ⟨#[]⟩, 0, dz), ([], [])), 0, (0, 0, ([], []), ⟨#[]⟩), ((0, dz, dz), dz)) (.slice none 0 0) (.slice none 0 0) (.slice none 0 0) (.slice none 0 0))), (b2, row 51 (recV (p1, 0, 0, (0, 0, 0, (0, 0, 0, ⟨#[]⟩, ⟨#[]⟩, 0, dz), ([], [])), 0, (0, 0, ([], []), ⟨#[]⟩), ((0, dz, dz), dz)) (.slice none 0 0) (.slice none 0 0) (.slice none 0 0) (.slice none 0 0)))], facts := [factB u0 l0] }) ⟨⟨rfl, rfl, rfl, trivial⟩, List.Sublist.refl _, (by first | exact fun f hf => hf | exact fun f hf => List.mem_append_left _ hf), rfl⟩ ?_
  refine J_region ?_
  refine L_v rfl rfl rfl (V_move rfl rfl) ?_
  obtain ⟨p2, l2, d2, hr2⟩ : ∃ p l' d, cF (l1, d1) = (p, (l', d)) := ⟨_, _, _, rfl⟩
  refine L_inT 0 (r := (p2, (l2, d2))) rfl rfl rfl rfl rfl rfl tx64ti rfl (fun w1 hw => hr2 ▸ tn_w rb u0 l0 w1 _ _ _ _ _ (hw.at (i := 0) rfl) (fxT (i := 0) hw rfl) hD1 hby1 hc1 hl1) (fun v2 fs2 a2 n2 c2 hV2 hc2 hD2 hnw2 => ?_)
  obtain ⟨rfl, rfl⟩ := hV2
  have hby2 : Byt l2 := by have h9 := agC.byt (s := (l1, d1)) hby1; rw [hr2] at h9; exact h9
  have hl2 : l2.length ≤ 1099511627776 := by have h9 := agC.short (s := (l1, d1)) (B := 1099511627776) hl1; rw [hr2] at h9; exact h9
  refine L_v rfl rfl rfl (V_fieldAddr rfl rfl Tryz.underlying51 rfl sz3ti rfl) ?_
  refine L_store1 2 (l' := recV (p1, p2, 0, (0, 0, 0, (0, 0, 0, ⟨#[]⟩, ⟨#[]⟩, 0, dz), ([], [])), 0, (0, 0, ([], []), ⟨#[]⟩), ((0, dz, dz), dz)) (.slice none 0 0) (.slice none 0 0) (.slice none 0 0) (.slice none 0 0)) rfl rfl rfl rfl rfl rfl rfl sz3ti (Nat.le_of_ble_eq_true (by kernel_rfl)) (by kernel_rfl) ?_
  refine L_nil ?_
  change J _ _ _ _
  refine J_seq ?_
  refine J_le (st' := { env := [(0, .pointer (some ⟨rb, 0, none⟩)), (2, .pointer (some ⟨b1, 0, none⟩)), (3, .pointer (some ⟨b2, 0, none⟩))], mem := [(rb, row 76 [.slice a2 n2 c2, .bool d2]), (b1, row 51 (recV (0, 0, 0, (0, 0, 0, (0, 0, 0, ⟨#[]⟩, ⟨#[]⟩, 0, dz), ([], [])), 0, (0, 0, ([], []), ⟨#[]⟩), ((0, dz, dz), dz)) (.slice none 0 0) (.slice none 0 0) (.slice none 0 0) (.slice none 0 0))), (b2, row 51 (recV (p1, p2, 0, (0, 0, 0, (0, 0, 0, ⟨#[]⟩, ⟨#[]⟩, 0, dz), ([], [])), 0, (0, 0, ([], []), ⟨#[]⟩), ((0, dz, dz), dz)) (.slice none 0 0) (.slice none 0 0) (.slice none 0 0) (.slice none 0 0)))], facts := [factB u0 l0] }) ⟨⟨rfl, rfl, rfl, trivial⟩, List.Sublist.refl _, (by first | exact fun f hf => hf | exact fun f hf => List.mem_append_left _ hf), rfl⟩ ?_
  refine J_region ?_
  refine L_v rfl rfl rfl (V_move rfl rfl) ?_
  obtain ⟨p3, l3, d3, hr3⟩ : ∃ p l' d, cF (l2, d2) = (p, (l', d)) := ⟨_, _, _, rfl⟩
  refine L_inT 0 (r := (p3, (l3, d3))) rfl rfl rfl rfl rfl rfl tx64ti rfl (fun w1 hw => hr3 ▸ tn_w rb u0 l0 w1 _ _ _ _ _ (hw.at (i := 0) rfl) (fxT (i := 0) hw rfl) hD2 hby2 hc2 hl2) (fun v3 fs3 a3 n3 c3 hV3 hc3 hD3 hnw3 => ?_)
  obtain ⟨rfl, rfl⟩ := hV3
  have hby3 : Byt l3 := by have h9 := agC.byt (s := (l2, d2)) hby2; rw [hr3] at h9; exact h9
  have hl3 : l3.length ≤ 1099511627776 := by have h9 := agC.short (s := (l2, d2)) (B := 1099511627776) hl2; rw [hr3] at h9; exact h9
  refine L_v rfl rfl rfl (V_fieldAddr rfl rfl Tryz.underlying51 rfl sz3ti rfl) ?_
  refine L_store1 2 (l' := recV (p1, p2, p3, (0, 0, 0, (0, 0, 0, ⟨#[]⟩, ⟨#[]⟩, 0, dz), ([], [])), 0, (0, 0, ([], []), ⟨#[]⟩), ((0, dz, dz), dz)) (.slice none 0 0) (.slice none 0 0) (.slice none 0 0) (.slice none 0 0)) rfl rfl rfl rfl rfl rfl rfl sz3ti (Nat.le_of_ble_eq_true (by kernel_rfl)) (by kernel_rfl) ?_
  refine L_nil ?_
  change J _ _ _ _
  refine J_seq ?_
  refine J_le (st' := { env := [(0, .pointer (some ⟨rb, 0, none⟩)), (2, .pointer (some ⟨b1, 0, none⟩)), (3, .pointer (some ⟨b2, 0, none⟩))], mem := [(rb, row 76 [.slice a3 n3 c3, .bool d3]), (b1, row 51 (recV (0, 0, 0, (0, 0, 0, (0, 0, 0, ⟨#[]⟩, ⟨#[]⟩, 0, dz), ([], [])), 0, (0, 0, ([], []), ⟨#[]⟩), ((0, dz, dz), dz)) (.slice none 0 0) (.slice none 0 0) (.slice none 0 0) (.slice none 0 0))), (b2, row 51 (recV (p1, p2, p3, (0, 0, 0, (0, 0, 0, ⟨#[]⟩, ⟨#[]⟩, 0, dz), ([], [])), 0, (0, 0, ([], []), ⟨#[]⟩), ((0, dz, dz), dz)) (.slice none 0 0) (.slice none 0 0) (.slice none 0 0) (.slice none 0 0)))], facts := [factB u0 l0] }) ⟨⟨rfl, rfl, rfl, trivial⟩, List.Sublist.refl _, (by first | exact fun f hf => hf | exact fun f hf => List.mem_append_left _ hf), rfl⟩ ?_
  refine J_region ?_
  refine L_v rfl rfl rfl (V_move rfl rfl) ?_
  obtain ⟨p4, l4, d4, hr4⟩ : ∃ p l' d, enF (l3, d3) = (p, (l', d)) := ⟨_, _, _, rfl⟩
  refine L_inT 0 (r := (p4, (l4, d4))) rfl rfl rfl rfl rfl rfl tx37ti rfl (fun w1 hw => hr4 ▸ ten_w rb u0 l0 w1 _ _ _ _ _ (hw.at (i := 0) rfl) (fxT (i := 0) hw rfl) hD3 hby3 hc3 hl3) (fun v4 fs4 a4 n4 c4 hV4 hc4 hD4 hnw4 => ?_)
  obtain ⟨va4, vc4, vb4, vd4, rfl, rfl⟩ := hV4
  have hby4 : Byt l4 := by have h9 := agEn.byt (s := (l3, d3)) hby3; rw [hr4] at h9; exact h9
  have hl4 : l4.length ≤ 1099511627776 := by have h9 := agEn.short (s := (l3, d3)) (B := 1099511627776) hl3; rw [hr4] at h9; exact h9
  refine L_v rfl rfl rfl (V_fieldAddr rfl rfl Tryz.underlying51 rfl sz38ti rfl) ?_
  refine L_storeT 2 (l' := recV (p1, p2, p3, p4, 0, (0, 0, ([], []), ⟨#[]⟩), ((0, dz, dz), dz)) (Sl va4 p4.2.2.2.2.1.length vc4) (Sl vb4 p4.2.2.2.2.2.length vd4) (.slice none 0 0) (.slice none 0 0)) rfl rfl rfl rfl rfl rfl (szd sz38ti (by kernel_rfl)) (all_one (by kernel_rfl)) (Nat.le_of_ble_eq_true (by kernel_rfl)) (by kernel_rfl) ?_
  refine L_nil ?_
  change J _ _ _ _
  refine J_seq ?_
  refine J_le (st' := { env := [(0, .pointer (some ⟨rb, 0, none⟩)), (2, .pointer (some ⟨b1, 0, none⟩)), (3, .pointer (some ⟨b2, 0, none⟩))], mem := [(rb, row 76 [.slice a4 n4 c4, .bool d4]), (b1, row 51 (recV (0, 0, 0, (0, 0, 0, (0, 0, 0, ⟨#[]⟩, ⟨#[]⟩, 0, dz), ([], [])), 0, (0, 0, ([], []), ⟨#[]⟩), ((0, dz, dz), dz)) (.slice none 0 0) (.slice none 0 0) (.slice none 0 0) (.slice none 0 0))), (b2, row 51 (recV (p1, p2, p3, p4, 0, (0, 0, ([], []), ⟨#[]⟩), ((0, dz, dz), dz)) (Sl va4 p4.2.2.2.2.1.length vc4) (Sl vb4 p4.2.2.2.2.2.length vd4) (.slice none 0 0) (.slice none 0 0)))], facts := [factB u0 l0] ++ clF (Sl va4 p4.2.2.2.2.1.length vc4) (Sl vb4 p4.2.2.2.2.2.length vd4) p4.2.2.2.2 }) ⟨⟨rfl, rfl, rfl, trivial⟩, List.Sublist.refl _, (by first | exact fun f hf => hf | exact fun f hf => List.mem_append_left _ hf), rfl⟩ ?_
  refine J_region ?_
  refine L_v rfl rfl rfl (V_move rfl rfl) ?_
  obtain ⟨p5, l5, d5, hr5⟩ : ∃ p l' d, cF (l4, d4) = (p, (l', d)) := ⟨_, _, _, rfl⟩
  refine L_inT 0 (r := (p5, (l5, d5))) rfl rfl rfl rfl rfl rfl tx64ti rfl (fun w1 hw => hr5 ▸ tn_w rb u0 l0 w1 _ _ _ _ _ (hw.at (i := 0) rfl) (fxT (i := 0) hw rfl) hD4 hby4 hc4 hl4) (fun v5 fs5 a5 n5 c5 hV5 hc5 hD5 hnw5 => ?_)
  obtain ⟨rfl, rfl⟩ := hV5
  have hby5 : Byt l5 := by have h9 := agC.byt (s := (l4, d4)) hby4; rw [hr5] at h9; exact h9
  have hl5 : l5.length ≤ 1099511627776 := by have h9 := agC.short (s := (l4, d4)) (B := 1099511627776) hl4; rw [hr5] at h9; exact h9
  refine L_v rfl rfl rfl (V_fieldAddr rfl rfl Tryz.underlying51 rfl sz3ti rfl) ?_
  refine L_store1 2 (l' := recV (p1, p2, p3, p4, p5, (0, 0, ([], []), ⟨#[]⟩), ((0, dz, dz), dz)) (Sl va4 p4.2.2.2.2.1.length vc4) (Sl vb4 p4.2.2.2.2.2.length vd4) (.slice none 0 0) (.slice none 0 0)) rfl rfl rfl rfl rfl rfl rfl sz3ti (Nat.le_of_ble_eq_true (by kernel_rfl)) (by kernel_rfl) ?_
  refine L_nil ?_
  change J _ _ _ _
  refine J_seq ?_
  refine J_le (st' := { env := [(0, .pointer (some ⟨rb, 0, none⟩)), (2, .pointer (some ⟨b1, 0, none⟩)), (3, .pointer (some ⟨b2, 0, none⟩))], mem := [(rb, row 76 [.slice a5 n5 c5, .bool d5]), (b1, row 51 (recV (0, 0, 0, (0, 0, 0, (0, 0, 0, ⟨#[]⟩, ⟨#[]⟩, 0, dz), ([], [])), 0, (0, 0, ([], []), ⟨#[]⟩), ((0, dz, dz), dz)) (.slice none 0 0) (.slice none 0 0) (.slice none 0 0) (.slice none 0 0))), (b2, row 51 (recV (p1, p2, p3, p4, p5, (0, 0, ([], []), ⟨#[]⟩), ((0, dz, dz), dz)) (Sl va4 p4.2.2.2.2.1.length vc4) (Sl vb4 p4.2.2.2.2.2.length vd4) (.slice none 0 0) (.slice none 0 0)))], facts := [factB u0 l0] ++ clF (Sl va4 p4.2.2.2.2.1.length vc4) (Sl vb4 p4.2.2.2.2.2.length vd4) p4.2.2.2.2 }) ⟨⟨rfl, rfl, rfl, trivial⟩, List.Sublist.refl _, (by first | exact fun f hf => hf | exact fun f hf => List.mem_append_left _ hf), rfl⟩ ?_
  refine J_region ?_
  refine L_v rfl rfl rfl (V_move rfl rfl) ?_
  obtain ⟨p6, l6, d6, hr6⟩ : ∃ p l' d, cF (l5, d5) = (p, (l', d)) := ⟨_, _, _, rfl⟩
  refine L_inT 0 (r := (p6, (l6, d6))) rfl rfl rfl rfl rfl rfl tx64ti rfl (fun w1 hw => hr6 ▸ tn_w rb u0 l0 w1 _ _ _ _ _ (hw.at (i := 0) rfl) (fxT (i := 0) hw rfl) hD5 hby5 hc5 hl5) (fun v6 fs6 a6 n6 c6 hV6 hc6 hD6 hnw6 => ?_)
  obtain ⟨rfl, rfl⟩ := hV6
  have hby6 : Byt l6 := by have h9 := agC.byt (s := (l5, d5)) hby5; rw [hr6] at h9; exact h9
  have hl6 : l6.length ≤ 1099511627776 := by have h9 := agC.short (s := (l5, d5)) (B := 1099511627776) hl5; rw [hr6] at h9; exact h9
  refine L_v rfl rfl rfl (V_fieldAddr rfl rfl Tryz.underlying51 rfl sz45ti rfl) ?_
  refine L_v rfl rfl rfl (V_fieldAddr rfl rfl Tryz.underlying45 rfl sz3ti rfl) ?_
  refine L_store1 2 (l' := recV (p1, p2, p3, p4, p5, (p6, 0, ([], []), ⟨#[]⟩), ((0, dz, dz), dz)) (Sl va4 p4.2.2.2.2.1.length vc4) (Sl vb4 p4.2.2.2.2.2.length vd4) (.slice none 0 0) (.slice none 0 0)) rfl rfl rfl rfl rfl rfl rfl sz3ti (Nat.le_of_ble_eq_true (by kernel_rfl)) (by kernel_rfl) ?_
  refine L_nil ?_
  change J _ _ _ _
  refine J_seq ?_
  refine J_le (st' := { env := [(0, .pointer (some ⟨rb, 0, none⟩)), (2, .pointer (some ⟨b1, 0, none⟩)), (3, .pointer (some ⟨b2, 0, none⟩))], mem := [(rb, row 76 [.slice a6 n6 c6, .bool d6]), (b1, row 51 (recV (0, 0, 0, (0, 0, 0, (0, 0, 0, ⟨#[]⟩, ⟨#[]⟩, 0, dz), ([], [])), 0, (0, 0, ([], []), ⟨#[]⟩), ((0, dz, dz), dz)) (.slice none 0 0) (.slice none 0 0) (.slice none 0 0) (.slice none 0 0))), (b2, row 51 (recV (p1, p2, p3, p4, p5, (p6, 0, ([], []), ⟨#[]⟩), ((0, dz, dz), dz)) (Sl va4 p4.2.2.2.2.1.length vc4) (Sl vb4 p4.2.2.2.2.2.length vd4) (.slice none 0 0) (.slice none 0 0)))], facts := [factB u0 l0] ++ clF (Sl va4 p4.2.2.2.2.1.length vc4) (Sl vb4 p4.2.2.2.2.2.length vd4) p4.2.2.2.2 }) ⟨⟨rfl, rfl, rfl, trivial⟩, List.Sublist.refl _, (by first | exact fun f hf => hf | exact fun f hf => List.mem_append_left _ hf), rfl⟩ ?_
  refine J_region ?_
  refine L_v rfl rfl rfl (V_move rfl rfl) ?_
  obtain ⟨p7, l7, d7, hr7⟩ : ∃ p l' d, cF (l6, d6) = (p, (l', d)) := ⟨_, _, _, rfl⟩
  refine L_inT 0 (r := (p7, (l7, d7))) rfl rfl rfl rfl rfl rfl tx64ti rfl (fun w1 hw => hr7 ▸ tn_w rb u0 l0 w1 _ _ _ _ _ (hw.at (i := 0) rfl) (fxT (i := 0) hw rfl) hD6 hby6 hc6 hl6) (fun v7 fs7 a7 n7 c7 hV7 hc7 hD7 hnw7 => ?_)
  obtain ⟨rfl, rfl⟩ := hV7
  have hby7 : Byt l7 := by have h9 := agC.byt (s := (l6, d6)) hby6; rw [hr7] at h9; exact h9
  have hl7 : l7.length ≤ 1099511627776 := by have h9 := agC.short (s := (l6, d6)) (B := 1099511627776) hl6; rw [hr7] at h9; exact h9
  refine L_v rfl rfl rfl (V_fieldAddr rfl rfl Tryz.underlying51 rfl sz45ti rfl) ?_
  refine L_v rfl rfl rfl (V_fieldAddr rfl rfl Tryz.underlying45 rfl sz3ti rfl) ?_
  refine L_store1 2 (l' := recV (p1, p2, p3, p4, p5, (p6, p7, ([], []), ⟨#[]⟩), ((0, dz, dz), dz)) (Sl va4 p4.2.2.2.2.1.length vc4) (Sl vb4 p4.2.2.2.2.2.length vd4) (.slice none 0 0) (.slice none 0 0)) rfl rfl rfl rfl rfl rfl rfl sz3ti (Nat.le_of_ble_eq_true (by kernel_rfl)) (by kernel_rfl) ?_
  refine L_nil ?_
  change J _ _ _ _
  refine J_seq ?_
  refine J_le (st' := { env := [(0, .pointer (some ⟨rb, 0, none⟩)), (2, .pointer (some ⟨b1, 0, none⟩)), (3, .pointer (some ⟨b2, 0, none⟩))], mem := [(rb, row 76 [.slice a7 n7 c7, .bool d7]), (b1, row 51 (recV (0, 0, 0, (0, 0, 0, (0, 0, 0, ⟨#[]⟩, ⟨#[]⟩, 0, dz), ([], [])), 0, (0, 0, ([], []), ⟨#[]⟩), ((0, dz, dz), dz)) (.slice none 0 0) (.slice none 0 0) (.slice none 0 0) (.slice none 0 0))), (b2, row 51 (recV (p1, p2, p3, p4, p5, (p6, p7, ([], []), ⟨#[]⟩), ((0, dz, dz), dz)) (Sl va4 p4.2.2.2.2.1.length vc4) (Sl vb4 p4.2.2.2.2.2.length vd4) (.slice none 0 0) (.slice none 0 0)))], facts := [factB u0 l0] ++ clF (Sl va4 p4.2.2.2.2.1.length vc4) (Sl vb4 p4.2.2.2.2.2.length vd4) p4.2.2.2.2 }) ⟨⟨rfl, rfl, rfl, trivial⟩, List.Sublist.refl _, (by first | exact fun f hf => hf | exact fun f hf => List.mem_append_left _ hf), rfl⟩ ?_
  refine J_region ?_
  refine L_v rfl rfl rfl (V_move rfl rfl) ?_
  obtain ⟨p8, l8, d8, hr8⟩ : ∃ p l' d, clRF (l7, d7) = (p, (l', d)) := ⟨_, _, _, rfl⟩
  refine L_inT 0 (r := (p8, (l8, d8))) rfl rfl rfl rfl rfl rfl tx73ti rfl (fun w1 hw => hr8 ▸ tcl_w rb u0 l0 w1 _ _ _ _ _ (hw.at (i := 0) rfl) (fxT (i := 0) hw rfl) hD7 hby7 hc7 hl7) (fun v8 fs8 a8 n8 c8 hV8 hc8 hD8 hnw8 => ?_)
  obtain ⟨va8, vc8, vb8, vd8, rfl, rfl⟩ := hV8
  have hby8 : Byt l8 := by have h9 := agCl.byt (s := (l7, d7)) hby7; rw [hr8] at h9; exact h9
  have hl8 : l8.length ≤ 1099511627776 := by have h9 := agCl.short (s := (l7, d7)) (B := 1099511627776) hl7; rw [hr8] at h9; exact h9
  refine L_v rfl rfl rfl (V_fieldAddr rfl rfl Tryz.underlying51 rfl sz45ti rfl) ?_
  refine L_v rfl rfl rfl (V_fieldAddr rfl rfl Tryz.underlying45 rfl sz36ti rfl) ?_
  refine L_storeT 2 (l' := recV (p1, p2, p3, p4, p5, (p6, p7, p8, ⟨#[]⟩), ((0, dz, dz), dz)) (Sl va4 p4.2.2.2.2.1.length vc4) (Sl vb4 p4.2.2.2.2.2.length vd4) (Sl va8 p8.1.length vc8) (Sl vb8 p8.2.length vd8)) rfl rfl rfl rfl rfl rfl (szd sz36ti (by kernel_rfl)) (all_one (by kernel_rfl)) (Nat.le_of_ble_eq_true (by kernel_rfl)) (by kernel_rfl) ?_
  refine L_nil ?_
  change J _ _ _ _
  refine J_seq ?_
  refine J_le (st' := { env := [(0, .pointer (some ⟨rb, 0, none⟩)), (2, .pointer (some ⟨b1, 0, none⟩)), (3, .pointer (some ⟨b2, 0, none⟩))], mem := [(rb, row 76 [.slice a8 n8 c8, .bool d8]), (b1, row 51 (recV (0, 0, 0, (0, 0, 0, (0, 0, 0, ⟨#[]⟩, ⟨#[]⟩, 0, dz), ([], [])), 0, (0, 0, ([], []), ⟨#[]⟩), ((0, dz, dz), dz)) (.slice none 0 0) (.slice none 0 0) (.slice none 0 0) (.slice none 0 0))), (b2, row 51 (recV (p1, p2, p3, p4, p5, (p6, p7, p8, ⟨#[]⟩), ((0, dz, dz), dz)) (Sl va4 p4.2.2.2.2.1.length vc4) (Sl vb4 p4.2.2.2.2.2.length vd4) (Sl va8 p8.1.length vc8) (Sl vb8 p8.2.length vd8)))], facts := [factB u0 l0] ++ clF (Sl va4 p4.2.2.2.2.1.length vc4) (Sl vb4 p4.2.2.2.2.2.length vd4) p4.2.2.2.2 ++ clF (Sl va8 p8.1.length vc8) (Sl vb8 p8.2.length vd8) p8 }) ⟨⟨rfl, rfl, rfl, trivial⟩, List.Sublist.refl _, (by first | exact fun f hf => hf | exact fun f hf => List.mem_append_left _ hf), rfl⟩ ?_
  refine J_region ?_
  refine L_v rfl rfl rfl (V_move rfl rfl) ?_
  obtain ⟨p9, l9, d9, hr9⟩ : ∃ p l' d, sF (l8, d8) = (p, (l', d)) := ⟨_, _, _, rfl⟩
  refine L_inT 0 (r := (p9, (l9, d9))) rfl rfl rfl rfl rfl rfl tx65ti rfl (fun w1 hw => hr9 ▸ ts_w rb u0 l0 w1 _ _ _ _ _ (hw.at (i := 0) rfl) (fxT (i := 0) hw rfl) hD8 hby8 hc8 hl8) (fun v9 fs9 a9 n9 c9 hV9 hc9 hD9 hnw9 => ?_)
  obtain ⟨rfl, rfl⟩ := hV9
  have hby9 : Byt l9 := by have h9 := agS.byt (s := (l8, d8)) hby8; rw [hr9] at h9; exact h9
  have hl9 : l9.length ≤ 1099511627776 := by have h9 := agS.short (s := (l8, d8)) (B := 1099511627776) hl8; rw [hr9] at h9; exact h9
  refine L_v rfl rfl rfl (V_fieldAddr rfl rfl Tryz.underlying51 rfl sz45ti rfl) ?_
  refine L_v rfl rfl rfl (V_fieldAddr rfl rfl Tryz.underlying45 rfl sz9ti rfl) ?_
  refine L_store1 2 (l' := recV (p1, p2, p3, p4, p5, (p6, p7, p8, p9), ((0, dz, dz), dz)) (Sl va4 p4.2.2.2.2.1.length vc4) (Sl vb4 p4.2.2.2.2.2.length vd4) (Sl va8 p8.1.length vc8) (Sl vb8 p8.2.length vd8)) rfl rfl rfl rfl rfl rfl rfl sz9ti (Nat.le_of_ble_eq_true (by kernel_rfl)) (by kernel_rfl) ?_
  refine L_nil ?_
  change J _ _ _ _
  refine J_seq ?_
  refine J_le (st' := { env := [(0, .pointer (some ⟨rb, 0, none⟩)), (2, .pointer (some ⟨b1, 0, none⟩)), (3, .pointer (some ⟨b2, 0, none⟩))], mem := [(rb, row 76 [.slice a9 n9 c9, .bool d9]), (b1, row 51 (recV (0, 0, 0, (0, 0, 0, (0, 0, 0, ⟨#[]⟩, ⟨#[]⟩, 0, dz), ([], [])), 0, (0, 0, ([], []), ⟨#[]⟩), ((0, dz, dz), dz)) (.slice none 0 0) (.slice none 0 0) (.slice none 0 0) (.slice none 0 0))), (b2, row 51 (recV (p1, p2, p3, p4, p5, (p6, p7, p8, p9), ((0, dz, dz), dz)) (Sl va4 p4.2.2.2.2.1.length vc4) (Sl vb4 p4.2.2.2.2.2.length vd4) (Sl va8 p8.1.length vc8) (Sl vb8 p8.2.length vd8)))], facts := [factB u0 l0] ++ clF (Sl va4 p4.2.2.2.2.1.length vc4) (Sl vb4 p4.2.2.2.2.2.length vd4) p4.2.2.2.2 ++ clF (Sl va8 p8.1.length vc8) (Sl vb8 p8.2.length vd8) p8 }) ⟨⟨rfl, rfl, rfl, trivial⟩, List.Sublist.refl _, (by first | exact fun f hf => hf | exact fun f hf => List.mem_append_left _ hf), rfl⟩ ?_
  refine J_region ?_
  refine L_v rfl rfl rfl (V_move rfl rfl) ?_
  obtain ⟨p10, l10, d10, hr10⟩ : ∃ p l' d, sgF (l9, d9) = (p, (l', d)) := ⟨_, _, _, rfl⟩
  refine L_inT 0 (r := (p10, (l10, d10))) rfl rfl rfl rfl rfl rfl tx49ti rfl (fun w1 hw => hr10 ▸ tsg_w rb u0 l0 w1 _ _ _ _ _ (hw.at (i := 0) rfl) (fxT (i := 0) hw rfl) hD9 hby9 hc9 hl9) (fun v10 fs10 a10 n10 c10 hV10 hc10 hD10 hnw10 => ?_)
  obtain ⟨rfl, rfl⟩ := hV10
  have hby10 : Byt l10 := by have h9 := agSg.byt (s := (l9, d9)) hby9; rw [hr10] at h9; exact h9
  have hl10 : l10.length ≤ 1099511627776 := by have h9 := agSg.short (s := (l9, d9)) (B := 1099511627776) hl9; rw [hr10] at h9; exact h9
  refine L_v rfl rfl rfl (V_fieldAddr rfl rfl Tryz.underlying51 rfl sz49ti rfl) ?_
  refine L_storeT 2 (l' := recV (p1, p2, p3, p4, p5, (p6, p7, p8, p9), p10) (Sl va4 p4.2.2.2.2.1.length vc4) (Sl vb4 p4.2.2.2.2.2.length vd4) (Sl va8 p8.1.length vc8) (Sl vb8 p8.2.length vd8)) rfl rfl rfl rfl rfl rfl (szd sz49ti (by kernel_rfl)) (all_one (by kernel_rfl)) (Nat.le_of_ble_eq_true (by kernel_rfl)) (by kernel_rfl) ?_
  refine L_nil ?_
  change J _ _ _ _
  refine J_seq ?_
  refine J_le (st' := { env := [(0, .pointer (some ⟨rb, 0, none⟩)), (2, .pointer (some ⟨b1, 0, none⟩)), (3, .pointer (some ⟨b2, 0, none⟩))], mem := [(rb, row 76 [.slice a10 n10 c10, .bool d10]), (b1, row 51 (recV (0, 0, 0, (0, 0, 0, (0, 0, 0, ⟨#[]⟩, ⟨#[]⟩, 0, dz), ([], [])), 0, (0, 0, ([], []), ⟨#[]⟩), ((0, dz, dz), dz)) (.slice none 0 0) (.slice none 0 0) (.slice none 0 0) (.slice none 0 0))), (b2, row 51 (recV (p1, p2, p3, p4, p5, (p6, p7, p8, p9), p10) (Sl va4 p4.2.2.2.2.1.length vc4) (Sl vb4 p4.2.2.2.2.2.length vd4) (Sl va8 p8.1.length vc8) (Sl vb8 p8.2.length vd8)))], facts := [factB u0 l0] ++ clF (Sl va4 p4.2.2.2.2.1.length vc4) (Sl vb4 p4.2.2.2.2.2.length vd4) p4.2.2.2.2 ++ clF (Sl va8 p8.1.length vc8) (Sl vb8 p8.2.length vd8) p8 }) ⟨⟨rfl, rfl, rfl, trivial⟩, List.Sublist.refl _, (by first | exact fun f hf => hf | exact fun f hf => List.mem_append_left _ hf), rfl⟩ ?_
  refine J_region ?_
  refine L_v rfl rfl rfl (V_loadW 2 rfl rfl rfl Tryz.underlying51 rfl (szd sz51ti (by kernel_rfl))) ?_
  refine L_storeW 1 rfl rfl rfl rfl rfl rfl (szd sz51ti (by kernel_rfl)) (all_one (by kernel_rfl)) (by kernel_rfl) ?_
  refine L_nil ?_
  change J _ _ _ _
  refine J_ret ?_
  change Kret _ _ _ Exit.ret _
  refine ret1 rfl rfl (RV_c 1 rfl rfl Tryz.underlying51 rfl (szd sz51ti (by kernel_rfl))) ?_
  have e9 : recF (l, bd) = _ := prF_e (hr1) (prF_e (hr2) (prF_e (hr3) (prF_e (hr4) (prF_e (hr5) (prF_e (prF_e (hr6) (prF_e (hr7) (prF_e (hr8) (hr9)))) (hr10))))))
  exact fun w' h => by rw [e9]; exact InT.of h.fr ⟨va4, vc4, vb4, vd4, va8, vc8, vb8, vd8, rfl, rfl⟩ (inFacts h (fun f hf => List.mem_cons_of_mem _ hf) (by intro f hf; rcases List.mem_append.1 hf with hf | hf; exact hnw4 f hf; exact hnw8 f hf)) (h.at (i := 0) rfl) hc10 hD10 rfl

end Go.Proofs.YtfgcfjojpakpjaaGreat
