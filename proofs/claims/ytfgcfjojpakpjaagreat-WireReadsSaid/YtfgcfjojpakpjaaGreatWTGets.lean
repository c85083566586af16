/- What the reference's functions that read a message hand back. -/
import Derived.Test.YtfgcfjojpakpjaaGreatWTin2
import Derived.Test.YtfgcfjojpakpjaaGreatWGets2
import Derived.Test.YtfgcfjojpakpjaaGreatWGets3
set_option linter.unusedVariables false
set_option linter.unusedSimpArgs false
set_option maxRecDepth 100000
set_option maxHeartbeats 4000000
namespace Go.Proofs.YtfgcfjojpakpjaaGreat
open Go.Sx
theorem whole_h {d : Bool} {l : List Int} {n : Nat} (h : ¬ (d = false ∧ l = [])) (hs : l.length = n) : d = true ∨ n ≠ 0 := by
  cases d with
  | true => exact .inl rfl
  | false =>
    refine .inr fun hn => h ⟨rfl, List.eq_nil_of_length_eq_zero (hs.trans hn)⟩
theorem bdIR (a : Option Addr) (n c : Nat) (w : World) : (Instr.build 76 [(0, .slice a n c)].toArray).run Tryz.prog w = .ok (.agg [.slice a n c, .bool false].toArray) w := by kernel_rfl
theorem sz4tg : (Tryz.prog.info? 4).map (·.size) = some 1 := by kernel_rfl
theorem sz22tg : (Tryz.prog.info? 22).map (·.size) = some 1 := by kernel_rfl
theorem sz27tg : (Tryz.prog.info? 27).map (·.size) = some 38 := by kernel_rfl
theorem sz38tg : (Tryz.prog.info? 38).map (·.size) = some 43 := by kernel_rfl
theorem sz49tg : (Tryz.prog.info? 49).map (·.size) = some 97 := by kernel_rfl
theorem sz51tg : (Tryz.prog.info? 51).map (·.size) = some 149 := by kernel_rfl
theorem sz63tg : (Tryz.prog.info? 63).map (·.size) = some 4 := by kernel_rfl
theorem tx29tg : Txt Tryz.prog 29 := txt_of Tryz.func29 rfl (by kernel_rfl)
theorem tx30tg : Txt Tryz.prog 30 := txt_of Tryz.func30 rfl (by kernel_rfl)
theorem tx37tg : Txt Tryz.prog 37 := txt_of Tryz.func37 rfl (by kernel_rfl)
theorem tx43tg : Txt Tryz.prog 43 := txt_of Tryz.func43 rfl (by kernel_rfl)
theorem tx49tg : Txt Tryz.prog 49 := txt_of Tryz.func49 rfl (by kernel_rfl)
theorem tx54tg : Txt Tryz.prog 54 := txt_of Tryz.func54 rfl (by kernel_rfl)
theorem z27tg : (Tryz.prog.info? 27).bind (·.zero) = some (.agg [.int .i64 0, .int .i64 0, .int .i64 0, .string ByteArray.empty, .string ByteArray.empty, .int .i64 0, .int .u8 0, .int .u8 0, .int .u8 0, .int .u8 0, .int .u8 0, .int .u8 0, .int .u8 0, .int .u8 0, .int .u8 0, .int .u8 0, .int .u8 0, .int .u8 0, .int .u8 0, .int .u8 0, .int .u8 0, .int .u8 0, .int .u8 0, .int .u8 0, .int .u8 0, .int .u8 0, .int .u8 0, .int .u8 0, .int .u8 0, .int .u8 0, .int .u8 0, .int .u8 0, .int .u8 0, .int .u8 0, .int .u8 0, .int .u8 0, .int .u8 0, .int .u8 0].toArray) := by kernel_rfl
theorem z38tg : (Tryz.prog.info? 38).bind (·.zero) = some (.agg [.int .i64 0, .int .i64 0, .int .i64 0, .int .i64 0, .int .i64 0, .int .i64 0, .string ByteArray.empty, .string ByteArray.empty, .int .i64 0, .int .u8 0, .int .u8 0, .int .u8 0, .int .u8 0, .int .u8 0, .int .u8 0, .int .u8 0, .int .u8 0, .int .u8 0, .int .u8 0, .int .u8 0, .int .u8 0, .int .u8 0, .int .u8 0, .int .u8 0, .int .u8 0, .int .u8 0, .int .u8 0, .int .u8 0, .int .u8 0, .int .u8 0, .int .u8 0, .int .u8 0, .int .u8 0, .int .u8 0, .int .u8 0, .int .u8 0, .int .u8 0, .int .u8 0, .int .u8 0, .int .u8 0, .int .u8 0, .slice none 0 0, .slice none 0 0].toArray) := by kernel_rfl
theorem z49tg : (Tryz.prog.info? 49).bind (·.zero) = some (.agg [.int .i64 0, .int .u8 0, .int .u8 0, .int .u8 0, .int .u8 0, .int .u8 0, .int .u8 0, .int .u8 0, .int .u8 0, .int .u8 0, .int .u8 0, .int .u8 0, .int .u8 0, .int .u8 0, .int .u8 0, .int .u8 0, .int .u8 0, .int .u8 0, .int .u8 0, .int .u8 0, .int .u8 0, .int .u8 0, .int .u8 0, .int .u8 0, .int .u8 0, .int .u8 0, .int .u8 0, .int .u8 0, .int .u8 0, .int .u8 0, .int .u8 0, .int .u8 0, .int .u8 0, .int .u8 0, .int .u8 0, .int .u8 0, .int .u8 0, .int .u8 0, .int .u8 0, .int .u8 0, .int .u8 0, .int .u8 0, .int .u8 0, .int .u8 0, .int .u8 0, .int .u8 0, .int .u8 0, .int .u8 0, .int .u8 0, .int .u8 0, .int .u8 0, .int .u8 0, .int .u8 0, .int .u8 0, .int .u8 0, .int .u8 0, .int .u8 0, .int .u8 0, .int .u8 0, .int .u8 0, .int .u8 0, .int .u8 0, .int .u8 0, .int .u8 0, .int .u8 0, .int .u8 0, .int .u8 0, .int .u8 0, .int .u8 0, .int .u8 0, .int .u8 0, .int .u8 0, .int .u8 0, .int .u8 0, .int .u8 0, .int .u8 0, .int .u8 0, .int .u8 0, .int .u8 0, .int .u8 0, .int .u8 0, .int .u8 0, .int .u8 0, .int .u8 0, .int .u8 0, .int .u8 0, .int .u8 0, .int .u8 0, .int .u8 0, .int .u8 0, .int .u8 0, .int .u8 0, .int .u8 0, .int .u8 0, .int .u8 0, .int .u8 0, .int .u8 0].toArray) := by kernel_rfl
theorem z51tg : (Tryz.prog.info? 51).bind (·.zero) = some (.agg [.int .i64 0, .int .i64 0, .int .i64 0, .int .i64 0, .int .i64 0, .int .i64 0, .int .i64 0, .int .i64 0, .int .i64 0, .string ByteArray.empty, .string ByteArray.empty, .int .i64 0, .int .u8 0, .int .u8 0, .int .u8 0, .int .u8 0, .int .u8 0, .int .u8 0, .int .u8 0, .int .u8 0, .int .u8 0, .int .u8 0, .int .u8 0, .int .u8 0, .int .u8 0, .int .u8 0, .int .u8 0, .int .u8 0, .int .u8 0, .int .u8 0, .int .u8 0, .int .u8 0, .int .u8 0, .int .u8 0, .int .u8 0, .int .u8 0, .int .u8 0, .int .u8 0, .int .u8 0, .int .u8 0, .int .u8 0, .int .u8 0, .int .u8 0, .int .u8 0, .slice none 0 0, .slice none 0 0, .int .i64 0, .int .i64 0, .int .i64 0, .slice none 0 0, .slice none 0 0, .string ByteArray.empty, .int .i64 0, .int .u8 0, .int .u8 0, .int .u8 0, .int .u8 0, .int .u8 0, .int .u8 0, .int .u8 0, .int .u8 0, .int .u8 0, .int .u8 0, .int .u8 0, .int .u8 0, .int .u8 0, .int .u8 0, .int .u8 0, .int .u8 0, .int .u8 0, .int .u8 0, .int .u8 0, .int .u8 0, .int .u8 0, .int .u8 0, .int .u8 0, .int .u8 0, .int .u8 0, .int .u8 0, .int .u8 0, .int .u8 0, .int .u8 0, .int .u8 0, .int .u8 0, .int .u8 0, .int .u8 0, .int .u8 0, .int .u8 0, .int .u8 0, .int .u8 0, .int .u8 0, .int .u8 0, .int .u8 0, .int .u8 0, .int .u8 0, .int .u8 0, .int .u8 0, .int .u8 0, .int .u8 0, .int .u8 0, .int .u8 0, .int .u8 0, .int .u8 0, .int .u8 0, .int .u8 0, .int .u8 0, .int .u8 0, .int .u8 0, .int .u8 0, .int .u8 0, .int .u8 0, .int .u8 0, .int .u8 0, .int .u8 0, .int .u8 0, .int .u8 0, .int .u8 0, .int .u8 0, .int .u8 0, .int .u8 0, .int .u8 0, .int .u8 0, .int .u8 0, .int .u8 0, .int .u8 0, .int .u8 0, .int .u8 0, .int .u8 0, .int .u8 0, .int .u8 0, .int .u8 0, .int .u8 0, .int .u8 0, .int .u8 0, .int .u8 0, .int .u8 0, .int .u8 0, .int .u8 0, .int .u8 0, .int .u8 0, .int .u8 0, .int .u8 0, .int .u8 0, .int .u8 0, .int .u8 0, .int .u8 0, .int .u8 0, .int .u8 0, .int .u8 0].toArray) := by kernel_rfl
theorem z63tg : (Tryz.prog.info? 63).bind (·.zero) = some (.agg [.int .i64 0, .slice none 0 0, .slice none 0 0, .slice none 0 0].toArray) := by kernel_rfl

theorem whole_t (rb : Nat) (a : Option Addr) (n c : Nat) (d : Bool) (w : World) (hb : w.heap[rb]? = some (row 76 [.slice a n c, .bool d])) (hd : d = false) (hn : n = 0) :
    Calls Tryz.prog 30 #[.pointer (some ⟨rb, 0, none⟩)] w fun e w' => e = .returned (.bool true) ∧ Fr [] w w' := by
  subst hd
  subst hn
  refine calls_of (args := [.pointer (some ⟨rb, 0, none⟩)]) ([]) ([]) ([]) Tryz.func30 rfl rfl (okW0 _ _ _ _) ?_
  refine J_seq ?_
  refine J_region ?_
  refine L_v rfl rfl rfl (V_assign rfl rfl) ?_
  refine L_nil ?_
  change J _ _ _ _
  refine J_seq ?_
  refine J_region ?_
  refine L_v rfl rfl rfl (V_move rfl rfl) ?_
  refine L_v rfl rfl rfl (V_nilCheck rfl rfl) ?_
  refine L_v rfl rfl rfl (V_fieldAddr rfl rfl Tryz.underlying76 rfl sz4tg rfl) ?_
  refine L_v rfl rfl rfl (V_loadF rfl rfl Tryz.underlying4 rfl (fun w hw => OkW.later hw rfl hb) rfl) ?_
  refine L_v rfl rfl rfl (V_not rfl rfl rfl) ?_
  refine L_v rfl rfl rfl (V_move rfl rfl) ?_
  refine L_wv rfl rfl rfl rfl rfl rfl (V_move rfl rfl) ?_
  refine L_wv rfl rfl rfl rfl rfl rfl (V_nilCheck rfl rfl) ?_
  refine L_wv rfl rfl rfl rfl rfl rfl (V_fieldAddr rfl rfl Tryz.underlying76 rfl sz22tg rfl) ?_
  refine L_wv rfl rfl rfl rfl rfl rfl (V_loadF rfl rfl Tryz.underlying22 rfl (fun w hw => OkW.later hw rfl hb) rfl) ?_
  refine L_wv rfl rfl rfl rfl rfl rfl (V_len rfl rfl Tryz.underlying22 rfl) ?_
  refine L_wv rfl rfl rfl rfl rfl rfl (V_eql rfl rfl rfl (by first | exact decide_eq_true (by omega) | exact decide_eq_false (by omega) | rfl)) ?_
  first | refine L_v rfl rfl rfl (V_pickT rfl rfl rfl) ?_ | refine L_v rfl rfl rfl (V_pickF rfl rfl rfl) ?_
  refine L_v rfl rfl rfl (V_assign rfl rfl) ?_
  refine L_nil ?_
  change J _ _ _ _
  refine J_ret ?_
  change Kret _ _ _ Exit.ret _
  refine ret1 rfl rfl (RV_t rfl) ?_
  exact fun w' h => ⟨rfl, h.fr⟩

theorem whole_f (rb : Nat) (a : Option Addr) (n c : Nat) (d : Bool) (w : World) (hb : w.heap[rb]? = some (row 76 [.slice a n c, .bool d])) (h0 : d = true ∨ n ≠ 0) :
    Calls Tryz.prog 30 #[.pointer (some ⟨rb, 0, none⟩)] w fun e w' => e = .returned (.bool false) ∧ Fr [] w w' := by
  refine calls_of (args := [.pointer (some ⟨rb, 0, none⟩)]) ([]) ([]) ([]) Tryz.func30 rfl rfl (okW0 _ _ _ _) ?_
  rcases d with _ | _
  ·
    have h1 : n ≠ 0 := h0.resolve_left (by simp)
    refine J_seq ?_
    refine J_region ?_
    refine L_v rfl rfl rfl (V_assign rfl rfl) ?_
    refine L_nil ?_
    change J _ _ _ _
    refine J_seq ?_
    refine J_region ?_
    refine L_v rfl rfl rfl (V_move rfl rfl) ?_
    refine L_v rfl rfl rfl (V_nilCheck rfl rfl) ?_
    refine L_v rfl rfl rfl (V_fieldAddr rfl rfl Tryz.underlying76 rfl sz4tg rfl) ?_
    refine L_v rfl rfl rfl (V_loadF rfl rfl Tryz.underlying4 rfl (fun w hw => OkW.later hw rfl hb) rfl) ?_
    refine L_v rfl rfl rfl (V_not rfl rfl rfl) ?_
    refine L_v rfl rfl rfl (V_move rfl rfl) ?_
    refine L_wv rfl rfl rfl rfl rfl rfl (V_move rfl rfl) ?_
    refine L_wv rfl rfl rfl rfl rfl rfl (V_nilCheck rfl rfl) ?_
    refine L_wv rfl rfl rfl rfl rfl rfl (V_fieldAddr rfl rfl Tryz.underlying76 rfl sz22tg rfl) ?_
    refine L_wv rfl rfl rfl rfl rfl rfl (V_loadF rfl rfl Tryz.underlying22 rfl (fun w hw => OkW.later hw rfl hb) rfl) ?_
    refine L_wv rfl rfl rfl rfl rfl rfl (V_len rfl rfl Tryz.underlying22 rfl) ?_
    refine L_wv rfl rfl rfl rfl rfl rfl (V_eql rfl rfl rfl (by first | exact decide_eq_true (by omega) | exact decide_eq_false (by omega) | rfl)) ?_
    first | refine L_v rfl rfl rfl (V_pickT rfl rfl rfl) ?_ | refine L_v rfl rfl rfl (V_pickF rfl rfl rfl) ?_
    refine L_v rfl rfl rfl (V_assign rfl rfl) ?_
    refine L_nil ?_
    change J _ _ _ _
    refine J_ret ?_
    change Kret _ _ _ Exit.ret _
    refine ret1 rfl rfl (RV_t rfl) ?_
    exact fun w' h => ⟨rfl, h.fr⟩
  ·
    refine J_seq ?_
    refine J_region ?_
    refine L_v rfl rfl rfl (V_assign rfl rfl) ?_
    refine L_nil ?_
    change J _ _ _ _
    refine J_seq ?_
    refine J_region ?_
    refine L_v rfl rfl rfl (V_move rfl rfl) ?_
    refine L_v rfl rfl rfl (V_nilCheck rfl rfl) ?_
    refine L_v rfl rfl rfl (V_fieldAddr rfl rfl Tryz.underlying76 rfl sz4tg rfl) ?_
    refine L_v rfl rfl rfl (V_loadF rfl rfl Tryz.underlying4 rfl (fun w hw => OkW.later hw rfl hb) rfl) ?_
    refine L_v rfl rfl rfl (V_not rfl rfl rfl) ?_
    refine L_v rfl rfl rfl (V_move rfl rfl) ?_
    refine L_skip rfl rfl rfl rfl rfl rfl rfl ?_
    refine L_skip rfl rfl rfl rfl rfl rfl rfl ?_
    refine L_skip rfl rfl rfl rfl rfl rfl rfl ?_
    refine L_skip rfl rfl rfl rfl rfl rfl rfl ?_
    refine L_skip rfl rfl rfl rfl rfl rfl rfl ?_
    refine L_skip rfl rfl rfl rfl rfl rfl rfl ?_
    first | refine L_v rfl rfl rfl (V_pickT rfl rfl rfl) ?_ | refine L_v rfl rfl rfl (V_pickF rfl rfl rfl) ?_
    refine L_v rfl rfl rfl (V_assign rfl rfl) ?_
    refine L_nil ?_
    change J _ _ _ _
    refine J_ret ?_
    change Kret _ _ _ Exit.ret _
    refine ret1 rfl rfl (RV_t rfl) ?_
    exact fun w' h => ⟨rfl, h.fr⟩

theorem bg_command (w : World) : (Instr.build 27 ([] : List (Nat × Value)).toArray).run Tryz.prog w = .ok (.agg (cmdV (0, 0, 0, ⟨#[]⟩, ⟨#[]⟩, 0, dz)).toArray) w := by kernel_rfl
theorem rgetcommand_w (a : Option Addr) (n c : Nat) (l : List Int) (w : World) (hu : SlB w (.slice a n c) l) (hby : Byt l) (hcn : n ≤ c) (hl : l.length ≤ 1099511627776) :
    Calls Tryz.prog 5 #[.slice a n c] w fun e w' => GetR w (getW cmdC l) (Va cmdV) (.agg (cmdV (0, 0, 0, ⟨#[]⟩, ⟨#[]⟩, 0, dz)).toArray) e w' := by
  refine calls_of (args := [.slice a n c]) ([]) ([]) ([factB (.slice a n c) l]) Tryz.func5 rfl rfl (okW_facts (fun f hf => by obtain rfl := List.mem_singleton.1 hf; exact ⟨hu, factB_lt hu⟩)) ?_
  refine J_seq ?_
  refine J_region ?_
  refine L_alloc rfl rfl rfl rfl z27tg (fun b0 => ?_)
  refine L_v rfl rfl rfl (V_assign rfl rfl) ?_
  refine L_nil ?_
  change J _ _ _ _
  refine J_seq ?_
  refine J_region ?_
  refine L_v rfl rfl rfl (V_move rfl rfl) ?_
  refine L_v rfl rfl rfl (V_build (vs := [(0, .slice a n c)]) rfl rfl (bdIR a n c)) ?_
  refine L_box rfl rfl rfl rfl rfl (fun b1 => ?_)
  refine L_v rfl rfl rfl (V_assign rfl rfl) ?_
  refine L_nil ?_
  change J _ _ _ _
  refine J_seq ?_
  refine J_region ?_
  refine L_v rfl rfl rfl (V_move rfl rfl) ?_
  obtain ⟨p1, l1, d1, hr1⟩ : ∃ p l' d, cmdF (l, false) = (p, (l', d)) := ⟨_, _, _, rfl⟩
  refine L_inT 1 (r := (p1, (l1, d1))) rfl rfl rfl rfl rfl rfl tx29tg rfl (fun w1 hw => hr1 ▸ tcmd_w b1 (.slice a n c) l w1 a n c l false (hw.at (i := 1) rfl) (fxT (i := 1) hw rfl) (fun W h => h) hby hcn hl) (fun v1 fs1 a1 n1 c1 hV1 hc1 hD1 hnw1 => ?_)
  obtain ⟨rfl, rfl⟩ := hV1
  have hG := agCmd.whole l
  rw [hr1] at hG
  simp only at hG
  refine L_alloc rfl rfl rfl rfl z27tg (fun b2 => ?_)
  refine L_storeW 2 rfl rfl rfl rfl rfl rfl (szd sz27tg (by kernel_rfl)) (all_one (by kernel_rfl)) (by kernel_rfl) ?_
  refine L_nil ?_
  change J _ _ _ _
  refine J_seq ?_
  refine J_seq ?_
  by_cases hw0 : d1 = false ∧ l1 = []
  ·
    refine J_region ?_
    refine L_v rfl rfl rfl (V_move rfl rfl) ?_
    refine L_callV rfl rfl rfl rfl rfl rfl tx30tg (fun w1 hw => whole_t b1 a1 n1 c1 d1 w1 (hw.at (i := 1) rfl) hw0.1 (by have h9 := (hD1 w1 (fB hw 0 rfl)).size; rw [hw0.2] at h9; exact h9.symm)) ?_
    refine L_v rfl rfl rfl (V_not rfl rfl rfl) ?_
    refine L_nil ?_
    change J _ _ _ _
    refine J_false rfl ?_
    refine J_skip ?_
    change J _ _ _ _
    refine J_seq ?_
    refine J_region ?_
    refine L_v rfl rfl rfl (V_loadW 2 rfl rfl rfl Tryz.underlying27 rfl (szd sz27tg (by kernel_rfl))) ?_
    refine L_storeW 0 rfl rfl rfl rfl rfl rfl (szd sz27tg (by kernel_rfl)) (all_one (by kernel_rfl)) (by kernel_rfl) ?_
    refine L_v rfl rfl rfl (V_assign rfl rfl) ?_
    refine L_nil ?_
    change J _ _ _ _
    refine J_ret ?_
    change Kret _ _ _ Exit.ret _
    refine ret2 rfl rfl (RV_c 0 rfl rfl Tryz.underlying27 rfl (szd sz27tg (by kernel_rfl))) (RV_t rfl) ?_
    exact fun w' h => GetR.yes (hG.trans (if_pos hw0)) h.fr ⟨rfl, rfl⟩ (inFacts h (fun f hf => List.mem_cons_of_mem _ hf) hnw1)
  ·
    refine J_region ?_
    refine L_v rfl rfl rfl (V_move rfl rfl) ?_
    refine L_callV rfl rfl rfl rfl rfl rfl tx30tg (fun w1 hw => whole_f b1 a1 n1 c1 d1 w1 (hw.at (i := 1) rfl) (whole_h hw0 (hD1 w1 (fB hw 0 rfl)).size)) ?_
    refine L_v rfl rfl rfl (V_not rfl rfl rfl) ?_
    refine L_nil ?_
    change J _ _ _ _
    refine J_true rfl ?_
    refine J_seq ?_
    refine J_region ?_
    refine L_v rfl rfl rfl (V_build (vs := []) rfl rfl bg_command) ?_
    refine L_storeW 0 rfl rfl rfl rfl rfl rfl (szd sz27tg (by kernel_rfl)) (all_one (by kernel_rfl)) (by kernel_rfl) ?_
    refine L_v rfl rfl rfl (V_assign rfl rfl) ?_
    refine L_nil ?_
    change J _ _ _ _
    refine J_ret ?_
    change Kret _ _ _ Exit.ret _
    refine ret2 rfl rfl (RV_c 0 rfl rfl Tryz.underlying27 rfl (szd sz27tg (by kernel_rfl))) (RV_t rfl) ?_
    exact fun w' h => GetR.no (hG.trans (if_neg hw0)) h.fr

theorem bg_signed (w : World) : (Instr.build 49 ([] : List (Nat × Value)).toArray).run Tryz.prog w = .ok (.agg (sgV ((0, dz, dz), dz)).toArray) w := by kernel_rfl
theorem rgetsigned_w (a : Option Addr) (n c : Nat) (l : List Int) (w : World) (hu : SlB w (.slice a n c) l) (hby : Byt l) (hcn : n ≤ c) (hl : l.length ≤ 1099511627776) :
    Calls Tryz.prog 16 #[.slice a n c] w fun e w' => GetR w (getW sgC l) (Va sgV) (.agg (sgV ((0, dz, dz), dz)).toArray) e w' := by
  refine calls_of (args := [.slice a n c]) ([]) ([]) ([factB (.slice a n c) l]) Tryz.func16 rfl rfl (okW_facts (fun f hf => by obtain rfl := List.mem_singleton.1 hf; exact ⟨hu, factB_lt hu⟩)) ?_
  refine J_seq ?_
  refine J_region ?_
  refine L_alloc rfl rfl rfl rfl z49tg (fun b0 => ?_)
  refine L_v rfl rfl rfl (V_assign rfl rfl) ?_
  refine L_nil ?_
  change J _ _ _ _
  refine J_seq ?_
  refine J_region ?_
  refine L_v rfl rfl rfl (V_move rfl rfl) ?_
  refine L_v rfl rfl rfl (V_build (vs := [(0, .slice a n c)]) rfl rfl (bdIR a n c)) ?_
  refine L_box rfl rfl rfl rfl rfl (fun b1 => ?_)
  refine L_v rfl rfl rfl (V_assign rfl rfl) ?_
  refine L_nil ?_
  change J _ _ _ _
  refine J_seq ?_
  refine J_region ?_
  refine L_v rfl rfl rfl (V_move rfl rfl) ?_
  obtain ⟨p1, l1, d1, hr1⟩ : ∃ p l' d, sgF (l, false) = (p, (l', d)) := ⟨_, _, _, rfl⟩
  refine L_inT 1 (r := (p1, (l1, d1))) rfl rfl rfl rfl rfl rfl tx49tg rfl (fun w1 hw => hr1 ▸ tsg_w b1 (.slice a n c) l w1 a n c l false (hw.at (i := 1) rfl) (fxT (i := 1) hw rfl) (fun W h => h) hby hcn hl) (fun v1 fs1 a1 n1 c1 hV1 hc1 hD1 hnw1 => ?_)
  obtain ⟨rfl, rfl⟩ := hV1
  have hG := agSg.whole l
  rw [hr1] at hG
  simp only at hG
  refine L_alloc rfl rfl rfl rfl z49tg (fun b2 => ?_)
  refine L_storeW 2 rfl rfl rfl rfl rfl rfl (szd sz49tg (by kernel_rfl)) (all_one (by kernel_rfl)) (by kernel_rfl) ?_
  refine L_nil ?_
  change J _ _ _ _
  refine J_seq ?_
  refine J_seq ?_
  by_cases hw0 : d1 = false ∧ l1 = []
  ·
    refine J_region ?_
    refine L_v rfl rfl rfl (V_move rfl rfl) ?_
    refine L_callV rfl rfl rfl rfl rfl rfl tx30tg (fun w1 hw => whole_t b1 a1 n1 c1 d1 w1 (hw.at (i := 1) rfl) hw0.1 (by have h9 := (hD1 w1 (fB hw 0 rfl)).size; rw [hw0.2] at h9; exact h9.symm)) ?_
    refine L_v rfl rfl rfl (V_not rfl rfl rfl) ?_
    refine L_nil ?_
    change J _ _ _ _
    refine J_false rfl ?_
    refine J_skip ?_
    change J _ _ _ _
    refine J_seq ?_
    refine J_region ?_
    refine L_v rfl rfl rfl (V_loadW 2 rfl rfl rfl Tryz.underlying49 rfl (szd sz49tg (by kernel_rfl))) ?_
    refine L_storeW 0 rfl rfl rfl rfl rfl rfl (szd sz49tg (by kernel_rfl)) (all_one (by kernel_rfl)) (by kernel_rfl) ?_
    refine L_v rfl rfl rfl (V_assign rfl rfl) ?_
    refine L_nil ?_
    change J _ _ _ _
    refine J_ret ?_
    change Kret _ _ _ Exit.ret _
    refine ret2 rfl rfl (RV_c 0 rfl rfl Tryz.underlying49 rfl (szd sz49tg (by kernel_rfl))) (RV_t rfl) ?_
    exact fun w' h => GetR.yes (hG.trans (if_pos hw0)) h.fr ⟨rfl, rfl⟩ (inFacts h (fun f hf => List.mem_cons_of_mem _ hf) hnw1)
  ·
    refine J_region ?_
    refine L_v rfl rfl rfl (V_move rfl rfl) ?_
    refine L_callV rfl rfl rfl rfl rfl rfl tx30tg (fun w1 hw => whole_f b1 a1 n1 c1 d1 w1 (hw.at (i := 1) rfl) (whole_h hw0 (hD1 w1 (fB hw 0 rfl)).size)) ?_
    refine L_v rfl rfl rfl (V_not rfl rfl rfl) ?_
    refine L_nil ?_
    change J _ _ _ _
    refine J_true rfl ?_
    refine J_seq ?_
    refine J_region ?_
    refine L_v rfl rfl rfl (V_build (vs := []) rfl rfl bg_signed) ?_
    refine L_storeW 0 rfl rfl rfl rfl rfl rfl (szd sz49tg (by kernel_rfl)) (all_one (by kernel_rfl)) (by kernel_rfl) ?_
    refine L_v rfl rfl rfl (V_assign rfl rfl) ?_
    refine L_nil ?_
    change J _ _ _ _
    refine J_ret ?_
    change Kret _ _ _ Exit.ret _
    refine ret2 rfl rfl (RV_c 0 rfl rfl Tryz.underlying49 rfl (szd sz49tg (by kernel_rfl))) (RV_t rfl) ?_
    exact fun w' h => GetR.no (hG.trans (if_neg hw0)) h.fr

theorem bg_entry (w : World) : (Instr.build 38 ([] : List (Nat × Value)).toArray).run Tryz.prog w = .ok (.agg (enV (0, 0, 0, (0, 0, 0, ⟨#[]⟩, ⟨#[]⟩, 0, dz), ([], [])) (.slice none 0 0) (.slice none 0 0)).toArray) w := by kernel_rfl
theorem rgetentry_w (a : Option Addr) (n c : Nat) (l : List Int) (w : World) (hu : SlB w (.slice a n c) l) (hby : Byt l) (hcn : n ≤ c) (hl : l.length ≤ 1099511627776) :
    Calls Tryz.prog 8 #[.slice a n c] w fun e w' => GetR w (getW enC l) (Wen) (.agg (enV (0, 0, 0, (0, 0, 0, ⟨#[]⟩, ⟨#[]⟩, 0, dz), ([], [])) (.slice none 0 0) (.slice none 0 0)).toArray) e w' := by
  refine calls_of (args := [.slice a n c]) ([]) ([]) ([factB (.slice a n c) l]) Tryz.func8 rfl rfl (okW_facts (fun f hf => by obtain rfl := List.mem_singleton.1 hf; exact ⟨hu, factB_lt hu⟩)) ?_
  refine J_seq ?_
  refine J_region ?_
  refine L_alloc rfl rfl rfl rfl z38tg (fun b0 => ?_)
  refine L_v rfl rfl rfl (V_assign rfl rfl) ?_
  refine L_nil ?_
  change J _ _ _ _
  refine J_seq ?_
  refine J_region ?_
  refine L_v rfl rfl rfl (V_move rfl rfl) ?_
  refine L_v rfl rfl rfl (V_build (vs := [(0, .slice a n c)]) rfl rfl (bdIR a n c)) ?_
  refine L_box rfl rfl rfl rfl rfl (fun b1 => ?_)
  refine L_v rfl rfl rfl (V_assign rfl rfl) ?_
  refine L_nil ?_
  change J _ _ _ _
  refine J_seq ?_
  refine J_region ?_
  refine L_v rfl rfl rfl (V_move rfl rfl) ?_
  obtain ⟨p1, l1, d1, hr1⟩ : ∃ p l' d, enF (l, false) = (p, (l', d)) := ⟨_, _, _, rfl⟩
  refine L_inT 1 (r := (p1, (l1, d1))) rfl rfl rfl rfl rfl rfl tx37tg rfl (fun w1 hw => hr1 ▸ ten_w b1 (.slice a n c) l w1 a n c l false (hw.at (i := 1) rfl) (fxT (i := 1) hw rfl) (fun W h => h) hby hcn hl) (fun v1 fs1 a1 n1 c1 hV1 hc1 hD1 hnw1 => ?_)
  obtain ⟨ya1, yc1, ya2, yc2, rfl, rfl⟩ := hV1
  have hG := agEn.whole l
  rw [hr1] at hG
  simp only at hG
  refine L_alloc rfl rfl rfl rfl z38tg (fun b2 => ?_)
  refine L_storeW 2 rfl rfl rfl rfl rfl rfl (szd sz38tg (by kernel_rfl)) (all_one (by kernel_rfl)) (by kernel_rfl) ?_
  refine L_nil ?_
  change J _ _ _ _
  refine J_seq ?_
  refine J_seq ?_
  by_cases hw0 : d1 = false ∧ l1 = []
  ·
    refine J_region ?_
    refine L_v rfl rfl rfl (V_move rfl rfl) ?_
    refine L_callV rfl rfl rfl rfl rfl rfl tx30tg (fun w1 hw => whole_t b1 a1 n1 c1 d1 w1 (hw.at (i := 1) rfl) hw0.1 (by have h9 := (hD1 w1 (fB hw 0 rfl)).size; rw [hw0.2] at h9; exact h9.symm)) ?_
    refine L_v rfl rfl rfl (V_not rfl rfl rfl) ?_
    refine L_nil ?_
    change J _ _ _ _
    refine J_false rfl ?_
    refine J_skip ?_
    change J _ _ _ _
    refine J_seq ?_
    refine J_region ?_
    refine L_v rfl rfl rfl (V_loadW 2 rfl rfl rfl Tryz.underlying38 rfl (szd sz38tg (by kernel_rfl))) ?_
    refine L_storeW 0 rfl rfl rfl rfl rfl rfl (szd sz38tg (by kernel_rfl)) (all_one (by kernel_rfl)) (by kernel_rfl) ?_
    refine L_v rfl rfl rfl (V_assign rfl rfl) ?_
    refine L_nil ?_
    change J _ _ _ _
    refine J_ret ?_
    change Kret _ _ _ Exit.ret _
    refine ret2 rfl rfl (RV_c 0 rfl rfl Tryz.underlying38 rfl (szd sz38tg (by kernel_rfl))) (RV_t rfl) ?_
    exact fun w' h => GetR.yes (hG.trans (if_pos hw0)) h.fr ⟨ya1, yc1, ya2, yc2, rfl, rfl⟩ (inFacts h (fun f hf => List.mem_cons_of_mem _ hf) hnw1)
  ·
    refine J_region ?_
    refine L_v rfl rfl rfl (V_move rfl rfl) ?_
    refine L_callV rfl rfl rfl rfl rfl rfl tx30tg (fun w1 hw => whole_f b1 a1 n1 c1 d1 w1 (hw.at (i := 1) rfl) (whole_h hw0 (hD1 w1 (fB hw 0 rfl)).size)) ?_
    refine L_v rfl rfl rfl (V_not rfl rfl rfl) ?_
    refine L_nil ?_
    change J _ _ _ _
    refine J_true rfl ?_
    refine J_seq ?_
    refine J_region ?_
    refine L_v rfl rfl rfl (V_build (vs := []) rfl rfl bg_entry) ?_
    refine L_storeW 0 rfl rfl rfl rfl rfl rfl (szd sz38tg (by kernel_rfl)) (all_one (by kernel_rfl)) (by kernel_rfl) ?_
    refine L_v rfl rfl rfl (V_assign rfl rfl) ?_
    refine L_nil ?_
    change J _ _ _ _
    refine J_ret ?_
    change Kret _ _ _ Exit.ret _
    refine ret2 rfl rfl (RV_c 0 rfl rfl Tryz.underlying38 rfl (szd sz38tg (by kernel_rfl))) (RV_t rfl) ?_
    exact fun w' h => GetR.no (hG.trans (if_neg hw0)) h.fr

theorem bg_record (w : World) : (Instr.build 51 ([] : List (Nat × Value)).toArray).run Tryz.prog w = .ok (.agg (recV (0, 0, 0, (0, 0, 0, (0, 0, 0, ⟨#[]⟩, ⟨#[]⟩, 0, dz), ([], [])), 0, (0, 0, ([], []), ⟨#[]⟩), ((0, dz, dz), dz)) (.slice none 0 0) (.slice none 0 0) (.slice none 0 0) (.slice none 0 0)).toArray) w := by kernel_rfl
theorem rgetrecord_w (a : Option Addr) (n c : Nat) (l : List Int) (w : World) (hu : SlB w (.slice a n c) l) (hby : Byt l) (hcn : n ≤ c) (hl : l.length ≤ 1099511627776) :
    Calls Tryz.prog 12 #[.slice a n c] w fun e w' => GetR w (getW recC l) (Wrec) (.agg (recV (0, 0, 0, (0, 0, 0, (0, 0, 0, ⟨#[]⟩, ⟨#[]⟩, 0, dz), ([], [])), 0, (0, 0, ([], []), ⟨#[]⟩), ((0, dz, dz), dz)) (.slice none 0 0) (.slice none 0 0) (.slice none 0 0) (.slice none 0 0)).toArray) e w' := by
  refine calls_of (args := [.slice a n c]) ([]) ([]) ([factB (.slice a n c) l]) Tryz.func12 rfl rfl (okW_facts (fun f hf => by obtain rfl := List.mem_singleton.1 hf; exact ⟨hu, factB_lt hu⟩)) ?_
  refine J_seq ?_
  refine J_region ?_
  refine L_alloc rfl rfl rfl rfl z51tg (fun b0 => ?_)
  refine L_v rfl rfl rfl (V_assign rfl rfl) ?_
  refine L_nil ?_
  change J _ _ _ _
  refine J_seq ?_
  refine J_region ?_
  refine L_v rfl rfl rfl (V_move rfl rfl) ?_
  refine L_v rfl rfl rfl (V_build (vs := [(0, .slice a n c)]) rfl rfl (bdIR a n c)) ?_
  refine L_box rfl rfl rfl rfl rfl (fun b1 => ?_)
  refine L_v rfl rfl rfl (V_assign rfl rfl) ?_
  refine L_nil ?_
  change J _ _ _ _
  refine J_seq ?_
  refine J_region ?_
  refine L_v rfl rfl rfl (V_move rfl rfl) ?_
  obtain ⟨p1, l1, d1, hr1⟩ : ∃ p l' d, recF (l, false) = (p, (l', d)) := ⟨_, _, _, rfl⟩
  refine L_inT 1 (r := (p1, (l1, d1))) rfl rfl rfl rfl rfl rfl tx43tg rfl (fun w1 hw => hr1 ▸ trec_w b1 (.slice a n c) l w1 a n c l false (hw.at (i := 1) rfl) (fxT (i := 1) hw rfl) (fun W h => h) hby hcn hl) (fun v1 fs1 a1 n1 c1 hV1 hc1 hD1 hnw1 => ?_)
  obtain ⟨ya1, yc1, ya2, yc2, ya3, yc3, ya4, yc4, rfl, rfl⟩ := hV1
  have hG := agRec.whole l
  rw [hr1] at hG
  simp only at hG
  refine L_alloc rfl rfl rfl rfl z51tg (fun b2 => ?_)
  refine L_storeW 2 rfl rfl rfl rfl rfl rfl (szd sz51tg (by kernel_rfl)) (all_one (by kernel_rfl)) (by kernel_rfl) ?_
  refine L_nil ?_
  change J _ _ _ _
  refine J_seq ?_
  refine J_seq ?_
  by_cases hw0 : d1 = false ∧ l1 = []
  ·
    refine J_region ?_
    refine L_v rfl rfl rfl (V_move rfl rfl) ?_
    refine L_callV rfl rfl rfl rfl rfl rfl tx30tg (fun w1 hw => whole_t b1 a1 n1 c1 d1 w1 (hw.at (i := 1) rfl) hw0.1 (by have h9 := (hD1 w1 (fB hw 0 rfl)).size; rw [hw0.2] at h9; exact h9.symm)) ?_
    refine L_v rfl rfl rfl (V_not rfl rfl rfl) ?_
    refine L_nil ?_
    change J _ _ _ _
    refine J_false rfl ?_
    refine J_skip ?_
    change J _ _ _ _
    refine J_seq ?_
    refine J_region ?_
    refine L_v rfl rfl rfl (V_loadW 2 rfl rfl rfl Tryz.underlying51 rfl (szd sz51tg (by kernel_rfl))) ?_
    refine L_storeW 0 rfl rfl rfl rfl rfl rfl (szd sz51tg (by kernel_rfl)) (all_one (by kernel_rfl)) (by kernel_rfl) ?_
    refine L_v rfl rfl rfl (V_assign rfl rfl) ?_
    refine L_nil ?_
    change J _ _ _ _
    refine J_ret ?_
    change Kret _ _ _ Exit.ret _
    refine ret2 rfl rfl (RV_c 0 rfl rfl Tryz.underlying51 rfl (szd sz51tg (by kernel_rfl))) (RV_t rfl) ?_
    exact fun w' h => GetR.yes (hG.trans (if_pos hw0)) h.fr ⟨ya1, yc1, ya2, yc2, ya3, yc3, ya4, yc4, rfl, rfl⟩ (inFacts h (fun f hf => List.mem_cons_of_mem _ hf) hnw1)
  ·
    refine J_region ?_
    refine L_v rfl rfl rfl (V_move rfl rfl) ?_
    refine L_callV rfl rfl rfl rfl rfl rfl tx30tg (fun w1 hw => whole_f b1 a1 n1 c1 d1 w1 (hw.at (i := 1) rfl) (whole_h hw0 (hD1 w1 (fB hw 0 rfl)).size)) ?_
    refine L_v rfl rfl rfl (V_not rfl rfl rfl) ?_
    refine L_nil ?_
    change J _ _ _ _
    refine J_true rfl ?_
    refine J_seq ?_
    refine J_region ?_
    refine L_v rfl rfl rfl (V_build (vs := []) rfl rfl bg_record) ?_
    refine L_storeW 0 rfl rfl rfl rfl rfl rfl (szd sz51tg (by kernel_rfl)) (all_one (by kernel_rfl)) (by kernel_rfl) ?_
    refine L_v rfl rfl rfl (V_assign rfl rfl) ?_
    refine L_nil ?_
    change J _ _ _ _
    refine J_ret ?_
    change Kret _ _ _ Exit.ret _
    refine ret2 rfl rfl (RV_c 0 rfl rfl Tryz.underlying51 rfl (szd sz51tg (by kernel_rfl))) (RV_t rfl) ?_
    exact fun w' h => GetR.no (hG.trans (if_neg hw0)) h.fr

theorem bg_directory (w : World) : (Instr.build 63 ([] : List (Nat × Value)).toArray).run Tryz.prog w = .ok (.agg (drV 0 (.slice none 0 0) (.slice none 0 0) (.slice none 0 0)).toArray) w := by kernel_rfl
theorem rgetdirectory_w (a : Option Addr) (n c : Nat) (l : List Int) (w : World) (hu : SlB w (.slice a n c) l) (hby : Byt l) (hcn : n ≤ c) (hl : l.length ≤ 1099511627776) :
    Calls Tryz.prog 19 #[.slice a n c] w fun e w' => GetR w (getW drC l) (Wdr) (.agg (drV 0 (.slice none 0 0) (.slice none 0 0) (.slice none 0 0)).toArray) e w' := by
  refine calls_of (args := [.slice a n c]) ([]) ([]) ([factB (.slice a n c) l]) Tryz.func19 rfl rfl (okW_facts (fun f hf => by obtain rfl := List.mem_singleton.1 hf; exact ⟨hu, factB_lt hu⟩)) ?_
  refine J_seq ?_
  refine J_region ?_
  refine L_alloc rfl rfl rfl rfl z63tg (fun b0 => ?_)
  refine L_v rfl rfl rfl (V_assign rfl rfl) ?_
  refine L_nil ?_
  change J _ _ _ _
  refine J_seq ?_
  refine J_region ?_
  refine L_v rfl rfl rfl (V_move rfl rfl) ?_
  refine L_v rfl rfl rfl (V_build (vs := [(0, .slice a n c)]) rfl rfl (bdIR a n c)) ?_
  refine L_box rfl rfl rfl rfl rfl (fun b1 => ?_)
  refine L_v rfl rfl rfl (V_assign rfl rfl) ?_
  refine L_nil ?_
  change J _ _ _ _
  refine J_seq ?_
  refine J_region ?_
  refine L_v rfl rfl rfl (V_move rfl rfl) ?_
  obtain ⟨p1, l1, d1, hr1⟩ : ∃ p l' d, drF (l, false) = (p, (l', d)) := ⟨_, _, _, rfl⟩
  refine L_inT 1 (r := (p1, (l1, d1))) rfl rfl rfl rfl rfl rfl tx54tg rfl (fun w1 hw => hr1 ▸ tdr_w b1 (.slice a n c) l w1 a n c l false (hw.at (i := 1) rfl) (fxT (i := 1) hw rfl) (fun W h => h) hby hcn hl) (fun v1 fs1 a1 n1 c1 hV1 hc1 hD1 hnw1 => ?_)
  obtain ⟨us, ya1, yc1, ya2, yc2, ya3, yc3, hus, rfl, rfl⟩ := hV1
  have hG := agDr.whole l
  rw [hr1] at hG
  simp only at hG
  refine L_alloc rfl rfl rfl rfl z63tg (fun b2 => ?_)
  refine L_storeW 2 rfl rfl rfl rfl rfl rfl (szd sz63tg (by kernel_rfl)) (all_one (by kernel_rfl)) (by kernel_rfl) ?_
  refine L_nil ?_
  change J _ _ _ _
  refine J_seq ?_
  refine J_seq ?_
  by_cases hw0 : d1 = false ∧ l1 = []
  ·
    refine J_region ?_
    refine L_v rfl rfl rfl (V_move rfl rfl) ?_
    refine L_callV rfl rfl rfl rfl rfl rfl tx30tg (fun w1 hw => whole_t b1 a1 n1 c1 d1 w1 (hw.at (i := 1) rfl) hw0.1 (by have h9 := (hD1 w1 (fB hw 0 rfl)).size; rw [hw0.2] at h9; exact h9.symm)) ?_
    refine L_v rfl rfl rfl (V_not rfl rfl rfl) ?_
    refine L_nil ?_
    change J _ _ _ _
    refine J_false rfl ?_
    refine J_skip ?_
    change J _ _ _ _
    refine J_seq ?_
    refine J_region ?_
    refine L_v rfl rfl rfl (V_loadW 2 rfl rfl rfl Tryz.underlying63 rfl (szd sz63tg (by kernel_rfl))) ?_
    refine L_storeW 0 rfl rfl rfl rfl rfl rfl (szd sz63tg (by kernel_rfl)) (all_one (by kernel_rfl)) (by kernel_rfl) ?_
    refine L_v rfl rfl rfl (V_assign rfl rfl) ?_
    refine L_nil ?_
    change J _ _ _ _
    refine J_ret ?_
    change Kret _ _ _ Exit.ret _
    refine ret2 rfl rfl (RV_c 0 rfl rfl Tryz.underlying63 rfl (szd sz63tg (by kernel_rfl))) (RV_t rfl) ?_
    exact fun w' h => GetR.yes (hG.trans (if_pos hw0)) h.fr ⟨us, ya1, yc1, ya2, yc2, ya3, yc3, hus, rfl, rfl⟩ (inFacts h (fun f hf => List.mem_cons_of_mem _ hf) hnw1)
  ·
    refine J_region ?_
    refine L_v rfl rfl rfl (V_move rfl rfl) ?_
    refine L_callV rfl rfl rfl rfl rfl rfl tx30tg (fun w1 hw => whole_f b1 a1 n1 c1 d1 w1 (hw.at (i := 1) rfl) (whole_h hw0 (hD1 w1 (fB hw 0 rfl)).size)) ?_
    refine L_v rfl rfl rfl (V_not rfl rfl rfl) ?_
    refine L_nil ?_
    change J _ _ _ _
    refine J_true rfl ?_
    refine J_seq ?_
    refine J_region ?_
    refine L_v rfl rfl rfl (V_build (vs := []) rfl rfl bg_directory) ?_
    refine L_storeW 0 rfl rfl rfl rfl rfl rfl (szd sz63tg (by kernel_rfl)) (all_one (by kernel_rfl)) (by kernel_rfl) ?_
    refine L_v rfl rfl rfl (V_assign rfl rfl) ?_
    refine L_nil ?_
    change J _ _ _ _
    refine J_ret ?_
    change Kret _ _ _ Exit.ret _
    refine ret2 rfl rfl (RV_c 0 rfl rfl Tryz.underlying63 rfl (szd sz63tg (by kernel_rfl))) (RV_t rfl) ?_
    exact fun w' h => GetR.no (hG.trans (if_neg hw0)) h.fr

end Go.Proofs.YtfgcfjojpakpjaaGreat
