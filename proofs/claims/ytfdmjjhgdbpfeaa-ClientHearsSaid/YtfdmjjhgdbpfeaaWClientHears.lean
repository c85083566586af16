/- What a law of layer 21 comes to. -/
import Derived.Test.YtfdmjjhgdbpfeaaCCalls
import Derived.Test.YtfdmjjhgdbpfeaaMsgOpen
set_option linter.unusedVariables false
set_option linter.unusedSimpArgs false
set_option maxRecDepth 100000
namespace Go.Proofs.Ytfdmjjhgdbpfeaa
open Go.Sx
abbrev selE (b : Bool) (es : List EnV) : List EnV := if b then es else []
/-- A message's lists lie there, and are not too long. -/
structure Mw (w : World) (x : Ms) (m : M5) (es : List EnV) : Prop where
  own : x.entries = es.map Prod.fst
  fa : FA w (msF x m es)
  sz : Sz x es
theorem mw0 {w : World} : Mw w ms0 m50 [] := ⟨rfl, fa_ms0, sz_nl rfl rfl rfl⟩
theorem Sz.own {x : Ms} {es gs : List EnV} (h : Sz x es) (e : gs.map Prod.fst = es.map Prod.fst) : Sz x gs := by
  refine ⟨by have := congrArg List.length e; rw [List.length_map, List.length_map] at this; rw [this]; exact h.e, fun p hp => ?_, h.l, h.v, h.s⟩
  have : p.1 ∈ es.map Prod.fst := e ▸ List.mem_map.2 ⟨p, hp, rfl⟩
  obtain ⟨q, hq, hqp⟩ := List.mem_map.1 this
  rw [← hqp]
  exact h.c q hq
theorem Mw.turn {w : World} {c : Ct} {m : M5} {es : List EnV} (h : Mw w c.msg m es) (n : Int) : Mw w (turnC c n).msg m es := ⟨h.own, h.fa, h.sz.e, h.sz.c, h.sz.l, h.sz.v, h.sz.s⟩
theorem ret_mw {w : World} {c : Ct} {m : M5} {es : List EnV} (h : Mw w c.msg m es) : Mw w (retC c).msg (selM (retS c) m) (selE (retS c) es) := by
  have hk : retK c = 0 ∨ retK c = 1 ∨ retK c = 2 := by unfold retK; split <;> (try split) <;> simp
  unfold retC retS
  rcases hk with hk | hk | hk <;> rw [hk]
  · exact mw0
  · exact h
  · exact h.turn _
theorem retX_mw {w : World} {c : Ct} {m : M5} {es : List EnV} (h : Mw w c.msg m es) : Mw w (retX c) (selM (retT c) m) (selE (retT c) es) := by
  have hk : retK c = 0 ∨ retK c = 1 ∨ retK c = 2 := by unfold retK; split <;> (try split) <;> simp
  unfold retX retT
  rcases hk with hk | hk | hk <;> rw [hk]
  · exact mw0
  · exact mw0
  · exact h.turn _
theorem hearK_4 (c : Ct) (x : Ms) : hearK c x = 0 ∨ hearK c x = 1 ∨ hearK c x = 2 ∨ hearK c x = 3 := by unfold hearK; split <;> (try split) <;> (try split) <;> simp
theorem hear_mw {w : World} {c : Ct} {x : Ms} {m : M5} {es : List EnV} (h : Mw w c.msg m es) : Mw w (hearC c x).msg (selM (hearS c x) m) (selE (hearS c x) es) := by
  unfold hearC hearS
  rcases hearK_4 c x with hk | hk | hk | hk <;> rw [hk]
  · exact mw0
  · exact h
  · exact mw0
  · exact h.turn _
theorem hearX_mw {w : World} {c : Ct} {x : Ms} {m : M5} {es : List EnV} (h : Mw w c.msg m es) : Mw w (hearX c x) (selM (hearT c x) m) (selE (hearT c x) es) := by
  unfold hearX hearT
  rcases hearK_4 c x with hk | hk | hk | hk <;> rw [hk]
  · exact mw0
  · exact mw0
  · exact mw0
  · exact h.turn _
theorem beg_mw {w : World} {c : Ct} {d : Cmd} {a : Int} {u : ByteArray} : Mw w (begC c d a u).msg m50 [] := by
  unfold begC
  split
  · exact ⟨rfl, fa_ms0, sz_nl rfl rfl rfl⟩
  · exact mw0
theorem same_m {w : World} {c : Ct} {m n : M5} {es gs : List EnV} (h : Mw w c.msg m es) (k : Mw w c.msg n gs) : Calls Try.prog 11 #[.agg (ctM c m).toArray, .agg (ctM c n).toArray] w fun e w' => e = .returned (.bool true) ∧ Fr [] w w' := same_t c m n es gs w h.own k.own h.fa k.fa h.sz
theorem sameMs_m {w : World} {x : Ms} {m n : M5} {es gs : List EnV} (h : Mw w x m es) (k : Mw w x n gs) : Calls Try.prog 12 #[.agg (msM x m).toArray, .agg (msM x n).toArray] w fun e w' => e = .returned (.bool true) ∧ Fr [] w w' := sameMs_t x m n es gs w h.own k.own h.fa k.fa h.sz
theorem sz45l : (Try.prog.info? 45).map (·.size) = some 225 := by kernel_rfl
theorem sz47l : (Try.prog.info? 47).map (·.size) = some 230 := by kernel_rfl
theorem tx6l : Txt Try.prog 6 := txt_of Try.func6 rfl (by kernel_rfl)
theorem tx7l : Txt Try.prog 7 := txt_of Try.func7 rfl (by kernel_rfl)
theorem tx8l : Txt Try.prog 8 := txt_of Try.func8 rfl (by kernel_rfl)
theorem tx9l : Txt Try.prog 9 := txt_of Try.func9 rfl (by kernel_rfl)
theorem tx10l : Txt Try.prog 10 := txt_of Try.func10 rfl (by kernel_rfl)
theorem tx11l : Txt Try.prog 11 := txt_of Try.func11 rfl (by kernel_rfl)
theorem tx12l : Txt Try.prog 12 := txt_of Try.func12 rfl (by kernel_rfl)
theorem z45l : (Try.prog.info? 45).bind (·.zero) = some (.agg [.int .i64 0, .int .i64 0, .int .i64 0, .int .i64 0, .int .i64 0, .int .i64 0, .int .i64 0, .int .i64 0, .bool false, .slice none 0 0, .slice none 0 0, .slice none 0 0, .int .i64 0, .int .i64 0, .string ByteArray.empty, .int .i64 0, .int .i64 0, .int .i64 0, .string ByteArray.empty, .string ByteArray.empty, .int .i64 0, .int .u8 0, .int .u8 0, .int .u8 0, .int .u8 0, .int .u8 0, .int .u8 0, .int .u8 0, .int .u8 0, .int .u8 0, .int .u8 0, .int .u8 0, .int .u8 0, .int .u8 0, .int .u8 0, .int .u8 0, .int .u8 0, .int .u8 0, .int .u8 0, .int .u8 0, .int .u8 0, .int .u8 0, .int .u8 0, .int .u8 0, .int .u8 0, .int .u8 0, .int .u8 0, .int .u8 0, .int .u8 0, .int .u8 0, .int .u8 0, .int .u8 0, .int .u8 0, .int .i64 0, .int .i64 0, .string ByteArray.empty, .int .i64 0, .int .i64 0, .int .i64 0, .int .i64 0, .int .i64 0, .slice none 0 0, .slice none 0 0, .bool false, .int .u8 0, .int .u8 0, .int .u8 0, .int .u8 0, .int .u8 0, .int .u8 0, .int .u8 0, .int .u8 0, .int .u8 0, .int .u8 0, .int .u8 0, .int .u8 0, .int .u8 0, .int .u8 0, .int .u8 0, .int .u8 0, .int .u8 0, .int .u8 0, .int .u8 0, .int .u8 0, .int .u8 0, .int .u8 0, .int .u8 0, .int .u8 0, .int .u8 0, .int .u8 0, .int .u8 0, .int .u8 0, .int .u8 0, .int .u8 0, .int .u8 0, .int .u8 0, .int .u8 0, .int .u8 0, .int .u8 0, .int .u8 0, .int .u8 0, .int .u8 0, .int .u8 0, .int .u8 0, .int .u8 0, .int .u8 0, .int .u8 0, .int .u8 0, .int .u8 0, .int .u8 0, .int .u8 0, .int .u8 0, .int .u8 0, .int .u8 0, .int .u8 0, .int .u8 0, .int .u8 0, .int .u8 0, .int .u8 0, .int .u8 0, .int .u8 0, .int .u8 0, .int .u8 0, .int .u8 0, .int .u8 0, .int .u8 0, .int .u8 0, .int .u8 0, .int .i64 0, .int .u8 0, .int .u8 0, .int .u8 0, .int .u8 0, .int .u8 0, .int .u8 0, .int .u8 0, .int .u8 0, .int .u8 0, .int .u8 0, .int .u8 0, .int .u8 0, .int .u8 0, .int .u8 0, .int .u8 0, .int .u8 0, .int .u8 0, .int .u8 0, .int .u8 0, .int .u8 0, .int .u8 0, .int .u8 0, .int .u8 0, .int .u8 0, .int .u8 0, .int .u8 0, .int .u8 0, .int .u8 0, .int .u8 0, .int .u8 0, .int .u8 0, .int .u8 0, .int .u8 0, .int .u8 0, .int .u8 0, .int .u8 0, .int .u8 0, .int .u8 0, .int .u8 0, .int .u8 0, .int .u8 0, .int .u8 0, .int .u8 0, .int .u8 0, .int .u8 0, .int .u8 0, .int .u8 0, .int .u8 0, .int .u8 0, .int .u8 0, .int .u8 0, .int .u8 0, .int .u8 0, .int .u8 0, .int .u8 0, .int .u8 0, .int .u8 0, .int .u8 0, .int .u8 0, .int .u8 0, .int .u8 0, .int .u8 0, .int .u8 0, .int .u8 0, .int .u8 0, .int .u8 0, .int .u8 0, .int .u8 0, .int .u8 0, .int .u8 0, .int .u8 0, .int .u8 0, .int .u8 0, .int .u8 0, .int .u8 0, .int .u8 0, .int .u8 0, .int .u8 0, .int .u8 0, .int .u8 0, .int .u8 0, .int .u8 0, .int .u8 0, .int .u8 0, .int .u8 0, .int .u8 0, .int .u8 0, .int .u8 0, .int .u8 0, .int .u8 0, .int .u8 0, .int .u8 0, .int .u8 0, .int .u8 0, .int .u8 0, .int .u8 0].toArray) := by kernel_rfl
theorem z47l : (Try.prog.info? 47).bind (·.zero) = some (.agg [.int .i64 0, .int .i64 0, .int .i64 0, .bool false, .int .i64 0, .int .i64 0, .int .i64 0, .int .i64 0, .int .i64 0, .int .i64 0, .int .i64 0, .int .i64 0, .bool false, .slice none 0 0, .slice none 0 0, .slice none 0 0, .int .i64 0, .int .i64 0, .string ByteArray.empty, .int .i64 0, .int .i64 0, .int .i64 0, .string ByteArray.empty, .string ByteArray.empty, .int .i64 0, .int .u8 0, .int .u8 0, .int .u8 0, .int .u8 0, .int .u8 0, .int .u8 0, .int .u8 0, .int .u8 0, .int .u8 0, .int .u8 0, .int .u8 0, .int .u8 0, .int .u8 0, .int .u8 0, .int .u8 0, .int .u8 0, .int .u8 0, .int .u8 0, .int .u8 0, .int .u8 0, .int .u8 0, .int .u8 0, .int .u8 0, .int .u8 0, .int .u8 0, .int .u8 0, .int .u8 0, .int .u8 0, .int .u8 0, .int .u8 0, .int .u8 0, .int .u8 0, .int .i64 0, .int .i64 0, .string ByteArray.empty, .int .i64 0, .int .i64 0, .int .i64 0, .int .i64 0, .int .i64 0, .slice none 0 0, .slice none 0 0, .bool false, .int .u8 0, .int .u8 0, .int .u8 0, .int .u8 0, .int .u8 0, .int .u8 0, .int .u8 0, .int .u8 0, .int .u8 0, .int .u8 0, .int .u8 0, .int .u8 0, .int .u8 0, .int .u8 0, .int .u8 0, .int .u8 0, .int .u8 0, .int .u8 0, .int .u8 0, .int .u8 0, .int .u8 0, .int .u8 0, .int .u8 0, .int .u8 0, .int .u8 0, .int .u8 0, .int .u8 0, .int .u8 0, .int .u8 0, .int .u8 0, .int .u8 0, .int .u8 0, .int .u8 0, .int .u8 0, .int .u8 0, .int .u8 0, .int .u8 0, .int .u8 0, .int .u8 0, .int .u8 0, .int .u8 0, .int .u8 0, .int .u8 0, .int .u8 0, .int .u8 0, .int .u8 0, .int .u8 0, .int .u8 0, .int .u8 0, .int .u8 0, .int .u8 0, .int .u8 0, .int .u8 0, .int .u8 0, .int .u8 0, .int .u8 0, .int .u8 0, .int .u8 0, .int .u8 0, .int .u8 0, .int .u8 0, .int .u8 0, .int .u8 0, .int .u8 0, .int .i64 0, .int .u8 0, .int .u8 0, .int .u8 0, .int .u8 0, .int .u8 0, .int .u8 0, .int .u8 0, .int .u8 0, .int .u8 0, .int .u8 0, .int .u8 0, .int .u8 0, .int .u8 0, .int .u8 0, .int .u8 0, .int .u8 0, .int .u8 0, .int .u8 0, .int .u8 0, .int .u8 0, .int .u8 0, .int .u8 0, .int .u8 0, .int .u8 0, .int .u8 0, .int .u8 0, .int .u8 0, .int .u8 0, .int .u8 0, .int .u8 0, .int .u8 0, .int .u8 0, .int .u8 0, .int .u8 0, .int .u8 0, .int .u8 0, .int .u8 0, .int .u8 0, .int .u8 0, .int .u8 0, .int .u8 0, .int .u8 0, .int .u8 0, .int .u8 0, .int .u8 0, .int .u8 0, .int .u8 0, .int .u8 0, .int .u8 0, .int .u8 0, .int .u8 0, .int .u8 0, .int .u8 0, .int .u8 0, .int .u8 0, .int .u8 0, .int .u8 0, .int .u8 0, .int .u8 0, .int .u8 0, .int .u8 0, .int .u8 0, .int .u8 0, .int .u8 0, .int .u8 0, .int .u8 0, .int .u8 0, .int .u8 0, .int .u8 0, .int .u8 0, .int .u8 0, .int .u8 0, .int .u8 0, .int .u8 0, .int .u8 0, .int .u8 0, .int .u8 0, .int .u8 0, .int .u8 0, .int .u8 0, .int .u8 0, .int .u8 0, .int .u8 0, .int .u8 0, .int .u8 0, .int .u8 0, .int .u8 0, .int .u8 0, .int .u8 0, .int .u8 0, .int .u8 0, .int .u8 0, .int .u8 0, .int .u8 0, .int .u8 0, .int .u8 0, .int .i64 0].toArray) := by kernel_rfl

set_option maxHeartbeats 4000000 in
theorem ClientHears_w (c : Ct) (m : M5) (es : List EnV) (x : Ms) (n : M5) (gs : List EnV) (w : World) (hx : c.msg.entries = es.map Prod.fst) (f1 : FA w (msF c.msg m es)) (hy : x.entries = gs.map Prod.fst) (f2 : FA w (msF x n gs)) :
    Calls Try.prog 3 #[.agg (ctM c m).toArray, .agg (msM x n).toArray] w fun e w' => e = .returned (.bool true) ∧ Fr [] w w' := by
  refine calls_of (args := [.agg (ctM c m).toArray, .agg (msM x n).toArray]) ([]) ([]) ([msF c.msg m es, msF x n gs]) Try.func3 rfl rfl (okFW (.cons f1 (.cons f2 .nil))) ?_
  refine J_seq ?_
  refine J_region ?_
  refine L_box rfl rfl rfl rfl rfl (fun b0 => ?_)
  refine L_box rfl rfl rfl rfl rfl (fun b1 => ?_)
  refine L_v rfl rfl rfl (V_assign rfl rfl) ?_
  refine L_nil ?_
  change J _ _ _ _
  refine J_seq ?_
  refine J_seq ?_
  refine J_region ?_
  refine L_v rfl rfl rfl (V_loadT 0 (vs := ctM c m) rfl rfl rfl Try.underlying47 rfl sz47l (by kernel_rfl) (by kernel_rfl)) ?_
  refine L_v rfl rfl rfl (V_loadT 1 (vs := msM x n) rfl rfl rfl Try.underlying45 rfl sz45l (by kernel_rfl) (by kernel_rfl)) ?_
  refine L_call rfl rfl rfl rfl tx6l (fun w1 hw => (large_w c m es x n gs ⟨#[]⟩ ⟨#[]⟩ w1 hx hy (hw.fa 0 rfl) (hw.fa 1 rfl)).mono ?_)
  rintro e w' ⟨q1, rfl, hfr, hq1⟩
  refine ⟨_, _, _, rfl, hw.fr0 hfr, rfl, ?_⟩
  refine L_nil ?_
  change J _ _ _ _
  refine J_cond rfl (fun h1 => ?_) (fun h1 => ?_)
  ·
    first | (have h1 := of_decide_eq_true h1) | (have h1 := of_decide_eq_false h1) | skip
    obtain rfl : q1 = true := h1
    refine J_seq ?_
    refine J_region ?_
    refine L_v rfl rfl rfl (V_assign rfl rfl) ?_
    refine L_nil ?_
    change J _ _ _ _
    refine J_ret ?_
    change Kret _ _ _ Exit.ret _
    refine ret1 rfl rfl (RV_t rfl) ?_
    exact fun w' h => ⟨rfl, h.fr⟩
  ·
    first | (have h1 := of_decide_eq_true h1) | (have h1 := of_decide_eq_false h1) | skip
    obtain rfl : q1 = false := h1
    obtain ⟨z1, z2⟩ := hq1 rfl
    refine J_skip ?_
    change J _ _ _ _
    refine J_seq ?_
    refine J_region ?_
    refine L_v rfl rfl rfl (V_loadT 0 (vs := ctM c m) rfl rfl rfl Try.underlying47 rfl sz47l (by kernel_rfl) (by kernel_rfl)) ?_
    refine L_alloc rfl rfl rfl rfl z47l (fun b2 => ?_)
    refine L_storeW 2 rfl rfl rfl rfl rfl rfl (szd sz47l (by kernel_rfl)) (all_one (by kernel_rfl)) (by kernel_rfl) ?_
    refine L_nil ?_
    change J _ _ _ _
    refine J_seq ?_
    refine J_region ?_
    refine L_v rfl rfl rfl (V_fieldAddr rfl rfl Try.underlying47 rfl sz45l rfl) ?_
    refine L_v rfl rfl rfl (V_loadT 0 (vs := msM c.msg m) rfl rfl rfl Try.underlying45 rfl sz45l (by kernel_rfl) (by kernel_rfl)) ?_
    refine L_call rfl rfl rfl rfl tx7l (fun w1 hw => (ownMessage_w c.msg m es w1 hx (hw.fa 0 rfl) z1).mono ?_)
    rintro e w' ⟨m', es', rfl, hx', hfr, hn⟩
    refine ⟨_, _, _, rfl, hw.newN hfr hn, rfl, ?_⟩
    refine L_v rfl rfl rfl (V_fieldAddr rfl rfl Try.underlying47 rfl sz45l rfl) ?_
    refine L_storeT 2 (l' := ctM c (m')) rfl rfl rfl rfl rfl rfl (szd sz45l (by kernel_rfl)) (all_one (by kernel_rfl)) (Nat.le_of_ble_eq_true (by kernel_rfl)) (by kernel_rfl) ?_
    refine L_nil ?_
    change J _ _ _ _
    refine J_seq ?_
    refine J_region ?_
    refine L_v rfl rfl rfl (V_loadT 1 (vs := msM x n) rfl rfl rfl Try.underlying45 rfl sz45l (by kernel_rfl) (by kernel_rfl)) ?_
    refine L_call rfl rfl rfl rfl tx7l (fun w1 hw => (ownMessage_w x n gs w1 hy (hw.fa 1 rfl) z2).mono ?_)
    rintro e w' ⟨n', gs', rfl, hy', hfr, hn⟩
    refine ⟨_, _, _, rfl, hw.newN hfr hn, rfl, ?_⟩
    refine L_alloc rfl rfl rfl rfl z45l (fun b3 => ?_)
    refine L_storeW 3 rfl rfl rfl rfl rfl rfl (szd sz45l (by kernel_rfl)) (all_one (by kernel_rfl)) (by kernel_rfl) ?_
    refine L_nil ?_
    change J _ _ _ _
    refine J_seq ?_
    refine J_region ?_
    refine L_v rfl rfl rfl (V_loadT 0 (vs := ctM c m) rfl rfl rfl Try.underlying47 rfl sz47l (by kernel_rfl) (by kernel_rfl)) ?_
    refine L_v rfl rfl rfl (V_loadT 1 (vs := msM x n) rfl rfl rfl Try.underlying45 rfl sz45l (by kernel_rfl) (by kernel_rfl)) ?_
    refine L_callV rfl rfl rfl rfl rfl rfl tx8l (fun w1 hw => hear_w c m es x n w1 hx (hw.fa 0 rfl) z1) ?_
    refine L_v rfl rfl rfl (V_move rfl rfl) ?_
    refine L_v rfl rfl rfl (V_extract rfl rfl rfl) ?_
    refine L_v rfl rfl rfl (V_extract rfl rfl rfl) ?_
    refine L_v rfl rfl rfl (V_extract rfl rfl rfl) ?_
    refine L_v rfl rfl rfl (V_extract rfl rfl rfl) ?_
    refine L_alloc rfl rfl rfl rfl z47l (fun b4 => ?_)
    refine L_alloc rfl rfl rfl rfl z45l (fun b5 => ?_)
    refine L_storeW 4 rfl rfl rfl rfl rfl rfl (szd sz47l (by kernel_rfl)) (all_one (by kernel_rfl)) (by kernel_rfl) ?_
    refine L_storeW 5 rfl rfl rfl rfl rfl rfl (szd sz45l (by kernel_rfl)) (all_one (by kernel_rfl)) (by kernel_rfl) ?_
    refine L_v rfl rfl rfl (V_assign rfl rfl) ?_
    refine L_v rfl rfl rfl (V_assign rfl rfl) ?_
    refine L_nil ?_
    change J _ _ _ _
    refine J_seq ?_
    refine J_region ?_
    refine L_v rfl rfl rfl (V_loadT 2 (vs := ctM c (m')) rfl rfl rfl Try.underlying47 rfl sz47l (by kernel_rfl) (by kernel_rfl)) ?_
    refine L_v rfl rfl rfl (V_loadT 3 (vs := msM x (n')) rfl rfl rfl Try.underlying45 rfl sz45l (by kernel_rfl) (by kernel_rfl)) ?_
    refine L_callV rfl rfl rfl rfl rfl rfl tx9l (fun w1 hw => hear21_w c m' es' x n' w1 hx' (hw.fa 2 rfl) (z1.own (hx'.symm.trans hx))) ?_
    refine L_v rfl rfl rfl (V_move rfl rfl) ?_
    refine L_v rfl rfl rfl (V_extract rfl rfl rfl) ?_
    refine L_v rfl rfl rfl (V_extract rfl rfl rfl) ?_
    refine L_v rfl rfl rfl (V_extract rfl rfl rfl) ?_
    refine L_v rfl rfl rfl (V_extract rfl rfl rfl) ?_
    refine L_alloc rfl rfl rfl rfl z47l (fun b6 => ?_)
    refine L_alloc rfl rfl rfl rfl z45l (fun b7 => ?_)
    refine L_storeW 6 rfl rfl rfl rfl rfl rfl (szd sz47l (by kernel_rfl)) (all_one (by kernel_rfl)) (by kernel_rfl) ?_
    refine L_storeW 7 rfl rfl rfl rfl rfl rfl (szd sz45l (by kernel_rfl)) (all_one (by kernel_rfl)) (by kernel_rfl) ?_
    refine L_v rfl rfl rfl (V_assign rfl rfl) ?_
    refine L_v rfl rfl rfl (V_assign rfl rfl) ?_
    refine L_nil ?_
    change J _ _ _ _
    refine J_seq ?_
    refine J_region ?_
    refine L_callV rfl rfl rfl rfl rfl rfl tx10l (fun w1 hw => calls_t w1) ?_
    refine L_v rfl rfl rfl (V_move rfl rfl) ?_
    refine L_wv rfl rfl rfl rfl rfl rfl (V_loadT 4 (vs := ctM (hearC c x) (selM (hearS c x) m)) rfl rfl rfl Try.underlying47 rfl sz47l (by kernel_rfl) (by kernel_rfl)) ?_
    refine L_wv rfl rfl rfl rfl rfl rfl (V_loadT 6 (vs := ctM (hearC c x) (selM (hearS c x) m')) rfl rfl rfl Try.underlying47 rfl sz47l (by kernel_rfl) (by kernel_rfl)) ?_
    refine L_wcallV rfl rfl rfl rfl rfl rfl rfl rfl rfl tx11l (fun w1 hw => same_m (hear_mw (⟨hx, hw.fa 0 rfl, z1⟩ : Mw w1 c.msg m es)) (hear_mw (⟨hx', hw.fa 2 rfl, z1.own (hx'.symm.trans hx)⟩ : Mw w1 c.msg m' es'))) ?_
    first | refine L_v rfl rfl rfl (V_pickT rfl rfl rfl) ?_ | refine L_v rfl rfl rfl (V_pickF rfl rfl rfl) ?_
    refine L_v rfl rfl rfl (V_move rfl rfl) ?_
    refine L_wv rfl rfl rfl rfl rfl rfl (V_loadT 5 (vs := msM (hearX c x) (selM (hearT c x) m)) rfl rfl rfl Try.underlying45 rfl sz45l (by kernel_rfl) (by kernel_rfl)) ?_
    refine L_wv rfl rfl rfl rfl rfl rfl (V_loadT 7 (vs := msM (hearX c x) (selM (hearT c x) m')) rfl rfl rfl Try.underlying45 rfl sz45l (by kernel_rfl) (by kernel_rfl)) ?_
    refine L_wcallV rfl rfl rfl rfl rfl rfl rfl rfl rfl tx12l (fun w1 hw => sameMs_m (hearX_mw (⟨hx, hw.fa 0 rfl, z1⟩ : Mw w1 c.msg m es)) (hearX_mw (⟨hx', hw.fa 2 rfl, z1.own (hx'.symm.trans hx)⟩ : Mw w1 c.msg m' es'))) ?_
    first | refine L_v rfl rfl rfl (V_pickT rfl rfl rfl) ?_ | refine L_v rfl rfl rfl (V_pickF rfl rfl rfl) ?_
    refine L_v rfl rfl rfl (V_move rfl rfl) ?_
    refine L_wv rfl rfl rfl rfl rfl rfl (V_move rfl rfl) ?_
    refine L_wv rfl rfl rfl rfl rfl rfl (V_move rfl rfl) ?_
    refine L_wv rfl rfl rfl rfl rfl rfl (V_eqB rfl rfl rfl Try.underlying4 (beq_self_eq_true _)) ?_
    first | refine L_v rfl rfl rfl (V_pickT rfl rfl rfl) ?_ | refine L_v rfl rfl rfl (V_pickF rfl rfl rfl) ?_
    refine L_v rfl rfl rfl (V_move rfl rfl) ?_
    refine L_wv rfl rfl rfl rfl rfl rfl (V_move rfl rfl) ?_
    refine L_wv rfl rfl rfl rfl rfl rfl (V_move rfl rfl) ?_
    refine L_wv rfl rfl rfl rfl rfl rfl (V_eql rfl rfl rfl (decide_eq_true rfl)) ?_
    first | refine L_v rfl rfl rfl (V_pickT rfl rfl rfl) ?_ | refine L_v rfl rfl rfl (V_pickF rfl rfl rfl) ?_
    refine L_v rfl rfl rfl (V_move rfl rfl) ?_
    refine L_wv rfl rfl rfl rfl rfl rfl (V_loadT 0 (vs := ctM c m) rfl rfl rfl Try.underlying47 rfl sz47l (by kernel_rfl) (by kernel_rfl)) ?_
    refine L_wv rfl rfl rfl rfl rfl rfl (V_loadT 2 (vs := ctM c (m')) rfl rfl rfl Try.underlying47 rfl sz47l (by kernel_rfl) (by kernel_rfl)) ?_
    refine L_wcallV rfl rfl rfl rfl rfl rfl rfl rfl rfl tx11l (fun w1 hw => same_m (⟨hx, hw.fa 0 rfl, z1⟩ : Mw w1 c.msg m es) (⟨hx', hw.fa 2 rfl, z1.own (hx'.symm.trans hx)⟩ : Mw w1 c.msg m' es')) ?_
    first | refine L_v rfl rfl rfl (V_pickT rfl rfl rfl) ?_ | refine L_v rfl rfl rfl (V_pickF rfl rfl rfl) ?_
    refine L_v rfl rfl rfl (V_move rfl rfl) ?_
    refine L_wv rfl rfl rfl rfl rfl rfl (V_loadT 1 (vs := msM x n) rfl rfl rfl Try.underlying45 rfl sz45l (by kernel_rfl) (by kernel_rfl)) ?_
    refine L_wv rfl rfl rfl rfl rfl rfl (V_loadT 3 (vs := msM x (n')) rfl rfl rfl Try.underlying45 rfl sz45l (by kernel_rfl) (by kernel_rfl)) ?_
    refine L_wcallV rfl rfl rfl rfl rfl rfl rfl rfl rfl tx12l (fun w1 hw => sameMs_m (⟨hy, hw.fa 1 rfl, z2⟩ : Mw w1 x n gs) (⟨hy', hw.fa 3 rfl, z2.own (hy'.symm.trans hy)⟩ : Mw w1 x n' gs')) ?_
    first | refine L_v rfl rfl rfl (V_pickT rfl rfl rfl) ?_ | refine L_v rfl rfl rfl (V_pickF rfl rfl rfl) ?_
    refine L_v rfl rfl rfl (V_assign rfl rfl) ?_
    refine L_nil ?_
    change J _ _ _ _
    refine J_ret ?_
    change Kret _ _ _ Exit.ret _
    refine ret1 rfl rfl (RV_t rfl) ?_
    exact fun w' h => ⟨rfl, h.fr⟩

end Go.Proofs.Ytfdmjjhgdbpfeaa
