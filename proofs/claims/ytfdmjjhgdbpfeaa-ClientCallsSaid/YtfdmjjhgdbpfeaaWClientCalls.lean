/- What a law of layer 21 comes to. -/
import Derived.Test.YtfdmjjhgdbpfeaaCCalls
import Derived.Test.YtfdmjjhgdbpfeaaMsgOpen
set_option linter.unusedVariables false
set_option linter.unusedSimpArgs false
set_option maxRecDepth 100000
namespace Go.Proofs.Ytfdmjjhgdbpfeaa
open Go.Sx
abbrev selE (b : Bool) (es : List EnV) : List EnV := if b then es else []
/-- A message's lists lie there, and are not too long. -/
structure Mw (w : World) (x : Ms) (m : M5) (es : List EnV) : Prop where
  own : x.entries = es.map Prod.fst
  fa : FA w (msF x m es)
  sz : Sz x es
theorem mw0 {w : World} : Mw w ms0 m50 [] := ⟨rfl, fa_ms0, sz_nl rfl rfl rfl⟩
theorem Sz.own {x : Ms} {es gs : List EnV} (h : Sz x es) (e : gs.map Prod.fst = es.map Prod.fst) : Sz x gs := by
  refine ⟨by have := congrArg List.length e; rw [List.length_map, List.length_map] at this; rw [this]; exact h.e, fun p hp => ?_, h.l, h.v, h.s⟩
  have : p.1 ∈ es.map Prod.fst := e ▸ List.mem_map.2 ⟨p, hp, rfl⟩
  obtain ⟨q, hq, hqp⟩ := List.mem_map.1 this
  rw [← hqp]
  exact h.c q hq
theorem Mw.turn {w : World} {c : Ct} {m : M5} {es : List EnV} (h : Mw w c.msg m es) (n : Int) : Mw w (turnC c n).msg m es := ⟨h.own, h.fa, h.sz.e, h.sz.c, h.sz.l, h.sz.v, h.sz.s⟩
theorem ret_mw {w : World} {c : Ct} {m : M5} {es : List EnV} (h : Mw w c.msg m es) : Mw w (retC c).msg (selM (retS c) m) (selE (retS c) es) := by
  have hk : retK c = 0 ∨ retK c = 1 ∨ retK c = 2 := by unfold retK; split <;> (try split) <;> simp
  unfold retC retS
  rcases hk with hk | hk | hk <;> rw [hk]
  · exact mw0
  · exact h
  · exact h.turn _
theorem retX_mw {w : World} {c : Ct} {m : M5} {es : List EnV} (h : Mw w c.msg m es) : Mw w (retX c) (selM (retT c) m) (selE (retT c) es) := by
  have hk : retK c = 0 ∨ retK c = 1 ∨ retK c = 2 := by unfold retK; split <;> (try split) <;> simp
  unfold retX retT
  rcases hk with hk | hk | hk <;> rw [hk]
  · exact mw0
  · exact mw0
  · exact h.turn _
theorem hearK_4 (c : Ct) (x : Ms) : hearK c x = 0 ∨ hearK c x = 1 ∨ hearK c x = 2 ∨ hearK c x = 3 := by unfold hearK; split <;> (try split) <;> (try split) <;> simp
theorem hear_mw {w : World} {c : Ct} {x : Ms} {m : M5} {es : List EnV} (h : Mw w c.msg m es) : Mw w (hearC c x).msg (selM (hearS c x) m) (selE (hearS c x) es) := by
  unfold hearC hearS
  rcases hearK_4 c x with hk | hk | hk | hk <;> rw [hk]
  · exact mw0
  · exact h
  · exact mw0
  · exact h.turn _
theorem hearX_mw {w : World} {c : Ct} {x : Ms} {m : M5} {es : List EnV} (h : Mw w c.msg m es) : Mw w (hearX c x) (selM (hearT c x) m) (selE (hearT c x) es) := by
  unfold hearX hearT
  rcases hearK_4 c x with hk | hk | hk | hk <;> rw [hk]
  · exact mw0
  · exact mw0
  · exact mw0
  · exact h.turn _
theorem beg_mw {w : World} {c : Ct} {d : Cmd} {a : Int} {u : ByteArray} : Mw w (begC c d a u).msg m50 [] := by
  unfold begC
  split
  · exact ⟨rfl, fa_ms0, sz_nl rfl rfl rfl⟩
  · exact mw0
theorem same_m {w : World} {c : Ct} {m n : M5} {es gs : List EnV} (h : Mw w c.msg m es) (k : Mw w c.msg n gs) : Calls Try.prog 11 #[.agg (ctM c m).toArray, .agg (ctM c n).toArray] w fun e w' => e = .returned (.bool true) ∧ Fr [] w w' := same_t c m n es gs w h.own k.own h.fa k.fa h.sz
theorem sameMs_m {w : World} {x : Ms} {m n : M5} {es gs : List EnV} (h : Mw w x m es) (k : Mw w x n gs) : Calls Try.prog 12 #[.agg (msM x m).toArray, .agg (msM x n).toArray] w fun e w' => e = .returned (.bool true) ∧ Fr [] w w' := sameMs_t x m n es gs w h.own k.own h.fa k.fa h.sz
theorem sz9l : (Try.prog.info? 9).map (·.size) = some 1 := by kernel_rfl
theorem sz31l : (Try.prog.info? 31).map (·.size) = some 38 := by kernel_rfl
theorem sz45l : (Try.prog.info? 45).map (·.size) = some 225 := by kernel_rfl
theorem sz47l : (Try.prog.info? 47).map (·.size) = some 230 := by kernel_rfl
theorem tx6l : Txt Try.prog 6 := txt_of Try.func6 rfl (by kernel_rfl)
theorem tx7l : Txt Try.prog 7 := txt_of Try.func7 rfl (by kernel_rfl)
theorem tx10l : Txt Try.prog 10 := txt_of Try.func10 rfl (by kernel_rfl)
theorem tx11l : Txt Try.prog 11 := txt_of Try.func11 rfl (by kernel_rfl)
theorem tx12l : Txt Try.prog 12 := txt_of Try.func12 rfl (by kernel_rfl)
theorem tx13l : Txt Try.prog 13 := txt_of Try.func13 rfl (by kernel_rfl)
theorem tx14l : Txt Try.prog 14 := txt_of Try.func14 rfl (by kernel_rfl)
theorem tx15l : Txt Try.prog 15 := txt_of Try.func15 rfl (by kernel_rfl)
theorem tx16l : Txt Try.prog 16 := txt_of Try.func16 rfl (by kernel_rfl)
theorem tx17l : Txt Try.prog 17 := txt_of Try.func17 rfl (by kernel_rfl)
theorem tx18l : Txt Try.prog 18 := txt_of Try.func18 rfl (by kernel_rfl)
theorem z45l : (Try.prog.info? 45).bind (·.zero) = some (.agg [.int .i64 0, .int .i64 0, .int .i64 0, .int .i64 0, .int .i64 0, .int .i64 0, .int .i64 0, .int .i64 0, .bool false, .slice none 0 0, .slice none 0 0, .slice none 0 0, .int .i64 0, .int .i64 0, .string ByteArray.empty, .int .i64 0, .int .i64 0, .int .i64 0, .string ByteArray.empty, .string ByteArray.empty, .int .i64 0, .int .u8 0, .int .u8 0, .int .u8 0, .int .u8 0, .int .u8 0, .int .u8 0, .int .u8 0, .int .u8 0, .int .u8 0, .int .u8 0, .int .u8 0, .int .u8 0, .int .u8 0, .int .u8 0, .int .u8 0, .int .u8 0, .int .u8 0, .int .u8 0, .int .u8 0, .int .u8 0, .int .u8 0, .int .u8 0, .int .u8 0, .int .u8 0, .int .u8 0, .int .u8 0, .int .u8 0, .int .u8 0, .int .u8 0, .int .u8 0, .int .u8 0, .int .u8 0, .int .i64 0, .int .i64 0, .string ByteArray.empty, .int .i64 0, .int .i64 0, .int .i64 0, .int .i64 0, .int .i64 0, .slice none 0 0, .slice none 0 0, .bool false, .int .u8 0, .int .u8 0, .int .u8 0, .int .u8 0, .int .u8 0, .int .u8 0, .int .u8 0, .int .u8 0, .int .u8 0, .int .u8 0, .int .u8 0, .int .u8 0, .int .u8 0, .int .u8 0, .int .u8 0, .int .u8 0, .int .u8 0, .int .u8 0, .int .u8 0, .int .u8 0, .int .u8 0, .int .u8 0, .int .u8 0, .int .u8 0, .int .u8 0, .int .u8 0, .int .u8 0, .int .u8 0, .int .u8 0, .int .u8 0, .int .u8 0, .int .u8 0, .int .u8 0, .int .u8 0, .int .u8 0, .int .u8 0, .int .u8 0, .int .u8 0, .int .u8 0, .int .u8 0, .int .u8 0, .int .u8 0, .int .u8 0, .int .u8 0, .int .u8 0, .int .u8 0, .int .u8 0, .int .u8 0, .int .u8 0, .int .u8 0, .int .u8 0, .int .u8 0, .int .u8 0, .int .u8 0, .int .u8 0, .int .u8 0, .int .u8 0, .int .u8 0, .int .u8 0, .int .u8 0, .int .u8 0, .int .u8 0, .int .u8 0, .int .u8 0, .int .i64 0, .int .u8 0, .int .u8 0, .int .u8 0, .int .u8 0, .int .u8 0, .int .u8 0, .int .u8 0, .int .u8 0, .int .u8 0, .int .u8 0, .int .u8 0, .int .u8 0, .int .u8 0, .int .u8 0, .int .u8 0, .int .u8 0, .int .u8 0, .int .u8 0, .int .u8 0, .int .u8 0, .int .u8 0, .int .u8 0, .int .u8 0, .int .u8 0, .int .u8 0, .int .u8 0, .int .u8 0, .int .u8 0, .int .u8 0, .int .u8 0, .int .u8 0, .int .u8 0, .int .u8 0, .int .u8 0, .int .u8 0, .int .u8 0, .int .u8 0, .int .u8 0, .int .u8 0, .int .u8 0, .int .u8 0, .int .u8 0, .int .u8 0, .int .u8 0, .int .u8 0, .int .u8 0, .int .u8 0, .int .u8 0, .int .u8 0, .int .u8 0, .int .u8 0, .int .u8 0, .int .u8 0, .int .u8 0, .int .u8 0, .int .u8 0, .int .u8 0, .int .u8 0, .int .u8 0, .int .u8 0, .int .u8 0, .int .u8 0, .int .u8 0, .int .u8 0, .int .u8 0, .int .u8 0, .int .u8 0, .int .u8 0, .int .u8 0, .int .u8 0, .int .u8 0, .int .u8 0, .int .u8 0, .int .u8 0, .int .u8 0, .int .u8 0, .int .u8 0, .int .u8 0, .int .u8 0, .int .u8 0, .int .u8 0, .int .u8 0, .int .u8 0, .int .u8 0, .int .u8 0, .int .u8 0, .int .u8 0, .int .u8 0, .int .u8 0, .int .u8 0, .int .u8 0, .int .u8 0, .int .u8 0, .int .u8 0, .int .u8 0, .int .u8 0].toArray) := by kernel_rfl
theorem z47l : (Try.prog.info? 47).bind (·.zero) = some (.agg [.int .i64 0, .int .i64 0, .int .i64 0, .bool false, .int .i64 0, .int .i64 0, .int .i64 0, .int .i64 0, .int .i64 0, .int .i64 0, .int .i64 0, .int .i64 0, .bool false, .slice none 0 0, .slice none 0 0, .slice none 0 0, .int .i64 0, .int .i64 0, .string ByteArray.empty, .int .i64 0, .int .i64 0, .int .i64 0, .string ByteArray.empty, .string ByteArray.empty, .int .i64 0, .int .u8 0, .int .u8 0, .int .u8 0, .int .u8 0, .int .u8 0, .int .u8 0, .int .u8 0, .int .u8 0, .int .u8 0, .int .u8 0, .int .u8 0, .int .u8 0, .int .u8 0, .int .u8 0, .int .u8 0, .int .u8 0, .int .u8 0, .int .u8 0, .int .u8 0, .int .u8 0, .int .u8 0, .int .u8 0, .int .u8 0, .int .u8 0, .int .u8 0, .int .u8 0, .int .u8 0, .int .u8 0, .int .u8 0, .int .u8 0, .int .u8 0, .int .u8 0, .int .i64 0, .int .i64 0, .string ByteArray.empty, .int .i64 0, .int .i64 0, .int .i64 0, .int .i64 0, .int .i64 0, .slice none 0 0, .slice none 0 0, .bool false, .int .u8 0, .int .u8 0, .int .u8 0, .int .u8 0, .int .u8 0, .int .u8 0, .int .u8 0, .int .u8 0, .int .u8 0, .int .u8 0, .int .u8 0, .int .u8 0, .int .u8 0, .int .u8 0, .int .u8 0, .int .u8 0, .int .u8 0, .int .u8 0, .int .u8 0, .int .u8 0, .int .u8 0, .int .u8 0, .int .u8 0, .int .u8 0, .int .u8 0, .int .u8 0, .int .u8 0, .int .u8 0, .int .u8 0, .int .u8 0, .int .u8 0, .int .u8 0, .int .u8 0, .int .u8 0, .int .u8 0, .int .u8 0, .int .u8 0, .int .u8 0, .int .u8 0, .int .u8 0, .int .u8 0, .int .u8 0, .int .u8 0, .int .u8 0, .int .u8 0, .int .u8 0, .int .u8 0, .int .u8 0, .int .u8 0, .int .u8 0, .int .u8 0, .int .u8 0, .int .u8 0, .int .u8 0, .int .u8 0, .int .u8 0, .int .u8 0, .int .u8 0, .int .u8 0, .int .u8 0, .int .u8 0, .int .u8 0, .int .u8 0, .int .u8 0, .int .i64 0, .int .u8 0, .int .u8 0, .int .u8 0, .int .u8 0, .int .u8 0, .int .u8 0, .int .u8 0, .int .u8 0, .int .u8 0, .int .u8 0, .int .u8 0, .int .u8 0, .int .u8 0, .int .u8 0, .int .u8 0, .int .u8 0, .int .u8 0, .int .u8 0, .int .u8 0, .int .u8 0, .int .u8 0, .int .u8 0, .int .u8 0, .int .u8 0, .int .u8 0, .int .u8 0, .int .u8 0, .int .u8 0, .int .u8 0, .int .u8 0, .int .u8 0, .int .u8 0, .int .u8 0, .int .u8 0, .int .u8 0, .int .u8 0, .int .u8 0, .int .u8 0, .int .u8 0, .int .u8 0, .int .u8 0, .int .u8 0, .int .u8 0, .int .u8 0, .int .u8 0, .int .u8 0, .int .u8 0, .int .u8 0, .int .u8 0, .int .u8 0, .int .u8 0, .int .u8 0, .int .u8 0, .int .u8 0, .int .u8 0, .int .u8 0, .int .u8 0, .int .u8 0, .int .u8 0, .int .u8 0, .int .u8 0, .int .u8 0, .int .u8 0, .int .u8 0, .int .u8 0, .int .u8 0, .int .u8 0, .int .u8 0, .int .u8 0, .int .u8 0, .int .u8 0, .int .u8 0, .int .u8 0, .int .u8 0, .int .u8 0, .int .u8 0, .int .u8 0, .int .u8 0, .int .u8 0, .int .u8 0, .int .u8 0, .int .u8 0, .int .u8 0, .int .u8 0, .int .u8 0, .int .u8 0, .int .u8 0, .int .u8 0, .int .u8 0, .int .u8 0, .int .u8 0, .int .u8 0, .int .u8 0, .int .u8 0, .int .u8 0, .int .u8 0, .int .i64 0].toArray) := by kernel_rfl

set_option maxHeartbeats 8000000 in
theorem ClientCalls_w (c : Ct) (m : M5) (es : List EnV) (d : Cmd) (a : Int) (u : ByteArray) (w : World) (hx : c.msg.entries = es.map Prod.fst) (f1 : FA w (msF c.msg m es)) :
    Calls Try.prog 4 #[.agg (ctM c m).toArray, .agg (cmdM d).toArray, .int .i64 a, .string u] w fun e w' => e = .returned (.bool true) ∧ Fr [] w w' := by
  refine calls_of (args := [.agg (ctM c m).toArray, .agg (cmdM d).toArray, .int .i64 a, .string u]) ([]) ([]) ([msF c.msg m es]) Try.func4 rfl rfl (okFW (.cons f1 .nil)) ?_
  refine J_seq ?_
  refine J_region ?_
  refine L_box rfl rfl rfl rfl rfl (fun b0 => ?_)
  refine L_box rfl rfl rfl rfl rfl (fun b1 => ?_)
  refine L_v rfl rfl rfl (V_assign rfl rfl) ?_
  refine L_nil ?_
  change J _ _ _ _
  refine J_seq ?_
  refine J_seq ?_
  refine J_region ?_
  refine L_v rfl rfl rfl (V_loadT 0 (vs := ctM c m) rfl rfl rfl Try.underlying47 rfl sz47l (by kernel_rfl) (by kernel_rfl)) ?_
  refine L_v rfl rfl rfl (V_buildE (v := .agg (msM ms0 m50).toArray) rfl rfl (fun w => by kernel_rfl)) ?_
  refine L_v rfl rfl rfl (V_move rfl rfl) ?_
  refine L_v rfl rfl rfl (V_fieldAddr rfl rfl Try.underlying31 rfl sz9l rfl) ?_
  refine L_v rfl rfl rfl (V_load1 1 rfl rfl rfl Try.underlying9 rfl (by rfl)) ?_
  refine L_call rfl rfl rfl rfl tx6l (fun w1 hw => (large_w c m es ms0 m50 [] u d.2.2.2.1 w1 hx rfl (hw.fa 0 rfl) fa_ms0).mono ?_)
  rintro e w' ⟨q1, rfl, hfr, hq1⟩
  refine ⟨_, _, _, rfl, hw.fr0 hfr, rfl, ?_⟩
  refine L_v rfl rfl rfl (V_move rfl rfl) ?_
  refine L_split 24 rfl (fun h1 => ?_) (fun h1 => ?_)
  ·
    first | (have h1 := of_decide_eq_true h1) | (have h1 := of_decide_eq_false h1) | skip
    obtain rfl : q1 = true := h1
    refine L_skip rfl rfl rfl rfl rfl rfl rfl ?_
    refine L_skip rfl rfl rfl rfl rfl rfl rfl ?_
    refine L_skip rfl rfl rfl rfl rfl rfl rfl ?_
    refine L_skip rfl rfl rfl rfl rfl rfl rfl ?_
    first | refine L_v rfl rfl rfl (V_pickT rfl rfl rfl) ?_ | refine L_v rfl rfl rfl (V_pickF rfl rfl rfl) ?_
    refine L_nil ?_
    change J _ _ _ _
    refine J_true rfl ?_
    refine J_seq ?_
    refine J_region ?_
    refine L_v rfl rfl rfl (V_assign rfl rfl) ?_
    refine L_nil ?_
    change J _ _ _ _
    refine J_ret ?_
    change Kret _ _ _ Exit.ret _
    refine ret1 rfl rfl (RV_t rfl) ?_
    exact fun w' h => ⟨rfl, h.fr⟩
  ·
    first | (have h1 := of_decide_eq_true h1) | (have h1 := of_decide_eq_false h1) | skip
    obtain rfl : q1 = false := h1
    obtain ⟨z1, _⟩ := hq1 rfl
    refine L_wv rfl rfl rfl rfl rfl rfl (V_fieldAddr rfl rfl Try.underlying31 rfl sz9l rfl) ?_
    refine L_wv rfl rfl rfl rfl rfl rfl (V_load1 1 rfl rfl rfl Try.underlying9 rfl (by rfl)) ?_
    refine L_wv rfl rfl rfl rfl rfl rfl (V_lenS rfl rfl Try.underlying9 rfl) ?_
    refine L_wv rfl rfl rfl rfl rfl rfl (V_gtr rfl rfl rfl (by first | exact decide_eq_true rfl | rfl)) ?_
    first | refine L_v rfl rfl rfl (V_pickT rfl rfl rfl) ?_ | refine L_v rfl rfl rfl (V_pickF rfl rfl rfl) ?_
    refine L_nil ?_
    change J _ _ _ _
    refine J_cond rfl (fun h2 => ?_) (fun h2 => ?_)
    ·
      first | (have h2 := of_decide_eq_true h2) | (have h2 := of_decide_eq_false h2) | skip
      refine J_seq ?_
      refine J_region ?_
      refine L_v rfl rfl rfl (V_assign rfl rfl) ?_
      refine L_nil ?_
      change J _ _ _ _
      refine J_ret ?_
      change Kret _ _ _ Exit.ret _
      refine ret1 rfl rfl (RV_t rfl) ?_
      exact fun w' h => ⟨rfl, h.fr⟩
    ·
      first | (have h2 := of_decide_eq_true h2) | (have h2 := of_decide_eq_false h2) | skip
      refine J_skip ?_
      change J _ _ _ _
      refine J_seq ?_
      refine J_region ?_
      refine L_v rfl rfl rfl (V_loadT 0 (vs := ctM c m) rfl rfl rfl Try.underlying47 rfl sz47l (by kernel_rfl) (by kernel_rfl)) ?_
      refine L_alloc rfl rfl rfl rfl z47l (fun b2 => ?_)
      refine L_storeW 2 rfl rfl rfl rfl rfl rfl (szd sz47l (by kernel_rfl)) (all_one (by kernel_rfl)) (by kernel_rfl) ?_
      refine L_nil ?_
      change J _ _ _ _
      refine J_seq ?_
      refine J_region ?_
      refine L_v rfl rfl rfl (V_fieldAddr rfl rfl Try.underlying47 rfl sz45l rfl) ?_
      refine L_v rfl rfl rfl (V_loadT 0 (vs := msM c.msg m) rfl rfl rfl Try.underlying45 rfl sz45l (by kernel_rfl) (by kernel_rfl)) ?_
      refine L_call rfl rfl rfl rfl tx7l (fun w1 hw => (ownMessage_w c.msg m es w1 hx (hw.fa 0 rfl) z1).mono ?_)
      rintro e w' ⟨m', es', rfl, hx', hfr, hn⟩
      refine ⟨_, _, _, rfl, hw.newN hfr hn, rfl, ?_⟩
      refine L_v rfl rfl rfl (V_fieldAddr rfl rfl Try.underlying47 rfl sz45l rfl) ?_
      refine L_storeT 2 (l' := ctM c (m')) rfl rfl rfl rfl rfl rfl (szd sz45l (by kernel_rfl)) (all_one (by kernel_rfl)) (Nat.le_of_ble_eq_true (by kernel_rfl)) (by kernel_rfl) ?_
      refine L_nil ?_
      change J _ _ _ _
      refine J_seq ?_
      refine J_region ?_
      refine L_v rfl rfl rfl (V_loadT 0 (vs := ctM c m) rfl rfl rfl Try.underlying47 rfl sz47l (by kernel_rfl) (by kernel_rfl)) ?_
      refine L_v rfl rfl rfl (V_loadT 1 (vs := cmdM d) rfl rfl rfl Try.underlying31 rfl sz31l (by kernel_rfl) (by kernel_rfl)) ?_
      refine L_callV rfl rfl rfl rfl rfl rfl tx13l (fun w1 hw => call_w c m es d w1 hx (hw.fa 0 rfl) z1) ?_
      refine L_v rfl rfl rfl (V_move rfl rfl) ?_
      refine L_v rfl rfl rfl (V_extract rfl rfl rfl) ?_
      refine L_v rfl rfl rfl (V_extract rfl rfl rfl) ?_
      refine L_v rfl rfl rfl (V_extract rfl rfl rfl) ?_
      refine L_alloc rfl rfl rfl rfl z47l (fun b3 => ?_)
      refine L_alloc rfl rfl rfl rfl z45l (fun b4 => ?_)
      refine L_storeW 3 rfl rfl rfl rfl rfl rfl (szd sz47l (by kernel_rfl)) (all_one (by kernel_rfl)) (by kernel_rfl) ?_
      refine L_storeW 4 rfl rfl rfl rfl rfl rfl (szd sz45l (by kernel_rfl)) (all_one (by kernel_rfl)) (by kernel_rfl) ?_
      refine L_v rfl rfl rfl (V_assign rfl rfl) ?_
      refine L_nil ?_
      change J _ _ _ _
      refine J_seq ?_
      refine J_region ?_
      refine L_v rfl rfl rfl (V_loadT 2 (vs := ctM c (m')) rfl rfl rfl Try.underlying47 rfl sz47l (by kernel_rfl) (by kernel_rfl)) ?_
      refine L_v rfl rfl rfl (V_loadT 1 (vs := cmdM d) rfl rfl rfl Try.underlying31 rfl sz31l (by kernel_rfl) (by kernel_rfl)) ?_
      refine L_callV rfl rfl rfl rfl rfl rfl tx14l (fun w1 hw => call21_w c m' es' d w1 hx' (hw.fa 1 rfl) (z1.own (hx'.symm.trans hx))) ?_
      refine L_v rfl rfl rfl (V_move rfl rfl) ?_
      refine L_v rfl rfl rfl (V_extract rfl rfl rfl) ?_
      refine L_v rfl rfl rfl (V_extract rfl rfl rfl) ?_
      refine L_v rfl rfl rfl (V_extract rfl rfl rfl) ?_
      refine L_alloc rfl rfl rfl rfl z47l (fun b5 => ?_)
      refine L_alloc rfl rfl rfl rfl z45l (fun b6 => ?_)
      refine L_storeW 5 rfl rfl rfl rfl rfl rfl (szd sz47l (by kernel_rfl)) (all_one (by kernel_rfl)) (by kernel_rfl) ?_
      refine L_storeW 6 rfl rfl rfl rfl rfl rfl (szd sz45l (by kernel_rfl)) (all_one (by kernel_rfl)) (by kernel_rfl) ?_
      refine L_v rfl rfl rfl (V_assign rfl rfl) ?_
      refine L_nil ?_
      change J _ _ _ _
      refine J_seq ?_
      refine J_mid (X := Nat × Nat × Nat × Nat × Nat × Nat) (fun x => { env := [(4, .pointer (some ⟨x.1, 0, none⟩)), (9, .pointer (some ⟨x.2.1, 0, none⟩)), (10, .pointer (some ⟨x.2.2.1, 0, none⟩)), (11, .pointer (some ⟨x.2.2.2.1, 0, none⟩)), (13, .pointer (some ⟨x.2.2.2.2.1, 0, none⟩)), (14, .pointer (some ⟨x.2.2.2.2.2, 0, none⟩)), (2, .int .i64 a), (3, .string u), (16, .bool true)], mem := [(x.1, row 47 (ctM c m)), (x.2.1, row 47 (ctM c (m'))), (x.2.2.1, row 47 (ctM (begC c d 0 ⟨#[]⟩) m50)), (x.2.2.2.1, row 45 (msM ((begC c d 0 ⟨#[]⟩).msg) m50)), (x.2.2.2.2.1, row 47 (ctM (begC c d 0 ⟨#[]⟩) m50)), (x.2.2.2.2.2, row 45 (msM ((begC c d 0 ⟨#[]⟩).msg) m50))], facts := [msF c.msg m es, msF c.msg m' es'] }) ?_ ?_
      ·
        refine J_region ?_
        refine L_v rfl rfl rfl (V_loadT 3 (vs := ctM (begC c d 0 ⟨#[]⟩) m50) rfl rfl rfl Try.underlying47 rfl sz47l (by kernel_rfl) (by kernel_rfl)) ?_
        refine L_v rfl rfl rfl (V_loadT 5 (vs := ctM (begC c d 0 ⟨#[]⟩) m50) rfl rfl rfl Try.underlying47 rfl sz47l (by kernel_rfl) (by kernel_rfl)) ?_
        refine L_callV rfl rfl rfl rfl rfl rfl tx11l (fun w1 hw => same_m beg_mw beg_mw) ?_
        refine L_v rfl rfl rfl (V_move rfl rfl) ?_
        refine L_wv rfl rfl rfl rfl rfl rfl (V_loadT 4 (vs := msM ((begC c d 0 ⟨#[]⟩).msg) m50) rfl rfl rfl Try.underlying45 rfl sz45l (by kernel_rfl) (by kernel_rfl)) ?_
        refine L_wv rfl rfl rfl rfl rfl rfl (V_loadT 6 (vs := msM ((begC c d 0 ⟨#[]⟩).msg) m50) rfl rfl rfl Try.underlying45 rfl sz45l (by kernel_rfl) (by kernel_rfl)) ?_
        refine L_wcallV rfl rfl rfl rfl rfl rfl rfl rfl rfl tx12l (fun w1 hw => sameMs_m beg_mw beg_mw) ?_
        first | refine L_v rfl rfl rfl (V_pickT rfl rfl rfl) ?_ | refine L_v rfl rfl rfl (V_pickF rfl rfl rfl) ?_
        refine L_v rfl rfl rfl (V_move rfl rfl) ?_
        refine L_wv rfl rfl rfl rfl rfl rfl (V_move rfl rfl) ?_
        refine L_wv rfl rfl rfl rfl rfl rfl (V_move rfl rfl) ?_
        refine L_wv rfl rfl rfl rfl rfl rfl (V_eql rfl rfl rfl (by first | exact decide_eq_true rfl | rfl)) ?_
        first | refine L_v rfl rfl rfl (V_pickT rfl rfl rfl) ?_ | refine L_v rfl rfl rfl (V_pickF rfl rfl rfl) ?_
        refine L_v rfl rfl rfl (V_assign rfl rfl) ?_
        refine L_nil ?_
        exact ⟨(b0, b2, b3, b4, b5, b6), ⟨rfl, rfl, rfl, rfl, rfl, rfl, rfl, rfl, rfl, trivial⟩, (List.Sublist.cons_cons _ (List.Sublist.cons _ (List.Sublist.cons_cons _ (List.Sublist.cons_cons _ (List.Sublist.cons_cons _ (List.Sublist.cons_cons _ (List.Sublist.cons_cons _ (List.nil_sublist _)))))))), fun f hf => hf, rfl⟩
      rintro ⟨b0, b1, b2, b3, b4, b5⟩
      change J _ _ _ _
      refine J_seq ?_
      refine J_region ?_
      refine L_v rfl rfl rfl (V_loadT 0 (vs := ctM c m) rfl rfl rfl Try.underlying47 rfl sz47l (by kernel_rfl) (by kernel_rfl)) ?_
      refine L_v rfl rfl rfl (V_move rfl rfl) ?_
      refine L_v rfl rfl rfl (V_move rfl rfl) ?_
      refine L_callV rfl rfl rfl rfl rfl rfl tx15l (fun w1 hw => ask_w c m es a u w1 hx (hw.fa 0 rfl) z1) ?_
      refine L_v rfl rfl rfl (V_move rfl rfl) ?_
      refine L_v rfl rfl rfl (V_extract rfl rfl rfl) ?_
      refine L_v rfl rfl rfl (V_extract rfl rfl rfl) ?_
      refine L_v rfl rfl rfl (V_extract rfl rfl rfl) ?_
      refine L_storeW 2 rfl rfl rfl rfl rfl rfl (szd sz47l (by kernel_rfl)) (all_one (by kernel_rfl)) (by kernel_rfl) ?_
      refine L_storeW 3 rfl rfl rfl rfl rfl rfl (szd sz45l (by kernel_rfl)) (all_one (by kernel_rfl)) (by kernel_rfl) ?_
      refine L_v rfl rfl rfl (V_assign rfl rfl) ?_
      refine L_nil ?_
      change J _ _ _ _
      refine J_seq ?_
      refine J_region ?_
      refine L_v rfl rfl rfl (V_loadT 1 (vs := ctM c (m')) rfl rfl rfl Try.underlying47 rfl sz47l (by kernel_rfl) (by kernel_rfl)) ?_
      refine L_v rfl rfl rfl (V_move rfl rfl) ?_
      refine L_v rfl rfl rfl (V_move rfl rfl) ?_
      refine L_callV rfl rfl rfl rfl rfl rfl tx16l (fun w1 hw => ask21_w c m' es' a u w1 hx' (hw.fa 1 rfl) (z1.own (hx'.symm.trans hx))) ?_
      refine L_v rfl rfl rfl (V_move rfl rfl) ?_
      refine L_v rfl rfl rfl (V_extract rfl rfl rfl) ?_
      refine L_v rfl rfl rfl (V_extract rfl rfl rfl) ?_
      refine L_v rfl rfl rfl (V_extract rfl rfl rfl) ?_
      refine L_storeW 4 rfl rfl rfl rfl rfl rfl (szd sz47l (by kernel_rfl)) (all_one (by kernel_rfl)) (by kernel_rfl) ?_
      refine L_storeW 5 rfl rfl rfl rfl rfl rfl (szd sz45l (by kernel_rfl)) (all_one (by kernel_rfl)) (by kernel_rfl) ?_
      refine L_v rfl rfl rfl (V_assign rfl rfl) ?_
      refine L_nil ?_
      change J _ _ _ _
      refine J_seq ?_
      refine J_mid (X := Nat × Nat × Nat × Nat × Nat × Nat) (fun x => { env := [(4, .pointer (some ⟨x.1, 0, none⟩)), (9, .pointer (some ⟨x.2.1, 0, none⟩)), (10, .pointer (some ⟨x.2.2.1, 0, none⟩)), (11, .pointer (some ⟨x.2.2.2.1, 0, none⟩)), (13, .pointer (some ⟨x.2.2.2.2.1, 0, none⟩)), (14, .pointer (some ⟨x.2.2.2.2.2, 0, none⟩)), (16, .bool true), (17, .bool true)], mem := [(x.1, row 47 (ctM c m)), (x.2.1, row 47 (ctM c (m'))), (x.2.2.1, row 47 (ctM (begC c cmd0 a u) m50)), (x.2.2.2.1, row 45 (msM ((begC c cmd0 a u).msg) m50)), (x.2.2.2.2.1, row 47 (ctM (begC c cmd0 a u) m50)), (x.2.2.2.2.2, row 45 (msM ((begC c cmd0 a u).msg) m50))], facts := [msF c.msg m es, msF c.msg m' es'] }) ?_ ?_
      ·
        refine J_region ?_
        refine L_v rfl rfl rfl (V_loadT 2 (vs := ctM (begC c cmd0 a u) m50) rfl rfl rfl Try.underlying47 rfl sz47l (by kernel_rfl) (by kernel_rfl)) ?_
        refine L_v rfl rfl rfl (V_loadT 4 (vs := ctM (begC c cmd0 a u) m50) rfl rfl rfl Try.underlying47 rfl sz47l (by kernel_rfl) (by kernel_rfl)) ?_
        refine L_callV rfl rfl rfl rfl rfl rfl tx11l (fun w1 hw => same_m beg_mw beg_mw) ?_
        refine L_v rfl rfl rfl (V_move rfl rfl) ?_
        refine L_wv rfl rfl rfl rfl rfl rfl (V_loadT 3 (vs := msM ((begC c cmd0 a u).msg) m50) rfl rfl rfl Try.underlying45 rfl sz45l (by kernel_rfl) (by kernel_rfl)) ?_
        refine L_wv rfl rfl rfl rfl rfl rfl (V_loadT 5 (vs := msM ((begC c cmd0 a u).msg) m50) rfl rfl rfl Try.underlying45 rfl sz45l (by kernel_rfl) (by kernel_rfl)) ?_
        refine L_wcallV rfl rfl rfl rfl rfl rfl rfl rfl rfl tx12l (fun w1 hw => sameMs_m beg_mw beg_mw) ?_
        first | refine L_v rfl rfl rfl (V_pickT rfl rfl rfl) ?_ | refine L_v rfl rfl rfl (V_pickF rfl rfl rfl) ?_
        refine L_v rfl rfl rfl (V_move rfl rfl) ?_
        refine L_wv rfl rfl rfl rfl rfl rfl (V_move rfl rfl) ?_
        refine L_wv rfl rfl rfl rfl rfl rfl (V_move rfl rfl) ?_
        refine L_wv rfl rfl rfl rfl rfl rfl (V_eql rfl rfl rfl (by first | exact decide_eq_true rfl | rfl)) ?_
        first | refine L_v rfl rfl rfl (V_pickT rfl rfl rfl) ?_ | refine L_v rfl rfl rfl (V_pickF rfl rfl rfl) ?_
        refine L_v rfl rfl rfl (V_assign rfl rfl) ?_
        refine L_nil ?_
        exact ⟨(b0, b1, b2, b3, b4, b5), ⟨rfl, rfl, rfl, rfl, rfl, rfl, rfl, rfl, trivial⟩, (List.Sublist.cons_cons _ (List.Sublist.cons_cons _ (List.Sublist.cons_cons _ (List.Sublist.cons_cons _ (List.Sublist.cons_cons _ (List.Sublist.cons_cons _ (List.nil_sublist _))))))), fun f hf => hf, rfl⟩
      rintro ⟨b0, b1, b2, b3, b4, b5⟩
      change J _ _ _ _
      refine J_seq ?_
      refine J_region ?_
      refine L_v rfl rfl rfl (V_loadT 0 (vs := ctM c m) rfl rfl rfl Try.underlying47 rfl sz47l (by kernel_rfl) (by kernel_rfl)) ?_
      refine L_callV rfl rfl rfl rfl rfl rfl tx17l (fun w1 hw => retry_w c m es w1 hx (hw.fa 0 rfl) z1) ?_
      refine L_v rfl rfl rfl (V_move rfl rfl) ?_
      refine L_v rfl rfl rfl (V_extract rfl rfl rfl) ?_
      refine L_v rfl rfl rfl (V_extract rfl rfl rfl) ?_
      refine L_v rfl rfl rfl (V_extract rfl rfl rfl) ?_
      refine L_storeW 2 rfl rfl rfl rfl rfl rfl (szd sz47l (by kernel_rfl)) (all_one (by kernel_rfl)) (by kernel_rfl) ?_
      refine L_storeW 3 rfl rfl rfl rfl rfl rfl (szd sz45l (by kernel_rfl)) (all_one (by kernel_rfl)) (by kernel_rfl) ?_
      refine L_v rfl rfl rfl (V_assign rfl rfl) ?_
      refine L_nil ?_
      change J _ _ _ _
      refine J_seq ?_
      refine J_region ?_
      refine L_v rfl rfl rfl (V_loadT 1 (vs := ctM c (m')) rfl rfl rfl Try.underlying47 rfl sz47l (by kernel_rfl) (by kernel_rfl)) ?_
      refine L_callV rfl rfl rfl rfl rfl rfl tx18l (fun w1 hw => retry21_w c m' es' w1 hx' (hw.fa 1 rfl) (z1.own (hx'.symm.trans hx))) ?_
      refine L_v rfl rfl rfl (V_move rfl rfl) ?_
      refine L_v rfl rfl rfl (V_extract rfl rfl rfl) ?_
      refine L_v rfl rfl rfl (V_extract rfl rfl rfl) ?_
      refine L_v rfl rfl rfl (V_extract rfl rfl rfl) ?_
      refine L_storeW 4 rfl rfl rfl rfl rfl rfl (szd sz47l (by kernel_rfl)) (all_one (by kernel_rfl)) (by kernel_rfl) ?_
      refine L_storeW 5 rfl rfl rfl rfl rfl rfl (szd sz45l (by kernel_rfl)) (all_one (by kernel_rfl)) (by kernel_rfl) ?_
      refine L_v rfl rfl rfl (V_assign rfl rfl) ?_
      refine L_nil ?_
      change J _ _ _ _
      refine J_seq ?_
      refine J_region ?_
      refine L_callV rfl rfl rfl rfl rfl rfl tx10l (fun w1 hw => calls_t w1) ?_
      refine L_v rfl rfl rfl (V_move rfl rfl) ?_
      refine L_wv rfl rfl rfl rfl rfl rfl (V_move rfl rfl) ?_
      first | refine L_v rfl rfl rfl (V_pickT rfl rfl rfl) ?_ | refine L_v rfl rfl rfl (V_pickF rfl rfl rfl) ?_
      refine L_v rfl rfl rfl (V_move rfl rfl) ?_
      refine L_wv rfl rfl rfl rfl rfl rfl (V_move rfl rfl) ?_
      first | refine L_v rfl rfl rfl (V_pickT rfl rfl rfl) ?_ | refine L_v rfl rfl rfl (V_pickF rfl rfl rfl) ?_
      refine L_v rfl rfl rfl (V_move rfl rfl) ?_
      refine L_wv rfl rfl rfl rfl rfl rfl (V_loadT 2 (vs := ctM (retC c) (selM (retS c) m)) rfl rfl rfl Try.underlying47 rfl sz47l (by kernel_rfl) (by kernel_rfl)) ?_
      refine L_wv rfl rfl rfl rfl rfl rfl (V_loadT 4 (vs := ctM (retC c) (selM (retS c) m')) rfl rfl rfl Try.underlying47 rfl sz47l (by kernel_rfl) (by kernel_rfl)) ?_
      refine L_wcallV rfl rfl rfl rfl rfl rfl rfl rfl rfl tx11l (fun w1 hw => same_m (ret_mw (⟨hx, hw.fa 0 rfl, z1⟩ : Mw w1 c.msg m es)) (ret_mw (⟨hx', hw.fa 1 rfl, z1.own (hx'.symm.trans hx)⟩ : Mw w1 c.msg m' es'))) ?_
      first | refine L_v rfl rfl rfl (V_pickT rfl rfl rfl) ?_ | refine L_v rfl rfl rfl (V_pickF rfl rfl rfl) ?_
      refine L_v rfl rfl rfl (V_move rfl rfl) ?_
      refine L_wv rfl rfl rfl rfl rfl rfl (V_loadT 3 (vs := msM (retX c) (selM (retT c) m)) rfl rfl rfl Try.underlying45 rfl sz45l (by kernel_rfl) (by kernel_rfl)) ?_
      refine L_wv rfl rfl rfl rfl rfl rfl (V_loadT 5 (vs := msM (retX c) (selM (retT c) m')) rfl rfl rfl Try.underlying45 rfl sz45l (by kernel_rfl) (by kernel_rfl)) ?_
      refine L_wcallV rfl rfl rfl rfl rfl rfl rfl rfl rfl tx12l (fun w1 hw => sameMs_m (retX_mw (⟨hx, hw.fa 0 rfl, z1⟩ : Mw w1 c.msg m es)) (retX_mw (⟨hx', hw.fa 1 rfl, z1.own (hx'.symm.trans hx)⟩ : Mw w1 c.msg m' es'))) ?_
      first | refine L_v rfl rfl rfl (V_pickT rfl rfl rfl) ?_ | refine L_v rfl rfl rfl (V_pickF rfl rfl rfl) ?_
      refine L_v rfl rfl rfl (V_move rfl rfl) ?_
      refine L_wv rfl rfl rfl rfl rfl rfl (V_move rfl rfl) ?_
      refine L_wv rfl rfl rfl rfl rfl rfl (V_move rfl rfl) ?_
      refine L_wv rfl rfl rfl rfl rfl rfl (V_eql rfl rfl rfl (by first | exact decide_eq_true rfl | rfl)) ?_
      first | refine L_v rfl rfl rfl (V_pickT rfl rfl rfl) ?_ | refine L_v rfl rfl rfl (V_pickF rfl rfl rfl) ?_
      refine L_v rfl rfl rfl (V_move rfl rfl) ?_
      refine L_wv rfl rfl rfl rfl rfl rfl (V_loadT 0 (vs := ctM c m) rfl rfl rfl Try.underlying47 rfl sz47l (by kernel_rfl) (by kernel_rfl)) ?_
      refine L_wv rfl rfl rfl rfl rfl rfl (V_loadT 1 (vs := ctM c (m')) rfl rfl rfl Try.underlying47 rfl sz47l (by kernel_rfl) (by kernel_rfl)) ?_
      refine L_wcallV rfl rfl rfl rfl rfl rfl rfl rfl rfl tx11l (fun w1 hw => same_m (⟨hx, hw.fa 0 rfl, z1⟩ : Mw w1 c.msg m es) (⟨hx', hw.fa 1 rfl, z1.own (hx'.symm.trans hx)⟩ : Mw w1 c.msg m' es')) ?_
      first | refine L_v rfl rfl rfl (V_pickT rfl rfl rfl) ?_ | refine L_v rfl rfl rfl (V_pickF rfl rfl rfl) ?_
      refine L_v rfl rfl rfl (V_assign rfl rfl) ?_
      refine L_nil ?_
      change J _ _ _ _
      refine J_ret ?_
      change Kret _ _ _ Exit.ret _
      refine ret1 rfl rfl (RV_t rfl) ?_
      exact fun w' h => ⟨rfl, h.fr⟩

end Go.Proofs.Ytfdmjjhgdbpfeaa
