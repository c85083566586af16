/- What a law of layer 21 comes to. -/
import Derived.Test.YtfdmjjhgdbpfeaaCCalls
import Derived.Test.YtfdmjjhgdbpfeaaMsgOpen
set_option linter.unusedVariables false
set_option linter.unusedSimpArgs false
set_option maxRecDepth 100000
namespace Go.Proofs.Ytfdmjjhgdbpfeaa
open Go.Sx
abbrev selE (b : Bool) (es : List EnV) : List EnV := if b then es else []
/-- A message's lists lie there, and are not too long. -/
structure Mw (w : World) (x : Ms) (m : M5) (es : List EnV) : Prop where
  own : x.entries = es.map Prod.fst
  fa : FA w (msF x m es)
  sz : Sz x es
theorem mw0 {w : World} : Mw w ms0 m50 [] := ⟨rfl, fa_ms0, sz_nl rfl rfl rfl⟩
theorem Sz.own {x : Ms} {es gs : List EnV} (h : Sz x es) (e : gs.map Prod.fst = es.map Prod.fst) : Sz x gs := by
  refine ⟨by have := congrArg List.length e; rw [List.length_map, List.length_map] at this; rw [this]; exact h.e, fun p hp => ?_, h.l, h.v, h.s⟩
  have : p.1 ∈ es.map Prod.fst := e ▸ List.mem_map.2 ⟨p, hp, rfl⟩
  obtain ⟨q, hq, hqp⟩ := List.mem_map.1 this
  rw [← hqp]
  exact h.c q hq
theorem Mw.turn {w : World} {c : Ct} {m : M5} {es : List EnV} (h : Mw w c.msg m es) (n : Int) : Mw w (turnC c n).msg m es := ⟨h.own, h.fa, h.sz.e, h.sz.c, h.sz.l, h.sz.v, h.sz.s⟩
theorem ret_mw {w : World} {c : Ct} {m : M5} {es : List EnV} (h : Mw w c.msg m es) : Mw w (retC c).msg (selM (retS c) m) (selE (retS c) es) := by
  have hk : retK c = 0 ∨ retK c = 1 ∨ retK c = 2 := by unfold retK; split <;> (try split) <;> simp
  unfold retC retS
  rcases hk with hk | hk | hk <;> rw [hk]
  · exact mw0
  · exact h
  · exact h.turn _
theorem retX_mw {w : World} {c : Ct} {m : M5} {es : List EnV} (h : Mw w c.msg m es) : Mw w (retX c) (selM (retT c) m) (selE (retT c) es) := by
  have hk : retK c = 0 ∨ retK c = 1 ∨ retK c = 2 := by unfold retK; split <;> (try split) <;> simp
  unfold retX retT
  rcases hk with hk | hk | hk <;> rw [hk]
  · exact mw0
  · exact mw0
  · exact h.turn _
theorem hearK_4 (c : Ct) (x : Ms) : hearK c x = 0 ∨ hearK c x = 1 ∨ hearK c x = 2 ∨ hearK c x = 3 := by unfold hearK; split <;> (try split) <;> (try split) <;> simp
theorem hear_mw {w : World} {c : Ct} {x : Ms} {m : M5} {es : List EnV} (h : Mw w c.msg m es) : Mw w (hearC c x).msg (selM (hearS c x) m) (selE (hearS c x) es) := by
  unfold hearC hearS
  rcases hearK_4 c x with hk | hk | hk | hk <;> rw [hk]
  · exact mw0
  · exact h
  · exact mw0
  · exact h.turn _
theorem hearX_mw {w : World} {c : Ct} {x : Ms} {m : M5} {es : List EnV} (h : Mw w c.msg m es) : Mw w (hearX c x) (selM (hearT c x) m) (selE (hearT c x) es) := by
  unfold hearX hearT
  rcases hearK_4 c x with hk | hk | hk | hk <;> rw [hk]
  · exact mw0
  · exact mw0
  · exact mw0
  · exact h.turn _
theorem beg_mw {w : World} {c : Ct} {d : Cmd} {a : Int} {u : ByteArray} : Mw w (begC c d a u).msg m50 [] := by
  unfold begC
  split
  · exact ⟨rfl, fa_ms0, sz_nl rfl rfl rfl⟩
  · exact mw0
theorem same_m {w : World} {c : Ct} {m n : M5} {es gs : List EnV} (h : Mw w c.msg m es) (k : Mw w c.msg n gs) : Calls Try.prog 11 #[.agg (ctM c m).toArray, .agg (ctM c n).toArray] w fun e w' => e = .returned (.bool true) ∧ Fr [] w w' := same_t c m n es gs w h.own k.own h.fa k.fa h.sz
theorem sameMs_m {w : World} {x : Ms} {m n : M5} {es gs : List EnV} (h : Mw w x m es) (k : Mw w x n gs) : Calls Try.prog 12 #[.agg (msM x m).toArray, .agg (msM x n).toArray] w fun e w' => e = .returned (.bool true) ∧ Fr [] w w' := sameMs_t x m n es gs w h.own k.own h.fa k.fa h.sz
theorem check_m {w : World} {c : Ct} {m : M5} {es : List EnV} (h : Mw w c.msg m es) : Calls Try.prog 19 #[.agg (ctM c m).toArray] w fun e w' => e = .returned (.int .i64 (chkE c)) ∧ Fr [] w w' := check_w c m es w h.own h.fa h.sz
theorem beg_ok {c : Ct} {d : Cmd} {a : Int} {u : ByteArray} (h : begE c d a u = 0) : c.busy = false ∧ begC c d a u = begN c d a u ∧ chkE (begC c d a u) = 0 := by
  have e : begC c d a u = begN c d a u := if_pos h
  unfold begE at h
  split at h
  · split at h
    · exact absurd h (by decide)
    · rename_i hb
      exact ⟨by simpa using hb, e, by rw [e]; exact h⟩
  · exact absurd h (by decide)
theorem turn_right {c : Ct} {n : Int} (h : RightP c) (hb : c.busy = true) (hn : 1 ≤ n ∧ n ≤ 7) : RightP (turnC c n) := by
  obtain ⟨h1, h2⟩ := h
  unfold msgP at h2
  rw [hb] at h2
  refine ⟨⟨h1.1, h1.2.1, hn, ?_⟩, ?_⟩
  · have := h1.2.2.2
    show 0 ≤ (if 1000 < c.tries + 1 then 1000 else c.tries + 1) ∧ (if 1000 < c.tries + 1 then 1000 else c.tries + 1) ≤ 1000
    split <;> omega
  · unfold msgP
    show (if c.busy = true then _ else _ : Prop)
    rw [hb]
    show (if c.msg.ask = 0 then mayCallP (turnC c n) c.msg.cmd ∧ (turnC c n).msg = reqM (turnC c n) c.msg.cmd else mayAskP (turnC c n) c.msg.ask c.msg.user ∧ (turnC c n).msg = queM (turnC c n) c.msg.ask c.msg.user)
    rw [if_pos rfl] at h2
    split at h2
    · rename_i ha
      rw [if_pos ha]
      refine ⟨h2.1, ?_⟩
      show { c.msg with to := n } = _
      conv => lhs; rw [h2.2]
      rfl
    · rename_i ha
      rw [if_neg ha]
      refine ⟨h2.1, ?_⟩
      show { c.msg with to := n } = _
      conv => lhs; rw [h2.2]
      rfl
theorem after_in {n : Int} (h : 1 ≤ n ∧ n ≤ 7) : 1 ≤ afterN n ∧ afterN n ≤ 7 ∧ afterN n ≠ n := by
  unfold afterN
  split <;> omega
theorem ret_right {c : Ct} (h : RightP c) : chkE (retC c) = 0 ∧ (retC c).seq = c.seq ∧ (retC c).busy = c.busy ∧ retE c = 0 ∧ (c.busy = true → (retX c).to ≠ c.target) := by
  cases hb : c.busy with
  | true =>
    have hk : retK c = 2 := by unfold retK; rw [if_pos h, if_pos hb]
    have ha := after_in h.nums.2.2.1
    unfold retC retX retE
    rw [hk]
    exact ⟨chk_y (turn_right h hb ⟨ha.1, ha.2.1⟩), rfl, hb, rfl, fun _ => ha.2.2⟩
  | false =>
    have hk : retK c = 1 := by unfold retK; rw [if_pos h, hb]; rfl
    unfold retC retX retE
    rw [hk]
    exact ⟨chk_y h, rfl, hb, rfl, fun hc => by cases hc⟩
theorem to_in {x : Ms} (h : 1 ≤ x.frm ∧ x.frm ≤ 7) : 1 ≤ hearTo x ∧ hearTo x ≤ 7 := by
  have ha := after_in h
  unfold hearTo
  split
  · exact ⟨ha.1, ha.2.1⟩
  · rename_i hc
    simp only [Bool.or_eq_true, Bool.not_eq_true', not_or, Bool.not_eq_false, wi_iff] at hc
    exact hc.1
theorem hear_right {c : Ct} {x : Ms} (h : RightP c) : hearE c x = 0 ∧ chkE (hearC c x) = 0 ∧ (hearC c x).seq = c.seq ∧ (hearD c x = true → c.busy = true ∧ (hearC c x).busy = false) ∧ (hearD c x = false → (hearC c x).busy = c.busy) ∧ ((hearX c x).kind ≠ 0 → (hearX c x).seq = c.seq) ∧ (c.busy = false → hearD c x = false ∧ (hearX c x).kind = 0) := by
  cases hi : hearI c x with
  | true =>
    have hk := k1 (x := x) h hi
    unfold hearE hearC hearD hearX
    rw [hk]
    exact ⟨rfl, chk_y h, rfl, fun hc => (by cases hc), fun _ => rfl, fun hc => absurd rfl hc, fun _ => ⟨rfl, rfl⟩⟩
  | false =>
    obtain ⟨hb, hf⟩ := heard_frm hi
    by_cases hc : x.reply.code = 141
    · have hk := k3 (x := x) h hi hc
      unfold hearE hearC hearD hearX
      rw [hk]
      refine ⟨rfl, chk_y (turn_right h hb (to_in hf)), rfl, fun hc => (by cases hc), fun _ => rfl, fun _ => ?_, fun hc => (by rw [hb] at hc; cases hc)⟩
      have h2 := h.2
      unfold msgP at h2
      rw [if_pos hb] at h2
      show c.msg.seq = c.seq
      split at h2
      · rw [h2.2]; rfl
      · rw [h2.2]; rfl
    · have hk := k2 (x := x) h hi hc
      unfold hearE hearC hearD hearX
      rw [hk]
      exact ⟨rfl, chk_y ⟨⟨h.1.1, h.1.2.1, hf, by show (0 : Int) ≤ 0 ∧ (0 : Int) ≤ 1000; decide⟩, ⟨rfl, rfl⟩⟩, rfl, fun _ => ⟨hb, rfl⟩, fun hc => (by cases hc), fun hc => absurd rfl hc, fun hc => (by rw [hb] at hc; cases hc)⟩
theorem sz3l : (Try.prog.info? 3).map (·.size) = some 1 := by kernel_rfl
theorem sz4l : (Try.prog.info? 4).map (·.size) = some 1 := by kernel_rfl
theorem sz9l : (Try.prog.info? 9).map (·.size) = some 1 := by kernel_rfl
theorem sz22l : (Try.prog.info? 22).map (·.size) = some 1 := by kernel_rfl
theorem sz31l : (Try.prog.info? 31).map (·.size) = some 38 := by kernel_rfl
theorem sz45l : (Try.prog.info? 45).map (·.size) = some 225 := by kernel_rfl
theorem sz47l : (Try.prog.info? 47).map (·.size) = some 230 := by kernel_rfl
theorem tx6l : Txt Try.prog 6 := txt_of Try.func6 rfl (by kernel_rfl)
theorem tx8l : Txt Try.prog 8 := txt_of Try.func8 rfl (by kernel_rfl)
theorem tx10l : Txt Try.prog 10 := txt_of Try.func10 rfl (by kernel_rfl)
theorem tx13l : Txt Try.prog 13 := txt_of Try.func13 rfl (by kernel_rfl)
theorem tx15l : Txt Try.prog 15 := txt_of Try.func15 rfl (by kernel_rfl)
theorem tx17l : Txt Try.prog 17 := txt_of Try.func17 rfl (by kernel_rfl)
theorem tx19l : Txt Try.prog 19 := txt_of Try.func19 rfl (by kernel_rfl)
theorem z45l : (Try.prog.info? 45).bind (·.zero) = some (.agg [.int .i64 0, .int .i64 0, .int .i64 0, .int .i64 0, .int .i64 0, .int .i64 0, .int .i64 0, .int .i64 0, .bool false, .slice none 0 0, .slice none 0 0, .slice none 0 0, .int .i64 0, .int .i64 0, .string ByteArray.empty, .int .i64 0, .int .i64 0, .int .i64 0, .string ByteArray.empty, .string ByteArray.empty, .int .i64 0, .int .u8 0, .int .u8 0, .int .u8 0, .int .u8 0, .int .u8 0, .int .u8 0, .int .u8 0, .int .u8 0, .int .u8 0, .int .u8 0, .int .u8 0, .int .u8 0, .int .u8 0, .int .u8 0, .int .u8 0, .int .u8 0, .int .u8 0, .int .u8 0, .int .u8 0, .int .u8 0, .int .u8 0, .int .u8 0, .int .u8 0, .int .u8 0, .int .u8 0, .int .u8 0, .int .u8 0, .int .u8 0, .int .u8 0, .int .u8 0, .int .u8 0, .int .u8 0, .int .i64 0, .int .i64 0, .string ByteArray.empty, .int .i64 0, .int .i64 0, .int .i64 0, .int .i64 0, .int .i64 0, .slice none 0 0, .slice none 0 0, .bool false, .int .u8 0, .int .u8 0, .int .u8 0, .int .u8 0, .int .u8 0, .int .u8 0, .int .u8 0, .int .u8 0, .int .u8 0, .int .u8 0, .int .u8 0, .int .u8 0, .int .u8 0, .int .u8 0, .int .u8 0, .int .u8 0, .int .u8 0, .int .u8 0, .int .u8 0, .int .u8 0, .int .u8 0, .int .u8 0, .int .u8 0, .int .u8 0, .int .u8 0, .int .u8 0, .int .u8 0, .int .u8 0, .int .u8 0, .int .u8 0, .int .u8 0, .int .u8 0, .int .u8 0, .int .u8 0, .int .u8 0, .int .u8 0, .int .u8 0, .int .u8 0, .int .u8 0, .int .u8 0, .int .u8 0, .int .u8 0, .int .u8 0, .int .u8 0, .int .u8 0, .int .u8 0, .int .u8 0, .int .u8 0, .int .u8 0, .int .u8 0, .int .u8 0, .int .u8 0, .int .u8 0, .int .u8 0, .int .u8 0, .int .u8 0, .int .u8 0, .int .u8 0, .int .u8 0, .int .u8 0, .int .u8 0, .int .u8 0, .int .u8 0, .int .u8 0, .int .i64 0, .int .u8 0, .int .u8 0, .int .u8 0, .int .u8 0, .int .u8 0, .int .u8 0, .int .u8 0, .int .u8 0, .int .u8 0, .int .u8 0, .int .u8 0, .int .u8 0, .int .u8 0, .int .u8 0, .int .u8 0, .int .u8 0, .int .u8 0, .int .u8 0, .int .u8 0, .int .u8 0, .int .u8 0, .int .u8 0, .int .u8 0, .int .u8 0, .int .u8 0, .int .u8 0, .int .u8 0, .int .u8 0, .int .u8 0, .int .u8 0, .int .u8 0, .int .u8 0, .int .u8 0, .int .u8 0, .int .u8 0, .int .u8 0, .int .u8 0, .int .u8 0, .int .u8 0, .int .u8 0, .int .u8 0, .int .u8 0, .int .u8 0, .int .u8 0, .int .u8 0, .int .u8 0, .int .u8 0, .int .u8 0, .int .u8 0, .int .u8 0, .int .u8 0, .int .u8 0, .int .u8 0, .int .u8 0, .int .u8 0, .int .u8 0, .int .u8 0, .int .u8 0, .int .u8 0, .int .u8 0, .int .u8 0, .int .u8 0, .int .u8 0, .int .u8 0, .int .u8 0, .int .u8 0, .int .u8 0, .int .u8 0, .int .u8 0, .int .u8 0, .int .u8 0, .int .u8 0, .int .u8 0, .int .u8 0, .int .u8 0, .int .u8 0, .int .u8 0, .int .u8 0, .int .u8 0, .int .u8 0, .int .u8 0, .int .u8 0, .int .u8 0, .int .u8 0, .int .u8 0, .int .u8 0, .int .u8 0, .int .u8 0, .int .u8 0, .int .u8 0, .int .u8 0, .int .u8 0, .int .u8 0, .int .u8 0, .int .u8 0, .int .u8 0].toArray) := by kernel_rfl
theorem z47l : (Try.prog.info? 47).bind (·.zero) = some (.agg [.int .i64 0, .int .i64 0, .int .i64 0, .bool false, .int .i64 0, .int .i64 0, .int .i64 0, .int .i64 0, .int .i64 0, .int .i64 0, .int .i64 0, .int .i64 0, .bool false, .slice none 0 0, .slice none 0 0, .slice none 0 0, .int .i64 0, .int .i64 0, .string ByteArray.empty, .int .i64 0, .int .i64 0, .int .i64 0, .string ByteArray.empty, .string ByteArray.empty, .int .i64 0, .int .u8 0, .int .u8 0, .int .u8 0, .int .u8 0, .int .u8 0, .int .u8 0, .int .u8 0, .int .u8 0, .int .u8 0, .int .u8 0, .int .u8 0, .int .u8 0, .int .u8 0, .int .u8 0, .int .u8 0, .int .u8 0, .int .u8 0, .int .u8 0, .int .u8 0, .int .u8 0, .int .u8 0, .int .u8 0, .int .u8 0, .int .u8 0, .int .u8 0, .int .u8 0, .int .u8 0, .int .u8 0, .int .u8 0, .int .u8 0, .int .u8 0, .int .u8 0, .int .i64 0, .int .i64 0, .string ByteArray.empty, .int .i64 0, .int .i64 0, .int .i64 0, .int .i64 0, .int .i64 0, .slice none 0 0, .slice none 0 0, .bool false, .int .u8 0, .int .u8 0, .int .u8 0, .int .u8 0, .int .u8 0, .int .u8 0, .int .u8 0, .int .u8 0, .int .u8 0, .int .u8 0, .int .u8 0, .int .u8 0, .int .u8 0, .int .u8 0, .int .u8 0, .int .u8 0, .int .u8 0, .int .u8 0, .int .u8 0, .int .u8 0, .int .u8 0, .int .u8 0, .int .u8 0, .int .u8 0, .int .u8 0, .int .u8 0, .int .u8 0, .int .u8 0, .int .u8 0, .int .u8 0, .int .u8 0, .int .u8 0, .int .u8 0, .int .u8 0, .int .u8 0, .int .u8 0, .int .u8 0, .int .u8 0, .int .u8 0, .int .u8 0, .int .u8 0, .int .u8 0, .int .u8 0, .int .u8 0, .int .u8 0, .int .u8 0, .int .u8 0, .int .u8 0, .int .u8 0, .int .u8 0, .int .u8 0, .int .u8 0, .int .u8 0, .int .u8 0, .int .u8 0, .int .u8 0, .int .u8 0, .int .u8 0, .int .u8 0, .int .u8 0, .int .u8 0, .int .u8 0, .int .u8 0, .int .u8 0, .int .i64 0, .int .u8 0, .int .u8 0, .int .u8 0, .int .u8 0, .int .u8 0, .int .u8 0, .int .u8 0, .int .u8 0, .int .u8 0, .int .u8 0, .int .u8 0, .int .u8 0, .int .u8 0, .int .u8 0, .int .u8 0, .int .u8 0, .int .u8 0, .int .u8 0, .int .u8 0, .int .u8 0, .int .u8 0, .int .u8 0, .int .u8 0, .int .u8 0, .int .u8 0, .int .u8 0, .int .u8 0, .int .u8 0, .int .u8 0, .int .u8 0, .int .u8 0, .int .u8 0, .int .u8 0, .int .u8 0, .int .u8 0, .int .u8 0, .int .u8 0, .int .u8 0, .int .u8 0, .int .u8 0, .int .u8 0, .int .u8 0, .int .u8 0, .int .u8 0, .int .u8 0, .int .u8 0, .int .u8 0, .int .u8 0, .int .u8 0, .int .u8 0, .int .u8 0, .int .u8 0, .int .u8 0, .int .u8 0, .int .u8 0, .int .u8 0, .int .u8 0, .int .u8 0, .int .u8 0, .int .u8 0, .int .u8 0, .int .u8 0, .int .u8 0, .int .u8 0, .int .u8 0, .int .u8 0, .int .u8 0, .int .u8 0, .int .u8 0, .int .u8 0, .int .u8 0, .int .u8 0, .int .u8 0, .int .u8 0, .int .u8 0, .int .u8 0, .int .u8 0, .int .u8 0, .int .u8 0, .int .u8 0, .int .u8 0, .int .u8 0, .int .u8 0, .int .u8 0, .int .u8 0, .int .u8 0, .int .u8 0, .int .u8 0, .int .u8 0, .int .u8 0, .int .u8 0, .int .u8 0, .int .u8 0, .int .u8 0, .int .u8 0, .int .u8 0, .int .i64 0].toArray) := by kernel_rfl

set_option maxHeartbeats 16000000 in
theorem ClientOnce_w (c : Ct) (m : M5) (es : List EnV) (d : Cmd) (a : Int) (u : ByteArray) (x : Ms) (n : M5) (gs : List EnV) (w : World) (hx : c.msg.entries = es.map Prod.fst) (f1 : FA w (msF c.msg m es)) (hy : x.entries = gs.map Prod.fst) (f2 : FA w (msF x n gs)) :
    Calls Try.prog 5 #[.agg (ctM c m).toArray, .agg (cmdM d).toArray, .int .i64 a, .string u, .agg (msM x n).toArray] w fun e w' => e = .returned (.bool true) ∧ Fr [] w w' := by
  refine calls_of (args := [.agg (ctM c m).toArray, .agg (cmdM d).toArray, .int .i64 a, .string u, .agg (msM x n).toArray]) ([]) ([]) ([msF c.msg m es, msF x n gs]) Try.func5 rfl rfl (okFW (.cons f1 (.cons f2 .nil))) ?_
  refine J_seq ?_
  refine J_region ?_
  refine L_box rfl rfl rfl rfl rfl (fun b0 => ?_)
  refine L_box rfl rfl rfl rfl rfl (fun b1 => ?_)
  refine L_box rfl rfl rfl rfl rfl (fun b2 => ?_)
  refine L_v rfl rfl rfl (V_assign rfl rfl) ?_
  refine L_nil ?_
  change J _ _ _ _
  refine J_seq ?_
  refine J_seq ?_
  refine J_region ?_
  refine L_v rfl rfl rfl (V_loadT 0 (vs := ctM c m) rfl rfl rfl Try.underlying47 rfl sz47l (by kernel_rfl) (by kernel_rfl)) ?_
  refine L_v rfl rfl rfl (V_loadT 2 (vs := msM x n) rfl rfl rfl Try.underlying45 rfl sz45l (by kernel_rfl) (by kernel_rfl)) ?_
  refine L_v rfl rfl rfl (V_move rfl rfl) ?_
  refine L_v rfl rfl rfl (V_fieldAddr rfl rfl Try.underlying31 rfl sz9l rfl) ?_
  refine L_v rfl rfl rfl (V_load1 1 rfl rfl rfl Try.underlying9 rfl (by rfl)) ?_
  refine L_call rfl rfl rfl rfl tx6l (fun w1 hw => (large_w c m es x n gs u d.2.2.2.1 w1 hx hy (hw.fa 0 rfl) (hw.fa 1 rfl)).mono ?_)
  rintro e w' ⟨q1, rfl, hfr, hq1⟩
  refine ⟨_, _, _, rfl, hw.fr0 hfr, rfl, ?_⟩
  refine L_v rfl rfl rfl (V_move rfl rfl) ?_
  refine L_split 30 rfl (fun h1 => ?_) (fun h1 => ?_)
  ·
    first | (have h1 := of_decide_eq_true h1) | (have h1 := of_decide_eq_false h1) | skip
    obtain rfl : q1 = true := h1
    refine L_skip rfl rfl rfl rfl rfl rfl rfl ?_
    refine L_skip rfl rfl rfl rfl rfl rfl rfl ?_
    refine L_skip rfl rfl rfl rfl rfl rfl rfl ?_
    refine L_skip rfl rfl rfl rfl rfl rfl rfl ?_
    first | refine L_v rfl rfl rfl (V_pickT rfl rfl rfl) ?_ | refine L_v rfl rfl rfl (V_pickF rfl rfl rfl) ?_
    refine L_v rfl rfl rfl (V_move rfl rfl) ?_
    refine L_skip rfl rfl rfl rfl rfl rfl rfl ?_
    refine L_skip rfl rfl rfl rfl rfl rfl rfl ?_
    refine L_skip rfl rfl rfl rfl rfl rfl rfl ?_
    first | refine L_v rfl rfl rfl (V_pickT rfl rfl rfl) ?_ | refine L_v rfl rfl rfl (V_pickF rfl rfl rfl) ?_
    refine L_nil ?_
    change J _ _ _ _
    refine J_true rfl ?_
    refine J_seq ?_
    refine J_region ?_
    refine L_callV rfl rfl rfl rfl rfl rfl tx10l (fun w1 hw => calls_t w1) ?_
    refine L_v rfl rfl rfl (V_assign rfl rfl) ?_
    refine L_nil ?_
    change J _ _ _ _
    refine J_ret ?_
    change Kret _ _ _ Exit.ret _
    refine ret1 rfl rfl (RV_t rfl) ?_
    exact fun w' h => ⟨rfl, h.fr⟩
  ·
    first | (have h1 := of_decide_eq_true h1) | (have h1 := of_decide_eq_false h1) | skip
    obtain rfl : q1 = false := h1
    obtain ⟨z1, z2⟩ := hq1 rfl
    refine L_wv rfl rfl rfl rfl rfl rfl (V_fieldAddr rfl rfl Try.underlying31 rfl sz9l rfl) ?_
    refine L_wv rfl rfl rfl rfl rfl rfl (V_load1 1 rfl rfl rfl Try.underlying9 rfl (by rfl)) ?_
    refine L_wv rfl rfl rfl rfl rfl rfl (V_lenS rfl rfl Try.underlying9 rfl) ?_
    refine L_wv rfl rfl rfl rfl rfl rfl (V_gtr rfl rfl rfl (by first | exact decide_eq_true (by omega) | exact decide_eq_false (by omega) | rfl)) ?_
    first | refine L_v rfl rfl rfl (V_pickT rfl rfl rfl) ?_ | refine L_v rfl rfl rfl (V_pickF rfl rfl rfl) ?_
    refine L_v rfl rfl rfl (V_move rfl rfl) ?_
    refine L_split 36 rfl (fun h2 => ?_) (fun h2 => ?_)
    ·
      first | (have h2 := of_decide_eq_true h2) | (have h2 := of_decide_eq_false h2) | skip
      refine L_skip rfl rfl rfl rfl rfl rfl rfl ?_
      refine L_skip rfl rfl rfl rfl rfl rfl rfl ?_
      refine L_skip rfl rfl rfl rfl rfl rfl rfl ?_
      first | refine L_v rfl rfl rfl (V_pickT rfl rfl rfl) ?_ | refine L_v rfl rfl rfl (V_pickF rfl rfl rfl) ?_
      refine L_nil ?_
      change J _ _ _ _
      refine J_true rfl ?_
      refine J_seq ?_
      refine J_region ?_
      refine L_callV rfl rfl rfl rfl rfl rfl tx10l (fun w1 hw => calls_t w1) ?_
      refine L_v rfl rfl rfl (V_assign rfl rfl) ?_
      refine L_nil ?_
      change J _ _ _ _
      refine J_ret ?_
      change Kret _ _ _ Exit.ret _
      refine ret1 rfl rfl (RV_t rfl) ?_
      exact fun w' h => ⟨rfl, h.fr⟩
    ·
      first | (have h2 := of_decide_eq_true h2) | (have h2 := of_decide_eq_false h2) | skip
      refine L_wv rfl rfl rfl rfl rfl rfl (V_loadT 0 (vs := ctM c m) rfl rfl rfl Try.underlying47 rfl sz47l (by kernel_rfl) (by kernel_rfl)) ?_
      refine L_wcallV rfl rfl rfl rfl rfl rfl rfl rfl rfl tx19l (fun w1 hw => check_m (⟨hx, hw.fa 0 rfl, z1⟩ : Mw w1 c.msg m es)) ?_
      refine L_wv rfl rfl rfl rfl rfl rfl (V_neq rfl rfl rfl (by first | exact decide_eq_true (by omega) | exact decide_eq_false (by omega) | rfl)) ?_
      first | refine L_v rfl rfl rfl (V_pickT rfl rfl rfl) ?_ | refine L_v rfl rfl rfl (V_pickF rfl rfl rfl) ?_
      refine L_nil ?_
      change J _ _ _ _
      refine J_cond rfl (fun h3 => ?_) (fun h3 => ?_)
      ·
        first | (have h3 := of_decide_eq_true h3) | (have h3 := of_decide_eq_false h3) | skip
        refine J_seq ?_
        refine J_region ?_
        refine L_callV rfl rfl rfl rfl rfl rfl tx10l (fun w1 hw => calls_t w1) ?_
        refine L_v rfl rfl rfl (V_assign rfl rfl) ?_
        refine L_nil ?_
        change J _ _ _ _
        refine J_ret ?_
        change Kret _ _ _ Exit.ret _
        refine ret1 rfl rfl (RV_t rfl) ?_
        exact fun w' h => ⟨rfl, h.fr⟩
      ·
        first | (have h3 := of_decide_eq_true h3) | (have h3 := of_decide_eq_false h3) | skip
        have hr := chk0 h3
        refine J_skip ?_
        change J _ _ _ _
        refine J_seq ?_
        refine J_mid (X := Nat × Nat × Nat × Nat × Nat) (fun z9 => { env := [(5, .pointer (some ⟨z9.1, 0, none⟩)), (6, .pointer (some ⟨z9.2.1, 0, none⟩)), (9, .pointer (some ⟨z9.2.2.1, 0, none⟩)), (11, .pointer (some ⟨z9.2.2.2.1, 0, none⟩)), (12, .pointer (some ⟨z9.2.2.2.2, 0, none⟩)), (13, .int .i64 (begE c d 0 ⟨#[]⟩)), (2, .int .i64 a), (3, .string u)], mem := [(z9.1, row 47 (ctM c m)), (z9.2.1, row 31 (cmdM d)), (z9.2.2.1, row 45 (msM x n)), (z9.2.2.2.1, row 47 (ctM (begC c d 0 ⟨#[]⟩) m50)), (z9.2.2.2.2, row 45 (msM ((begC c d 0 ⟨#[]⟩).msg) m50))], facts := [msF c.msg m es, msF x n gs] }) ?_ ?_
        ·
          refine J_region ?_
          refine L_v rfl rfl rfl (V_loadT 0 (vs := ctM c m) rfl rfl rfl Try.underlying47 rfl sz47l (by kernel_rfl) (by kernel_rfl)) ?_
          refine L_v rfl rfl rfl (V_loadT 1 (vs := cmdM d) rfl rfl rfl Try.underlying31 rfl sz31l (by kernel_rfl) (by kernel_rfl)) ?_
          refine L_callV rfl rfl rfl rfl rfl rfl tx13l (fun w1 hw => call_w c m es d w1 hx (hw.fa 0 rfl) z1) ?_
          refine L_v rfl rfl rfl (V_move rfl rfl) ?_
          refine L_v rfl rfl rfl (V_extract rfl rfl rfl) ?_
          refine L_v rfl rfl rfl (V_extract rfl rfl rfl) ?_
          refine L_v rfl rfl rfl (V_extract rfl rfl rfl) ?_
          refine L_alloc rfl rfl rfl rfl z47l (fun b3 => ?_)
          refine L_alloc rfl rfl rfl rfl z45l (fun b4 => ?_)
          refine L_storeW 3 rfl rfl rfl rfl rfl rfl (szd sz47l (by kernel_rfl)) (all_one (by kernel_rfl)) (by kernel_rfl) ?_
          refine L_storeW 4 rfl rfl rfl rfl rfl rfl (szd sz45l (by kernel_rfl)) (all_one (by kernel_rfl)) (by kernel_rfl) ?_
          refine L_v rfl rfl rfl (V_assign rfl rfl) ?_
          refine L_nil ?_
          exact ⟨(b0, b1, b2, b3, b4), ⟨rfl, rfl, rfl, rfl, rfl, rfl, rfl, rfl, trivial⟩, (List.Sublist.cons_cons _ (List.Sublist.cons_cons _ (List.Sublist.cons_cons _ (List.Sublist.cons_cons _ (List.Sublist.cons_cons _ (List.nil_sublist _)))))), fun f hf => hf, rfl⟩
        rintro ⟨b0, b1, b2, b3, b4⟩
        change J _ _ _ _
        refine J_seq ?_
        refine J_mid (X := Nat × Nat × Nat × Nat × Nat × Nat × Nat) (fun z9 => { env := [(5, .pointer (some ⟨z9.1, 0, none⟩)), (6, .pointer (some ⟨z9.2.1, 0, none⟩)), (9, .pointer (some ⟨z9.2.2.1, 0, none⟩)), (11, .pointer (some ⟨z9.2.2.2.1, 0, none⟩)), (12, .pointer (some ⟨z9.2.2.2.2.1, 0, none⟩)), (14, .pointer (some ⟨z9.2.2.2.2.2.1, 0, none⟩)), (15, .pointer (some ⟨z9.2.2.2.2.2.2, 0, none⟩)), (13, .int .i64 (begE c d 0 ⟨#[]⟩)), (16, .int .i64 (begE c cmd0 a u)), (2, .int .i64 a), (3, .string u)], mem := [(z9.1, row 47 (ctM c m)), (z9.2.1, row 31 (cmdM d)), (z9.2.2.1, row 45 (msM x n)), (z9.2.2.2.1, row 47 (ctM (begC c d 0 ⟨#[]⟩) m50)), (z9.2.2.2.2.1, row 45 (msM ((begC c d 0 ⟨#[]⟩).msg) m50)), (z9.2.2.2.2.2.1, row 47 (ctM (begC c cmd0 a u) m50)), (z9.2.2.2.2.2.2, row 45 (msM ((begC c cmd0 a u).msg) m50))], facts := [msF c.msg m es, msF x n gs] }) ?_ ?_
        ·
          refine J_region ?_
          refine L_v rfl rfl rfl (V_loadT 0 (vs := ctM c m) rfl rfl rfl Try.underlying47 rfl sz47l (by kernel_rfl) (by kernel_rfl)) ?_
          refine L_v rfl rfl rfl (V_move rfl rfl) ?_
          refine L_v rfl rfl rfl (V_move rfl rfl) ?_
          refine L_callV rfl rfl rfl rfl rfl rfl tx15l (fun w1 hw => ask_w c m es a u w1 hx (hw.fa 0 rfl) z1) ?_
          refine L_v rfl rfl rfl (V_move rfl rfl) ?_
          refine L_v rfl rfl rfl (V_extract rfl rfl rfl) ?_
          refine L_v rfl rfl rfl (V_extract rfl rfl rfl) ?_
          refine L_v rfl rfl rfl (V_extract rfl rfl rfl) ?_
          refine L_alloc rfl rfl rfl rfl z47l (fun b5 => ?_)
          refine L_alloc rfl rfl rfl rfl z45l (fun b6 => ?_)
          refine L_storeW 5 rfl rfl rfl rfl rfl rfl (szd sz47l (by kernel_rfl)) (all_one (by kernel_rfl)) (by kernel_rfl) ?_
          refine L_storeW 6 rfl rfl rfl rfl rfl rfl (szd sz45l (by kernel_rfl)) (all_one (by kernel_rfl)) (by kernel_rfl) ?_
          refine L_v rfl rfl rfl (V_assign rfl rfl) ?_
          refine L_nil ?_
          exact ⟨(b0, b1, b2, b3, b4, b5, b6), ⟨rfl, rfl, rfl, rfl, rfl, rfl, rfl, rfl, rfl, rfl, rfl, trivial⟩, (List.Sublist.cons_cons _ (List.Sublist.cons_cons _ (List.Sublist.cons_cons _ (List.Sublist.cons_cons _ (List.Sublist.cons_cons _ (List.Sublist.cons_cons _ (List.Sublist.cons_cons _ (List.nil_sublist _)))))))), fun f hf => hf, rfl⟩
        rintro ⟨b0, b1, b2, b3, b4, b5, b6⟩
        change J _ _ _ _
        refine J_seq ?_
        refine J_mid (X := Nat × Nat × Nat × Nat × Nat × Nat × Nat × Nat × Nat) (fun z9 => { env := [(5, .pointer (some ⟨z9.1, 0, none⟩)), (6, .pointer (some ⟨z9.2.1, 0, none⟩)), (9, .pointer (some ⟨z9.2.2.1, 0, none⟩)), (11, .pointer (some ⟨z9.2.2.2.1, 0, none⟩)), (12, .pointer (some ⟨z9.2.2.2.2.1, 0, none⟩)), (14, .pointer (some ⟨z9.2.2.2.2.2.1, 0, none⟩)), (15, .pointer (some ⟨z9.2.2.2.2.2.2.1, 0, none⟩)), (17, .pointer (some ⟨z9.2.2.2.2.2.2.2.1, 0, none⟩)), (18, .pointer (some ⟨z9.2.2.2.2.2.2.2.2, 0, none⟩)), (13, .int .i64 (begE c d 0 ⟨#[]⟩)), (16, .int .i64 (begE c cmd0 a u)), (19, .int .i64 (retE c)), (2, .int .i64 a), (3, .string u)], mem := [(z9.1, row 47 (ctM c m)), (z9.2.1, row 31 (cmdM d)), (z9.2.2.1, row 45 (msM x n)), (z9.2.2.2.1, row 47 (ctM (begC c d 0 ⟨#[]⟩) m50)), (z9.2.2.2.2.1, row 45 (msM ((begC c d 0 ⟨#[]⟩).msg) m50)), (z9.2.2.2.2.2.1, row 47 (ctM (begC c cmd0 a u) m50)), (z9.2.2.2.2.2.2.1, row 45 (msM ((begC c cmd0 a u).msg) m50)), (z9.2.2.2.2.2.2.2.1, row 47 (ctM (retC c) (selM (retS c) m))), (z9.2.2.2.2.2.2.2.2, row 45 (msM (retX c) (selM (retT c) m)))], facts := [msF c.msg m es, msF x n gs] }) ?_ ?_
        ·
          refine J_region ?_
          refine L_v rfl rfl rfl (V_loadT 0 (vs := ctM c m) rfl rfl rfl Try.underlying47 rfl sz47l (by kernel_rfl) (by kernel_rfl)) ?_
          refine L_callV rfl rfl rfl rfl rfl rfl tx17l (fun w1 hw => retry_w c m es w1 hx (hw.fa 0 rfl) z1) ?_
          refine L_v rfl rfl rfl (V_move rfl rfl) ?_
          refine L_v rfl rfl rfl (V_extract rfl rfl rfl) ?_
          refine L_v rfl rfl rfl (V_extract rfl rfl rfl) ?_
          refine L_v rfl rfl rfl (V_extract rfl rfl rfl) ?_
          refine L_alloc rfl rfl rfl rfl z47l (fun b7 => ?_)
          refine L_alloc rfl rfl rfl rfl z45l (fun b8 => ?_)
          refine L_storeW 7 rfl rfl rfl rfl rfl rfl (szd sz47l (by kernel_rfl)) (all_one (by kernel_rfl)) (by kernel_rfl) ?_
          refine L_storeW 8 rfl rfl rfl rfl rfl rfl (szd sz45l (by kernel_rfl)) (all_one (by kernel_rfl)) (by kernel_rfl) ?_
          refine L_v rfl rfl rfl (V_assign rfl rfl) ?_
          refine L_nil ?_
          exact ⟨(b0, b1, b2, b3, b4, b5, b6, b7, b8), ⟨rfl, rfl, rfl, rfl, rfl, rfl, rfl, rfl, rfl, rfl, rfl, rfl, rfl, rfl, trivial⟩, (List.Sublist.cons_cons _ (List.Sublist.cons_cons _ (List.Sublist.cons_cons _ (List.Sublist.cons_cons _ (List.Sublist.cons_cons _ (List.Sublist.cons_cons _ (List.Sublist.cons_cons _ (List.Sublist.cons_cons _ (List.Sublist.cons_cons _ (List.nil_sublist _)))))))))), fun f hf => hf, rfl⟩
        rintro ⟨b0, b1, b2, b3, b4, b5, b6, b7, b8⟩
        change J _ _ _ _
        refine J_seq ?_
        refine J_mid (X := Nat × Nat × Nat × Nat × Nat × Nat × Nat × Nat × Nat) (fun z9 => { env := [(5, .pointer (some ⟨z9.1, 0, none⟩)), (11, .pointer (some ⟨z9.2.1, 0, none⟩)), (12, .pointer (some ⟨z9.2.2.1, 0, none⟩)), (14, .pointer (some ⟨z9.2.2.2.1, 0, none⟩)), (15, .pointer (some ⟨z9.2.2.2.2.1, 0, none⟩)), (17, .pointer (some ⟨z9.2.2.2.2.2.1, 0, none⟩)), (18, .pointer (some ⟨z9.2.2.2.2.2.2.1, 0, none⟩)), (20, .pointer (some ⟨z9.2.2.2.2.2.2.2.1, 0, none⟩)), (21, .pointer (some ⟨z9.2.2.2.2.2.2.2.2, 0, none⟩)), (13, .int .i64 (begE c d 0 ⟨#[]⟩)), (16, .int .i64 (begE c cmd0 a u)), (19, .int .i64 (retE c)), (22, .bool (hearD c x)), (23, .int .i64 (hearE c x))], mem := [(z9.1, row 47 (ctM c m)), (z9.2.1, row 47 (ctM (begC c d 0 ⟨#[]⟩) m50)), (z9.2.2.1, row 45 (msM ((begC c d 0 ⟨#[]⟩).msg) m50)), (z9.2.2.2.1, row 47 (ctM (begC c cmd0 a u) m50)), (z9.2.2.2.2.1, row 45 (msM ((begC c cmd0 a u).msg) m50)), (z9.2.2.2.2.2.1, row 47 (ctM (retC c) (selM (retS c) m))), (z9.2.2.2.2.2.2.1, row 45 (msM (retX c) (selM (retT c) m))), (z9.2.2.2.2.2.2.2.1, row 47 (ctM (hearC c x) (selM (hearS c x) m))), (z9.2.2.2.2.2.2.2.2, row 45 (msM (hearX c x) (selM (hearT c x) m)))], facts := [msF c.msg m es, msF x n gs] }) ?_ ?_
        ·
          refine J_region ?_
          refine L_v rfl rfl rfl (V_loadT 0 (vs := ctM c m) rfl rfl rfl Try.underlying47 rfl sz47l (by kernel_rfl) (by kernel_rfl)) ?_
          refine L_v rfl rfl rfl (V_loadT 2 (vs := msM x n) rfl rfl rfl Try.underlying45 rfl sz45l (by kernel_rfl) (by kernel_rfl)) ?_
          refine L_callV rfl rfl rfl rfl rfl rfl tx8l (fun w1 hw => hear_w c m es x n w1 hx (hw.fa 0 rfl) z1) ?_
          refine L_v rfl rfl rfl (V_move rfl rfl) ?_
          refine L_v rfl rfl rfl (V_extract rfl rfl rfl) ?_
          refine L_v rfl rfl rfl (V_extract rfl rfl rfl) ?_
          refine L_v rfl rfl rfl (V_extract rfl rfl rfl) ?_
          refine L_v rfl rfl rfl (V_extract rfl rfl rfl) ?_
          refine L_alloc rfl rfl rfl rfl z47l (fun b9 => ?_)
          refine L_alloc rfl rfl rfl rfl z45l (fun b10 => ?_)
          refine L_storeW 9 rfl rfl rfl rfl rfl rfl (szd sz47l (by kernel_rfl)) (all_one (by kernel_rfl)) (by kernel_rfl) ?_
          refine L_storeW 10 rfl rfl rfl rfl rfl rfl (szd sz45l (by kernel_rfl)) (all_one (by kernel_rfl)) (by kernel_rfl) ?_
          refine L_v rfl rfl rfl (V_assign rfl rfl) ?_
          refine L_v rfl rfl rfl (V_assign rfl rfl) ?_
          refine L_nil ?_
          exact ⟨(b0, b3, b4, b5, b6, b7, b8, b9, b10), ⟨rfl, rfl, rfl, rfl, rfl, rfl, rfl, rfl, rfl, rfl, rfl, rfl, rfl, rfl, trivial⟩, (List.Sublist.cons_cons _ (List.Sublist.cons _ (List.Sublist.cons _ (List.Sublist.cons_cons _ (List.Sublist.cons_cons _ (List.Sublist.cons_cons _ (List.Sublist.cons_cons _ (List.Sublist.cons_cons _ (List.Sublist.cons_cons _ (List.Sublist.cons_cons _ (List.Sublist.cons_cons _ (List.nil_sublist _)))))))))))), fun f hf => hf, rfl⟩
        rintro ⟨b0, b1, b2, b3, b4, b5, b6, b7, b8⟩
        change J _ _ _ _
        by_cases hb : c.busy = true
        ·
          have b1 : begE c d 0 ⟨#[]⟩ = 181 := (beg_busy hr hb).2
          have b2 : begE c cmd0 a u = 181 := (beg_busy hr hb).2
          refine J_seq ?_
          refine J_seq ?_
          refine J_mid (X := Nat × Nat × Nat × Nat × Nat × Nat × Nat) (fun z9 => { env := [(5, .pointer (some ⟨z9.1, 0, none⟩)), (14, .pointer (some ⟨z9.2.1, 0, none⟩)), (15, .pointer (some ⟨z9.2.2.1, 0, none⟩)), (17, .pointer (some ⟨z9.2.2.2.1, 0, none⟩)), (18, .pointer (some ⟨z9.2.2.2.2.1, 0, none⟩)), (20, .pointer (some ⟨z9.2.2.2.2.2.1, 0, none⟩)), (21, .pointer (some ⟨z9.2.2.2.2.2.2, 0, none⟩)), (16, .int .i64 (begE c cmd0 a u)), (19, .int .i64 (retE c)), (22, .bool (hearD c x)), (23, .int .i64 (hearE c x)), (108, .bool false)], mem := [(z9.1, row 47 (ctM c m)), (z9.2.1, row 47 (ctM (begC c cmd0 a u) m50)), (z9.2.2.1, row 45 (msM ((begC c cmd0 a u).msg) m50)), (z9.2.2.2.1, row 47 (ctM (retC c) (selM (retS c) m))), (z9.2.2.2.2.1, row 45 (msM (retX c) (selM (retT c) m))), (z9.2.2.2.2.2.1, row 47 (ctM (hearC c x) (selM (hearS c x) m))), (z9.2.2.2.2.2.2, row 45 (msM (hearX c x) (selM (hearT c x) m)))], facts := [msF c.msg m es, msF x n gs] }) ?_ ?_
          ·
            refine J_region ?_
            refine L_v rfl rfl rfl (V_move rfl rfl) ?_
            refine L_v rfl rfl rfl (V_eql rfl rfl rfl (by first | exact decide_eq_true (by omega) | exact decide_eq_false (by omega) | rfl)) ?_
            refine L_v rfl rfl rfl (V_move rfl rfl) ?_
            refine L_skip rfl rfl rfl rfl rfl rfl rfl ?_
            refine L_skip rfl rfl rfl rfl rfl rfl rfl ?_
            refine L_skip rfl rfl rfl rfl rfl rfl rfl ?_
            refine L_skip rfl rfl rfl rfl rfl rfl rfl ?_
            refine L_skip rfl rfl rfl rfl rfl rfl rfl ?_
            refine L_skip rfl rfl rfl rfl rfl rfl rfl ?_
            refine L_skip rfl rfl rfl rfl rfl rfl rfl ?_
            refine L_skip rfl rfl rfl rfl rfl rfl rfl ?_
            refine L_skip rfl rfl rfl rfl rfl rfl rfl ?_
            refine L_skip rfl rfl rfl rfl rfl rfl rfl ?_
            refine L_skip rfl rfl rfl rfl rfl rfl rfl ?_
            refine L_skip rfl rfl rfl rfl rfl rfl rfl ?_
            refine L_skip rfl rfl rfl rfl rfl rfl rfl ?_
            refine L_skip rfl rfl rfl rfl rfl rfl rfl ?_
            refine L_skip rfl rfl rfl rfl rfl rfl rfl ?_
            refine L_skip rfl rfl rfl rfl rfl rfl rfl ?_
            refine L_skip rfl rfl rfl rfl rfl rfl rfl ?_
            refine L_skip rfl rfl rfl rfl rfl rfl rfl ?_
            refine L_skip rfl rfl rfl rfl rfl rfl rfl ?_
            refine L_skip rfl rfl rfl rfl rfl rfl rfl ?_
            refine L_skip rfl rfl rfl rfl rfl rfl rfl ?_
            refine L_skip rfl rfl rfl rfl rfl rfl rfl ?_
            refine L_skip rfl rfl rfl rfl rfl rfl rfl ?_
            refine L_skip rfl rfl rfl rfl rfl rfl rfl ?_
            refine L_skip rfl rfl rfl rfl rfl rfl rfl ?_
            refine L_skip rfl rfl rfl rfl rfl rfl rfl ?_
            refine L_skip rfl rfl rfl rfl rfl rfl rfl ?_
            refine L_skip rfl rfl rfl rfl rfl rfl rfl ?_
            refine L_skip rfl rfl rfl rfl rfl rfl rfl ?_
            refine L_skip rfl rfl rfl rfl rfl rfl rfl ?_
            refine L_skip rfl rfl rfl rfl rfl rfl rfl ?_
            refine L_skip rfl rfl rfl rfl rfl rfl rfl ?_
            refine L_skip rfl rfl rfl rfl rfl rfl rfl ?_
            refine L_skip rfl rfl rfl rfl rfl rfl rfl ?_
            first | refine L_v rfl rfl rfl (V_pickT rfl rfl rfl) ?_ | refine L_v rfl rfl rfl (V_pickF rfl rfl rfl) ?_
            refine L_nil ?_
            exact ⟨(b0, b3, b4, b5, b6, b7, b8), ⟨rfl, rfl, rfl, rfl, rfl, rfl, rfl, rfl, rfl, rfl, rfl, rfl, trivial⟩, (List.Sublist.cons_cons _ (List.Sublist.cons _ (List.Sublist.cons _ (List.Sublist.cons_cons _ (List.Sublist.cons_cons _ (List.Sublist.cons_cons _ (List.Sublist.cons_cons _ (List.Sublist.cons_cons _ (List.Sublist.cons_cons _ (List.nil_sublist _)))))))))), fun f hf => hf, rfl⟩
          rintro ⟨b0, b1, b2, b3, b4, b5, b6⟩
          change J _ _ _ _
          refine J_false rfl ?_
          refine J_skip ?_
          change J _ _ _ _
          refine J_seq ?_
          refine J_seq ?_
          refine J_mid (X := Nat × Nat × Nat × Nat × Nat) (fun z9 => { env := [(5, .pointer (some ⟨z9.1, 0, none⟩)), (17, .pointer (some ⟨z9.2.1, 0, none⟩)), (18, .pointer (some ⟨z9.2.2.1, 0, none⟩)), (20, .pointer (some ⟨z9.2.2.2.1, 0, none⟩)), (21, .pointer (some ⟨z9.2.2.2.2, 0, none⟩)), (19, .int .i64 (retE c)), (22, .bool (hearD c x)), (23, .int .i64 (hearE c x)), (138, .bool false)], mem := [(z9.1, row 47 (ctM c m)), (z9.2.1, row 47 (ctM (retC c) (selM (retS c) m))), (z9.2.2.1, row 45 (msM (retX c) (selM (retT c) m))), (z9.2.2.2.1, row 47 (ctM (hearC c x) (selM (hearS c x) m))), (z9.2.2.2.2, row 45 (msM (hearX c x) (selM (hearT c x) m)))], facts := [msF c.msg m es, msF x n gs] }) ?_ ?_
          ·
            refine J_region ?_
            refine L_v rfl rfl rfl (V_move rfl rfl) ?_
            refine L_v rfl rfl rfl (V_eql rfl rfl rfl (by first | exact decide_eq_true (by omega) | exact decide_eq_false (by omega) | rfl)) ?_
            refine L_v rfl rfl rfl (V_move rfl rfl) ?_
            refine L_skip rfl rfl rfl rfl rfl rfl rfl ?_
            refine L_skip rfl rfl rfl rfl rfl rfl rfl ?_
            refine L_skip rfl rfl rfl rfl rfl rfl rfl ?_
            refine L_skip rfl rfl rfl rfl rfl rfl rfl ?_
            refine L_skip rfl rfl rfl rfl rfl rfl rfl ?_
            refine L_skip rfl rfl rfl rfl rfl rfl rfl ?_
            refine L_skip rfl rfl rfl rfl rfl rfl rfl ?_
            refine L_skip rfl rfl rfl rfl rfl rfl rfl ?_
            refine L_skip rfl rfl rfl rfl rfl rfl rfl ?_
            refine L_skip rfl rfl rfl rfl rfl rfl rfl ?_
            refine L_skip rfl rfl rfl rfl rfl rfl rfl ?_
            refine L_skip rfl rfl rfl rfl rfl rfl rfl ?_
            refine L_skip rfl rfl rfl rfl rfl rfl rfl ?_
            refine L_skip rfl rfl rfl rfl rfl rfl rfl ?_
            refine L_skip rfl rfl rfl rfl rfl rfl rfl ?_
            refine L_skip rfl rfl rfl rfl rfl rfl rfl ?_
            refine L_skip rfl rfl rfl rfl rfl rfl rfl ?_
            refine L_skip rfl rfl rfl rfl rfl rfl rfl ?_
            refine L_skip rfl rfl rfl rfl rfl rfl rfl ?_
            refine L_skip rfl rfl rfl rfl rfl rfl rfl ?_
            refine L_skip rfl rfl rfl rfl rfl rfl rfl ?_
            refine L_skip rfl rfl rfl rfl rfl rfl rfl ?_
            refine L_skip rfl rfl rfl rfl rfl rfl rfl ?_
            refine L_skip rfl rfl rfl rfl rfl rfl rfl ?_
            refine L_skip rfl rfl rfl rfl rfl rfl rfl ?_
            refine L_skip rfl rfl rfl rfl rfl rfl rfl ?_
            first | refine L_v rfl rfl rfl (V_pickT rfl rfl rfl) ?_ | refine L_v rfl rfl rfl (V_pickF rfl rfl rfl) ?_
            refine L_nil ?_
            exact ⟨(b0, b3, b4, b5, b6), ⟨rfl, rfl, rfl, rfl, rfl, rfl, rfl, rfl, rfl, trivial⟩, (List.Sublist.cons_cons _ (List.Sublist.cons _ (List.Sublist.cons _ (List.Sublist.cons_cons _ (List.Sublist.cons_cons _ (List.Sublist.cons_cons _ (List.Sublist.cons_cons _ (List.nil_sublist _)))))))), fun f hf => hf, rfl⟩
          rintro ⟨b0, b1, b2, b3, b4⟩
          change J _ _ _ _
          refine J_false rfl ?_
          obtain ⟨r1, r2, r3, r4, r5⟩ := ret_right hr
          have r6 := r5 hb
          refine J_skip ?_
          change J _ _ _ _
          refine J_seq ?_
          refine J_seq ?_
          refine J_mid (X := Nat × Nat × Nat) (fun z9 => { env := [(5, .pointer (some ⟨z9.1, 0, none⟩)), (20, .pointer (some ⟨z9.2.1, 0, none⟩)), (21, .pointer (some ⟨z9.2.2, 0, none⟩)), (22, .bool (hearD c x)), (23, .int .i64 (hearE c x)), (170, .bool false)], mem := [(z9.1, row 47 (ctM c m)), (z9.2.1, row 47 (ctM (hearC c x) (selM (hearS c x) m))), (z9.2.2, row 45 (msM (hearX c x) (selM (hearT c x) m)))], facts := [msF c.msg m es, msF x n gs] }) ?_ ?_
          ·
            refine J_region ?_
            refine L_v rfl rfl rfl (V_move rfl rfl) ?_
            refine L_v rfl rfl rfl (V_neq rfl rfl rfl (by first | exact decide_eq_true (by omega) | exact decide_eq_false (by omega) | rfl)) ?_
            refine L_v rfl rfl rfl (V_move rfl rfl) ?_
            refine L_wv rfl rfl rfl rfl rfl rfl (V_loadT 1 (vs := ctM (retC c) (selM (retS c) m)) rfl rfl rfl Try.underlying47 rfl sz47l (by kernel_rfl) (by kernel_rfl)) ?_
            refine L_wcallV rfl rfl rfl rfl rfl rfl rfl rfl rfl tx19l (fun w1 hw => check_m (ret_mw (⟨hx, hw.fa 0 rfl, z1⟩ : Mw w1 c.msg m es))) ?_
            refine L_wv rfl rfl rfl rfl rfl rfl (V_neq rfl rfl rfl (by first | exact decide_eq_true (by omega) | exact decide_eq_false (by omega) | rfl)) ?_
            first | refine L_v rfl rfl rfl (V_pickT rfl rfl rfl) ?_ | refine L_v rfl rfl rfl (V_pickF rfl rfl rfl) ?_
            refine L_v rfl rfl rfl (V_move rfl rfl) ?_
            refine L_wv rfl rfl rfl rfl rfl rfl (V_fieldAddr rfl rfl Try.underlying47 rfl sz3l rfl) ?_
            refine L_wv rfl rfl rfl rfl rfl rfl (V_load1 1 rfl rfl rfl Try.underlying3 rfl (by rfl)) ?_
            refine L_wv rfl rfl rfl rfl rfl rfl (V_fieldAddr rfl rfl Try.underlying47 rfl sz3l rfl) ?_
            refine L_wv rfl rfl rfl rfl rfl rfl (V_load1 0 rfl rfl rfl Try.underlying3 rfl (by rfl)) ?_
            refine L_wv rfl rfl rfl rfl rfl rfl (V_neq rfl rfl rfl (by first | exact decide_eq_true (by omega) | exact decide_eq_false (by omega) | rfl)) ?_
            first | refine L_v rfl rfl rfl (V_pickT rfl rfl rfl) ?_ | refine L_v rfl rfl rfl (V_pickF rfl rfl rfl) ?_
            refine L_v rfl rfl rfl (V_move rfl rfl) ?_
            refine L_wv rfl rfl rfl rfl rfl rfl (V_fieldAddr rfl rfl Try.underlying47 rfl sz4l rfl) ?_
            refine L_wv rfl rfl rfl rfl rfl rfl (V_load1 1 rfl rfl rfl Try.underlying4 rfl (by rfl)) ?_
            refine L_same 155 rfl (congrArg Value.bool r3) ?_
            refine L_wv rfl rfl rfl rfl rfl rfl (V_fieldAddr rfl rfl Try.underlying47 rfl sz4l rfl) ?_
            refine L_wv rfl rfl rfl rfl rfl rfl (V_load1 0 rfl rfl rfl Try.underlying4 rfl (by rfl)) ?_
            refine L_wv rfl rfl rfl rfl rfl rfl (V_neB rfl rfl rfl Try.underlying4 (by first | exact beq_self_eq_true _ | exact congrArg not (beq_self_eq_true _) | rfl)) ?_
            first | refine L_v rfl rfl rfl (V_pickT rfl rfl rfl) ?_ | refine L_v rfl rfl rfl (V_pickF rfl rfl rfl) ?_
            refine L_v rfl rfl rfl (V_move rfl rfl) ?_
            refine L_wv rfl rfl rfl rfl rfl rfl (V_fieldAddr rfl rfl Try.underlying47 rfl sz4l rfl) ?_
            refine L_wv rfl rfl rfl rfl rfl rfl (V_load1 0 rfl rfl rfl Try.underlying4 rfl (by rfl)) ?_
            refine L_same 162 rfl (congrArg Value.bool hb) ?_
            refine L_wv rfl rfl rfl rfl rfl rfl (V_move rfl rfl) ?_
            refine L_wv rfl rfl rfl rfl rfl rfl (V_fieldAddr rfl rfl Try.underlying45 rfl sz3l rfl) ?_
            refine L_wv rfl rfl rfl rfl rfl rfl (V_load1 2 rfl rfl rfl Try.underlying3 rfl (by rfl)) ?_
            refine L_wv rfl rfl rfl rfl rfl rfl (V_fieldAddr rfl rfl Try.underlying47 rfl sz3l rfl) ?_
            refine L_wv rfl rfl rfl rfl rfl rfl (V_load1 0 rfl rfl rfl Try.underlying3 rfl (by rfl)) ?_
            refine L_wv rfl rfl rfl rfl rfl rfl (V_eql rfl rfl rfl (by first | exact decide_eq_true (by omega) | exact decide_eq_false (by omega) | rfl)) ?_
            first | refine L_wv rfl rfl rfl rfl rfl rfl (V_pickT rfl rfl rfl) ?_ | refine L_wv rfl rfl rfl rfl rfl rfl (V_pickF rfl rfl rfl) ?_
            first | refine L_v rfl rfl rfl (V_pickT rfl rfl rfl) ?_ | refine L_v rfl rfl rfl (V_pickF rfl rfl rfl) ?_
            refine L_nil ?_
            exact ⟨(b0, b3, b4), ⟨rfl, rfl, rfl, rfl, rfl, rfl, trivial⟩, (List.Sublist.cons_cons _ (List.Sublist.cons _ (List.Sublist.cons _ (List.Sublist.cons_cons _ (List.Sublist.cons_cons _ (List.nil_sublist _)))))), fun f hf => hf, rfl⟩
          rintro ⟨b0, b1, b2⟩
          change J _ _ _ _
          refine J_false rfl ?_
          obtain ⟨w1, w2, w3, w4, w5, w6, w7⟩ := hear_right (x := x) hr
          by_cases hD : hearD c x = true
          ·
            obtain ⟨_, hB⟩ := w4 hD
            by_cases hkd : (hearX c x).kind = 0
            ·
              refine J_skip ?_
              change J _ _ _ _
              refine J_seq ?_
              refine J_region ?_
              refine L_callV rfl rfl rfl rfl rfl rfl tx10l (fun w1 hw => calls_t w1) ?_
              refine L_v rfl rfl rfl (V_move rfl rfl) ?_
              refine L_wv rfl rfl rfl rfl rfl rfl (V_move rfl rfl) ?_
              refine L_wv rfl rfl rfl rfl rfl rfl (V_eql rfl rfl rfl (by first | exact decide_eq_true (by omega) | exact decide_eq_false (by omega) | rfl)) ?_
              first | refine L_v rfl rfl rfl (V_pickT rfl rfl rfl) ?_ | refine L_v rfl rfl rfl (V_pickF rfl rfl rfl) ?_
              refine L_v rfl rfl rfl (V_move rfl rfl) ?_
              refine L_wv rfl rfl rfl rfl rfl rfl (V_loadT 1 (vs := ctM (hearC c x) (selM (hearS c x) m)) rfl rfl rfl Try.underlying47 rfl sz47l (by kernel_rfl) (by kernel_rfl)) ?_
              refine L_wcallV rfl rfl rfl rfl rfl rfl rfl rfl rfl tx19l (fun w1 hw => check_m (hear_mw (⟨hx, hw.fa 0 rfl, z1⟩ : Mw w1 c.msg m es))) ?_
              refine L_wv rfl rfl rfl rfl rfl rfl (V_eql rfl rfl rfl (by first | exact decide_eq_true (by omega) | exact decide_eq_false (by omega) | rfl)) ?_
              first | refine L_v rfl rfl rfl (V_pickT rfl rfl rfl) ?_ | refine L_v rfl rfl rfl (V_pickF rfl rfl rfl) ?_
              refine L_v rfl rfl rfl (V_move rfl rfl) ?_
              refine L_wv rfl rfl rfl rfl rfl rfl (V_fieldAddr rfl rfl Try.underlying47 rfl sz3l rfl) ?_
              refine L_wv rfl rfl rfl rfl rfl rfl (V_load1 1 rfl rfl rfl Try.underlying3 rfl (by rfl)) ?_
              refine L_wv rfl rfl rfl rfl rfl rfl (V_fieldAddr rfl rfl Try.underlying47 rfl sz3l rfl) ?_
              refine L_wv rfl rfl rfl rfl rfl rfl (V_load1 0 rfl rfl rfl Try.underlying3 rfl (by rfl)) ?_
              refine L_wv rfl rfl rfl rfl rfl rfl (V_eql rfl rfl rfl (by first | exact decide_eq_true (by omega) | exact decide_eq_false (by omega) | rfl)) ?_
              first | refine L_v rfl rfl rfl (V_pickT rfl rfl rfl) ?_ | refine L_v rfl rfl rfl (V_pickF rfl rfl rfl) ?_
              refine L_v rfl rfl rfl (V_move rfl rfl) ?_
              refine L_wv rfl rfl rfl rfl rfl rfl (V_move rfl rfl) ?_
              refine L_same 189 rfl (congrArg Value.bool hD) ?_
              refine L_wv rfl rfl rfl rfl rfl rfl (V_not rfl rfl rfl) ?_
              refine L_wv rfl rfl rfl rfl rfl rfl (V_move rfl rfl) ?_
              refine L_wv rfl rfl rfl rfl rfl rfl (V_fieldAddr rfl rfl Try.underlying47 rfl sz4l rfl) ?_
              refine L_wv rfl rfl rfl rfl rfl rfl (V_load1 0 rfl rfl rfl Try.underlying4 rfl (by rfl)) ?_
              refine L_same 193 rfl (congrArg Value.bool hb) ?_
              refine L_wv rfl rfl rfl rfl rfl rfl (V_move rfl rfl) ?_
              refine L_wv rfl rfl rfl rfl rfl rfl (V_fieldAddr rfl rfl Try.underlying47 rfl sz4l rfl) ?_
              refine L_wv rfl rfl rfl rfl rfl rfl (V_load1 1 rfl rfl rfl Try.underlying4 rfl (by rfl)) ?_
              refine L_same 196 rfl (congrArg Value.bool hB) ?_
              refine L_wv rfl rfl rfl rfl rfl rfl (V_not rfl rfl rfl) ?_
              first | refine L_wv rfl rfl rfl rfl rfl rfl (V_pickT rfl rfl rfl) ?_ | refine L_wv rfl rfl rfl rfl rfl rfl (V_pickF rfl rfl rfl) ?_
              first | refine L_wv rfl rfl rfl rfl rfl rfl (V_pickT rfl rfl rfl) ?_ | refine L_wv rfl rfl rfl rfl rfl rfl (V_pickF rfl rfl rfl) ?_
              first | refine L_v rfl rfl rfl (V_pickT rfl rfl rfl) ?_ | refine L_v rfl rfl rfl (V_pickF rfl rfl rfl) ?_
              refine L_v rfl rfl rfl (V_move rfl rfl) ?_
              refine L_wv rfl rfl rfl rfl rfl rfl (V_move rfl rfl) ?_
              refine L_same 202 rfl (congrArg Value.bool hD) ?_
              refine L_wv rfl rfl rfl rfl rfl rfl (V_move rfl rfl) ?_
              refine L_skip rfl rfl rfl rfl rfl rfl rfl ?_
              refine L_skip rfl rfl rfl rfl rfl rfl rfl ?_
              refine L_skip rfl rfl rfl rfl rfl rfl rfl ?_
              refine L_skip rfl rfl rfl rfl rfl rfl rfl ?_
              refine L_skip rfl rfl rfl rfl rfl rfl rfl ?_
              first | refine L_wv rfl rfl rfl rfl rfl rfl (V_pickT rfl rfl rfl) ?_ | refine L_wv rfl rfl rfl rfl rfl rfl (V_pickF rfl rfl rfl) ?_
              first | refine L_v rfl rfl rfl (V_pickT rfl rfl rfl) ?_ | refine L_v rfl rfl rfl (V_pickF rfl rfl rfl) ?_
              refine L_v rfl rfl rfl (V_move rfl rfl) ?_
              refine L_wv rfl rfl rfl rfl rfl rfl (V_fieldAddr rfl rfl Try.underlying45 rfl sz22l rfl) ?_
              refine L_wv rfl rfl rfl rfl rfl rfl (V_load1 2 rfl rfl rfl Try.underlying22 rfl (by rfl)) ?_
              refine L_wv rfl rfl rfl rfl rfl rfl (V_eql rfl rfl rfl (by first | exact decide_eq_true (by omega) | exact decide_eq_false (by omega) | rfl)) ?_
              refine L_wv rfl rfl rfl rfl rfl rfl (V_move rfl rfl) ?_
              refine L_skip rfl rfl rfl rfl rfl rfl rfl ?_
              refine L_skip rfl rfl rfl rfl rfl rfl rfl ?_
              refine L_skip rfl rfl rfl rfl rfl rfl rfl ?_
              refine L_skip rfl rfl rfl rfl rfl rfl rfl ?_
              refine L_skip rfl rfl rfl rfl rfl rfl rfl ?_
              first | refine L_wv rfl rfl rfl rfl rfl rfl (V_pickT rfl rfl rfl) ?_ | refine L_wv rfl rfl rfl rfl rfl rfl (V_pickF rfl rfl rfl) ?_
              first | refine L_v rfl rfl rfl (V_pickT rfl rfl rfl) ?_ | refine L_v rfl rfl rfl (V_pickF rfl rfl rfl) ?_
              refine L_v rfl rfl rfl (V_assign rfl rfl) ?_
              refine L_nil ?_
              change J _ _ _ _
              refine J_ret ?_
              change Kret _ _ _ Exit.ret _
              refine ret1 rfl rfl (RV_t rfl) ?_
              exact fun w' h => ⟨rfl, h.fr⟩
            ·
              have hks := w6 hkd
              refine J_skip ?_
              change J _ _ _ _
              refine J_seq ?_
              refine J_region ?_
              refine L_callV rfl rfl rfl rfl rfl rfl tx10l (fun w1 hw => calls_t w1) ?_
              refine L_v rfl rfl rfl (V_move rfl rfl) ?_
              refine L_wv rfl rfl rfl rfl rfl rfl (V_move rfl rfl) ?_
              refine L_wv rfl rfl rfl rfl rfl rfl (V_eql rfl rfl rfl (by first | exact decide_eq_true (by omega) | exact decide_eq_false (by omega) | rfl)) ?_
              first | refine L_v rfl rfl rfl (V_pickT rfl rfl rfl) ?_ | refine L_v rfl rfl rfl (V_pickF rfl rfl rfl) ?_
              refine L_v rfl rfl rfl (V_move rfl rfl) ?_
              refine L_wv rfl rfl rfl rfl rfl rfl (V_loadT 1 (vs := ctM (hearC c x) (selM (hearS c x) m)) rfl rfl rfl Try.underlying47 rfl sz47l (by kernel_rfl) (by kernel_rfl)) ?_
              refine L_wcallV rfl rfl rfl rfl rfl rfl rfl rfl rfl tx19l (fun w1 hw => check_m (hear_mw (⟨hx, hw.fa 0 rfl, z1⟩ : Mw w1 c.msg m es))) ?_
              refine L_wv rfl rfl rfl rfl rfl rfl (V_eql rfl rfl rfl (by first | exact decide_eq_true (by omega) | exact decide_eq_false (by omega) | rfl)) ?_
              first | refine L_v rfl rfl rfl (V_pickT rfl rfl rfl) ?_ | refine L_v rfl rfl rfl (V_pickF rfl rfl rfl) ?_
              refine L_v rfl rfl rfl (V_move rfl rfl) ?_
              refine L_wv rfl rfl rfl rfl rfl rfl (V_fieldAddr rfl rfl Try.underlying47 rfl sz3l rfl) ?_
              refine L_wv rfl rfl rfl rfl rfl rfl (V_load1 1 rfl rfl rfl Try.underlying3 rfl (by rfl)) ?_
              refine L_wv rfl rfl rfl rfl rfl rfl (V_fieldAddr rfl rfl Try.underlying47 rfl sz3l rfl) ?_
              refine L_wv rfl rfl rfl rfl rfl rfl (V_load1 0 rfl rfl rfl Try.underlying3 rfl (by rfl)) ?_
              refine L_wv rfl rfl rfl rfl rfl rfl (V_eql rfl rfl rfl (by first | exact decide_eq_true (by omega) | exact decide_eq_false (by omega) | rfl)) ?_
              first | refine L_v rfl rfl rfl (V_pickT rfl rfl rfl) ?_ | refine L_v rfl rfl rfl (V_pickF rfl rfl rfl) ?_
              refine L_v rfl rfl rfl (V_move rfl rfl) ?_
              refine L_wv rfl rfl rfl rfl rfl rfl (V_move rfl rfl) ?_
              refine L_same 189 rfl (congrArg Value.bool hD) ?_
              refine L_wv rfl rfl rfl rfl rfl rfl (V_not rfl rfl rfl) ?_
              refine L_wv rfl rfl rfl rfl rfl rfl (V_move rfl rfl) ?_
              refine L_wv rfl rfl rfl rfl rfl rfl (V_fieldAddr rfl rfl Try.underlying47 rfl sz4l rfl) ?_
              refine L_wv rfl rfl rfl rfl rfl rfl (V_load1 0 rfl rfl rfl Try.underlying4 rfl (by rfl)) ?_
              refine L_same 193 rfl (congrArg Value.bool hb) ?_
              refine L_wv rfl rfl rfl rfl rfl rfl (V_move rfl rfl) ?_
              refine L_wv rfl rfl rfl rfl rfl rfl (V_fieldAddr rfl rfl Try.underlying47 rfl sz4l rfl) ?_
              refine L_wv rfl rfl rfl rfl rfl rfl (V_load1 1 rfl rfl rfl Try.underlying4 rfl (by rfl)) ?_
              refine L_same 196 rfl (congrArg Value.bool hB) ?_
              refine L_wv rfl rfl rfl rfl rfl rfl (V_not rfl rfl rfl) ?_
              first | refine L_wv rfl rfl rfl rfl rfl rfl (V_pickT rfl rfl rfl) ?_ | refine L_wv rfl rfl rfl rfl rfl rfl (V_pickF rfl rfl rfl) ?_
              first | refine L_wv rfl rfl rfl rfl rfl rfl (V_pickT rfl rfl rfl) ?_ | refine L_wv rfl rfl rfl rfl rfl rfl (V_pickF rfl rfl rfl) ?_
              first | refine L_v rfl rfl rfl (V_pickT rfl rfl rfl) ?_ | refine L_v rfl rfl rfl (V_pickF rfl rfl rfl) ?_
              refine L_v rfl rfl rfl (V_move rfl rfl) ?_
              refine L_wv rfl rfl rfl rfl rfl rfl (V_move rfl rfl) ?_
              refine L_same 202 rfl (congrArg Value.bool hD) ?_
              refine L_wv rfl rfl rfl rfl rfl rfl (V_move rfl rfl) ?_
              refine L_skip rfl rfl rfl rfl rfl rfl rfl ?_
              refine L_skip rfl rfl rfl rfl rfl rfl rfl ?_
              refine L_skip rfl rfl rfl rfl rfl rfl rfl ?_
              refine L_skip rfl rfl rfl rfl rfl rfl rfl ?_
              refine L_skip rfl rfl rfl rfl rfl rfl rfl ?_
              first | refine L_wv rfl rfl rfl rfl rfl rfl (V_pickT rfl rfl rfl) ?_ | refine L_wv rfl rfl rfl rfl rfl rfl (V_pickF rfl rfl rfl) ?_
              first | refine L_v rfl rfl rfl (V_pickT rfl rfl rfl) ?_ | refine L_v rfl rfl rfl (V_pickF rfl rfl rfl) ?_
              refine L_v rfl rfl rfl (V_move rfl rfl) ?_
              refine L_wv rfl rfl rfl rfl rfl rfl (V_fieldAddr rfl rfl Try.underlying45 rfl sz22l rfl) ?_
              refine L_wv rfl rfl rfl rfl rfl rfl (V_load1 2 rfl rfl rfl Try.underlying22 rfl (by rfl)) ?_
              refine L_wv rfl rfl rfl rfl rfl rfl (V_eql rfl rfl rfl (by first | exact decide_eq_true (by omega) | exact decide_eq_false (by omega) | rfl)) ?_
              refine L_wv rfl rfl rfl rfl rfl rfl (V_move rfl rfl) ?_
              refine L_wv rfl rfl rfl rfl rfl rfl (V_fieldAddr rfl rfl Try.underlying45 rfl sz3l rfl) ?_
              refine L_wv rfl rfl rfl rfl rfl rfl (V_load1 2 rfl rfl rfl Try.underlying3 rfl (by rfl)) ?_
              refine L_wv rfl rfl rfl rfl rfl rfl (V_fieldAddr rfl rfl Try.underlying47 rfl sz3l rfl) ?_
              refine L_wv rfl rfl rfl rfl rfl rfl (V_load1 0 rfl rfl rfl Try.underlying3 rfl (by rfl)) ?_
              refine L_wv rfl rfl rfl rfl rfl rfl (V_eql rfl rfl rfl (by first | exact decide_eq_true (by omega) | exact decide_eq_false (by omega) | rfl)) ?_
              first | refine L_wv rfl rfl rfl rfl rfl rfl (V_pickT rfl rfl rfl) ?_ | refine L_wv rfl rfl rfl rfl rfl rfl (V_pickF rfl rfl rfl) ?_
              first | refine L_v rfl rfl rfl (V_pickT rfl rfl rfl) ?_ | refine L_v rfl rfl rfl (V_pickF rfl rfl rfl) ?_
              refine L_v rfl rfl rfl (V_assign rfl rfl) ?_
              refine L_nil ?_
              change J _ _ _ _
              refine J_ret ?_
              change Kret _ _ _ Exit.ret _
              refine ret1 rfl rfl (RV_t rfl) ?_
              exact fun w' h => ⟨rfl, h.fr⟩
          ·
            have hD := Bool.eq_false_iff.2 hD
            have hB := w5 hD
            by_cases hkd : (hearX c x).kind = 0
            ·
              refine J_skip ?_
              change J _ _ _ _
              refine J_seq ?_
              refine J_region ?_
              refine L_callV rfl rfl rfl rfl rfl rfl tx10l (fun w1 hw => calls_t w1) ?_
              refine L_v rfl rfl rfl (V_move rfl rfl) ?_
              refine L_wv rfl rfl rfl rfl rfl rfl (V_move rfl rfl) ?_
              refine L_wv rfl rfl rfl rfl rfl rfl (V_eql rfl rfl rfl (by first | exact decide_eq_true (by omega) | exact decide_eq_false (by omega) | rfl)) ?_
              first | refine L_v rfl rfl rfl (V_pickT rfl rfl rfl) ?_ | refine L_v rfl rfl rfl (V_pickF rfl rfl rfl) ?_
              refine L_v rfl rfl rfl (V_move rfl rfl) ?_
              refine L_wv rfl rfl rfl rfl rfl rfl (V_loadT 1 (vs := ctM (hearC c x) (selM (hearS c x) m)) rfl rfl rfl Try.underlying47 rfl sz47l (by kernel_rfl) (by kernel_rfl)) ?_
              refine L_wcallV rfl rfl rfl rfl rfl rfl rfl rfl rfl tx19l (fun w1 hw => check_m (hear_mw (⟨hx, hw.fa 0 rfl, z1⟩ : Mw w1 c.msg m es))) ?_
              refine L_wv rfl rfl rfl rfl rfl rfl (V_eql rfl rfl rfl (by first | exact decide_eq_true (by omega) | exact decide_eq_false (by omega) | rfl)) ?_
              first | refine L_v rfl rfl rfl (V_pickT rfl rfl rfl) ?_ | refine L_v rfl rfl rfl (V_pickF rfl rfl rfl) ?_
              refine L_v rfl rfl rfl (V_move rfl rfl) ?_
              refine L_wv rfl rfl rfl rfl rfl rfl (V_fieldAddr rfl rfl Try.underlying47 rfl sz3l rfl) ?_
              refine L_wv rfl rfl rfl rfl rfl rfl (V_load1 1 rfl rfl rfl Try.underlying3 rfl (by rfl)) ?_
              refine L_wv rfl rfl rfl rfl rfl rfl (V_fieldAddr rfl rfl Try.underlying47 rfl sz3l rfl) ?_
              refine L_wv rfl rfl rfl rfl rfl rfl (V_load1 0 rfl rfl rfl Try.underlying3 rfl (by rfl)) ?_
              refine L_wv rfl rfl rfl rfl rfl rfl (V_eql rfl rfl rfl (by first | exact decide_eq_true (by omega) | exact decide_eq_false (by omega) | rfl)) ?_
              first | refine L_v rfl rfl rfl (V_pickT rfl rfl rfl) ?_ | refine L_v rfl rfl rfl (V_pickF rfl rfl rfl) ?_
              refine L_v rfl rfl rfl (V_move rfl rfl) ?_
              refine L_wv rfl rfl rfl rfl rfl rfl (V_move rfl rfl) ?_
              refine L_same 189 rfl (congrArg Value.bool hD) ?_
              refine L_wv rfl rfl rfl rfl rfl rfl (V_not rfl rfl rfl) ?_
              refine L_wv rfl rfl rfl rfl rfl rfl (V_move rfl rfl) ?_
              refine L_skip rfl rfl rfl rfl rfl rfl rfl ?_
              refine L_skip rfl rfl rfl rfl rfl rfl rfl ?_
              refine L_skip rfl rfl rfl rfl rfl rfl rfl ?_
              refine L_skip rfl rfl rfl rfl rfl rfl rfl ?_
              refine L_skip rfl rfl rfl rfl rfl rfl rfl ?_
              refine L_skip rfl rfl rfl rfl rfl rfl rfl ?_
              refine L_skip rfl rfl rfl rfl rfl rfl rfl ?_
              first | refine L_wv rfl rfl rfl rfl rfl rfl (V_pickT rfl rfl rfl) ?_ | refine L_wv rfl rfl rfl rfl rfl rfl (V_pickF rfl rfl rfl) ?_
              first | refine L_v rfl rfl rfl (V_pickT rfl rfl rfl) ?_ | refine L_v rfl rfl rfl (V_pickF rfl rfl rfl) ?_
              refine L_v rfl rfl rfl (V_move rfl rfl) ?_
              refine L_wv rfl rfl rfl rfl rfl rfl (V_move rfl rfl) ?_
              refine L_same 202 rfl (congrArg Value.bool hD) ?_
              refine L_wv rfl rfl rfl rfl rfl rfl (V_move rfl rfl) ?_
              refine L_wv rfl rfl rfl rfl rfl rfl (V_fieldAddr rfl rfl Try.underlying47 rfl sz4l rfl) ?_
              refine L_wv rfl rfl rfl rfl rfl rfl (V_load1 1 rfl rfl rfl Try.underlying4 rfl (by rfl)) ?_
              refine L_same 205 rfl (congrArg Value.bool hB) ?_
              refine L_wv rfl rfl rfl rfl rfl rfl (V_fieldAddr rfl rfl Try.underlying47 rfl sz4l rfl) ?_
              refine L_wv rfl rfl rfl rfl rfl rfl (V_load1 0 rfl rfl rfl Try.underlying4 rfl (by rfl)) ?_
              refine L_wv rfl rfl rfl rfl rfl rfl (V_eqB rfl rfl rfl Try.underlying4 (by first | exact beq_self_eq_true _ | exact congrArg not (beq_self_eq_true _) | rfl)) ?_
              first | refine L_wv rfl rfl rfl rfl rfl rfl (V_pickT rfl rfl rfl) ?_ | refine L_wv rfl rfl rfl rfl rfl rfl (V_pickF rfl rfl rfl) ?_
              first | refine L_v rfl rfl rfl (V_pickT rfl rfl rfl) ?_ | refine L_v rfl rfl rfl (V_pickF rfl rfl rfl) ?_
              refine L_v rfl rfl rfl (V_move rfl rfl) ?_
              refine L_wv rfl rfl rfl rfl rfl rfl (V_fieldAddr rfl rfl Try.underlying45 rfl sz22l rfl) ?_
              refine L_wv rfl rfl rfl rfl rfl rfl (V_load1 2 rfl rfl rfl Try.underlying22 rfl (by rfl)) ?_
              refine L_wv rfl rfl rfl rfl rfl rfl (V_eql rfl rfl rfl (by first | exact decide_eq_true (by omega) | exact decide_eq_false (by omega) | rfl)) ?_
              refine L_wv rfl rfl rfl rfl rfl rfl (V_move rfl rfl) ?_
              refine L_skip rfl rfl rfl rfl rfl rfl rfl ?_
              refine L_skip rfl rfl rfl rfl rfl rfl rfl ?_
              refine L_skip rfl rfl rfl rfl rfl rfl rfl ?_
              refine L_skip rfl rfl rfl rfl rfl rfl rfl ?_
              refine L_skip rfl rfl rfl rfl rfl rfl rfl ?_
              first | refine L_wv rfl rfl rfl rfl rfl rfl (V_pickT rfl rfl rfl) ?_ | refine L_wv rfl rfl rfl rfl rfl rfl (V_pickF rfl rfl rfl) ?_
              first | refine L_v rfl rfl rfl (V_pickT rfl rfl rfl) ?_ | refine L_v rfl rfl rfl (V_pickF rfl rfl rfl) ?_
              refine L_v rfl rfl rfl (V_assign rfl rfl) ?_
              refine L_nil ?_
              change J _ _ _ _
              refine J_ret ?_
              change Kret _ _ _ Exit.ret _
              refine ret1 rfl rfl (RV_t rfl) ?_
              exact fun w' h => ⟨rfl, h.fr⟩
            ·
              have hks := w6 hkd
              refine J_skip ?_
              change J _ _ _ _
              refine J_seq ?_
              refine J_region ?_
              refine L_callV rfl rfl rfl rfl rfl rfl tx10l (fun w1 hw => calls_t w1) ?_
              refine L_v rfl rfl rfl (V_move rfl rfl) ?_
              refine L_wv rfl rfl rfl rfl rfl rfl (V_move rfl rfl) ?_
              refine L_wv rfl rfl rfl rfl rfl rfl (V_eql rfl rfl rfl (by first | exact decide_eq_true (by omega) | exact decide_eq_false (by omega) | rfl)) ?_
              first | refine L_v rfl rfl rfl (V_pickT rfl rfl rfl) ?_ | refine L_v rfl rfl rfl (V_pickF rfl rfl rfl) ?_
              refine L_v rfl rfl rfl (V_move rfl rfl) ?_
              refine L_wv rfl rfl rfl rfl rfl rfl (V_loadT 1 (vs := ctM (hearC c x) (selM (hearS c x) m)) rfl rfl rfl Try.underlying47 rfl sz47l (by kernel_rfl) (by kernel_rfl)) ?_
              refine L_wcallV rfl rfl rfl rfl rfl rfl rfl rfl rfl tx19l (fun w1 hw => check_m (hear_mw (⟨hx, hw.fa 0 rfl, z1⟩ : Mw w1 c.msg m es))) ?_
              refine L_wv rfl rfl rfl rfl rfl rfl (V_eql rfl rfl rfl (by first | exact decide_eq_true (by omega) | exact decide_eq_false (by omega) | rfl)) ?_
              first | refine L_v rfl rfl rfl (V_pickT rfl rfl rfl) ?_ | refine L_v rfl rfl rfl (V_pickF rfl rfl rfl) ?_
              refine L_v rfl rfl rfl (V_move rfl rfl) ?_
              refine L_wv rfl rfl rfl rfl rfl rfl (V_fieldAddr rfl rfl Try.underlying47 rfl sz3l rfl) ?_
              refine L_wv rfl rfl rfl rfl rfl rfl (V_load1 1 rfl rfl rfl Try.underlying3 rfl (by rfl)) ?_
              refine L_wv rfl rfl rfl rfl rfl rfl (V_fieldAddr rfl rfl Try.underlying47 rfl sz3l rfl) ?_
              refine L_wv rfl rfl rfl rfl rfl rfl (V_load1 0 rfl rfl rfl Try.underlying3 rfl (by rfl)) ?_
              refine L_wv rfl rfl rfl rfl rfl rfl (V_eql rfl rfl rfl (by first | exact decide_eq_true (by omega) | exact decide_eq_false (by omega) | rfl)) ?_
              first | refine L_v rfl rfl rfl (V_pickT rfl rfl rfl) ?_ | refine L_v rfl rfl rfl (V_pickF rfl rfl rfl) ?_
              refine L_v rfl rfl rfl (V_move rfl rfl) ?_
              refine L_wv rfl rfl rfl rfl rfl rfl (V_move rfl rfl) ?_
              refine L_same 189 rfl (congrArg Value.bool hD) ?_
              refine L_wv rfl rfl rfl rfl rfl rfl (V_not rfl rfl rfl) ?_
              refine L_wv rfl rfl rfl rfl rfl rfl (V_move rfl rfl) ?_
              refine L_skip rfl rfl rfl rfl rfl rfl rfl ?_
              refine L_skip rfl rfl rfl rfl rfl rfl rfl ?_
              refine L_skip rfl rfl rfl rfl rfl rfl rfl ?_
              refine L_skip rfl rfl rfl rfl rfl rfl rfl ?_
              refine L_skip rfl rfl rfl rfl rfl rfl rfl ?_
              refine L_skip rfl rfl rfl rfl rfl rfl rfl ?_
              refine L_skip rfl rfl rfl rfl rfl rfl rfl ?_
              first | refine L_wv rfl rfl rfl rfl rfl rfl (V_pickT rfl rfl rfl) ?_ | refine L_wv rfl rfl rfl rfl rfl rfl (V_pickF rfl rfl rfl) ?_
              first | refine L_v rfl rfl rfl (V_pickT rfl rfl rfl) ?_ | refine L_v rfl rfl rfl (V_pickF rfl rfl rfl) ?_
              refine L_v rfl rfl rfl (V_move rfl rfl) ?_
              refine L_wv rfl rfl rfl rfl rfl rfl (V_move rfl rfl) ?_
              refine L_same 202 rfl (congrArg Value.bool hD) ?_
              refine L_wv rfl rfl rfl rfl rfl rfl (V_move rfl rfl) ?_
              refine L_wv rfl rfl rfl rfl rfl rfl (V_fieldAddr rfl rfl Try.underlying47 rfl sz4l rfl) ?_
              refine L_wv rfl rfl rfl rfl rfl rfl (V_load1 1 rfl rfl rfl Try.underlying4 rfl (by rfl)) ?_
              refine L_same 205 rfl (congrArg Value.bool hB) ?_
              refine L_wv rfl rfl rfl rfl rfl rfl (V_fieldAddr rfl rfl Try.underlying47 rfl sz4l rfl) ?_
              refine L_wv rfl rfl rfl rfl rfl rfl (V_load1 0 rfl rfl rfl Try.underlying4 rfl (by rfl)) ?_
              refine L_wv rfl rfl rfl rfl rfl rfl (V_eqB rfl rfl rfl Try.underlying4 (by first | exact beq_self_eq_true _ | exact congrArg not (beq_self_eq_true _) | rfl)) ?_
              first | refine L_wv rfl rfl rfl rfl rfl rfl (V_pickT rfl rfl rfl) ?_ | refine L_wv rfl rfl rfl rfl rfl rfl (V_pickF rfl rfl rfl) ?_
              first | refine L_v rfl rfl rfl (V_pickT rfl rfl rfl) ?_ | refine L_v rfl rfl rfl (V_pickF rfl rfl rfl) ?_
              refine L_v rfl rfl rfl (V_move rfl rfl) ?_
              refine L_wv rfl rfl rfl rfl rfl rfl (V_fieldAddr rfl rfl Try.underlying45 rfl sz22l rfl) ?_
              refine L_wv rfl rfl rfl rfl rfl rfl (V_load1 2 rfl rfl rfl Try.underlying22 rfl (by rfl)) ?_
              refine L_wv rfl rfl rfl rfl rfl rfl (V_eql rfl rfl rfl (by first | exact decide_eq_true (by omega) | exact decide_eq_false (by omega) | rfl)) ?_
              refine L_wv rfl rfl rfl rfl rfl rfl (V_move rfl rfl) ?_
              refine L_wv rfl rfl rfl rfl rfl rfl (V_fieldAddr rfl rfl Try.underlying45 rfl sz3l rfl) ?_
              refine L_wv rfl rfl rfl rfl rfl rfl (V_load1 2 rfl rfl rfl Try.underlying3 rfl (by rfl)) ?_
              refine L_wv rfl rfl rfl rfl rfl rfl (V_fieldAddr rfl rfl Try.underlying47 rfl sz3l rfl) ?_
              refine L_wv rfl rfl rfl rfl rfl rfl (V_load1 0 rfl rfl rfl Try.underlying3 rfl (by rfl)) ?_
              refine L_wv rfl rfl rfl rfl rfl rfl (V_eql rfl rfl rfl (by first | exact decide_eq_true (by omega) | exact decide_eq_false (by omega) | rfl)) ?_
              first | refine L_wv rfl rfl rfl rfl rfl rfl (V_pickT rfl rfl rfl) ?_ | refine L_wv rfl rfl rfl rfl rfl rfl (V_pickF rfl rfl rfl) ?_
              first | refine L_v rfl rfl rfl (V_pickT rfl rfl rfl) ?_ | refine L_v rfl rfl rfl (V_pickF rfl rfl rfl) ?_
              refine L_v rfl rfl rfl (V_assign rfl rfl) ?_
              refine L_nil ?_
              change J _ _ _ _
              refine J_ret ?_
              change Kret _ _ _ Exit.ret _
              refine ret1 rfl rfl (RV_t rfl) ?_
              exact fun w' h => ⟨rfl, h.fr⟩
        ·
          have hb := Bool.eq_false_iff.2 hb
          by_cases hq5 : begE c d 0 ⟨#[]⟩ = 0
          ·
            obtain ⟨_, qs7, s1⟩ := beg_ok hq5
            have s2 : (begC c d 0 ⟨#[]⟩).busy = true := by rw [qs7]; rfl
            have s3 : (begC c d 0 ⟨#[]⟩).seq = c.seq + 1 := by rw [qs7]; rfl
            have s4 : (begC c d 0 ⟨#[]⟩).msg.seq = c.seq + 1 := by rw [qs7]; rfl
            have s5 : (begC c d 0 ⟨#[]⟩).msg.cmd.2.2.1 = c.seq + 1 := by rw [qs7]; rfl
            refine J_seq ?_
            refine J_seq ?_
            refine J_mid (X := Nat × Nat × Nat × Nat × Nat × Nat × Nat) (fun z9 => { env := [(5, .pointer (some ⟨z9.1, 0, none⟩)), (14, .pointer (some ⟨z9.2.1, 0, none⟩)), (15, .pointer (some ⟨z9.2.2.1, 0, none⟩)), (17, .pointer (some ⟨z9.2.2.2.1, 0, none⟩)), (18, .pointer (some ⟨z9.2.2.2.2.1, 0, none⟩)), (20, .pointer (some ⟨z9.2.2.2.2.2.1, 0, none⟩)), (21, .pointer (some ⟨z9.2.2.2.2.2.2, 0, none⟩)), (16, .int .i64 (begE c cmd0 a u)), (19, .int .i64 (retE c)), (22, .bool (hearD c x)), (23, .int .i64 (hearE c x)), (108, .bool false)], mem := [(z9.1, row 47 (ctM c m)), (z9.2.1, row 47 (ctM (begC c cmd0 a u) m50)), (z9.2.2.1, row 45 (msM ((begC c cmd0 a u).msg) m50)), (z9.2.2.2.1, row 47 (ctM (retC c) (selM (retS c) m))), (z9.2.2.2.2.1, row 45 (msM (retX c) (selM (retT c) m))), (z9.2.2.2.2.2.1, row 47 (ctM (hearC c x) (selM (hearS c x) m))), (z9.2.2.2.2.2.2, row 45 (msM (hearX c x) (selM (hearT c x) m)))], facts := [msF c.msg m es, msF x n gs] }) ?_ ?_
            ·
              refine J_region ?_
              refine L_v rfl rfl rfl (V_move rfl rfl) ?_
              refine L_v rfl rfl rfl (V_eql rfl rfl rfl (by first | exact decide_eq_true (by omega) | exact decide_eq_false (by omega) | rfl)) ?_
              refine L_v rfl rfl rfl (V_move rfl rfl) ?_
              refine L_wv rfl rfl rfl rfl rfl rfl (V_loadT 1 (vs := ctM (begC c d 0 ⟨#[]⟩) m50) rfl rfl rfl Try.underlying47 rfl sz47l (by kernel_rfl) (by kernel_rfl)) ?_
              refine L_wcallV rfl rfl rfl rfl rfl rfl rfl rfl rfl tx19l (fun w1 hw => check_m beg_mw) ?_
              refine L_wv rfl rfl rfl rfl rfl rfl (V_neq rfl rfl rfl (by first | exact decide_eq_true (by omega) | exact decide_eq_false (by omega) | rfl)) ?_
              refine L_wv rfl rfl rfl rfl rfl rfl (V_move rfl rfl) ?_
              refine L_wv rfl rfl rfl rfl rfl rfl (V_fieldAddr rfl rfl Try.underlying47 rfl sz4l rfl) ?_
              refine L_wv rfl rfl rfl rfl rfl rfl (V_load1 0 rfl rfl rfl Try.underlying4 rfl (by rfl)) ?_
              refine L_same 79 rfl (congrArg Value.bool hb) ?_
              first | refine L_wv rfl rfl rfl rfl rfl rfl (V_pickT rfl rfl rfl) ?_ | refine L_wv rfl rfl rfl rfl rfl rfl (V_pickF rfl rfl rfl) ?_
              refine L_wv rfl rfl rfl rfl rfl rfl (V_move rfl rfl) ?_
              refine L_wv rfl rfl rfl rfl rfl rfl (V_fieldAddr rfl rfl Try.underlying47 rfl sz4l rfl) ?_
              refine L_wv rfl rfl rfl rfl rfl rfl (V_load1 1 rfl rfl rfl Try.underlying4 rfl (by rfl)) ?_
              refine L_same 83 rfl (congrArg Value.bool s2) ?_
              refine L_wv rfl rfl rfl rfl rfl rfl (V_not rfl rfl rfl) ?_
              first | refine L_wv rfl rfl rfl rfl rfl rfl (V_pickT rfl rfl rfl) ?_ | refine L_wv rfl rfl rfl rfl rfl rfl (V_pickF rfl rfl rfl) ?_
              refine L_wv rfl rfl rfl rfl rfl rfl (V_move rfl rfl) ?_
              refine L_wv rfl rfl rfl rfl rfl rfl (V_fieldAddr rfl rfl Try.underlying47 rfl sz3l rfl) ?_
              refine L_wv rfl rfl rfl rfl rfl rfl (V_load1 1 rfl rfl rfl Try.underlying3 rfl (by rfl)) ?_
              refine L_wv rfl rfl rfl rfl rfl rfl (V_fieldAddr rfl rfl Try.underlying45 rfl sz3l rfl) ?_
              refine L_wv rfl rfl rfl rfl rfl rfl (V_load1 2 rfl rfl rfl Try.underlying3 rfl (by rfl)) ?_
              refine L_wv rfl rfl rfl rfl rfl rfl (V_neq rfl rfl rfl (by first | exact decide_eq_true (by omega) | exact decide_eq_false (by omega) | rfl)) ?_
              first | refine L_wv rfl rfl rfl rfl rfl rfl (V_pickT rfl rfl rfl) ?_ | refine L_wv rfl rfl rfl rfl rfl rfl (V_pickF rfl rfl rfl) ?_
              refine L_wv rfl rfl rfl rfl rfl rfl (V_move rfl rfl) ?_
              refine L_wv rfl rfl rfl rfl rfl rfl (V_fieldAddr rfl rfl Try.underlying47 rfl sz3l rfl) ?_
              refine L_wv rfl rfl rfl rfl rfl rfl (V_load1 1 rfl rfl rfl Try.underlying3 rfl (by rfl)) ?_
              refine L_wv rfl rfl rfl rfl rfl rfl (V_fieldAddr rfl rfl Try.underlying47 rfl sz3l rfl) ?_
              refine L_wv rfl rfl rfl rfl rfl rfl (V_load1 0 rfl rfl rfl Try.underlying3 rfl (by rfl)) ?_
              refine L_wv rfl rfl rfl rfl rfl rfl (V_leq rfl rfl rfl (by first | exact decide_eq_true (by omega) | exact decide_eq_false (by omega) | rfl)) ?_
              first | refine L_wv rfl rfl rfl rfl rfl rfl (V_pickT rfl rfl rfl) ?_ | refine L_wv rfl rfl rfl rfl rfl rfl (V_pickF rfl rfl rfl) ?_
              refine L_wv rfl rfl rfl rfl rfl rfl (V_move rfl rfl) ?_
              refine L_wv rfl rfl rfl rfl rfl rfl (V_fieldAddr rfl rfl Try.underlying45 rfl sz31l rfl) ?_
              refine L_wv rfl rfl rfl rfl rfl rfl (V_fieldAddr rfl rfl Try.underlying31 rfl sz3l rfl) ?_
              refine L_wv rfl rfl rfl rfl rfl rfl (V_load1 2 rfl rfl rfl Try.underlying3 rfl (by rfl)) ?_
              refine L_wv rfl rfl rfl rfl rfl rfl (V_fieldAddr rfl rfl Try.underlying47 rfl sz3l rfl) ?_
              refine L_wv rfl rfl rfl rfl rfl rfl (V_load1 1 rfl rfl rfl Try.underlying3 rfl (by rfl)) ?_
              refine L_wv rfl rfl rfl rfl rfl rfl (V_neq rfl rfl rfl (by first | exact decide_eq_true (by omega) | exact decide_eq_false (by omega) | rfl)) ?_
              first | refine L_wv rfl rfl rfl rfl rfl rfl (V_pickT rfl rfl rfl) ?_ | refine L_wv rfl rfl rfl rfl rfl rfl (V_pickF rfl rfl rfl) ?_
              first | refine L_v rfl rfl rfl (V_pickT rfl rfl rfl) ?_ | refine L_v rfl rfl rfl (V_pickF rfl rfl rfl) ?_
              refine L_nil ?_
              exact ⟨(b0, b3, b4, b5, b6, b7, b8), ⟨rfl, rfl, rfl, rfl, rfl, rfl, rfl, rfl, rfl, rfl, rfl, rfl, trivial⟩, (List.Sublist.cons_cons _ (List.Sublist.cons _ (List.Sublist.cons _ (List.Sublist.cons_cons _ (List.Sublist.cons_cons _ (List.Sublist.cons_cons _ (List.Sublist.cons_cons _ (List.Sublist.cons_cons _ (List.Sublist.cons_cons _ (List.nil_sublist _)))))))))), fun f hf => hf, rfl⟩
            rintro ⟨b0, b1, b2, b3, b4, b5, b6⟩
            change J _ _ _ _
            refine J_false rfl ?_
            by_cases hq6 : begE c cmd0 a u = 0
            ·
              obtain ⟨_, qt7, t1⟩ := beg_ok hq6
              have t2 : (begC c cmd0 a u).busy = true := by rw [qt7]; rfl
              have t3 : (begC c cmd0 a u).seq = c.seq + 1 := by rw [qt7]; rfl
              have t4 : (begC c cmd0 a u).msg.seq = c.seq + 1 := by rw [qt7]; rfl
              refine J_skip ?_
              change J _ _ _ _
              refine J_seq ?_
              refine J_seq ?_
              refine J_mid (X := Nat × Nat × Nat × Nat × Nat) (fun z9 => { env := [(5, .pointer (some ⟨z9.1, 0, none⟩)), (17, .pointer (some ⟨z9.2.1, 0, none⟩)), (18, .pointer (some ⟨z9.2.2.1, 0, none⟩)), (20, .pointer (some ⟨z9.2.2.2.1, 0, none⟩)), (21, .pointer (some ⟨z9.2.2.2.2, 0, none⟩)), (19, .int .i64 (retE c)), (22, .bool (hearD c x)), (23, .int .i64 (hearE c x)), (138, .bool false)], mem := [(z9.1, row 47 (ctM c m)), (z9.2.1, row 47 (ctM (retC c) (selM (retS c) m))), (z9.2.2.1, row 45 (msM (retX c) (selM (retT c) m))), (z9.2.2.2.1, row 47 (ctM (hearC c x) (selM (hearS c x) m))), (z9.2.2.2.2, row 45 (msM (hearX c x) (selM (hearT c x) m)))], facts := [msF c.msg m es, msF x n gs] }) ?_ ?_
              ·
                refine J_region ?_
                refine L_v rfl rfl rfl (V_move rfl rfl) ?_
                refine L_v rfl rfl rfl (V_eql rfl rfl rfl (by first | exact decide_eq_true (by omega) | exact decide_eq_false (by omega) | rfl)) ?_
                refine L_v rfl rfl rfl (V_move rfl rfl) ?_
                refine L_wv rfl rfl rfl rfl rfl rfl (V_loadT 1 (vs := ctM (begC c cmd0 a u) m50) rfl rfl rfl Try.underlying47 rfl sz47l (by kernel_rfl) (by kernel_rfl)) ?_
                refine L_wcallV rfl rfl rfl rfl rfl rfl rfl rfl rfl tx19l (fun w1 hw => check_m beg_mw) ?_
                refine L_wv rfl rfl rfl rfl rfl rfl (V_neq rfl rfl rfl (by first | exact decide_eq_true (by omega) | exact decide_eq_false (by omega) | rfl)) ?_
                refine L_wv rfl rfl rfl rfl rfl rfl (V_move rfl rfl) ?_
                refine L_wv rfl rfl rfl rfl rfl rfl (V_fieldAddr rfl rfl Try.underlying47 rfl sz4l rfl) ?_
                refine L_wv rfl rfl rfl rfl rfl rfl (V_load1 0 rfl rfl rfl Try.underlying4 rfl (by rfl)) ?_
                refine L_same 117 rfl (congrArg Value.bool hb) ?_
                first | refine L_wv rfl rfl rfl rfl rfl rfl (V_pickT rfl rfl rfl) ?_ | refine L_wv rfl rfl rfl rfl rfl rfl (V_pickF rfl rfl rfl) ?_
                refine L_wv rfl rfl rfl rfl rfl rfl (V_move rfl rfl) ?_
                refine L_wv rfl rfl rfl rfl rfl rfl (V_fieldAddr rfl rfl Try.underlying47 rfl sz4l rfl) ?_
                refine L_wv rfl rfl rfl rfl rfl rfl (V_load1 1 rfl rfl rfl Try.underlying4 rfl (by rfl)) ?_
                refine L_same 121 rfl (congrArg Value.bool t2) ?_
                refine L_wv rfl rfl rfl rfl rfl rfl (V_not rfl rfl rfl) ?_
                first | refine L_wv rfl rfl rfl rfl rfl rfl (V_pickT rfl rfl rfl) ?_ | refine L_wv rfl rfl rfl rfl rfl rfl (V_pickF rfl rfl rfl) ?_
                refine L_wv rfl rfl rfl rfl rfl rfl (V_move rfl rfl) ?_
                refine L_wv rfl rfl rfl rfl rfl rfl (V_fieldAddr rfl rfl Try.underlying47 rfl sz3l rfl) ?_
                refine L_wv rfl rfl rfl rfl rfl rfl (V_load1 1 rfl rfl rfl Try.underlying3 rfl (by rfl)) ?_
                refine L_wv rfl rfl rfl rfl rfl rfl (V_fieldAddr rfl rfl Try.underlying45 rfl sz3l rfl) ?_
                refine L_wv rfl rfl rfl rfl rfl rfl (V_load1 2 rfl rfl rfl Try.underlying3 rfl (by rfl)) ?_
                refine L_wv rfl rfl rfl rfl rfl rfl (V_neq rfl rfl rfl (by first | exact decide_eq_true (by omega) | exact decide_eq_false (by omega) | rfl)) ?_
                first | refine L_wv rfl rfl rfl rfl rfl rfl (V_pickT rfl rfl rfl) ?_ | refine L_wv rfl rfl rfl rfl rfl rfl (V_pickF rfl rfl rfl) ?_
                refine L_wv rfl rfl rfl rfl rfl rfl (V_move rfl rfl) ?_
                refine L_wv rfl rfl rfl rfl rfl rfl (V_fieldAddr rfl rfl Try.underlying47 rfl sz3l rfl) ?_
                refine L_wv rfl rfl rfl rfl rfl rfl (V_load1 1 rfl rfl rfl Try.underlying3 rfl (by rfl)) ?_
                refine L_wv rfl rfl rfl rfl rfl rfl (V_fieldAddr rfl rfl Try.underlying47 rfl sz3l rfl) ?_
                refine L_wv rfl rfl rfl rfl rfl rfl (V_load1 0 rfl rfl rfl Try.underlying3 rfl (by rfl)) ?_
                refine L_wv rfl rfl rfl rfl rfl rfl (V_leq rfl rfl rfl (by first | exact decide_eq_true (by omega) | exact decide_eq_false (by omega) | rfl)) ?_
                first | refine L_wv rfl rfl rfl rfl rfl rfl (V_pickT rfl rfl rfl) ?_ | refine L_wv rfl rfl rfl rfl rfl rfl (V_pickF rfl rfl rfl) ?_
                first | refine L_v rfl rfl rfl (V_pickT rfl rfl rfl) ?_ | refine L_v rfl rfl rfl (V_pickF rfl rfl rfl) ?_
                refine L_nil ?_
                exact ⟨(b0, b3, b4, b5, b6), ⟨rfl, rfl, rfl, rfl, rfl, rfl, rfl, rfl, rfl, trivial⟩, (List.Sublist.cons_cons _ (List.Sublist.cons _ (List.Sublist.cons _ (List.Sublist.cons_cons _ (List.Sublist.cons_cons _ (List.Sublist.cons_cons _ (List.Sublist.cons_cons _ (List.nil_sublist _)))))))), fun f hf => hf, rfl⟩
              rintro ⟨b0, b1, b2, b3, b4⟩
              change J _ _ _ _
              refine J_false rfl ?_
              obtain ⟨r1, r2, r3, r4, r5⟩ := ret_right hr
              refine J_skip ?_
              change J _ _ _ _
              refine J_seq ?_
              refine J_seq ?_
              refine J_mid (X := Nat × Nat × Nat) (fun z9 => { env := [(5, .pointer (some ⟨z9.1, 0, none⟩)), (20, .pointer (some ⟨z9.2.1, 0, none⟩)), (21, .pointer (some ⟨z9.2.2, 0, none⟩)), (22, .bool (hearD c x)), (23, .int .i64 (hearE c x)), (170, .bool false)], mem := [(z9.1, row 47 (ctM c m)), (z9.2.1, row 47 (ctM (hearC c x) (selM (hearS c x) m))), (z9.2.2, row 45 (msM (hearX c x) (selM (hearT c x) m)))], facts := [msF c.msg m es, msF x n gs] }) ?_ ?_
              ·
                refine J_region ?_
                refine L_v rfl rfl rfl (V_move rfl rfl) ?_
                refine L_v rfl rfl rfl (V_neq rfl rfl rfl (by first | exact decide_eq_true (by omega) | exact decide_eq_false (by omega) | rfl)) ?_
                refine L_v rfl rfl rfl (V_move rfl rfl) ?_
                refine L_wv rfl rfl rfl rfl rfl rfl (V_loadT 1 (vs := ctM (retC c) (selM (retS c) m)) rfl rfl rfl Try.underlying47 rfl sz47l (by kernel_rfl) (by kernel_rfl)) ?_
                refine L_wcallV rfl rfl rfl rfl rfl rfl rfl rfl rfl tx19l (fun w1 hw => check_m (ret_mw (⟨hx, hw.fa 0 rfl, z1⟩ : Mw w1 c.msg m es))) ?_
                refine L_wv rfl rfl rfl rfl rfl rfl (V_neq rfl rfl rfl (by first | exact decide_eq_true (by omega) | exact decide_eq_false (by omega) | rfl)) ?_
                first | refine L_v rfl rfl rfl (V_pickT rfl rfl rfl) ?_ | refine L_v rfl rfl rfl (V_pickF rfl rfl rfl) ?_
                refine L_v rfl rfl rfl (V_move rfl rfl) ?_
                refine L_wv rfl rfl rfl rfl rfl rfl (V_fieldAddr rfl rfl Try.underlying47 rfl sz3l rfl) ?_
                refine L_wv rfl rfl rfl rfl rfl rfl (V_load1 1 rfl rfl rfl Try.underlying3 rfl (by rfl)) ?_
                refine L_wv rfl rfl rfl rfl rfl rfl (V_fieldAddr rfl rfl Try.underlying47 rfl sz3l rfl) ?_
                refine L_wv rfl rfl rfl rfl rfl rfl (V_load1 0 rfl rfl rfl Try.underlying3 rfl (by rfl)) ?_
                refine L_wv rfl rfl rfl rfl rfl rfl (V_neq rfl rfl rfl (by first | exact decide_eq_true (by omega) | exact decide_eq_false (by omega) | rfl)) ?_
                first | refine L_v rfl rfl rfl (V_pickT rfl rfl rfl) ?_ | refine L_v rfl rfl rfl (V_pickF rfl rfl rfl) ?_
                refine L_v rfl rfl rfl (V_move rfl rfl) ?_
                refine L_wv rfl rfl rfl rfl rfl rfl (V_fieldAddr rfl rfl Try.underlying47 rfl sz4l rfl) ?_
                refine L_wv rfl rfl rfl rfl rfl rfl (V_load1 1 rfl rfl rfl Try.underlying4 rfl (by rfl)) ?_
                refine L_same 155 rfl (congrArg Value.bool r3) ?_
                refine L_wv rfl rfl rfl rfl rfl rfl (V_fieldAddr rfl rfl Try.underlying47 rfl sz4l rfl) ?_
                refine L_wv rfl rfl rfl rfl rfl rfl (V_load1 0 rfl rfl rfl Try.underlying4 rfl (by rfl)) ?_
                refine L_wv rfl rfl rfl rfl rfl rfl (V_neB rfl rfl rfl Try.underlying4 (by first | exact beq_self_eq_true _ | exact congrArg not (beq_self_eq_true _) | rfl)) ?_
                first | refine L_v rfl rfl rfl (V_pickT rfl rfl rfl) ?_ | refine L_v rfl rfl rfl (V_pickF rfl rfl rfl) ?_
                refine L_v rfl rfl rfl (V_move rfl rfl) ?_
                refine L_wv rfl rfl rfl rfl rfl rfl (V_fieldAddr rfl rfl Try.underlying47 rfl sz4l rfl) ?_
                refine L_wv rfl rfl rfl rfl rfl rfl (V_load1 0 rfl rfl rfl Try.underlying4 rfl (by rfl)) ?_
                refine L_same 162 rfl (congrArg Value.bool hb) ?_
                refine L_wv rfl rfl rfl rfl rfl rfl (V_move rfl rfl) ?_
                refine L_skip rfl rfl rfl rfl rfl rfl rfl ?_
                refine L_skip rfl rfl rfl rfl rfl rfl rfl ?_
                refine L_skip rfl rfl rfl rfl rfl rfl rfl ?_
                refine L_skip rfl rfl rfl rfl rfl rfl rfl ?_
                refine L_skip rfl rfl rfl rfl rfl rfl rfl ?_
                first | refine L_wv rfl rfl rfl rfl rfl rfl (V_pickT rfl rfl rfl) ?_ | refine L_wv rfl rfl rfl rfl rfl rfl (V_pickF rfl rfl rfl) ?_
                first | refine L_v rfl rfl rfl (V_pickT rfl rfl rfl) ?_ | refine L_v rfl rfl rfl (V_pickF rfl rfl rfl) ?_
                refine L_nil ?_
                exact ⟨(b0, b3, b4), ⟨rfl, rfl, rfl, rfl, rfl, rfl, trivial⟩, (List.Sublist.cons_cons _ (List.Sublist.cons _ (List.Sublist.cons _ (List.Sublist.cons_cons _ (List.Sublist.cons_cons _ (List.nil_sublist _)))))), fun f hf => hf, rfl⟩
              rintro ⟨b0, b1, b2⟩
              change J _ _ _ _
              refine J_false rfl ?_
              obtain ⟨w1, w2, w3, w4, w5, w6, w7⟩ := hear_right (x := x) hr
              obtain ⟨hD, hkd⟩ := w7 hb
              have hB := w5 hD
              refine J_skip ?_
              change J _ _ _ _
              refine J_seq ?_
              refine J_region ?_
              refine L_callV rfl rfl rfl rfl rfl rfl tx10l (fun w1 hw => calls_t w1) ?_
              refine L_v rfl rfl rfl (V_move rfl rfl) ?_
              refine L_wv rfl rfl rfl rfl rfl rfl (V_move rfl rfl) ?_
              refine L_wv rfl rfl rfl rfl rfl rfl (V_eql rfl rfl rfl (by first | exact decide_eq_true (by omega) | exact decide_eq_false (by omega) | rfl)) ?_
              first | refine L_v rfl rfl rfl (V_pickT rfl rfl rfl) ?_ | refine L_v rfl rfl rfl (V_pickF rfl rfl rfl) ?_
              refine L_v rfl rfl rfl (V_move rfl rfl) ?_
              refine L_wv rfl rfl rfl rfl rfl rfl (V_loadT 1 (vs := ctM (hearC c x) (selM (hearS c x) m)) rfl rfl rfl Try.underlying47 rfl sz47l (by kernel_rfl) (by kernel_rfl)) ?_
              refine L_wcallV rfl rfl rfl rfl rfl rfl rfl rfl rfl tx19l (fun w1 hw => check_m (hear_mw (⟨hx, hw.fa 0 rfl, z1⟩ : Mw w1 c.msg m es))) ?_
              refine L_wv rfl rfl rfl rfl rfl rfl (V_eql rfl rfl rfl (by first | exact decide_eq_true (by omega) | exact decide_eq_false (by omega) | rfl)) ?_
              first | refine L_v rfl rfl rfl (V_pickT rfl rfl rfl) ?_ | refine L_v rfl rfl rfl (V_pickF rfl rfl rfl) ?_
              refine L_v rfl rfl rfl (V_move rfl rfl) ?_
              refine L_wv rfl rfl rfl rfl rfl rfl (V_fieldAddr rfl rfl Try.underlying47 rfl sz3l rfl) ?_
              refine L_wv rfl rfl rfl rfl rfl rfl (V_load1 1 rfl rfl rfl Try.underlying3 rfl (by rfl)) ?_
              refine L_wv rfl rfl rfl rfl rfl rfl (V_fieldAddr rfl rfl Try.underlying47 rfl sz3l rfl) ?_
              refine L_wv rfl rfl rfl rfl rfl rfl (V_load1 0 rfl rfl rfl Try.underlying3 rfl (by rfl)) ?_
              refine L_wv rfl rfl rfl rfl rfl rfl (V_eql rfl rfl rfl (by first | exact decide_eq_true (by omega) | exact decide_eq_false (by omega) | rfl)) ?_
              first | refine L_v rfl rfl rfl (V_pickT rfl rfl rfl) ?_ | refine L_v rfl rfl rfl (V_pickF rfl rfl rfl) ?_
              refine L_v rfl rfl rfl (V_move rfl rfl) ?_
              refine L_wv rfl rfl rfl rfl rfl rfl (V_move rfl rfl) ?_
              refine L_same 189 rfl (congrArg Value.bool hD) ?_
              refine L_wv rfl rfl rfl rfl rfl rfl (V_not rfl rfl rfl) ?_
              refine L_wv rfl rfl rfl rfl rfl rfl (V_move rfl rfl) ?_
              refine L_skip rfl rfl rfl rfl rfl rfl rfl ?_
              refine L_skip rfl rfl rfl rfl rfl rfl rfl ?_
              refine L_skip rfl rfl rfl rfl rfl rfl rfl ?_
              refine L_skip rfl rfl rfl rfl rfl rfl rfl ?_
              refine L_skip rfl rfl rfl rfl rfl rfl rfl ?_
              refine L_skip rfl rfl rfl rfl rfl rfl rfl ?_
              refine L_skip rfl rfl rfl rfl rfl rfl rfl ?_
              first | refine L_wv rfl rfl rfl rfl rfl rfl (V_pickT rfl rfl rfl) ?_ | refine L_wv rfl rfl rfl rfl rfl rfl (V_pickF rfl rfl rfl) ?_
              first | refine L_v rfl rfl rfl (V_pickT rfl rfl rfl) ?_ | refine L_v rfl rfl rfl (V_pickF rfl rfl rfl) ?_
              refine L_v rfl rfl rfl (V_move rfl rfl) ?_
              refine L_wv rfl rfl rfl rfl rfl rfl (V_move rfl rfl) ?_
              refine L_same 202 rfl (congrArg Value.bool hD) ?_
              refine L_wv rfl rfl rfl rfl rfl rfl (V_move rfl rfl) ?_
              refine L_wv rfl rfl rfl rfl rfl rfl (V_fieldAddr rfl rfl Try.underlying47 rfl sz4l rfl) ?_
              refine L_wv rfl rfl rfl rfl rfl rfl (V_load1 1 rfl rfl rfl Try.underlying4 rfl (by rfl)) ?_
              refine L_same 205 rfl (congrArg Value.bool hB) ?_
              refine L_wv rfl rfl rfl rfl rfl rfl (V_fieldAddr rfl rfl Try.underlying47 rfl sz4l rfl) ?_
              refine L_wv rfl rfl rfl rfl rfl rfl (V_load1 0 rfl rfl rfl Try.underlying4 rfl (by rfl)) ?_
              refine L_wv rfl rfl rfl rfl rfl rfl (V_eqB rfl rfl rfl Try.underlying4 (by first | exact beq_self_eq_true _ | exact congrArg not (beq_self_eq_true _) | rfl)) ?_
              first | refine L_wv rfl rfl rfl rfl rfl rfl (V_pickT rfl rfl rfl) ?_ | refine L_wv rfl rfl rfl rfl rfl rfl (V_pickF rfl rfl rfl) ?_
              first | refine L_v rfl rfl rfl (V_pickT rfl rfl rfl) ?_ | refine L_v rfl rfl rfl (V_pickF rfl rfl rfl) ?_
              refine L_v rfl rfl rfl (V_move rfl rfl) ?_
              refine L_wv rfl rfl rfl rfl rfl rfl (V_fieldAddr rfl rfl Try.underlying45 rfl sz22l rfl) ?_
              refine L_wv rfl rfl rfl rfl rfl rfl (V_load1 2 rfl rfl rfl Try.underlying22 rfl (by rfl)) ?_
              refine L_wv rfl rfl rfl rfl rfl rfl (V_eql rfl rfl rfl (by first | exact decide_eq_true (by omega) | exact decide_eq_false (by omega) | rfl)) ?_
              refine L_wv rfl rfl rfl rfl rfl rfl (V_move rfl rfl) ?_
              refine L_skip rfl rfl rfl rfl rfl rfl rfl ?_
              refine L_skip rfl rfl rfl rfl rfl rfl rfl ?_
              refine L_skip rfl rfl rfl rfl rfl rfl rfl ?_
              refine L_skip rfl rfl rfl rfl rfl rfl rfl ?_
              refine L_skip rfl rfl rfl rfl rfl rfl rfl ?_
              first | refine L_wv rfl rfl rfl rfl rfl rfl (V_pickT rfl rfl rfl) ?_ | refine L_wv rfl rfl rfl rfl rfl rfl (V_pickF rfl rfl rfl) ?_
              first | refine L_v rfl rfl rfl (V_pickT rfl rfl rfl) ?_ | refine L_v rfl rfl rfl (V_pickF rfl rfl rfl) ?_
              refine L_v rfl rfl rfl (V_assign rfl rfl) ?_
              refine L_nil ?_
              change J _ _ _ _
              refine J_ret ?_
              change Kret _ _ _ Exit.ret _
              refine ret1 rfl rfl (RV_t rfl) ?_
              exact fun w' h => ⟨rfl, h.fr⟩
            ·
              refine J_skip ?_
              change J _ _ _ _
              refine J_seq ?_
              refine J_seq ?_
              refine J_mid (X := Nat × Nat × Nat × Nat × Nat) (fun z9 => { env := [(5, .pointer (some ⟨z9.1, 0, none⟩)), (17, .pointer (some ⟨z9.2.1, 0, none⟩)), (18, .pointer (some ⟨z9.2.2.1, 0, none⟩)), (20, .pointer (some ⟨z9.2.2.2.1, 0, none⟩)), (21, .pointer (some ⟨z9.2.2.2.2, 0, none⟩)), (19, .int .i64 (retE c)), (22, .bool (hearD c x)), (23, .int .i64 (hearE c x)), (138, .bool false)], mem := [(z9.1, row 47 (ctM c m)), (z9.2.1, row 47 (ctM (retC c) (selM (retS c) m))), (z9.2.2.1, row 45 (msM (retX c) (selM (retT c) m))), (z9.2.2.2.1, row 47 (ctM (hearC c x) (selM (hearS c x) m))), (z9.2.2.2.2, row 45 (msM (hearX c x) (selM (hearT c x) m)))], facts := [msF c.msg m es, msF x n gs] }) ?_ ?_
              ·
                refine J_region ?_
                refine L_v rfl rfl rfl (V_move rfl rfl) ?_
                refine L_v rfl rfl rfl (V_eql rfl rfl rfl (by first | exact decide_eq_true (by omega) | exact decide_eq_false (by omega) | rfl)) ?_
                refine L_v rfl rfl rfl (V_move rfl rfl) ?_
                refine L_skip rfl rfl rfl rfl rfl rfl rfl ?_
                refine L_skip rfl rfl rfl rfl rfl rfl rfl ?_
                refine L_skip rfl rfl rfl rfl rfl rfl rfl ?_
                refine L_skip rfl rfl rfl rfl rfl rfl rfl ?_
                refine L_skip rfl rfl rfl rfl rfl rfl rfl ?_
                refine L_skip rfl rfl rfl rfl rfl rfl rfl ?_
                refine L_skip rfl rfl rfl rfl rfl rfl rfl ?_
                refine L_skip rfl rfl rfl rfl rfl rfl rfl ?_
                refine L_skip rfl rfl rfl rfl rfl rfl rfl ?_
                refine L_skip rfl rfl rfl rfl rfl rfl rfl ?_
                refine L_skip rfl rfl rfl rfl rfl rfl rfl ?_
                refine L_skip rfl rfl rfl rfl rfl rfl rfl ?_
                refine L_skip rfl rfl rfl rfl rfl rfl rfl ?_
                refine L_skip rfl rfl rfl rfl rfl rfl rfl ?_
                refine L_skip rfl rfl rfl rfl rfl rfl rfl ?_
                refine L_skip rfl rfl rfl rfl rfl rfl rfl ?_
                refine L_skip rfl rfl rfl rfl rfl rfl rfl ?_
                refine L_skip rfl rfl rfl rfl rfl rfl rfl ?_
                refine L_skip rfl rfl rfl rfl rfl rfl rfl ?_
                refine L_skip rfl rfl rfl rfl rfl rfl rfl ?_
                refine L_skip rfl rfl rfl rfl rfl rfl rfl ?_
                refine L_skip rfl rfl rfl rfl rfl rfl rfl ?_
                refine L_skip rfl rfl rfl rfl rfl rfl rfl ?_
                refine L_skip rfl rfl rfl rfl rfl rfl rfl ?_
                refine L_skip rfl rfl rfl rfl rfl rfl rfl ?_
                refine L_skip rfl rfl rfl rfl rfl rfl rfl ?_
                first | refine L_v rfl rfl rfl (V_pickT rfl rfl rfl) ?_ | refine L_v rfl rfl rfl (V_pickF rfl rfl rfl) ?_
                refine L_nil ?_
                exact ⟨(b0, b3, b4, b5, b6), ⟨rfl, rfl, rfl, rfl, rfl, rfl, rfl, rfl, rfl, trivial⟩, (List.Sublist.cons_cons _ (List.Sublist.cons _ (List.Sublist.cons _ (List.Sublist.cons_cons _ (List.Sublist.cons_cons _ (List.Sublist.cons_cons _ (List.Sublist.cons_cons _ (List.nil_sublist _)))))))), fun f hf => hf, rfl⟩
              rintro ⟨b0, b1, b2, b3, b4⟩
              change J _ _ _ _
              refine J_false rfl ?_
              obtain ⟨r1, r2, r3, r4, r5⟩ := ret_right hr
              refine J_skip ?_
              change J _ _ _ _
              refine J_seq ?_
              refine J_seq ?_
              refine J_mid (X := Nat × Nat × Nat) (fun z9 => { env := [(5, .pointer (some ⟨z9.1, 0, none⟩)), (20, .pointer (some ⟨z9.2.1, 0, none⟩)), (21, .pointer (some ⟨z9.2.2, 0, none⟩)), (22, .bool (hearD c x)), (23, .int .i64 (hearE c x)), (170, .bool false)], mem := [(z9.1, row 47 (ctM c m)), (z9.2.1, row 47 (ctM (hearC c x) (selM (hearS c x) m))), (z9.2.2, row 45 (msM (hearX c x) (selM (hearT c x) m)))], facts := [msF c.msg m es, msF x n gs] }) ?_ ?_
              ·
                refine J_region ?_
                refine L_v rfl rfl rfl (V_move rfl rfl) ?_
                refine L_v rfl rfl rfl (V_neq rfl rfl rfl (by first | exact decide_eq_true (by omega) | exact decide_eq_false (by omega) | rfl)) ?_
                refine L_v rfl rfl rfl (V_move rfl rfl) ?_
                refine L_wv rfl rfl rfl rfl rfl rfl (V_loadT 1 (vs := ctM (retC c) (selM (retS c) m)) rfl rfl rfl Try.underlying47 rfl sz47l (by kernel_rfl) (by kernel_rfl)) ?_
                refine L_wcallV rfl rfl rfl rfl rfl rfl rfl rfl rfl tx19l (fun w1 hw => check_m (ret_mw (⟨hx, hw.fa 0 rfl, z1⟩ : Mw w1 c.msg m es))) ?_
                refine L_wv rfl rfl rfl rfl rfl rfl (V_neq rfl rfl rfl (by first | exact decide_eq_true (by omega) | exact decide_eq_false (by omega) | rfl)) ?_
                first | refine L_v rfl rfl rfl (V_pickT rfl rfl rfl) ?_ | refine L_v rfl rfl rfl (V_pickF rfl rfl rfl) ?_
                refine L_v rfl rfl rfl (V_move rfl rfl) ?_
                refine L_wv rfl rfl rfl rfl rfl rfl (V_fieldAddr rfl rfl Try.underlying47 rfl sz3l rfl) ?_
                refine L_wv rfl rfl rfl rfl rfl rfl (V_load1 1 rfl rfl rfl Try.underlying3 rfl (by rfl)) ?_
                refine L_wv rfl rfl rfl rfl rfl rfl (V_fieldAddr rfl rfl Try.underlying47 rfl sz3l rfl) ?_
                refine L_wv rfl rfl rfl rfl rfl rfl (V_load1 0 rfl rfl rfl Try.underlying3 rfl (by rfl)) ?_
                refine L_wv rfl rfl rfl rfl rfl rfl (V_neq rfl rfl rfl (by first | exact decide_eq_true (by omega) | exact decide_eq_false (by omega) | rfl)) ?_
                first | refine L_v rfl rfl rfl (V_pickT rfl rfl rfl) ?_ | refine L_v rfl rfl rfl (V_pickF rfl rfl rfl) ?_
                refine L_v rfl rfl rfl (V_move rfl rfl) ?_
                refine L_wv rfl rfl rfl rfl rfl rfl (V_fieldAddr rfl rfl Try.underlying47 rfl sz4l rfl) ?_
                refine L_wv rfl rfl rfl rfl rfl rfl (V_load1 1 rfl rfl rfl Try.underlying4 rfl (by rfl)) ?_
                refine L_same 155 rfl (congrArg Value.bool r3) ?_
                refine L_wv rfl rfl rfl rfl rfl rfl (V_fieldAddr rfl rfl Try.underlying47 rfl sz4l rfl) ?_
                refine L_wv rfl rfl rfl rfl rfl rfl (V_load1 0 rfl rfl rfl Try.underlying4 rfl (by rfl)) ?_
                refine L_wv rfl rfl rfl rfl rfl rfl (V_neB rfl rfl rfl Try.underlying4 (by first | exact beq_self_eq_true _ | exact congrArg not (beq_self_eq_true _) | rfl)) ?_
                first | refine L_v rfl rfl rfl (V_pickT rfl rfl rfl) ?_ | refine L_v rfl rfl rfl (V_pickF rfl rfl rfl) ?_
                refine L_v rfl rfl rfl (V_move rfl rfl) ?_
                refine L_wv rfl rfl rfl rfl rfl rfl (V_fieldAddr rfl rfl Try.underlying47 rfl sz4l rfl) ?_
                refine L_wv rfl rfl rfl rfl rfl rfl (V_load1 0 rfl rfl rfl Try.underlying4 rfl (by rfl)) ?_
                refine L_same 162 rfl (congrArg Value.bool hb) ?_
                refine L_wv rfl rfl rfl rfl rfl rfl (V_move rfl rfl) ?_
                refine L_skip rfl rfl rfl rfl rfl rfl rfl ?_
                refine L_skip rfl rfl rfl rfl rfl rfl rfl ?_
                refine L_skip rfl rfl rfl rfl rfl rfl rfl ?_
                refine L_skip rfl rfl rfl rfl rfl rfl rfl ?_
                refine L_skip rfl rfl rfl rfl rfl rfl rfl ?_
                first | refine L_wv rfl rfl rfl rfl rfl rfl (V_pickT rfl rfl rfl) ?_ | refine L_wv rfl rfl rfl rfl rfl rfl (V_pickF rfl rfl rfl) ?_
                first | refine L_v rfl rfl rfl (V_pickT rfl rfl rfl) ?_ | refine L_v rfl rfl rfl (V_pickF rfl rfl rfl) ?_
                refine L_nil ?_
                exact ⟨(b0, b3, b4), ⟨rfl, rfl, rfl, rfl, rfl, rfl, trivial⟩, (List.Sublist.cons_cons _ (List.Sublist.cons _ (List.Sublist.cons _ (List.Sublist.cons_cons _ (List.Sublist.cons_cons _ (List.nil_sublist _)))))), fun f hf => hf, rfl⟩
              rintro ⟨b0, b1, b2⟩
              change J _ _ _ _
              refine J_false rfl ?_
              obtain ⟨w1, w2, w3, w4, w5, w6, w7⟩ := hear_right (x := x) hr
              obtain ⟨hD, hkd⟩ := w7 hb
              have hB := w5 hD
              refine J_skip ?_
              change J _ _ _ _
              refine J_seq ?_
              refine J_region ?_
              refine L_callV rfl rfl rfl rfl rfl rfl tx10l (fun w1 hw => calls_t w1) ?_
              refine L_v rfl rfl rfl (V_move rfl rfl) ?_
              refine L_wv rfl rfl rfl rfl rfl rfl (V_move rfl rfl) ?_
              refine L_wv rfl rfl rfl rfl rfl rfl (V_eql rfl rfl rfl (by first | exact decide_eq_true (by omega) | exact decide_eq_false (by omega) | rfl)) ?_
              first | refine L_v rfl rfl rfl (V_pickT rfl rfl rfl) ?_ | refine L_v rfl rfl rfl (V_pickF rfl rfl rfl) ?_
              refine L_v rfl rfl rfl (V_move rfl rfl) ?_
              refine L_wv rfl rfl rfl rfl rfl rfl (V_loadT 1 (vs := ctM (hearC c x) (selM (hearS c x) m)) rfl rfl rfl Try.underlying47 rfl sz47l (by kernel_rfl) (by kernel_rfl)) ?_
              refine L_wcallV rfl rfl rfl rfl rfl rfl rfl rfl rfl tx19l (fun w1 hw => check_m (hear_mw (⟨hx, hw.fa 0 rfl, z1⟩ : Mw w1 c.msg m es))) ?_
              refine L_wv rfl rfl rfl rfl rfl rfl (V_eql rfl rfl rfl (by first | exact decide_eq_true (by omega) | exact decide_eq_false (by omega) | rfl)) ?_
              first | refine L_v rfl rfl rfl (V_pickT rfl rfl rfl) ?_ | refine L_v rfl rfl rfl (V_pickF rfl rfl rfl) ?_
              refine L_v rfl rfl rfl (V_move rfl rfl) ?_
              refine L_wv rfl rfl rfl rfl rfl rfl (V_fieldAddr rfl rfl Try.underlying47 rfl sz3l rfl) ?_
              refine L_wv rfl rfl rfl rfl rfl rfl (V_load1 1 rfl rfl rfl Try.underlying3 rfl (by rfl)) ?_
              refine L_wv rfl rfl rfl rfl rfl rfl (V_fieldAddr rfl rfl Try.underlying47 rfl sz3l rfl) ?_
              refine L_wv rfl rfl rfl rfl rfl rfl (V_load1 0 rfl rfl rfl Try.underlying3 rfl (by rfl)) ?_
              refine L_wv rfl rfl rfl rfl rfl rfl (V_eql rfl rfl rfl (by first | exact decide_eq_true (by omega) | exact decide_eq_false (by omega) | rfl)) ?_
              first | refine L_v rfl rfl rfl (V_pickT rfl rfl rfl) ?_ | refine L_v rfl rfl rfl (V_pickF rfl rfl rfl) ?_
              refine L_v rfl rfl rfl (V_move rfl rfl) ?_
              refine L_wv rfl rfl rfl rfl rfl rfl (V_move rfl rfl) ?_
              refine L_same 189 rfl (congrArg Value.bool hD) ?_
              refine L_wv rfl rfl rfl rfl rfl rfl (V_not rfl rfl rfl) ?_
              refine L_wv rfl rfl rfl rfl rfl rfl (V_move rfl rfl) ?_
              refine L_skip rfl rfl rfl rfl rfl rfl rfl ?_
              refine L_skip rfl rfl rfl rfl rfl rfl rfl ?_
              refine L_skip rfl rfl rfl rfl rfl rfl rfl ?_
              refine L_skip rfl rfl rfl rfl rfl rfl rfl ?_
              refine L_skip rfl rfl rfl rfl rfl rfl rfl ?_
              refine L_skip rfl rfl rfl rfl rfl rfl rfl ?_
              refine L_skip rfl rfl rfl rfl rfl rfl rfl ?_
              first | refine L_wv rfl rfl rfl rfl rfl rfl (V_pickT rfl rfl rfl) ?_ | refine L_wv rfl rfl rfl rfl rfl rfl (V_pickF rfl rfl rfl) ?_
              first | refine L_v rfl rfl rfl (V_pickT rfl rfl rfl) ?_ | refine L_v rfl rfl rfl (V_pickF rfl rfl rfl) ?_
              refine L_v rfl rfl rfl (V_move rfl rfl) ?_
              refine L_wv rfl rfl rfl rfl rfl rfl (V_move rfl rfl) ?_
              refine L_same 202 rfl (congrArg Value.bool hD) ?_
              refine L_wv rfl rfl rfl rfl rfl rfl (V_move rfl rfl) ?_
              refine L_wv rfl rfl rfl rfl rfl rfl (V_fieldAddr rfl rfl Try.underlying47 rfl sz4l rfl) ?_
              refine L_wv rfl rfl rfl rfl rfl rfl (V_load1 1 rfl rfl rfl Try.underlying4 rfl (by rfl)) ?_
              refine L_same 205 rfl (congrArg Value.bool hB) ?_
              refine L_wv rfl rfl rfl rfl rfl rfl (V_fieldAddr rfl rfl Try.underlying47 rfl sz4l rfl) ?_
              refine L_wv rfl rfl rfl rfl rfl rfl (V_load1 0 rfl rfl rfl Try.underlying4 rfl (by rfl)) ?_
              refine L_wv rfl rfl rfl rfl rfl rfl (V_eqB rfl rfl rfl Try.underlying4 (by first | exact beq_self_eq_true _ | exact congrArg not (beq_self_eq_true _) | rfl)) ?_
              first | refine L_wv rfl rfl rfl rfl rfl rfl (V_pickT rfl rfl rfl) ?_ | refine L_wv rfl rfl rfl rfl rfl rfl (V_pickF rfl rfl rfl) ?_
              first | refine L_v rfl rfl rfl (V_pickT rfl rfl rfl) ?_ | refine L_v rfl rfl rfl (V_pickF rfl rfl rfl) ?_
              refine L_v rfl rfl rfl (V_move rfl rfl) ?_
              refine L_wv rfl rfl rfl rfl rfl rfl (V_fieldAddr rfl rfl Try.underlying45 rfl sz22l rfl) ?_
              refine L_wv rfl rfl rfl rfl rfl rfl (V_load1 2 rfl rfl rfl Try.underlying22 rfl (by rfl)) ?_
              refine L_wv rfl rfl rfl rfl rfl rfl (V_eql rfl rfl rfl (by first | exact decide_eq_true (by omega) | exact decide_eq_false (by omega) | rfl)) ?_
              refine L_wv rfl rfl rfl rfl rfl rfl (V_move rfl rfl) ?_
              refine L_skip rfl rfl rfl rfl rfl rfl rfl ?_
              refine L_skip rfl rfl rfl rfl rfl rfl rfl ?_
              refine L_skip rfl rfl rfl rfl rfl rfl rfl ?_
              refine L_skip rfl rfl rfl rfl rfl rfl rfl ?_
              refine L_skip rfl rfl rfl rfl rfl rfl rfl ?_
              first | refine L_wv rfl rfl rfl rfl rfl rfl (V_pickT rfl rfl rfl) ?_ | refine L_wv rfl rfl rfl rfl rfl rfl (V_pickF rfl rfl rfl) ?_
              first | refine L_v rfl rfl rfl (V_pickT rfl rfl rfl) ?_ | refine L_v rfl rfl rfl (V_pickF rfl rfl rfl) ?_
              refine L_v rfl rfl rfl (V_assign rfl rfl) ?_
              refine L_nil ?_
              change J _ _ _ _
              refine J_ret ?_
              change Kret _ _ _ Exit.ret _
              refine ret1 rfl rfl (RV_t rfl) ?_
              exact fun w' h => ⟨rfl, h.fr⟩
          ·
            refine J_seq ?_
            refine J_seq ?_
            refine J_mid (X := Nat × Nat × Nat × Nat × Nat × Nat × Nat) (fun z9 => { env := [(5, .pointer (some ⟨z9.1, 0, none⟩)), (14, .pointer (some ⟨z9.2.1, 0, none⟩)), (15, .pointer (some ⟨z9.2.2.1, 0, none⟩)), (17, .pointer (some ⟨z9.2.2.2.1, 0, none⟩)), (18, .pointer (some ⟨z9.2.2.2.2.1, 0, none⟩)), (20, .pointer (some ⟨z9.2.2.2.2.2.1, 0, none⟩)), (21, .pointer (some ⟨z9.2.2.2.2.2.2, 0, none⟩)), (16, .int .i64 (begE c cmd0 a u)), (19, .int .i64 (retE c)), (22, .bool (hearD c x)), (23, .int .i64 (hearE c x)), (108, .bool false)], mem := [(z9.1, row 47 (ctM c m)), (z9.2.1, row 47 (ctM (begC c cmd0 a u) m50)), (z9.2.2.1, row 45 (msM ((begC c cmd0 a u).msg) m50)), (z9.2.2.2.1, row 47 (ctM (retC c) (selM (retS c) m))), (z9.2.2.2.2.1, row 45 (msM (retX c) (selM (retT c) m))), (z9.2.2.2.2.2.1, row 47 (ctM (hearC c x) (selM (hearS c x) m))), (z9.2.2.2.2.2.2, row 45 (msM (hearX c x) (selM (hearT c x) m)))], facts := [msF c.msg m es, msF x n gs] }) ?_ ?_
            ·
              refine J_region ?_
              refine L_v rfl rfl rfl (V_move rfl rfl) ?_
              refine L_v rfl rfl rfl (V_eql rfl rfl rfl (by first | exact decide_eq_true (by omega) | exact decide_eq_false (by omega) | rfl)) ?_
              refine L_v rfl rfl rfl (V_move rfl rfl) ?_
              refine L_skip rfl rfl rfl rfl rfl rfl rfl ?_
              refine L_skip rfl rfl rfl rfl rfl rfl rfl ?_
              refine L_skip rfl rfl rfl rfl rfl rfl rfl ?_
              refine L_skip rfl rfl rfl rfl rfl rfl rfl ?_
              refine L_skip rfl rfl rfl rfl rfl rfl rfl ?_
              refine L_skip rfl rfl rfl rfl rfl rfl rfl ?_
              refine L_skip rfl rfl rfl rfl rfl rfl rfl ?_
              refine L_skip rfl rfl rfl rfl rfl rfl rfl ?_
              refine L_skip rfl rfl rfl rfl rfl rfl rfl ?_
              refine L_skip rfl rfl rfl rfl rfl rfl rfl ?_
              refine L_skip rfl rfl rfl rfl rfl rfl rfl ?_
              refine L_skip rfl rfl rfl rfl rfl rfl rfl ?_
              refine L_skip rfl rfl rfl rfl rfl rfl rfl ?_
              refine L_skip rfl rfl rfl rfl rfl rfl rfl ?_
              refine L_skip rfl rfl rfl rfl rfl rfl rfl ?_
              refine L_skip rfl rfl rfl rfl rfl rfl rfl ?_
              refine L_skip rfl rfl rfl rfl rfl rfl rfl ?_
              refine L_skip rfl rfl rfl rfl rfl rfl rfl ?_
              refine L_skip rfl rfl rfl rfl rfl rfl rfl ?_
              refine L_skip rfl rfl rfl rfl rfl rfl rfl ?_
              refine L_skip rfl rfl rfl rfl rfl rfl rfl ?_
              refine L_skip rfl rfl rfl rfl rfl rfl rfl ?_
              refine L_skip rfl rfl rfl rfl rfl rfl rfl ?_
              refine L_skip rfl rfl rfl rfl rfl rfl rfl ?_
              refine L_skip rfl rfl rfl rfl rfl rfl rfl ?_
              refine L_skip rfl rfl rfl rfl rfl rfl rfl ?_
              refine L_skip rfl rfl rfl rfl rfl rfl rfl ?_
              refine L_skip rfl rfl rfl rfl rfl rfl rfl ?_
              refine L_skip rfl rfl rfl rfl rfl rfl rfl ?_
              refine L_skip rfl rfl rfl rfl rfl rfl rfl ?_
              refine L_skip rfl rfl rfl rfl rfl rfl rfl ?_
              refine L_skip rfl rfl rfl rfl rfl rfl rfl ?_
              refine L_skip rfl rfl rfl rfl rfl rfl rfl ?_
              refine L_skip rfl rfl rfl rfl rfl rfl rfl ?_
              first | refine L_v rfl rfl rfl (V_pickT rfl rfl rfl) ?_ | refine L_v rfl rfl rfl (V_pickF rfl rfl rfl) ?_
              refine L_nil ?_
              exact ⟨(b0, b3, b4, b5, b6, b7, b8), ⟨rfl, rfl, rfl, rfl, rfl, rfl, rfl, rfl, rfl, rfl, rfl, rfl, trivial⟩, (List.Sublist.cons_cons _ (List.Sublist.cons _ (List.Sublist.cons _ (List.Sublist.cons_cons _ (List.Sublist.cons_cons _ (List.Sublist.cons_cons _ (List.Sublist.cons_cons _ (List.Sublist.cons_cons _ (List.Sublist.cons_cons _ (List.nil_sublist _)))))))))), fun f hf => hf, rfl⟩
            rintro ⟨b0, b1, b2, b3, b4, b5, b6⟩
            change J _ _ _ _
            refine J_false rfl ?_
            by_cases hq6 : begE c cmd0 a u = 0
            ·
              obtain ⟨_, qt7, t1⟩ := beg_ok hq6
              have t2 : (begC c cmd0 a u).busy = true := by rw [qt7]; rfl
              have t3 : (begC c cmd0 a u).seq = c.seq + 1 := by rw [qt7]; rfl
              have t4 : (begC c cmd0 a u).msg.seq = c.seq + 1 := by rw [qt7]; rfl
              refine J_skip ?_
              change J _ _ _ _
              refine J_seq ?_
              refine J_seq ?_
              refine J_mid (X := Nat × Nat × Nat × Nat × Nat) (fun z9 => { env := [(5, .pointer (some ⟨z9.1, 0, none⟩)), (17, .pointer (some ⟨z9.2.1, 0, none⟩)), (18, .pointer (some ⟨z9.2.2.1, 0, none⟩)), (20, .pointer (some ⟨z9.2.2.2.1, 0, none⟩)), (21, .pointer (some ⟨z9.2.2.2.2, 0, none⟩)), (19, .int .i64 (retE c)), (22, .bool (hearD c x)), (23, .int .i64 (hearE c x)), (138, .bool false)], mem := [(z9.1, row 47 (ctM c m)), (z9.2.1, row 47 (ctM (retC c) (selM (retS c) m))), (z9.2.2.1, row 45 (msM (retX c) (selM (retT c) m))), (z9.2.2.2.1, row 47 (ctM (hearC c x) (selM (hearS c x) m))), (z9.2.2.2.2, row 45 (msM (hearX c x) (selM (hearT c x) m)))], facts := [msF c.msg m es, msF x n gs] }) ?_ ?_
              ·
                refine J_region ?_
                refine L_v rfl rfl rfl (V_move rfl rfl) ?_
                refine L_v rfl rfl rfl (V_eql rfl rfl rfl (by first | exact decide_eq_true (by omega) | exact decide_eq_false (by omega) | rfl)) ?_
                refine L_v rfl rfl rfl (V_move rfl rfl) ?_
                refine L_wv rfl rfl rfl rfl rfl rfl (V_loadT 1 (vs := ctM (begC c cmd0 a u) m50) rfl rfl rfl Try.underlying47 rfl sz47l (by kernel_rfl) (by kernel_rfl)) ?_
                refine L_wcallV rfl rfl rfl rfl rfl rfl rfl rfl rfl tx19l (fun w1 hw => check_m beg_mw) ?_
                refine L_wv rfl rfl rfl rfl rfl rfl (V_neq rfl rfl rfl (by first | exact decide_eq_true (by omega) | exact decide_eq_false (by omega) | rfl)) ?_
                refine L_wv rfl rfl rfl rfl rfl rfl (V_move rfl rfl) ?_
                refine L_wv rfl rfl rfl rfl rfl rfl (V_fieldAddr rfl rfl Try.underlying47 rfl sz4l rfl) ?_
                refine L_wv rfl rfl rfl rfl rfl rfl (V_load1 0 rfl rfl rfl Try.underlying4 rfl (by rfl)) ?_
                refine L_same 117 rfl (congrArg Value.bool hb) ?_
                first | refine L_wv rfl rfl rfl rfl rfl rfl (V_pickT rfl rfl rfl) ?_ | refine L_wv rfl rfl rfl rfl rfl rfl (V_pickF rfl rfl rfl) ?_
                refine L_wv rfl rfl rfl rfl rfl rfl (V_move rfl rfl) ?_
                refine L_wv rfl rfl rfl rfl rfl rfl (V_fieldAddr rfl rfl Try.underlying47 rfl sz4l rfl) ?_
                refine L_wv rfl rfl rfl rfl rfl rfl (V_load1 1 rfl rfl rfl Try.underlying4 rfl (by rfl)) ?_
                refine L_same 121 rfl (congrArg Value.bool t2) ?_
                refine L_wv rfl rfl rfl rfl rfl rfl (V_not rfl rfl rfl) ?_
                first | refine L_wv rfl rfl rfl rfl rfl rfl (V_pickT rfl rfl rfl) ?_ | refine L_wv rfl rfl rfl rfl rfl rfl (V_pickF rfl rfl rfl) ?_
                refine L_wv rfl rfl rfl rfl rfl rfl (V_move rfl rfl) ?_
                refine L_wv rfl rfl rfl rfl rfl rfl (V_fieldAddr rfl rfl Try.underlying47 rfl sz3l rfl) ?_
                refine L_wv rfl rfl rfl rfl rfl rfl (V_load1 1 rfl rfl rfl Try.underlying3 rfl (by rfl)) ?_
                refine L_wv rfl rfl rfl rfl rfl rfl (V_fieldAddr rfl rfl Try.underlying45 rfl sz3l rfl) ?_
                refine L_wv rfl rfl rfl rfl rfl rfl (V_load1 2 rfl rfl rfl Try.underlying3 rfl (by rfl)) ?_
                refine L_wv rfl rfl rfl rfl rfl rfl (V_neq rfl rfl rfl (by first | exact decide_eq_true (by omega) | exact decide_eq_false (by omega) | rfl)) ?_
                first | refine L_wv rfl rfl rfl rfl rfl rfl (V_pickT rfl rfl rfl) ?_ | refine L_wv rfl rfl rfl rfl rfl rfl (V_pickF rfl rfl rfl) ?_
                refine L_wv rfl rfl rfl rfl rfl rfl (V_move rfl rfl) ?_
                refine L_wv rfl rfl rfl rfl rfl rfl (V_fieldAddr rfl rfl Try.underlying47 rfl sz3l rfl) ?_
                refine L_wv rfl rfl rfl rfl rfl rfl (V_load1 1 rfl rfl rfl Try.underlying3 rfl (by rfl)) ?_
                refine L_wv rfl rfl rfl rfl rfl rfl (V_fieldAddr rfl rfl Try.underlying47 rfl sz3l rfl) ?_
                refine L_wv rfl rfl rfl rfl rfl rfl (V_load1 0 rfl rfl rfl Try.underlying3 rfl (by rfl)) ?_
                refine L_wv rfl rfl rfl rfl rfl rfl (V_leq rfl rfl rfl (by first | exact decide_eq_true (by omega) | exact decide_eq_false (by omega) | rfl)) ?_
                first | refine L_wv rfl rfl rfl rfl rfl rfl (V_pickT rfl rfl rfl) ?_ | refine L_wv rfl rfl rfl rfl rfl rfl (V_pickF rfl rfl rfl) ?_
                first | refine L_v rfl rfl rfl (V_pickT rfl rfl rfl) ?_ | refine L_v rfl rfl rfl (V_pickF rfl rfl rfl) ?_
                refine L_nil ?_
                exact ⟨(b0, b3, b4, b5, b6), ⟨rfl, rfl, rfl, rfl, rfl, rfl, rfl, rfl, rfl, trivial⟩, (List.Sublist.cons_cons _ (List.Sublist.cons _ (List.Sublist.cons _ (List.Sublist.cons_cons _ (List.Sublist.cons_cons _ (List.Sublist.cons_cons _ (List.Sublist.cons_cons _ (List.nil_sublist _)))))))), fun f hf => hf, rfl⟩
              rintro ⟨b0, b1, b2, b3, b4⟩
              change J _ _ _ _
              refine J_false rfl ?_
              obtain ⟨r1, r2, r3, r4, r5⟩ := ret_right hr
              refine J_skip ?_
              change J _ _ _ _
              refine J_seq ?_
              refine J_seq ?_
              refine J_mid (X := Nat × Nat × Nat) (fun z9 => { env := [(5, .pointer (some ⟨z9.1, 0, none⟩)), (20, .pointer (some ⟨z9.2.1, 0, none⟩)), (21, .pointer (some ⟨z9.2.2, 0, none⟩)), (22, .bool (hearD c x)), (23, .int .i64 (hearE c x)), (170, .bool false)], mem := [(z9.1, row 47 (ctM c m)), (z9.2.1, row 47 (ctM (hearC c x) (selM (hearS c x) m))), (z9.2.2, row 45 (msM (hearX c x) (selM (hearT c x) m)))], facts := [msF c.msg m es, msF x n gs] }) ?_ ?_
              ·
                refine J_region ?_
                refine L_v rfl rfl rfl (V_move rfl rfl) ?_
                refine L_v rfl rfl rfl (V_neq rfl rfl rfl (by first | exact decide_eq_true (by omega) | exact decide_eq_false (by omega) | rfl)) ?_
                refine L_v rfl rfl rfl (V_move rfl rfl) ?_
                refine L_wv rfl rfl rfl rfl rfl rfl (V_loadT 1 (vs := ctM (retC c) (selM (retS c) m)) rfl rfl rfl Try.underlying47 rfl sz47l (by kernel_rfl) (by kernel_rfl)) ?_
                refine L_wcallV rfl rfl rfl rfl rfl rfl rfl rfl rfl tx19l (fun w1 hw => check_m (ret_mw (⟨hx, hw.fa 0 rfl, z1⟩ : Mw w1 c.msg m es))) ?_
                refine L_wv rfl rfl rfl rfl rfl rfl (V_neq rfl rfl rfl (by first | exact decide_eq_true (by omega) | exact decide_eq_false (by omega) | rfl)) ?_
                first | refine L_v rfl rfl rfl (V_pickT rfl rfl rfl) ?_ | refine L_v rfl rfl rfl (V_pickF rfl rfl rfl) ?_
                refine L_v rfl rfl rfl (V_move rfl rfl) ?_
                refine L_wv rfl rfl rfl rfl rfl rfl (V_fieldAddr rfl rfl Try.underlying47 rfl sz3l rfl) ?_
                refine L_wv rfl rfl rfl rfl rfl rfl (V_load1 1 rfl rfl rfl Try.underlying3 rfl (by rfl)) ?_
                refine L_wv rfl rfl rfl rfl rfl rfl (V_fieldAddr rfl rfl Try.underlying47 rfl sz3l rfl) ?_
                refine L_wv rfl rfl rfl rfl rfl rfl (V_load1 0 rfl rfl rfl Try.underlying3 rfl (by rfl)) ?_
                refine L_wv rfl rfl rfl rfl rfl rfl (V_neq rfl rfl rfl (by first | exact decide_eq_true (by omega) | exact decide_eq_false (by omega) | rfl)) ?_
                first | refine L_v rfl rfl rfl (V_pickT rfl rfl rfl) ?_ | refine L_v rfl rfl rfl (V_pickF rfl rfl rfl) ?_
                refine L_v rfl rfl rfl (V_move rfl rfl) ?_
                refine L_wv rfl rfl rfl rfl rfl rfl (V_fieldAddr rfl rfl Try.underlying47 rfl sz4l rfl) ?_
                refine L_wv rfl rfl rfl rfl rfl rfl (V_load1 1 rfl rfl rfl Try.underlying4 rfl (by rfl)) ?_
                refine L_same 155 rfl (congrArg Value.bool r3) ?_
                refine L_wv rfl rfl rfl rfl rfl rfl (V_fieldAddr rfl rfl Try.underlying47 rfl sz4l rfl) ?_
                refine L_wv rfl rfl rfl rfl rfl rfl (V_load1 0 rfl rfl rfl Try.underlying4 rfl (by rfl)) ?_
                refine L_wv rfl rfl rfl rfl rfl rfl (V_neB rfl rfl rfl Try.underlying4 (by first | exact beq_self_eq_true _ | exact congrArg not (beq_self_eq_true _) | rfl)) ?_
                first | refine L_v rfl rfl rfl (V_pickT rfl rfl rfl) ?_ | refine L_v rfl rfl rfl (V_pickF rfl rfl rfl) ?_
                refine L_v rfl rfl rfl (V_move rfl rfl) ?_
                refine L_wv rfl rfl rfl rfl rfl rfl (V_fieldAddr rfl rfl Try.underlying47 rfl sz4l rfl) ?_
                refine L_wv rfl rfl rfl rfl rfl rfl (V_load1 0 rfl rfl rfl Try.underlying4 rfl (by rfl)) ?_
                refine L_same 162 rfl (congrArg Value.bool hb) ?_
                refine L_wv rfl rfl rfl rfl rfl rfl (V_move rfl rfl) ?_
                refine L_skip rfl rfl rfl rfl rfl rfl rfl ?_
                refine L_skip rfl rfl rfl rfl rfl rfl rfl ?_
                refine L_skip rfl rfl rfl rfl rfl rfl rfl ?_
                refine L_skip rfl rfl rfl rfl rfl rfl rfl ?_
                refine L_skip rfl rfl rfl rfl rfl rfl rfl ?_
                first | refine L_wv rfl rfl rfl rfl rfl rfl (V_pickT rfl rfl rfl) ?_ | refine L_wv rfl rfl rfl rfl rfl rfl (V_pickF rfl rfl rfl) ?_
                first | refine L_v rfl rfl rfl (V_pickT rfl rfl rfl) ?_ | refine L_v rfl rfl rfl (V_pickF rfl rfl rfl) ?_
                refine L_nil ?_
                exact ⟨(b0, b3, b4), ⟨rfl, rfl, rfl, rfl, rfl, rfl, trivial⟩, (List.Sublist.cons_cons _ (List.Sublist.cons _ (List.Sublist.cons _ (List.Sublist.cons_cons _ (List.Sublist.cons_cons _ (List.nil_sublist _)))))), fun f hf => hf, rfl⟩
              rintro ⟨b0, b1, b2⟩
              change J _ _ _ _
              refine J_false rfl ?_
              obtain ⟨w1, w2, w3, w4, w5, w6, w7⟩ := hear_right (x := x) hr
              obtain ⟨hD, hkd⟩ := w7 hb
              have hB := w5 hD
              refine J_skip ?_
              change J _ _ _ _
              refine J_seq ?_
              refine J_region ?_
              refine L_callV rfl rfl rfl rfl rfl rfl tx10l (fun w1 hw => calls_t w1) ?_
              refine L_v rfl rfl rfl (V_move rfl rfl) ?_
              refine L_wv rfl rfl rfl rfl rfl rfl (V_move rfl rfl) ?_
              refine L_wv rfl rfl rfl rfl rfl rfl (V_eql rfl rfl rfl (by first | exact decide_eq_true (by omega) | exact decide_eq_false (by omega) | rfl)) ?_
              first | refine L_v rfl rfl rfl (V_pickT rfl rfl rfl) ?_ | refine L_v rfl rfl rfl (V_pickF rfl rfl rfl) ?_
              refine L_v rfl rfl rfl (V_move rfl rfl) ?_
              refine L_wv rfl rfl rfl rfl rfl rfl (V_loadT 1 (vs := ctM (hearC c x) (selM (hearS c x) m)) rfl rfl rfl Try.underlying47 rfl sz47l (by kernel_rfl) (by kernel_rfl)) ?_
              refine L_wcallV rfl rfl rfl rfl rfl rfl rfl rfl rfl tx19l (fun w1 hw => check_m (hear_mw (⟨hx, hw.fa 0 rfl, z1⟩ : Mw w1 c.msg m es))) ?_
              refine L_wv rfl rfl rfl rfl rfl rfl (V_eql rfl rfl rfl (by first | exact decide_eq_true (by omega) | exact decide_eq_false (by omega) | rfl)) ?_
              first | refine L_v rfl rfl rfl (V_pickT rfl rfl rfl) ?_ | refine L_v rfl rfl rfl (V_pickF rfl rfl rfl) ?_
              refine L_v rfl rfl rfl (V_move rfl rfl) ?_
              refine L_wv rfl rfl rfl rfl rfl rfl (V_fieldAddr rfl rfl Try.underlying47 rfl sz3l rfl) ?_
              refine L_wv rfl rfl rfl rfl rfl rfl (V_load1 1 rfl rfl rfl Try.underlying3 rfl (by rfl)) ?_
              refine L_wv rfl rfl rfl rfl rfl rfl (V_fieldAddr rfl rfl Try.underlying47 rfl sz3l rfl) ?_
              refine L_wv rfl rfl rfl rfl rfl rfl (V_load1 0 rfl rfl rfl Try.underlying3 rfl (by rfl)) ?_
              refine L_wv rfl rfl rfl rfl rfl rfl (V_eql rfl rfl rfl (by first | exact decide_eq_true (by omega) | exact decide_eq_false (by omega) | rfl)) ?_
              first | refine L_v rfl rfl rfl (V_pickT rfl rfl rfl) ?_ | refine L_v rfl rfl rfl (V_pickF rfl rfl rfl) ?_
              refine L_v rfl rfl rfl (V_move rfl rfl) ?_
              refine L_wv rfl rfl rfl rfl rfl rfl (V_move rfl rfl) ?_
              refine L_same 189 rfl (congrArg Value.bool hD) ?_
              refine L_wv rfl rfl rfl rfl rfl rfl (V_not rfl rfl rfl) ?_
              refine L_wv rfl rfl rfl rfl rfl rfl (V_move rfl rfl) ?_
              refine L_skip rfl rfl rfl rfl rfl rfl rfl ?_
              refine L_skip rfl rfl rfl rfl rfl rfl rfl ?_
              refine L_skip rfl rfl rfl rfl rfl rfl rfl ?_
              refine L_skip rfl rfl rfl rfl rfl rfl rfl ?_
              refine L_skip rfl rfl rfl rfl rfl rfl rfl ?_
              refine L_skip rfl rfl rfl rfl rfl rfl rfl ?_
              refine L_skip rfl rfl rfl rfl rfl rfl rfl ?_
              first | refine L_wv rfl rfl rfl rfl rfl rfl (V_pickT rfl rfl rfl) ?_ | refine L_wv rfl rfl rfl rfl rfl rfl (V_pickF rfl rfl rfl) ?_
              first | refine L_v rfl rfl rfl (V_pickT rfl rfl rfl) ?_ | refine L_v rfl rfl rfl (V_pickF rfl rfl rfl) ?_
              refine L_v rfl rfl rfl (V_move rfl rfl) ?_
              refine L_wv rfl rfl rfl rfl rfl rfl (V_move rfl rfl) ?_
              refine L_same 202 rfl (congrArg Value.bool hD) ?_
              refine L_wv rfl rfl rfl rfl rfl rfl (V_move rfl rfl) ?_
              refine L_wv rfl rfl rfl rfl rfl rfl (V_fieldAddr rfl rfl Try.underlying47 rfl sz4l rfl) ?_
              refine L_wv rfl rfl rfl rfl rfl rfl (V_load1 1 rfl rfl rfl Try.underlying4 rfl (by rfl)) ?_
              refine L_same 205 rfl (congrArg Value.bool hB) ?_
              refine L_wv rfl rfl rfl rfl rfl rfl (V_fieldAddr rfl rfl Try.underlying47 rfl sz4l rfl) ?_
              refine L_wv rfl rfl rfl rfl rfl rfl (V_load1 0 rfl rfl rfl Try.underlying4 rfl (by rfl)) ?_
              refine L_wv rfl rfl rfl rfl rfl rfl (V_eqB rfl rfl rfl Try.underlying4 (by first | exact beq_self_eq_true _ | exact congrArg not (beq_self_eq_true _) | rfl)) ?_
              first | refine L_wv rfl rfl rfl rfl rfl rfl (V_pickT rfl rfl rfl) ?_ | refine L_wv rfl rfl rfl rfl rfl rfl (V_pickF rfl rfl rfl) ?_
              first | refine L_v rfl rfl rfl (V_pickT rfl rfl rfl) ?_ | refine L_v rfl rfl rfl (V_pickF rfl rfl rfl) ?_
              refine L_v rfl rfl rfl (V_move rfl rfl) ?_
              refine L_wv rfl rfl rfl rfl rfl rfl (V_fieldAddr rfl rfl Try.underlying45 rfl sz22l rfl) ?_
              refine L_wv rfl rfl rfl rfl rfl rfl (V_load1 2 rfl rfl rfl Try.underlying22 rfl (by rfl)) ?_
              refine L_wv rfl rfl rfl rfl rfl rfl (V_eql rfl rfl rfl (by first | exact decide_eq_true (by omega) | exact decide_eq_false (by omega) | rfl)) ?_
              refine L_wv rfl rfl rfl rfl rfl rfl (V_move rfl rfl) ?_
              refine L_skip rfl rfl rfl rfl rfl rfl rfl ?_
              refine L_skip rfl rfl rfl rfl rfl rfl rfl ?_
              refine L_skip rfl rfl rfl rfl rfl rfl rfl ?_
              refine L_skip rfl rfl rfl rfl rfl rfl rfl ?_
              refine L_skip rfl rfl rfl rfl rfl rfl rfl ?_
              first | refine L_wv rfl rfl rfl rfl rfl rfl (V_pickT rfl rfl rfl) ?_ | refine L_wv rfl rfl rfl rfl rfl rfl (V_pickF rfl rfl rfl) ?_
              first | refine L_v rfl rfl rfl (V_pickT rfl rfl rfl) ?_ | refine L_v rfl rfl rfl (V_pickF rfl rfl rfl) ?_
              refine L_v rfl rfl rfl (V_assign rfl rfl) ?_
              refine L_nil ?_
              change J _ _ _ _
              refine J_ret ?_
              change Kret _ _ _ Exit.ret _
              refine ret1 rfl rfl (RV_t rfl) ?_
              exact fun w' h => ⟨rfl, h.fr⟩
            ·
              refine J_skip ?_
              change J _ _ _ _
              refine J_seq ?_
              refine J_seq ?_
              refine J_mid (X := Nat × Nat × Nat × Nat × Nat) (fun z9 => { env := [(5, .pointer (some ⟨z9.1, 0, none⟩)), (17, .pointer (some ⟨z9.2.1, 0, none⟩)), (18, .pointer (some ⟨z9.2.2.1, 0, none⟩)), (20, .pointer (some ⟨z9.2.2.2.1, 0, none⟩)), (21, .pointer (some ⟨z9.2.2.2.2, 0, none⟩)), (19, .int .i64 (retE c)), (22, .bool (hearD c x)), (23, .int .i64 (hearE c x)), (138, .bool false)], mem := [(z9.1, row 47 (ctM c m)), (z9.2.1, row 47 (ctM (retC c) (selM (retS c) m))), (z9.2.2.1, row 45 (msM (retX c) (selM (retT c) m))), (z9.2.2.2.1, row 47 (ctM (hearC c x) (selM (hearS c x) m))), (z9.2.2.2.2, row 45 (msM (hearX c x) (selM (hearT c x) m)))], facts := [msF c.msg m es, msF x n gs] }) ?_ ?_
              ·
                refine J_region ?_
                refine L_v rfl rfl rfl (V_move rfl rfl) ?_
                refine L_v rfl rfl rfl (V_eql rfl rfl rfl (by first | exact decide_eq_true (by omega) | exact decide_eq_false (by omega) | rfl)) ?_
                refine L_v rfl rfl rfl (V_move rfl rfl) ?_
                refine L_skip rfl rfl rfl rfl rfl rfl rfl ?_
                refine L_skip rfl rfl rfl rfl rfl rfl rfl ?_
                refine L_skip rfl rfl rfl rfl rfl rfl rfl ?_
                refine L_skip rfl rfl rfl rfl rfl rfl rfl ?_
                refine L_skip rfl rfl rfl rfl rfl rfl rfl ?_
                refine L_skip rfl rfl rfl rfl rfl rfl rfl ?_
                refine L_skip rfl rfl rfl rfl rfl rfl rfl ?_
                refine L_skip rfl rfl rfl rfl rfl rfl rfl ?_
                refine L_skip rfl rfl rfl rfl rfl rfl rfl ?_
                refine L_skip rfl rfl rfl rfl rfl rfl rfl ?_
                refine L_skip rfl rfl rfl rfl rfl rfl rfl ?_
                refine L_skip rfl rfl rfl rfl rfl rfl rfl ?_
                refine L_skip rfl rfl rfl rfl rfl rfl rfl ?_
                refine L_skip rfl rfl rfl rfl rfl rfl rfl ?_
                refine L_skip rfl rfl rfl rfl rfl rfl rfl ?_
                refine L_skip rfl rfl rfl rfl rfl rfl rfl ?_
                refine L_skip rfl rfl rfl rfl rfl rfl rfl ?_
                refine L_skip rfl rfl rfl rfl rfl rfl rfl ?_
                refine L_skip rfl rfl rfl rfl rfl rfl rfl ?_
                refine L_skip rfl rfl rfl rfl rfl rfl rfl ?_
                refine L_skip rfl rfl rfl rfl rfl rfl rfl ?_
                refine L_skip rfl rfl rfl rfl rfl rfl rfl ?_
                refine L_skip rfl rfl rfl rfl rfl rfl rfl ?_
                refine L_skip rfl rfl rfl rfl rfl rfl rfl ?_
                refine L_skip rfl rfl rfl rfl rfl rfl rfl ?_
                refine L_skip rfl rfl rfl rfl rfl rfl rfl ?_
                first | refine L_v rfl rfl rfl (V_pickT rfl rfl rfl) ?_ | refine L_v rfl rfl rfl (V_pickF rfl rfl rfl) ?_
                refine L_nil ?_
                exact ⟨(b0, b3, b4, b5, b6), ⟨rfl, rfl, rfl, rfl, rfl, rfl, rfl, rfl, rfl, trivial⟩, (List.Sublist.cons_cons _ (List.Sublist.cons _ (List.Sublist.cons _ (List.Sublist.cons_cons _ (List.Sublist.cons_cons _ (List.Sublist.cons_cons _ (List.Sublist.cons_cons _ (List.nil_sublist _)))))))), fun f hf => hf, rfl⟩
              rintro ⟨b0, b1, b2, b3, b4⟩
              change J _ _ _ _
              refine J_false rfl ?_
              obtain ⟨r1, r2, r3, r4, r5⟩ := ret_right hr
              refine J_skip ?_
              change J _ _ _ _
              refine J_seq ?_
              refine J_seq ?_
              refine J_mid (X := Nat × Nat × Nat) (fun z9 => { env := [(5, .pointer (some ⟨z9.1, 0, none⟩)), (20, .pointer (some ⟨z9.2.1, 0, none⟩)), (21, .pointer (some ⟨z9.2.2, 0, none⟩)), (22, .bool (hearD c x)), (23, .int .i64 (hearE c x)), (170, .bool false)], mem := [(z9.1, row 47 (ctM c m)), (z9.2.1, row 47 (ctM (hearC c x) (selM (hearS c x) m))), (z9.2.2, row 45 (msM (hearX c x) (selM (hearT c x) m)))], facts := [msF c.msg m es, msF x n gs] }) ?_ ?_
              ·
                refine J_region ?_
                refine L_v rfl rfl rfl (V_move rfl rfl) ?_
                refine L_v rfl rfl rfl (V_neq rfl rfl rfl (by first | exact decide_eq_true (by omega) | exact decide_eq_false (by omega) | rfl)) ?_
                refine L_v rfl rfl rfl (V_move rfl rfl) ?_
                refine L_wv rfl rfl rfl rfl rfl rfl (V_loadT 1 (vs := ctM (retC c) (selM (retS c) m)) rfl rfl rfl Try.underlying47 rfl sz47l (by kernel_rfl) (by kernel_rfl)) ?_
                refine L_wcallV rfl rfl rfl rfl rfl rfl rfl rfl rfl tx19l (fun w1 hw => check_m (ret_mw (⟨hx, hw.fa 0 rfl, z1⟩ : Mw w1 c.msg m es))) ?_
                refine L_wv rfl rfl rfl rfl rfl rfl (V_neq rfl rfl rfl (by first | exact decide_eq_true (by omega) | exact decide_eq_false (by omega) | rfl)) ?_
                first | refine L_v rfl rfl rfl (V_pickT rfl rfl rfl) ?_ | refine L_v rfl rfl rfl (V_pickF rfl rfl rfl) ?_
                refine L_v rfl rfl rfl (V_move rfl rfl) ?_
                refine L_wv rfl rfl rfl rfl rfl rfl (V_fieldAddr rfl rfl Try.underlying47 rfl sz3l rfl) ?_
                refine L_wv rfl rfl rfl rfl rfl rfl (V_load1 1 rfl rfl rfl Try.underlying3 rfl (by rfl)) ?_
                refine L_wv rfl rfl rfl rfl rfl rfl (V_fieldAddr rfl rfl Try.underlying47 rfl sz3l rfl) ?_
                refine L_wv rfl rfl rfl rfl rfl rfl (V_load1 0 rfl rfl rfl Try.underlying3 rfl (by rfl)) ?_
                refine L_wv rfl rfl rfl rfl rfl rfl (V_neq rfl rfl rfl (by first | exact decide_eq_true (by omega) | exact decide_eq_false (by omega) | rfl)) ?_
                first | refine L_v rfl rfl rfl (V_pickT rfl rfl rfl) ?_ | refine L_v rfl rfl rfl (V_pickF rfl rfl rfl) ?_
                refine L_v rfl rfl rfl (V_move rfl rfl) ?_
                refine L_wv rfl rfl rfl rfl rfl rfl (V_fieldAddr rfl rfl Try.underlying47 rfl sz4l rfl) ?_
                refine L_wv rfl rfl rfl rfl rfl rfl (V_load1 1 rfl rfl rfl Try.underlying4 rfl (by rfl)) ?_
                refine L_same 155 rfl (congrArg Value.bool r3) ?_
                refine L_wv rfl rfl rfl rfl rfl rfl (V_fieldAddr rfl rfl Try.underlying47 rfl sz4l rfl) ?_
                refine L_wv rfl rfl rfl rfl rfl rfl (V_load1 0 rfl rfl rfl Try.underlying4 rfl (by rfl)) ?_
                refine L_wv rfl rfl rfl rfl rfl rfl (V_neB rfl rfl rfl Try.underlying4 (by first | exact beq_self_eq_true _ | exact congrArg not (beq_self_eq_true _) | rfl)) ?_
                first | refine L_v rfl rfl rfl (V_pickT rfl rfl rfl) ?_ | refine L_v rfl rfl rfl (V_pickF rfl rfl rfl) ?_
                refine L_v rfl rfl rfl (V_move rfl rfl) ?_
                refine L_wv rfl rfl rfl rfl rfl rfl (V_fieldAddr rfl rfl Try.underlying47 rfl sz4l rfl) ?_
                refine L_wv rfl rfl rfl rfl rfl rfl (V_load1 0 rfl rfl rfl Try.underlying4 rfl (by rfl)) ?_
                refine L_same 162 rfl (congrArg Value.bool hb) ?_
                refine L_wv rfl rfl rfl rfl rfl rfl (V_move rfl rfl) ?_
                refine L_skip rfl rfl rfl rfl rfl rfl rfl ?_
                refine L_skip rfl rfl rfl rfl rfl rfl rfl ?_
                refine L_skip rfl rfl rfl rfl rfl rfl rfl ?_
                refine L_skip rfl rfl rfl rfl rfl rfl rfl ?_
                refine L_skip rfl rfl rfl rfl rfl rfl rfl ?_
                first | refine L_wv rfl rfl rfl rfl rfl rfl (V_pickT rfl rfl rfl) ?_ | refine L_wv rfl rfl rfl rfl rfl rfl (V_pickF rfl rfl rfl) ?_
                first | refine L_v rfl rfl rfl (V_pickT rfl rfl rfl) ?_ | refine L_v rfl rfl rfl (V_pickF rfl rfl rfl) ?_
                refine L_nil ?_
                exact ⟨(b0, b3, b4), ⟨rfl, rfl, rfl, rfl, rfl, rfl, trivial⟩, (List.Sublist.cons_cons _ (List.Sublist.cons _ (List.Sublist.cons _ (List.Sublist.cons_cons _ (List.Sublist.cons_cons _ (List.nil_sublist _)))))), fun f hf => hf, rfl⟩
              rintro ⟨b0, b1, b2⟩
              change J _ _ _ _
              refine J_false rfl ?_
              obtain ⟨w1, w2, w3, w4, w5, w6, w7⟩ := hear_right (x := x) hr
              obtain ⟨hD, hkd⟩ := w7 hb
              have hB := w5 hD
              refine J_skip ?_
              change J _ _ _ _
              refine J_seq ?_
              refine J_region ?_
              refine L_callV rfl rfl rfl rfl rfl rfl tx10l (fun w1 hw => calls_t w1) ?_
              refine L_v rfl rfl rfl (V_move rfl rfl) ?_
              refine L_wv rfl rfl rfl rfl rfl rfl (V_move rfl rfl) ?_
              refine L_wv rfl rfl rfl rfl rfl rfl (V_eql rfl rfl rfl (by first | exact decide_eq_true (by omega) | exact decide_eq_false (by omega) | rfl)) ?_
              first | refine L_v rfl rfl rfl (V_pickT rfl rfl rfl) ?_ | refine L_v rfl rfl rfl (V_pickF rfl rfl rfl) ?_
              refine L_v rfl rfl rfl (V_move rfl rfl) ?_
              refine L_wv rfl rfl rfl rfl rfl rfl (V_loadT 1 (vs := ctM (hearC c x) (selM (hearS c x) m)) rfl rfl rfl Try.underlying47 rfl sz47l (by kernel_rfl) (by kernel_rfl)) ?_
              refine L_wcallV rfl rfl rfl rfl rfl rfl rfl rfl rfl tx19l (fun w1 hw => check_m (hear_mw (⟨hx, hw.fa 0 rfl, z1⟩ : Mw w1 c.msg m es))) ?_
              refine L_wv rfl rfl rfl rfl rfl rfl (V_eql rfl rfl rfl (by first | exact decide_eq_true (by omega) | exact decide_eq_false (by omega) | rfl)) ?_
              first | refine L_v rfl rfl rfl (V_pickT rfl rfl rfl) ?_ | refine L_v rfl rfl rfl (V_pickF rfl rfl rfl) ?_
              refine L_v rfl rfl rfl (V_move rfl rfl) ?_
              refine L_wv rfl rfl rfl rfl rfl rfl (V_fieldAddr rfl rfl Try.underlying47 rfl sz3l rfl) ?_
              refine L_wv rfl rfl rfl rfl rfl rfl (V_load1 1 rfl rfl rfl Try.underlying3 rfl (by rfl)) ?_
              refine L_wv rfl rfl rfl rfl rfl rfl (V_fieldAddr rfl rfl Try.underlying47 rfl sz3l rfl) ?_
              refine L_wv rfl rfl rfl rfl rfl rfl (V_load1 0 rfl rfl rfl Try.underlying3 rfl (by rfl)) ?_
              refine L_wv rfl rfl rfl rfl rfl rfl (V_eql rfl rfl rfl (by first | exact decide_eq_true (by omega) | exact decide_eq_false (by omega) | rfl)) ?_
              first | refine L_v rfl rfl rfl (V_pickT rfl rfl rfl) ?_ | refine L_v rfl rfl rfl (V_pickF rfl rfl rfl) ?_
              refine L_v rfl rfl rfl (V_move rfl rfl) ?_
              refine L_wv rfl rfl rfl rfl rfl rfl (V_move rfl rfl) ?_
              refine L_same 189 rfl (congrArg Value.bool hD) ?_
              refine L_wv rfl rfl rfl rfl rfl rfl (V_not rfl rfl rfl) ?_
              refine L_wv rfl rfl rfl rfl rfl rfl (V_move rfl rfl) ?_
              refine L_skip rfl rfl rfl rfl rfl rfl rfl ?_
              refine L_skip rfl rfl rfl rfl rfl rfl rfl ?_
              refine L_skip rfl rfl rfl rfl rfl rfl rfl ?_
              refine L_skip rfl rfl rfl rfl rfl rfl rfl ?_
              refine L_skip rfl rfl rfl rfl rfl rfl rfl ?_
              refine L_skip rfl rfl rfl rfl rfl rfl rfl ?_
              refine L_skip rfl rfl rfl rfl rfl rfl rfl ?_
              first | refine L_wv rfl rfl rfl rfl rfl rfl (V_pickT rfl rfl rfl) ?_ | refine L_wv rfl rfl rfl rfl rfl rfl (V_pickF rfl rfl rfl) ?_
              first | refine L_v rfl rfl rfl (V_pickT rfl rfl rfl) ?_ | refine L_v rfl rfl rfl (V_pickF rfl rfl rfl) ?_
              refine L_v rfl rfl rfl (V_move rfl rfl) ?_
              refine L_wv rfl rfl rfl rfl rfl rfl (V_move rfl rfl) ?_
              refine L_same 202 rfl (congrArg Value.bool hD) ?_
              refine L_wv rfl rfl rfl rfl rfl rfl (V_move rfl rfl) ?_
              refine L_wv rfl rfl rfl rfl rfl rfl (V_fieldAddr rfl rfl Try.underlying47 rfl sz4l rfl) ?_
              refine L_wv rfl rfl rfl rfl rfl rfl (V_load1 1 rfl rfl rfl Try.underlying4 rfl (by rfl)) ?_
              refine L_same 205 rfl (congrArg Value.bool hB) ?_
              refine L_wv rfl rfl rfl rfl rfl rfl (V_fieldAddr rfl rfl Try.underlying47 rfl sz4l rfl) ?_
              refine L_wv rfl rfl rfl rfl rfl rfl (V_load1 0 rfl rfl rfl Try.underlying4 rfl (by rfl)) ?_
              refine L_wv rfl rfl rfl rfl rfl rfl (V_eqB rfl rfl rfl Try.underlying4 (by first | exact beq_self_eq_true _ | exact congrArg not (beq_self_eq_true _) | rfl)) ?_
              first | refine L_wv rfl rfl rfl rfl rfl rfl (V_pickT rfl rfl rfl) ?_ | refine L_wv rfl rfl rfl rfl rfl rfl (V_pickF rfl rfl rfl) ?_
              first | refine L_v rfl rfl rfl (V_pickT rfl rfl rfl) ?_ | refine L_v rfl rfl rfl (V_pickF rfl rfl rfl) ?_
              refine L_v rfl rfl rfl (V_move rfl rfl) ?_
              refine L_wv rfl rfl rfl rfl rfl rfl (V_fieldAddr rfl rfl Try.underlying45 rfl sz22l rfl) ?_
              refine L_wv rfl rfl rfl rfl rfl rfl (V_load1 2 rfl rfl rfl Try.underlying22 rfl (by rfl)) ?_
              refine L_wv rfl rfl rfl rfl rfl rfl (V_eql rfl rfl rfl (by first | exact decide_eq_true (by omega) | exact decide_eq_false (by omega) | rfl)) ?_
              refine L_wv rfl rfl rfl rfl rfl rfl (V_move rfl rfl) ?_
              refine L_skip rfl rfl rfl rfl rfl rfl rfl ?_
              refine L_skip rfl rfl rfl rfl rfl rfl rfl ?_
              refine L_skip rfl rfl rfl rfl rfl rfl rfl ?_
              refine L_skip rfl rfl rfl rfl rfl rfl rfl ?_
              refine L_skip rfl rfl rfl rfl rfl rfl rfl ?_
              first | refine L_wv rfl rfl rfl rfl rfl rfl (V_pickT rfl rfl rfl) ?_ | refine L_wv rfl rfl rfl rfl rfl rfl (V_pickF rfl rfl rfl) ?_
              first | refine L_v rfl rfl rfl (V_pickT rfl rfl rfl) ?_ | refine L_v rfl rfl rfl (V_pickF rfl rfl rfl) ?_
              refine L_v rfl rfl rfl (V_assign rfl rfl) ?_
              refine L_nil ?_
              change J _ _ _ _
              refine J_ret ?_
              change Kret _ _ _ Exit.ret _
              refine ret1 rfl rfl (RV_t rfl) ?_
              exact fun w' h => ⟨rfl, h.fr⟩

end Go.Proofs.Ytfdmjjhgdbpfeaa
