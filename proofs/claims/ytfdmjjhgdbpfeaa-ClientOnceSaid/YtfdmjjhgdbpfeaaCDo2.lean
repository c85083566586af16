/- Calls, questions, again, and what is heard. -/
import Derived.Test.YtfdmjjhgdbpfeaaCDo
set_option linter.unusedVariables false
set_option linter.unusedSimpArgs false
set_option maxRecDepth 100000
namespace Go.Proofs.Ytfdmjjhgdbpfeaa
open Go.Sx
section
variable {c : Ct} {d : Cmd} {a : Int} {u : ByteArray}
theorem begN_nums (hr : RightP c) : numsP (begN c d a u) ↔ c.seq < 1000000 := by
  have := hr.nums
  show ((1 ≤ c.id ∧ c.id ≤ 4) ∧ (0 ≤ c.seq + 1 ∧ c.seq + 1 ≤ 1000000) ∧ (1 ≤ c.target ∧ c.target ≤ 7) ∧ 0 ≤ c.tries ∧ c.tries ≤ 1000) ↔ _
  omega
theorem right_call (hr : RightP c) : RightP (begN c d 0 ⟨#[]⟩) ↔ c.seq < 1000000 ∧ mayCallP (upC c) (ownCmd c d) := by
  rw [← begN_nums (d := d) (a := 0) (u := ⟨#[]⟩) hr]
  refine and_congr_right fun _ => ?_
  show (mayCallP (begN c d 0 ⟨#[]⟩) (ownCmd c d) ∧ begR c d 0 ⟨#[]⟩ = reqM (begN c d 0 ⟨#[]⟩) (ownCmd c d)) ↔ _
  exact ⟨fun h => h.1, fun h => ⟨h, rfl⟩⟩
theorem right_ask (hr : RightP c) (ha : a ≠ 0) : RightP (begN c cmd0 a u) ↔ c.seq < 1000000 ∧ mayAskP (upC c) a u := by
  rw [← begN_nums (d := cmd0) (a := a) (u := u) hr]
  refine and_congr_right fun _ => ?_
  show (if a = 0 then _ else _ : Prop) ↔ _
  rw [if_neg ha]
  show (mayAskP (begN c cmd0 a u) a u ∧ begR c cmd0 a u = queM (begN c cmd0 a u) a u) ↔ _
  refine ⟨fun h => h.1, fun h => ⟨h, ?_⟩⟩
  unfold begR
  rw [if_neg ha]
  rfl
theorem right_ask0 : ¬ RightP (begN c cmd0 0 u) := by
  intro h
  have h2 : mayCallP (begN c cmd0 0 u) (ownCmd c cmd0) := h.2.1
  have h3 : MayP (ownCmd c cmd0) := h2.1
  unfold MayP at h3
  rcases h3 with ⟨_, ⟨h4 | h4, _⟩ | ⟨h4, _⟩⟩ | ⟨_, ⟨h4, _⟩ | h4⟩ <;> exact absurd (show (0 : Int) = _ from h4) (by decide)
theorem ask0 : ¬ mayAskP c 0 u := by
  rintro ⟨h | h, _⟩
  · exact absurd h.1 (by decide)
  · exact absurd h.1 (by decide)
theorem begE_ask0 : begE c cmd0 0 u ≠ 0 := by
  unfold begE
  split
  · split
    · decide
    · rw [chk_n right_ask0]; decide
  · decide
/-- What a reference tells. -/
theorem ready_no (h : readyE c ≠ 0) : begC c d a u = ct0 ∧ begE c d a u = readyE c := by
  unfold readyE at h ⊢
  split at h
  · rename_i hr
    rw [if_pos hr]
    split at h
    · rename_i hb
      rw [if_pos hb]
      exact beg_busy hr hb
    · rename_i hb
      have hb' : c.busy = false := by simpa using hb
      rw [if_neg hb]
      split at h
      · rename_i hs
        rw [if_pos hs]
        have hn : ¬ RightP (begN c d a u) := fun hc => by
          have := (begN_nums (d := d) (a := a) (u := u) hr).1 hc.1
          omega
        have := beg_f (d := d) (a := a) (u := u) hr hb' (by rw [chk_n hn]; decide)
        rw [chk_n hn] at this
        exact this
      · exact absurd rfl h
  · rename_i hr
    rw [if_neg hr]
    have := beg_no (d := d) (a := a) (u := u) hr
    rw [chk_n hr] at this
    exact this
theorem ready_yes (h : ¬ readyE c ≠ 0) : RightP c ∧ c.busy = false ∧ c.seq < 1000000 := by
  unfold readyE at h
  grind
theorem call_no (h : ¬ readyE c ≠ 0) (hm : ¬ mayCallP (upC c) (ownCmd c d)) : begC c d 0 ⟨#[]⟩ = ct0 ∧ begE c d 0 ⟨#[]⟩ = 180 := by
  obtain ⟨hr, hb, hs⟩ := ready_yes h
  have hn : ¬ RightP (begN c d 0 ⟨#[]⟩) := fun hc => hm ((right_call hr).1 hc).2
  have := beg_f (d := d) (a := 0) (u := ⟨#[]⟩) hr hb (by rw [chk_n hn]; decide)
  rwa [chk_n hn] at this
theorem call_yes (h : ¬ readyE c ≠ 0) (hm : mayCallP (upC c) (ownCmd c d)) : begC c d 0 ⟨#[]⟩ = { upC c with busy := true, msg := reqM (upC c) (ownCmd c d) } ∧ begE c d 0 ⟨#[]⟩ = 0 := by
  obtain ⟨hr, hb, hs⟩ := ready_yes h
  exact beg_t (d := d) (a := 0) (u := ⟨#[]⟩) hr hb (by rw [chk_y ((right_call hr).2 ⟨hs, hm⟩)]; decide)
theorem ask_no (h : ¬ readyE c ≠ 0) (hm : ¬ mayAskP (upC c) a u) : begC c cmd0 a u = ct0 ∧ begE c cmd0 a u = 180 := by
  obtain ⟨hr, hb, hs⟩ := ready_yes h
  have hn : ¬ RightP (begN c cmd0 a u) := by
    by_cases ha : a = 0
    · subst ha; exact right_ask0
    · exact fun hc => hm ((right_ask hr ha).1 hc).2
  have := beg_f (d := cmd0) (a := a) (u := u) hr hb (by rw [chk_n hn]; decide)
  rwa [chk_n hn] at this
theorem ask_yes (h : ¬ readyE c ≠ 0) (hm : mayAskP (upC c) a u) : begC c cmd0 a u = { upC c with busy := true, msg := queM (upC c) a u } ∧ begE c cmd0 a u = 0 := by
  obtain ⟨hr, hb, hs⟩ := ready_yes h
  have ha : a ≠ 0 := fun ha => by subst ha; exact ask0 hm
  have := beg_t (d := cmd0) (a := a) (u := u) hr hb (by rw [chk_y ((right_ask hr ha).2 ⟨hs, hm⟩)]; decide)
  refine ⟨this.1.trans ?_, this.2⟩
  unfold begN begR
  rw [if_neg ha]
  rfl
end
/-! ### Again; and what is heard -/
abbrev selM (b : Bool) (m : M5) : M5 := if b then m else m50
def retK (c : Ct) : Nat := if RightP c then (if c.busy then 2 else 1) else 0
def retC (c : Ct) : Ct := if retK c = 0 then ct0 else if retK c = 1 then c else turnC c (afterN c.target)
def retX (c : Ct) : Ms := if retK c = 2 then (turnC c (afterN c.target)).msg else ms0
def retS (c : Ct) : Bool := if retK c = 0 then false else true
def retT (c : Ct) : Bool := if retK c = 2 then true else false
def hearI (c : Ct) (x : Ms) : Bool := ((((!c.busy || decide (x.kind ≠ 10)) || !wi x.frm 1 7) || decide (x.to ≠ -c.id)) || decide (x.reply.seq ≠ c.seq))
def hearTo (x : Ms) : Int := if (!wi x.reply.lead 1 7 || decide (x.reply.lead = x.frm)) = true then afterN x.frm else x.reply.lead
def hearK (c : Ct) (x : Ms) : Nat := if RightP c then (if hearI c x = true then 1 else if x.reply.code = 141 then 3 else 2) else 0
def hearC (c : Ct) (x : Ms) : Ct := if hearK c x = 0 then ct0 else if hearK c x = 1 then c else if hearK c x = 2 then { ct0 with id := c.id, seq := c.seq, target := x.frm } else turnC c (hearTo x)
def hearX (c : Ct) (x : Ms) : Ms := if hearK c x = 3 then (turnC c (hearTo x)).msg else ms0
def hearS (c : Ct) (x : Ms) : Bool := if hearK c x = 1 ∨ hearK c x = 3 then true else false
def hearT (c : Ct) (x : Ms) : Bool := if hearK c x = 3 then true else false
def hearD (c : Ct) (x : Ms) : Bool := if hearK c x = 2 then true else false
def hearE (c : Ct) (x : Ms) : Int := if hearK c x = 0 then 180 else 0
def retE (c : Ct) : Int := if retK c = 0 then 180 else 0
theorem heard_frm {c : Ct} {x : Ms} (h : hearI c x = false) : c.busy = true ∧ 1 ≤ x.frm ∧ x.frm ≤ 7 := by
  simp only [hearI, Bool.or_eq_false_iff, Bool.not_eq_false', wi_iff] at h
  exact ⟨h.1.1.1.1, h.1.1.2⟩
theorem k0 {c : Ct} {x : Ms} (h : ¬ RightP c) : hearK c x = 0 := if_neg h
theorem k1 {c : Ct} {x : Ms} (h : RightP c) (hi : hearI c x = true) : hearK c x = 1 := by unfold hearK; rw [if_pos h, if_pos hi]
theorem k2 {c : Ct} {x : Ms} (h : RightP c) (hi : hearI c x = false) (hc : x.reply.code ≠ 141) : hearK c x = 2 := by unfold hearK; rw [if_pos h, hi, if_neg (by decide), if_neg hc]
theorem k3 {c : Ct} {x : Ms} (h : RightP c) (hi : hearI c x = false) (hc : x.reply.code = 141) : hearK c x = 3 := by unfold hearK; rw [if_pos h, hi, if_neg (by decide), if_pos hc]
theorem to_a {x : Ms} (h : (!wi x.reply.lead 1 7 || decide (x.reply.lead = x.frm)) = true) : hearTo x = afterN x.frm := if_pos h
theorem to_b {x : Ms} (h : (!wi x.reply.lead 1 7 || decide (x.reply.lead = x.frm)) = false) : hearTo x = x.reply.lead := if_neg (by rw [h]; decide)
theorem to_c {x : Ms} (h : (wi x.reply.lead 1 7 && decide (x.reply.lead ≠ x.frm)) = true) : hearTo x = x.reply.lead := to_b (by
  simp only [Bool.and_eq_true, decide_eq_true_eq, Bool.or_eq_false_iff, Bool.not_eq_false', decide_eq_false_iff_not] at h ⊢
  exact h)
theorem to_d {x : Ms} (h : (wi x.reply.lead 1 7 && decide (x.reply.lead ≠ x.frm)) = false) : hearTo x = afterN x.frm := to_a (by
  rw [Bool.and_eq_false_iff] at h
  simp only [decide_eq_false_iff_not, Bool.or_eq_true, Bool.not_eq_true', decide_eq_true_eq] at h ⊢
  rcases h with h | h
  · exact .inl h
  · exact .inr (Classical.byContradiction h))
theorem sz3e : (Try.prog.info? 3).map (·.size) = some 1 := by kernel_rfl
theorem sz4e : (Try.prog.info? 4).map (·.size) = some 1 := by kernel_rfl
theorem sz22e : (Try.prog.info? 22).map (·.size) = some 1 := by kernel_rfl
theorem sz31e : (Try.prog.info? 31).map (·.size) = some 38 := by kernel_rfl
theorem sz33e : (Try.prog.info? 33).map (·.size) = some 1 := by kernel_rfl
theorem sz43e : (Try.prog.info? 43).map (·.size) = some 169 := by kernel_rfl
theorem sz45e : (Try.prog.info? 45).map (·.size) = some 225 := by kernel_rfl
theorem sz47e : (Try.prog.info? 47).map (·.size) = some 230 := by kernel_rfl
theorem tx19e : Txt Try.prog 19 := txt_of Try.func19 rfl (by kernel_rfl)
theorem tx23e : Txt Try.prog 23 := txt_of Try.func23 rfl (by kernel_rfl)
theorem tx24e : Txt Try.prog 24 := txt_of Try.func24 rfl (by kernel_rfl)
theorem tx25e : Txt Try.prog 25 := txt_of Try.func25 rfl (by kernel_rfl)
theorem tx35e : Txt Try.prog 35 := txt_of Try.func35 rfl (by kernel_rfl)
theorem z45e : (Try.prog.info? 45).bind (·.zero) = some (.agg [.int .i64 0, .int .i64 0, .int .i64 0, .int .i64 0, .int .i64 0, .int .i64 0, .int .i64 0, .int .i64 0, .bool false, .slice none 0 0, .slice none 0 0, .slice none 0 0, .int .i64 0, .int .i64 0, .string ByteArray.empty, .int .i64 0, .int .i64 0, .int .i64 0, .string ByteArray.empty, .string ByteArray.empty, .int .i64 0, .int .u8 0, .int .u8 0, .int .u8 0, .int .u8 0, .int .u8 0, .int .u8 0, .int .u8 0, .int .u8 0, .int .u8 0, .int .u8 0, .int .u8 0, .int .u8 0, .int .u8 0, .int .u8 0, .int .u8 0, .int .u8 0, .int .u8 0, .int .u8 0, .int .u8 0, .int .u8 0, .int .u8 0, .int .u8 0, .int .u8 0, .int .u8 0, .int .u8 0, .int .u8 0, .int .u8 0, .int .u8 0, .int .u8 0, .int .u8 0, .int .u8 0, .int .u8 0, .int .i64 0, .int .i64 0, .string ByteArray.empty, .int .i64 0, .int .i64 0, .int .i64 0, .int .i64 0, .int .i64 0, .slice none 0 0, .slice none 0 0, .bool false, .int .u8 0, .int .u8 0, .int .u8 0, .int .u8 0, .int .u8 0, .int .u8 0, .int .u8 0, .int .u8 0, .int .u8 0, .int .u8 0, .int .u8 0, .int .u8 0, .int .u8 0, .int .u8 0, .int .u8 0, .int .u8 0, .int .u8 0, .int .u8 0, .int .u8 0, .int .u8 0, .int .u8 0, .int .u8 0, .int .u8 0, .int .u8 0, .int .u8 0, .int .u8 0, .int .u8 0, .int .u8 0, .int .u8 0, .int .u8 0, .int .u8 0, .int .u8 0, .int .u8 0, .int .u8 0, .int .u8 0, .int .u8 0, .int .u8 0, .int .u8 0, .int .u8 0, .int .u8 0, .int .u8 0, .int .u8 0, .int .u8 0, .int .u8 0, .int .u8 0, .int .u8 0, .int .u8 0, .int .u8 0, .int .u8 0, .int .u8 0, .int .u8 0, .int .u8 0, .int .u8 0, .int .u8 0, .int .u8 0, .int .u8 0, .int .u8 0, .int .u8 0, .int .u8 0, .int .u8 0, .int .u8 0, .int .u8 0, .int .u8 0, .int .u8 0, .int .i64 0, .int .u8 0, .int .u8 0, .int .u8 0, .int .u8 0, .int .u8 0, .int .u8 0, .int .u8 0, .int .u8 0, .int .u8 0, .int .u8 0, .int .u8 0, .int .u8 0, .int .u8 0, .int .u8 0, .int .u8 0, .int .u8 0, .int .u8 0, .int .u8 0, .int .u8 0, .int .u8 0, .int .u8 0, .int .u8 0, .int .u8 0, .int .u8 0, .int .u8 0, .int .u8 0, .int .u8 0, .int .u8 0, .int .u8 0, .int .u8 0, .int .u8 0, .int .u8 0, .int .u8 0, .int .u8 0, .int .u8 0, .int .u8 0, .int .u8 0, .int .u8 0, .int .u8 0, .int .u8 0, .int .u8 0, .int .u8 0, .int .u8 0, .int .u8 0, .int .u8 0, .int .u8 0, .int .u8 0, .int .u8 0, .int .u8 0, .int .u8 0, .int .u8 0, .int .u8 0, .int .u8 0, .int .u8 0, .int .u8 0, .int .u8 0, .int .u8 0, .int .u8 0, .int .u8 0, .int .u8 0, .int .u8 0, .int .u8 0, .int .u8 0, .int .u8 0, .int .u8 0, .int .u8 0, .int .u8 0, .int .u8 0, .int .u8 0, .int .u8 0, .int .u8 0, .int .u8 0, .int .u8 0, .int .u8 0, .int .u8 0, .int .u8 0, .int .u8 0, .int .u8 0, .int .u8 0, .int .u8 0, .int .u8 0, .int .u8 0, .int .u8 0, .int .u8 0, .int .u8 0, .int .u8 0, .int .u8 0, .int .u8 0, .int .u8 0, .int .u8 0, .int .u8 0, .int .u8 0, .int .u8 0, .int .u8 0, .int .u8 0, .int .u8 0].toArray) := by kernel_rfl
theorem z47e : (Try.prog.info? 47).bind (·.zero) = some (.agg [.int .i64 0, .int .i64 0, .int .i64 0, .bool false, .int .i64 0, .int .i64 0, .int .i64 0, .int .i64 0, .int .i64 0, .int .i64 0, .int .i64 0, .int .i64 0, .bool false, .slice none 0 0, .slice none 0 0, .slice none 0 0, .int .i64 0, .int .i64 0, .string ByteArray.empty, .int .i64 0, .int .i64 0, .int .i64 0, .string ByteArray.empty, .string ByteArray.empty, .int .i64 0, .int .u8 0, .int .u8 0, .int .u8 0, .int .u8 0, .int .u8 0, .int .u8 0, .int .u8 0, .int .u8 0, .int .u8 0, .int .u8 0, .int .u8 0, .int .u8 0, .int .u8 0, .int .u8 0, .int .u8 0, .int .u8 0, .int .u8 0, .int .u8 0, .int .u8 0, .int .u8 0, .int .u8 0, .int .u8 0, .int .u8 0, .int .u8 0, .int .u8 0, .int .u8 0, .int .u8 0, .int .u8 0, .int .u8 0, .int .u8 0, .int .u8 0, .int .u8 0, .int .i64 0, .int .i64 0, .string ByteArray.empty, .int .i64 0, .int .i64 0, .int .i64 0, .int .i64 0, .int .i64 0, .slice none 0 0, .slice none 0 0, .bool false, .int .u8 0, .int .u8 0, .int .u8 0, .int .u8 0, .int .u8 0, .int .u8 0, .int .u8 0, .int .u8 0, .int .u8 0, .int .u8 0, .int .u8 0, .int .u8 0, .int .u8 0, .int .u8 0, .int .u8 0, .int .u8 0, .int .u8 0, .int .u8 0, .int .u8 0, .int .u8 0, .int .u8 0, .int .u8 0, .int .u8 0, .int .u8 0, .int .u8 0, .int .u8 0, .int .u8 0, .int .u8 0, .int .u8 0, .int .u8 0, .int .u8 0, .int .u8 0, .int .u8 0, .int .u8 0, .int .u8 0, .int .u8 0, .int .u8 0, .int .u8 0, .int .u8 0, .int .u8 0, .int .u8 0, .int .u8 0, .int .u8 0, .int .u8 0, .int .u8 0, .int .u8 0, .int .u8 0, .int .u8 0, .int .u8 0, .int .u8 0, .int .u8 0, .int .u8 0, .int .u8 0, .int .u8 0, .int .u8 0, .int .u8 0, .int .u8 0, .int .u8 0, .int .u8 0, .int .u8 0, .int .u8 0, .int .u8 0, .int .u8 0, .int .u8 0, .int .i64 0, .int .u8 0, .int .u8 0, .int .u8 0, .int .u8 0, .int .u8 0, .int .u8 0, .int .u8 0, .int .u8 0, .int .u8 0, .int .u8 0, .int .u8 0, .int .u8 0, .int .u8 0, .int .u8 0, .int .u8 0, .int .u8 0, .int .u8 0, .int .u8 0, .int .u8 0, .int .u8 0, .int .u8 0, .int .u8 0, .int .u8 0, .int .u8 0, .int .u8 0, .int .u8 0, .int .u8 0, .int .u8 0, .int .u8 0, .int .u8 0, .int .u8 0, .int .u8 0, .int .u8 0, .int .u8 0, .int .u8 0, .int .u8 0, .int .u8 0, .int .u8 0, .int .u8 0, .int .u8 0, .int .u8 0, .int .u8 0, .int .u8 0, .int .u8 0, .int .u8 0, .int .u8 0, .int .u8 0, .int .u8 0, .int .u8 0, .int .u8 0, .int .u8 0, .int .u8 0, .int .u8 0, .int .u8 0, .int .u8 0, .int .u8 0, .int .u8 0, .int .u8 0, .int .u8 0, .int .u8 0, .int .u8 0, .int .u8 0, .int .u8 0, .int .u8 0, .int .u8 0, .int .u8 0, .int .u8 0, .int .u8 0, .int .u8 0, .int .u8 0, .int .u8 0, .int .u8 0, .int .u8 0, .int .u8 0, .int .u8 0, .int .u8 0, .int .u8 0, .int .u8 0, .int .u8 0, .int .u8 0, .int .u8 0, .int .u8 0, .int .u8 0, .int .u8 0, .int .u8 0, .int .u8 0, .int .u8 0, .int .u8 0, .int .u8 0, .int .u8 0, .int .u8 0, .int .u8 0, .int .u8 0, .int .u8 0, .int .u8 0, .int .u8 0, .int .i64 0].toArray) := by kernel_rfl

theorem call_w (c : Ct) (m : M5) (es : List EnV) (d : Cmd) (w : World) (hx : c.msg.entries = es.map Prod.fst) (f1 : FA w (msF c.msg m es)) (hB : Sz c.msg es) :
    Calls Try.prog 13 #[.agg (ctM c m).toArray, .agg (cmdM d).toArray] w fun e w' => e = .returned (.tuple #[.agg (ctM (begC c d 0 ⟨#[]⟩) m50).toArray, .agg (msM ((begC c d 0 ⟨#[]⟩).msg) m50).toArray, .int .i64 (begE c d 0 ⟨#[]⟩)]) ∧ Fr [] w w' := by
  refine calls_of (args := [.agg (ctM c m).toArray, .agg (cmdM d).toArray]) ([]) ([]) ([msF c.msg m es]) Try.func13 rfl rfl (okFW (.cons f1 .nil)) ?_
  refine J_seq ?_
  refine J_region ?_
  refine L_box rfl rfl rfl rfl rfl (fun b0 => ?_)
  refine L_box rfl rfl rfl rfl rfl (fun b1 => ?_)
  refine L_alloc rfl rfl rfl rfl z47e (fun b2 => ?_)
  refine L_alloc rfl rfl rfl rfl z45e (fun b3 => ?_)
  refine L_v rfl rfl rfl (V_assign rfl rfl) ?_
  refine L_nil ?_
  change J _ _ _ _
  refine J_seq ?_
  refine J_region ?_
  refine L_v rfl rfl rfl (V_loadT 0 (vs := ctM c m) rfl rfl rfl Try.underlying47 rfl sz47e (by kernel_rfl) (by kernel_rfl)) ?_
  refine L_v rfl rfl rfl (V_loadT 1 (vs := cmdM d) rfl rfl rfl Try.underlying31 rfl sz31e (by kernel_rfl) (by kernel_rfl)) ?_
  refine L_v rfl rfl rfl (V_buildE (v := .agg (msM (begM d 0 ⟨#[]⟩) m50).toArray) rfl rfl (fun w => by kernel_rfl)) ?_
  refine L_callV rfl rfl rfl rfl rfl rfl tx35e (fun w1 hw => begin_w c m es d 0 ⟨#[]⟩ w1 hx (hw.fa 0 rfl) hB) ?_
  refine L_v rfl rfl rfl (V_extract rfl rfl rfl) ?_
  refine L_v rfl rfl rfl (V_extract rfl rfl rfl) ?_
  refine L_v rfl rfl rfl (V_extract rfl rfl rfl) ?_
  refine L_storeW 2 rfl rfl rfl rfl rfl rfl (szd sz47e (by kernel_rfl)) (all_one (by kernel_rfl)) (by kernel_rfl) ?_
  refine L_storeW 3 rfl rfl rfl rfl rfl rfl (szd sz45e (by kernel_rfl)) (all_one (by kernel_rfl)) (by kernel_rfl) ?_
  refine L_v rfl rfl rfl (V_assign rfl rfl) ?_
  refine L_nil ?_
  change J _ _ _ _
  refine J_ret ?_
  change Kret _ _ _ Exit.ret _
  refine ret3 rfl rfl (RV_c 2 rfl rfl Try.underlying47 rfl (szd sz47e (by kernel_rfl))) (RV_c 3 rfl rfl Try.underlying45 rfl (szd sz45e (by kernel_rfl))) (RV_t rfl) ?_
  exact fun w' h => ⟨rfl, h.fr⟩

theorem ask_w (c : Ct) (m : M5) (es : List EnV) (a : Int) (u : ByteArray) (w : World) (hx : c.msg.entries = es.map Prod.fst) (f1 : FA w (msF c.msg m es)) (hB : Sz c.msg es) :
    Calls Try.prog 15 #[.agg (ctM c m).toArray, .int .i64 a, .string u] w fun e w' => e = .returned (.tuple #[.agg (ctM (begC c cmd0 a u) m50).toArray, .agg (msM ((begC c cmd0 a u).msg) m50).toArray, .int .i64 (begE c cmd0 a u)]) ∧ Fr [] w w' := by
  refine calls_of (args := [.agg (ctM c m).toArray, .int .i64 a, .string u]) ([]) ([]) ([msF c.msg m es]) Try.func15 rfl rfl (okFW (.cons f1 .nil)) ?_
  refine J_seq ?_
  refine J_region ?_
  refine L_box rfl rfl rfl rfl rfl (fun b0 => ?_)
  refine L_alloc rfl rfl rfl rfl z47e (fun b1 => ?_)
  refine L_alloc rfl rfl rfl rfl z45e (fun b2 => ?_)
  refine L_v rfl rfl rfl (V_assign rfl rfl) ?_
  refine L_nil ?_
  change J _ _ _ _
  refine J_seq ?_
  refine J_region ?_
  refine L_v rfl rfl rfl (V_loadT 0 (vs := ctM c m) rfl rfl rfl Try.underlying47 rfl sz47e (by kernel_rfl) (by kernel_rfl)) ?_
  refine L_v rfl rfl rfl (V_move rfl rfl) ?_
  refine L_v rfl rfl rfl (V_move rfl rfl) ?_
  refine L_v rfl rfl rfl (V_buildE (v := .agg (msM (begM cmd0 a u) m50).toArray) rfl rfl (fun w => by kernel_rfl)) ?_
  refine L_callV rfl rfl rfl rfl rfl rfl tx35e (fun w1 hw => begin_w c m es cmd0 a u w1 hx (hw.fa 0 rfl) hB) ?_
  refine L_v rfl rfl rfl (V_move rfl rfl) ?_
  refine L_v rfl rfl rfl (V_extract rfl rfl rfl) ?_
  refine L_v rfl rfl rfl (V_extract rfl rfl rfl) ?_
  refine L_v rfl rfl rfl (V_extract rfl rfl rfl) ?_
  refine L_alloc rfl rfl rfl rfl z47e (fun b3 => ?_)
  refine L_alloc rfl rfl rfl rfl z45e (fun b4 => ?_)
  refine L_storeW 3 rfl rfl rfl rfl rfl rfl (szd sz47e (by kernel_rfl)) (all_one (by kernel_rfl)) (by kernel_rfl) ?_
  refine L_storeW 4 rfl rfl rfl rfl rfl rfl (szd sz45e (by kernel_rfl)) (all_one (by kernel_rfl)) (by kernel_rfl) ?_
  refine L_v rfl rfl rfl (V_assign rfl rfl) ?_
  refine L_nil ?_
  change J _ _ _ _
  refine J_seq ?_
  refine J_seq ?_
  refine J_region ?_
  refine L_v rfl rfl rfl (V_move rfl rfl) ?_
  refine L_v rfl rfl rfl (V_eql rfl rfl rfl rfl) ?_
  refine L_v rfl rfl rfl (V_move rfl rfl) ?_
  apply L_and 2 23 26
  · rfl
  · rfl
  · rfl
  · rfl
  · rfl
  · rfl
  · rfl
  · kernel_rfl
  · intro hb1 _ _ hk1
    refine L_wv rfl rfl rfl rfl rfl rfl (V_move rfl rfl) ?_
    refine L_wv rfl rfl rfl rfl rfl rfl (V_eql rfl rfl rfl rfl) ?_
    exact hk1 _ ⟨rfl, rfl, rfl, rfl, ext_cut 2 (by kernel_rfl) (by kernel_rfl)⟩
  refine L_nil ?_
  change J _ _ _ _
  refine J_cond rfl (fun h2 => ?_) (fun h2 => ?_)
  ·
    first | (have h2 := of_decide_eq_true h2) | (have h2 := of_decide_eq_false h2) | skip
    refine J_seq ?_
    refine J_region ?_
    refine L_v rfl rfl rfl (V_buildE (v := .agg (ctM ct0 m50).toArray) rfl rfl (fun w => by kernel_rfl)) ?_
    refine L_v rfl rfl rfl (V_buildE (v := .agg (msM ms0 m50).toArray) rfl rfl (fun w => by kernel_rfl)) ?_
    refine L_storeW 1 rfl rfl rfl rfl rfl rfl (szd sz47e (by kernel_rfl)) (all_one (by kernel_rfl)) (by kernel_rfl) ?_
    refine L_storeW 2 rfl rfl rfl rfl rfl rfl (szd sz45e (by kernel_rfl)) (all_one (by kernel_rfl)) (by kernel_rfl) ?_
    refine L_v rfl rfl rfl (V_assign rfl rfl) ?_
    refine L_nil ?_
    change J _ _ _ _
    refine J_ret ?_
    change Kret _ _ _ Exit.ret _
    refine ret3 rfl rfl (RV_c 1 rfl rfl Try.underlying47 rfl (szd sz47e (by kernel_rfl))) (RV_c 2 rfl rfl Try.underlying45 rfl (szd sz45e (by kernel_rfl))) (RV_t rfl) ?_
    exact fun w' h => by
      rw [Bool.and_eq_true, decide_eq_true_eq, decide_eq_true_eq] at h2
      obtain ⟨h3, rfl⟩ := h2
      exact absurd h3 begE_ask0
  ·
    first | (have h2 := of_decide_eq_true h2) | (have h2 := of_decide_eq_false h2) | skip
    refine J_skip ?_
    change J _ _ _ _
    refine J_seq ?_
    refine J_regionO (.pure 0 (.pure 1 (.pure 2 (.one 3 (.one 4 (.pure 5 (.nil))))))) ([(b0, row 47 (ctM c m)), (b3, row 47 (ctM (begC c cmd0 a u) m50)), (b4, row 45 (msM ((begC c cmd0 a u).msg) m50))]) _ (Pk.of_sub (List.Sublist.cons_cons _ (List.Sublist.cons _ (List.Sublist.cons _ (List.Sublist.cons_cons _ (List.Sublist.cons_cons _ (List.nil_sublist _))))))) (fun f hf => hf) rfl rfl (by kernel_rfl) ?_
    refine LO_v rfl rfl rfl rfl (V_loadT 1 (vs := ctM (begC c cmd0 a u) m50) rfl rfl rfl Try.underlying47 rfl sz47e (by kernel_rfl) (by kernel_rfl)) ?_
    refine LO_v rfl rfl rfl rfl (V_loadT 2 (vs := msM ((begC c cmd0 a u).msg) m50) rfl rfl rfl Try.underlying45 rfl sz45e (by kernel_rfl) (by kernel_rfl)) ?_
    refine LO_v rfl rfl rfl rfl (V_move rfl rfl) ?_
    refine LO_s rfl rfl rfl (S_storeW 1 rfl rfl rfl rfl rfl (szd sz47e (by kernel_rfl)) (all_one (by kernel_rfl)) (by kernel_rfl) ⟨(Pk.of_sub (List.Sublist.cons_cons _ (List.Sublist.cons _ (List.Sublist.cons _ (List.Sublist.cons_cons _ (List.Sublist.cons_cons _ (List.nil_sublist _))))))), (fun f hf => hf), ?_⟩)
    refine LO_s rfl rfl rfl (S_storeW 2 rfl rfl rfl rfl rfl (szd sz45e (by kernel_rfl)) (all_one (by kernel_rfl)) (by kernel_rfl) ⟨(Pk.of_sub (List.Sublist.cons_cons _ (List.Sublist.cons _ (List.Sublist.cons _ (List.Sublist.cons_cons _ (List.Sublist.cons_cons _ (List.nil_sublist _))))))), (fun f hf => hf), ?_⟩)
    refine LO_v rfl rfl rfl rfl (V_assign rfl rfl) ?_
    refine LO_nil ?_
    change J _ _ _ _
    refine J_ret ?_
    change Kret _ _ _ Exit.ret _
    refine ret3 rfl rfl (RV_c 1 rfl rfl Try.underlying47 rfl (szd sz47e (by kernel_rfl))) (RV_c 2 rfl rfl Try.underlying45 rfl (szd sz45e (by kernel_rfl))) (RV_t rfl) ?_
    exact fun w' h => ⟨rfl, h.fr⟩

set_option maxHeartbeats 2000000 in
theorem retry_w (c : Ct) (m : M5) (es : List EnV) (w : World) (hx : c.msg.entries = es.map Prod.fst) (f1 : FA w (msF c.msg m es)) (hB : Sz c.msg es) :
    Calls Try.prog 17 #[.agg (ctM c m).toArray] w fun e w' => e = .returned (.tuple #[.agg (ctM (retC c) (selM (retS c) m)).toArray, .agg (msM (retX c) (selM (retT c) m)).toArray, .int .i64 (retE c)]) ∧ Fr [] w w' := by
  refine calls_of (args := [.agg (ctM c m).toArray]) ([]) ([]) ([msF c.msg m es]) Try.func17 rfl rfl (okFW (.cons f1 .nil)) ?_
  refine J_seq ?_
  refine J_region ?_
  refine L_box rfl rfl rfl rfl rfl (fun b0 => ?_)
  refine L_alloc rfl rfl rfl rfl z47e (fun b1 => ?_)
  refine L_alloc rfl rfl rfl rfl z45e (fun b2 => ?_)
  refine L_v rfl rfl rfl (V_assign rfl rfl) ?_
  refine L_nil ?_
  change J _ _ _ _
  refine J_seq ?_
  refine J_seq ?_
  refine J_region ?_
  refine L_v rfl rfl rfl (V_loadT 0 (vs := ctM c m) rfl rfl rfl Try.underlying47 rfl sz47e (by kernel_rfl) (by kernel_rfl)) ?_
  refine L_callV rfl rfl rfl rfl rfl rfl tx19e (fun w1 hw => check_w c m es w1 hx (hw.fa 0 rfl) hB) ?_
  refine L_v rfl rfl rfl (V_assign rfl rfl) ?_
  refine L_nil ?_
  change J _ _ _ _
  refine J_seq ?_
  refine J_region ?_
  refine L_v rfl rfl rfl (V_move rfl rfl) ?_
  refine L_v rfl rfl rfl (V_neq rfl rfl rfl rfl) ?_
  refine L_nil ?_
  change J _ _ _ _
  refine J_cond rfl (fun h1 => ?_) (fun h1 => ?_)
  ·
    first | (have h1 := of_decide_eq_true h1) | (have h1 := of_decide_eq_false h1) | skip
    refine J_seq ?_
    refine J_region ?_
    refine L_v rfl rfl rfl (V_buildE (v := .agg (ctM ct0 m50).toArray) rfl rfl (fun w => by kernel_rfl)) ?_
    refine L_v rfl rfl rfl (V_buildE (v := .agg (msM ms0 m50).toArray) rfl rfl (fun w => by kernel_rfl)) ?_
    refine L_v rfl rfl rfl (V_move rfl rfl) ?_
    refine L_storeW 1 rfl rfl rfl rfl rfl rfl (szd sz47e (by kernel_rfl)) (all_one (by kernel_rfl)) (by kernel_rfl) ?_
    refine L_storeW 2 rfl rfl rfl rfl rfl rfl (szd sz45e (by kernel_rfl)) (all_one (by kernel_rfl)) (by kernel_rfl) ?_
    refine L_v rfl rfl rfl (V_assign rfl rfl) ?_
    refine L_nil ?_
    change J _ _ _ _
    refine J_ret ?_
    change Kret _ _ _ Exit.ret _
    refine ret3 rfl rfl (RV_c 1 rfl rfl Try.underlying47 rfl (szd sz47e (by kernel_rfl))) (RV_c 2 rfl rfl Try.underlying45 rfl (szd sz45e (by kernel_rfl))) (RV_t rfl) ?_
    exact fun w' h => ⟨by have hk : retK c = 0 := if_neg (chk1 h1); unfold retC retX retS retT retE; rw [hk, chk_n (chk1 h1)]; rfl, h.fr⟩
  ·
    first | (have h1 := of_decide_eq_true h1) | (have h1 := of_decide_eq_false h1) | skip
    have hr := chk0 h1
    obtain ⟨⟨i1, i2⟩, ⟨i3, i4⟩, ⟨i5, i6⟩, i7, i8⟩ := hr.nums
    refine J_skip ?_
    change J _ _ _ _
    refine J_seq ?_
    refine J_seq ?_
    refine J_region ?_
    refine L_v rfl rfl rfl (V_fieldAddr rfl rfl Try.underlying47 rfl sz4e rfl) ?_
    refine L_v rfl rfl rfl (V_load1 0 rfl rfl rfl Try.underlying4 rfl (by rfl)) ?_
    refine L_v rfl rfl rfl (V_not rfl rfl rfl) ?_
    refine L_nil ?_
    change J _ _ _ _
    refine J_cond rfl (fun h2 => ?_) (fun h2 => ?_)
    ·
      first | (have h2 := of_decide_eq_true h2) | (have h2 := of_decide_eq_false h2) | skip
      refine J_seq ?_
      refine J_region ?_
      refine L_v rfl rfl rfl (V_loadT 0 (vs := ctM c m) rfl rfl rfl Try.underlying47 rfl sz47e (by kernel_rfl) (by kernel_rfl)) ?_
      refine L_v rfl rfl rfl (V_buildE (v := .agg (msM ms0 m50).toArray) rfl rfl (fun w => by kernel_rfl)) ?_
      refine L_storeW 1 rfl rfl rfl rfl rfl rfl (szd sz47e (by kernel_rfl)) (all_one (by kernel_rfl)) (by kernel_rfl) ?_
      refine L_storeW 2 rfl rfl rfl rfl rfl rfl (szd sz45e (by kernel_rfl)) (all_one (by kernel_rfl)) (by kernel_rfl) ?_
      refine L_v rfl rfl rfl (V_assign rfl rfl) ?_
      refine L_nil ?_
      change J _ _ _ _
      refine J_ret ?_
      change Kret _ _ _ Exit.ret _
      refine ret3 rfl rfl (RV_c 1 rfl rfl Try.underlying47 rfl (szd sz47e (by kernel_rfl))) (RV_c 2 rfl rfl Try.underlying45 rfl (szd sz45e (by kernel_rfl))) (RV_t rfl) ?_
      exact fun w' h => ⟨by have hk : retK c = 1 := (by unfold retK; rw [if_pos hr, if_neg (by simpa using h2)]); unfold retC retX retS retT retE; rw [hk]; rfl, h.fr⟩
    ·
      first | (have h2 := of_decide_eq_true h2) | (have h2 := of_decide_eq_false h2) | skip
      refine J_skip ?_
      change J _ _ _ _
      refine J_seq ?_
      refine J_regionO (.pure 0 (.pure 1 (.pure 2 (.three 3 (.three 4 (.pure 5 (.pure 6 (.pure 7 (.two 8 (.one 9 (.one 10 (.one 11 (.nil)))) 9 (.one 8 (.one 10 (.one 11 (.nil)))))))) 8 (.two 4 (.pure 5 (.pure 6 (.pure 7 (.one 9 (.one 10 (.one 11 (.nil))))))) 9 (.one 4 (.pure 5 (.pure 6 (.pure 7 (.one 10 (.one 11 (.nil)))))))) 9 (.two 4 (.pure 5 (.pure 6 (.pure 7 (.one 8 (.one 10 (.one 11 (.nil))))))) 8 (.one 4 (.pure 5 (.pure 6 (.pure 7 (.one 10 (.one 11 (.nil))))))))) 8 (.two 3 (.two 4 (.pure 5 (.pure 6 (.pure 7 (.one 9 (.one 10 (.one 11 (.nil))))))) 9 (.one 4 (.pure 5 (.pure 6 (.pure 7 (.one 10 (.one 11 (.nil)))))))) 9 (.one 3 (.one 4 (.pure 5 (.pure 6 (.pure 7 (.one 10 (.one 11 (.nil))))))))) 9 (.two 3 (.two 4 (.pure 5 (.pure 6 (.pure 7 (.one 8 (.one 10 (.one 11 (.nil))))))) 8 (.one 4 (.pure 5 (.pure 6 (.pure 7 (.one 10 (.one 11 (.nil)))))))) 8 (.one 3 (.one 4 (.pure 5 (.pure 6 (.pure 7 (.one 10 (.one 11 (.nil))))))))))))) ([(b0, row 47 (ctM c m)), (b1, row 47 ([.int .i64 0, .int .i64 0, .int .i64 0, .bool false, .int .i64 0, .int .i64 0, .int .i64 0, .int .i64 0, .int .i64 0, .int .i64 0, .int .i64 0, .int .i64 0, .bool false, .slice none 0 0, .slice none 0 0, .slice none 0 0, .int .i64 0, .int .i64 0, .string ByteArray.empty, .int .i64 0, .int .i64 0, .int .i64 0, .string ByteArray.empty, .string ByteArray.empty, .int .i64 0, .int .u8 0, .int .u8 0, .int .u8 0, .int .u8 0, .int .u8 0, .int .u8 0, .int .u8 0, .int .u8 0, .int .u8 0, .int .u8 0, .int .u8 0, .int .u8 0, .int .u8 0, .int .u8 0, .int .u8 0, .int .u8 0, .int .u8 0, .int .u8 0, .int .u8 0, .int .u8 0, .int .u8 0, .int .u8 0, .int .u8 0, .int .u8 0, .int .u8 0, .int .u8 0, .int .u8 0, .int .u8 0, .int .u8 0, .int .u8 0, .int .u8 0, .int .u8 0, .int .i64 0, .int .i64 0, .string ByteArray.empty, .int .i64 0, .int .i64 0, .int .i64 0, .int .i64 0, .int .i64 0, .slice none 0 0, .slice none 0 0, .bool false, .int .u8 0, .int .u8 0, .int .u8 0, .int .u8 0, .int .u8 0, .int .u8 0, .int .u8 0, .int .u8 0, .int .u8 0, .int .u8 0, .int .u8 0, .int .u8 0, .int .u8 0, .int .u8 0, .int .u8 0, .int .u8 0, .int .u8 0, .int .u8 0, .int .u8 0, .int .u8 0, .int .u8 0, .int .u8 0, .int .u8 0, .int .u8 0, .int .u8 0, .int .u8 0, .int .u8 0, .int .u8 0, .int .u8 0, .int .u8 0, .int .u8 0, .int .u8 0, .int .u8 0, .int .u8 0, .int .u8 0, .int .u8 0, .int .u8 0, .int .u8 0, .int .u8 0, .int .u8 0, .int .u8 0, .int .u8 0, .int .u8 0, .int .u8 0, .int .u8 0, .int .u8 0, .int .u8 0, .int .u8 0, .int .u8 0, .int .u8 0, .int .u8 0, .int .u8 0, .int .u8 0, .int .u8 0, .int .u8 0, .int .u8 0, .int .u8 0, .int .u8 0, .int .u8 0, .int .u8 0, .int .u8 0, .int .u8 0, .int .u8 0, .int .u8 0, .int .i64 0, .int .u8 0, .int .u8 0, .int .u8 0, .int .u8 0, .int .u8 0, .int .u8 0, .int .u8 0, .int .u8 0, .int .u8 0, .int .u8 0, .int .u8 0, .int .u8 0, .int .u8 0, .int .u8 0, .int .u8 0, .int .u8 0, .int .u8 0, .int .u8 0, .int .u8 0, .int .u8 0, .int .u8 0, .int .u8 0, .int .u8 0, .int .u8 0, .int .u8 0, .int .u8 0, .int .u8 0, .int .u8 0, .int .u8 0, .int .u8 0, .int .u8 0, .int .u8 0, .int .u8 0, .int .u8 0, .int .u8 0, .int .u8 0, .int .u8 0, .int .u8 0, .int .u8 0, .int .u8 0, .int .u8 0, .int .u8 0, .int .u8 0, .int .u8 0, .int .u8 0, .int .u8 0, .int .u8 0, .int .u8 0, .int .u8 0, .int .u8 0, .int .u8 0, .int .u8 0, .int .u8 0, .int .u8 0, .int .u8 0, .int .u8 0, .int .u8 0, .int .u8 0, .int .u8 0, .int .u8 0, .int .u8 0, .int .u8 0, .int .u8 0, .int .u8 0, .int .u8 0, .int .u8 0, .int .u8 0, .int .u8 0, .int .u8 0, .int .u8 0, .int .u8 0, .int .u8 0, .int .u8 0, .int .u8 0, .int .u8 0, .int .u8 0, .int .u8 0, .int .u8 0, .int .u8 0, .int .u8 0, .int .u8 0, .int .u8 0, .int .u8 0, .int .u8 0, .int .u8 0, .int .u8 0, .int .u8 0, .int .u8 0, .int .u8 0, .int .u8 0, .int .u8 0, .int .u8 0, .int .u8 0, .int .u8 0, .int .u8 0, .int .u8 0, .int .i64 0])), (b2, row 45 ([.int .i64 0, .int .i64 0, .int .i64 0, .int .i64 0, .int .i64 0, .int .i64 0, .int .i64 0, .int .i64 0, .bool false, .slice none 0 0, .slice none 0 0, .slice none 0 0, .int .i64 0, .int .i64 0, .string ByteArray.empty, .int .i64 0, .int .i64 0, .int .i64 0, .string ByteArray.empty, .string ByteArray.empty, .int .i64 0, .int .u8 0, .int .u8 0, .int .u8 0, .int .u8 0, .int .u8 0, .int .u8 0, .int .u8 0, .int .u8 0, .int .u8 0, .int .u8 0, .int .u8 0, .int .u8 0, .int .u8 0, .int .u8 0, .int .u8 0, .int .u8 0, .int .u8 0, .int .u8 0, .int .u8 0, .int .u8 0, .int .u8 0, .int .u8 0, .int .u8 0, .int .u8 0, .int .u8 0, .int .u8 0, .int .u8 0, .int .u8 0, .int .u8 0, .int .u8 0, .int .u8 0, .int .u8 0, .int .i64 0, .int .i64 0, .string ByteArray.empty, .int .i64 0, .int .i64 0, .int .i64 0, .int .i64 0, .int .i64 0, .slice none 0 0, .slice none 0 0, .bool false, .int .u8 0, .int .u8 0, .int .u8 0, .int .u8 0, .int .u8 0, .int .u8 0, .int .u8 0, .int .u8 0, .int .u8 0, .int .u8 0, .int .u8 0, .int .u8 0, .int .u8 0, .int .u8 0, .int .u8 0, .int .u8 0, .int .u8 0, .int .u8 0, .int .u8 0, .int .u8 0, .int .u8 0, .int .u8 0, .int .u8 0, .int .u8 0, .int .u8 0, .int .u8 0, .int .u8 0, .int .u8 0, .int .u8 0, .int .u8 0, .int .u8 0, .int .u8 0, .int .u8 0, .int .u8 0, .int .u8 0, .int .u8 0, .int .u8 0, .int .u8 0, .int .u8 0, .int .u8 0, .int .u8 0, .int .u8 0, .int .u8 0, .int .u8 0, .int .u8 0, .int .u8 0, .int .u8 0, .int .u8 0, .int .u8 0, .int .u8 0, .int .u8 0, .int .u8 0, .int .u8 0, .int .u8 0, .int .u8 0, .int .u8 0, .int .u8 0, .int .u8 0, .int .u8 0, .int .u8 0, .int .u8 0, .int .u8 0, .int .u8 0, .int .u8 0, .int .i64 0, .int .u8 0, .int .u8 0, .int .u8 0, .int .u8 0, .int .u8 0, .int .u8 0, .int .u8 0, .int .u8 0, .int .u8 0, .int .u8 0, .int .u8 0, .int .u8 0, .int .u8 0, .int .u8 0, .int .u8 0, .int .u8 0, .int .u8 0, .int .u8 0, .int .u8 0, .int .u8 0, .int .u8 0, .int .u8 0, .int .u8 0, .int .u8 0, .int .u8 0, .int .u8 0, .int .u8 0, .int .u8 0, .int .u8 0, .int .u8 0, .int .u8 0, .int .u8 0, .int .u8 0, .int .u8 0, .int .u8 0, .int .u8 0, .int .u8 0, .int .u8 0, .int .u8 0, .int .u8 0, .int .u8 0, .int .u8 0, .int .u8 0, .int .u8 0, .int .u8 0, .int .u8 0, .int .u8 0, .int .u8 0, .int .u8 0, .int .u8 0, .int .u8 0, .int .u8 0, .int .u8 0, .int .u8 0, .int .u8 0, .int .u8 0, .int .u8 0, .int .u8 0, .int .u8 0, .int .u8 0, .int .u8 0, .int .u8 0, .int .u8 0, .int .u8 0, .int .u8 0, .int .u8 0, .int .u8 0, .int .u8 0, .int .u8 0, .int .u8 0, .int .u8 0, .int .u8 0, .int .u8 0, .int .u8 0, .int .u8 0, .int .u8 0, .int .u8 0, .int .u8 0, .int .u8 0, .int .u8 0, .int .u8 0, .int .u8 0, .int .u8 0, .int .u8 0, .int .u8 0, .int .u8 0, .int .u8 0, .int .u8 0, .int .u8 0, .int .u8 0, .int .u8 0, .int .u8 0, .int .u8 0, .int .u8 0, .int .u8 0, .int .u8 0]))]) _ (Pk.of_sub (List.Sublist.cons_cons _ (List.Sublist.cons_cons _ (List.Sublist.cons_cons _ (List.nil_sublist _))))) (fun f hf => hf) rfl rfl (by kernel_rfl) ?_
      refine LO_v rfl rfl rfl rfl (V_loadT 0 (vs := ctM c m) rfl rfl rfl Try.underlying47 rfl sz47e (by kernel_rfl) (by kernel_rfl)) ?_
      refine LO_v rfl rfl rfl rfl (V_fieldAddr rfl rfl Try.underlying47 rfl sz3e rfl) ?_
      refine LO_v rfl rfl rfl rfl (V_load1 0 rfl rfl rfl Try.underlying3 rfl (by rfl)) ?_
      refine LO_three ?_ ?_ ?_
      ·
        refine LO_callV rfl rfl rfl rfl rfl rfl rfl rfl tx24e (fun w1 hw => after_w _ w1 ⟨i5, i6⟩) (Pk.of_sub (List.Sublist.cons_cons _ (List.Sublist.cons_cons _ (List.Sublist.cons_cons _ (List.nil_sublist _))))) (fun f hf => hf) ?_
        refine LO_three ?_ ?_ ?_
        ·
          refine LO_callV rfl rfl rfl rfl rfl rfl rfl rfl tx25e (fun w1 hw => turned_w c m _ w1 ⟨i7, i8⟩) (Pk.of_sub (List.Sublist.cons_cons _ (List.Sublist.cons_cons _ (List.Sublist.cons_cons _ (List.nil_sublist _))))) (fun f hf => hf) ?_
          refine LO_v rfl rfl rfl rfl (V_move rfl rfl) ?_
          refine LO_v rfl rfl rfl rfl (V_extract rfl rfl rfl) ?_
          refine LO_v rfl rfl rfl rfl (V_extract rfl rfl rfl) ?_
          refine LO_both ?_ ?_
          ·
            refine LO_s rfl rfl rfl (S_alloc rfl rfl rfl z47e (fun b3 => ⟨(Pk.of_sub (List.Sublist.cons_cons _ (List.Sublist.cons_cons _ (List.Sublist.cons_cons _ (List.nil_sublist _))))), (fun f hf => hf), ?_⟩))
            refine LO_s rfl rfl rfl (S_alloc rfl rfl rfl z45e (fun b4 => ⟨(Pk.of_sub (List.Sublist.cons_cons _ (List.Sublist.cons_cons _ (List.Sublist.cons_cons _ (List.nil_sublist _))))), (fun f hf => hf), ?_⟩))
            refine LO_s rfl rfl rfl (S_storeW 3 rfl rfl rfl rfl rfl (szd sz47e (by kernel_rfl)) (all_one (by kernel_rfl)) (by kernel_rfl) ⟨(Pk.of_sub (List.Sublist.cons_cons _ (List.Sublist.cons_cons _ (List.Sublist.cons_cons _ (List.nil_sublist _))))), (fun f hf => hf), ?_⟩)
            refine LO_s rfl rfl rfl (S_storeW 4 rfl rfl rfl rfl rfl (szd sz45e (by kernel_rfl)) (all_one (by kernel_rfl)) (by kernel_rfl) ⟨(Pk.of_sub (List.Sublist.cons_cons _ (List.Sublist.cons_cons _ (List.Sublist.cons_cons _ (List.nil_sublist _))))), (fun f hf => hf), ?_⟩)
            refine LO_nil ?_
            change J _ _ _ _
            refine J_seq ?_
            refine J_regionO (.pure 0 (.pure 1 (.one 2 (.one 3 (.pure 4 (.nil)))))) ([(b0, row 47 (ctM c m)), (b3, row 47 (ctM (turnC c (afterN c.target)) m)), (b4, row 45 (msM ((turnC c (afterN c.target)).msg) m))]) _ (Pk.of_sub (List.Sublist.cons_cons _ (List.Sublist.cons _ (List.Sublist.cons _ (List.Sublist.cons_cons _ (List.Sublist.cons_cons _ (List.nil_sublist _))))))) (fun f hf => hf) rfl rfl (by kernel_rfl) ?_
            refine LO_v rfl rfl rfl rfl (V_loadT 1 (vs := ctM (turnC c (afterN c.target)) m) rfl rfl rfl Try.underlying47 rfl sz47e (by kernel_rfl) (by kernel_rfl)) ?_
            refine LO_v rfl rfl rfl rfl (V_loadT 2 (vs := msM ((turnC c (afterN c.target)).msg) m) rfl rfl rfl Try.underlying45 rfl sz45e (by kernel_rfl) (by kernel_rfl)) ?_
            refine LO_s rfl rfl rfl (S_storeW 1 rfl rfl rfl rfl rfl (szd sz47e (by kernel_rfl)) (all_one (by kernel_rfl)) (by kernel_rfl) ⟨(Pk.of_sub (List.Sublist.cons_cons _ (List.Sublist.cons _ (List.Sublist.cons _ (List.Sublist.cons_cons _ (List.Sublist.cons_cons _ (List.nil_sublist _))))))), (fun f hf => hf), ?_⟩)
            refine LO_s rfl rfl rfl (S_storeW 2 rfl rfl rfl rfl rfl (szd sz45e (by kernel_rfl)) (all_one (by kernel_rfl)) (by kernel_rfl) ⟨(Pk.of_sub (List.Sublist.cons_cons _ (List.Sublist.cons _ (List.Sublist.cons _ (List.Sublist.cons_cons _ (List.Sublist.cons_cons _ (List.nil_sublist _))))))), (fun f hf => hf), ?_⟩)
            refine LO_v rfl rfl rfl rfl (V_assign rfl rfl) ?_
            refine LO_nil ?_
            change J _ _ _ _
            refine J_ret ?_
            change Kret _ _ _ Exit.ret _
            refine ret3 rfl rfl (RV_c 1 rfl rfl Try.underlying47 rfl (szd sz47e (by kernel_rfl))) (RV_c 2 rfl rfl Try.underlying45 rfl (szd sz45e (by kernel_rfl))) (RV_t rfl) ?_
            exact fun w' h => ⟨by have hk : retK c = 2 := (by unfold retK; rw [if_pos hr, if_pos (by simpa using h2)]); unfold retC retX retS retT retE; rw [hk]; rfl, h.fr⟩
          ·
            refine LO_s rfl rfl rfl (S_alloc rfl rfl rfl z45e (fun b3 => ⟨(Pk.of_sub (List.Sublist.cons_cons _ (List.Sublist.cons_cons _ (List.Sublist.cons_cons _ (List.nil_sublist _))))), (fun f hf => hf), ?_⟩))
            refine LO_s rfl rfl rfl (S_alloc rfl rfl rfl z47e (fun b4 => ⟨(Pk.of_sub (List.Sublist.cons_cons _ (List.Sublist.cons_cons _ (List.Sublist.cons_cons _ (List.nil_sublist _))))), (fun f hf => hf), ?_⟩))
            refine LO_s rfl rfl rfl (S_storeW 4 rfl rfl rfl rfl rfl (szd sz47e (by kernel_rfl)) (all_one (by kernel_rfl)) (by kernel_rfl) ⟨(Pk.of_sub (List.Sublist.cons_cons _ (List.Sublist.cons_cons _ (List.Sublist.cons_cons _ (List.nil_sublist _))))), (fun f hf => hf), ?_⟩)
            refine LO_s rfl rfl rfl (S_storeW 3 rfl rfl rfl rfl rfl (szd sz45e (by kernel_rfl)) (all_one (by kernel_rfl)) (by kernel_rfl) ⟨(Pk.of_sub (List.Sublist.cons_cons _ (List.Sublist.cons_cons _ (List.Sublist.cons_cons _ (List.nil_sublist _))))), (fun f hf => hf), ?_⟩)
            refine LO_nil ?_
            change J _ _ _ _
            refine J_seq ?_
            refine J_regionO (.pure 0 (.pure 1 (.one 2 (.one 3 (.pure 4 (.nil)))))) ([(b0, row 47 (ctM c m)), (b3, row 45 (msM ((turnC c (afterN c.target)).msg) m)), (b4, row 47 (ctM (turnC c (afterN c.target)) m))]) _ (Pk.of_sub (List.Sublist.cons_cons _ (List.Sublist.cons _ (List.Sublist.cons _ (List.Sublist.cons_cons _ (List.Sublist.cons_cons _ (List.nil_sublist _))))))) (fun f hf => hf) rfl rfl (by kernel_rfl) ?_
            refine LO_v rfl rfl rfl rfl (V_loadT 2 (vs := ctM (turnC c (afterN c.target)) m) rfl rfl rfl Try.underlying47 rfl sz47e (by kernel_rfl) (by kernel_rfl)) ?_
            refine LO_v rfl rfl rfl rfl (V_loadT 1 (vs := msM ((turnC c (afterN c.target)).msg) m) rfl rfl rfl Try.underlying45 rfl sz45e (by kernel_rfl) (by kernel_rfl)) ?_
            refine LO_s rfl rfl rfl (S_storeW 1 rfl rfl rfl rfl rfl (szd sz47e (by kernel_rfl)) (all_one (by kernel_rfl)) (by kernel_rfl) ⟨(Pk.of_sub (List.Sublist.cons_cons _ (List.Sublist.cons _ (List.Sublist.cons _ (List.Sublist.cons_cons _ (List.Sublist.cons_cons _ (List.nil_sublist _))))))), (fun f hf => hf), ?_⟩)
            refine LO_s rfl rfl rfl (S_storeW 2 rfl rfl rfl rfl rfl (szd sz45e (by kernel_rfl)) (all_one (by kernel_rfl)) (by kernel_rfl) ⟨(Pk.of_sub (List.Sublist.cons_cons _ (List.Sublist.cons _ (List.Sublist.cons _ (List.Sublist.cons_cons _ (List.Sublist.cons_cons _ (List.nil_sublist _))))))), (fun f hf => hf), ?_⟩)
            refine LO_v rfl rfl rfl rfl (V_assign rfl rfl) ?_
            refine LO_nil ?_
            change J _ _ _ _
            refine J_ret ?_
            change Kret _ _ _ Exit.ret _
            refine ret3 rfl rfl (RV_c 1 rfl rfl Try.underlying47 rfl (szd sz47e (by kernel_rfl))) (RV_c 2 rfl rfl Try.underlying45 rfl (szd sz45e (by kernel_rfl))) (RV_t rfl) ?_
            exact fun w' h => ⟨by have hk : retK c = 2 := (by unfold retK; rw [if_pos hr, if_pos (by simpa using h2)]); unfold retC retX retS retT retE; rw [hk]; rfl, h.fr⟩
        ·
          refine LO_s rfl rfl rfl (S_alloc rfl rfl rfl z47e (fun b3 => ⟨(Pk.of_sub (List.Sublist.cons_cons _ (List.Sublist.cons_cons _ (List.Sublist.cons_cons _ (List.nil_sublist _))))), (fun f hf => hf), ?_⟩))
          refine LO_both ?_ ?_
          ·
            refine LO_callV rfl rfl rfl rfl rfl rfl rfl rfl tx25e (fun w1 hw => turned_w c m _ w1 ⟨i7, i8⟩) (Pk.of_sub (List.Sublist.cons_cons _ (List.Sublist.cons_cons _ (List.Sublist.cons_cons _ (List.nil_sublist _))))) (fun f hf => hf) ?_
            refine LO_v rfl rfl rfl rfl (V_move rfl rfl) ?_
            refine LO_v rfl rfl rfl rfl (V_extract rfl rfl rfl) ?_
            refine LO_v rfl rfl rfl rfl (V_extract rfl rfl rfl) ?_
            refine LO_s rfl rfl rfl (S_alloc rfl rfl rfl z45e (fun b4 => ⟨(Pk.of_sub (List.Sublist.cons_cons _ (List.Sublist.cons_cons _ (List.Sublist.cons_cons _ (List.nil_sublist _))))), (fun f hf => hf), ?_⟩))
            refine LO_s rfl rfl rfl (S_storeW 3 rfl rfl rfl rfl rfl (szd sz47e (by kernel_rfl)) (all_one (by kernel_rfl)) (by kernel_rfl) ⟨(Pk.of_sub (List.Sublist.cons_cons _ (List.Sublist.cons_cons _ (List.Sublist.cons_cons _ (List.nil_sublist _))))), (fun f hf => hf), ?_⟩)
            refine LO_s rfl rfl rfl (S_storeW 4 rfl rfl rfl rfl rfl (szd sz45e (by kernel_rfl)) (all_one (by kernel_rfl)) (by kernel_rfl) ⟨(Pk.of_sub (List.Sublist.cons_cons _ (List.Sublist.cons_cons _ (List.Sublist.cons_cons _ (List.nil_sublist _))))), (fun f hf => hf), ?_⟩)
            refine LO_nil ?_
            change J _ _ _ _
            refine J_seq ?_
            refine J_regionO (.pure 0 (.pure 1 (.one 2 (.one 3 (.pure 4 (.nil)))))) ([(b0, row 47 (ctM c m)), (b3, row 47 (ctM (turnC c (afterN c.target)) m)), (b4, row 45 (msM ((turnC c (afterN c.target)).msg) m))]) _ (Pk.of_sub (List.Sublist.cons_cons _ (List.Sublist.cons _ (List.Sublist.cons _ (List.Sublist.cons_cons _ (List.Sublist.cons_cons _ (List.nil_sublist _))))))) (fun f hf => hf) rfl rfl (by kernel_rfl) ?_
            refine LO_v rfl rfl rfl rfl (V_loadT 1 (vs := ctM (turnC c (afterN c.target)) m) rfl rfl rfl Try.underlying47 rfl sz47e (by kernel_rfl) (by kernel_rfl)) ?_
            refine LO_v rfl rfl rfl rfl (V_loadT 2 (vs := msM ((turnC c (afterN c.target)).msg) m) rfl rfl rfl Try.underlying45 rfl sz45e (by kernel_rfl) (by kernel_rfl)) ?_
            refine LO_s rfl rfl rfl (S_storeW 1 rfl rfl rfl rfl rfl (szd sz47e (by kernel_rfl)) (all_one (by kernel_rfl)) (by kernel_rfl) ⟨(Pk.of_sub (List.Sublist.cons_cons _ (List.Sublist.cons _ (List.Sublist.cons _ (List.Sublist.cons_cons _ (List.Sublist.cons_cons _ (List.nil_sublist _))))))), (fun f hf => hf), ?_⟩)
            refine LO_s rfl rfl rfl (S_storeW 2 rfl rfl rfl rfl rfl (szd sz45e (by kernel_rfl)) (all_one (by kernel_rfl)) (by kernel_rfl) ⟨(Pk.of_sub (List.Sublist.cons_cons _ (List.Sublist.cons _ (List.Sublist.cons _ (List.Sublist.cons_cons _ (List.Sublist.cons_cons _ (List.nil_sublist _))))))), (fun f hf => hf), ?_⟩)
            refine LO_v rfl rfl rfl rfl (V_assign rfl rfl) ?_
            refine LO_nil ?_
            change J _ _ _ _
            refine J_ret ?_
            change Kret _ _ _ Exit.ret _
            refine ret3 rfl rfl (RV_c 1 rfl rfl Try.underlying47 rfl (szd sz47e (by kernel_rfl))) (RV_c 2 rfl rfl Try.underlying45 rfl (szd sz45e (by kernel_rfl))) (RV_t rfl) ?_
            exact fun w' h => ⟨by have hk : retK c = 2 := (by unfold retK; rw [if_pos hr, if_pos (by simpa using h2)]); unfold retC retX retS retT retE; rw [hk]; rfl, h.fr⟩
          ·
            refine LO_s rfl rfl rfl (S_alloc rfl rfl rfl z45e (fun b4 => ⟨(Pk.of_sub (List.Sublist.cons_cons _ (List.Sublist.cons_cons _ (List.Sublist.cons_cons _ (List.nil_sublist _))))), (fun f hf => hf), ?_⟩))
            refine LO_callV rfl rfl rfl rfl rfl rfl rfl rfl tx25e (fun w1 hw => turned_w c m _ w1 ⟨i7, i8⟩) (Pk.of_sub (List.Sublist.cons_cons _ (List.Sublist.cons_cons _ (List.Sublist.cons_cons _ (List.nil_sublist _))))) (fun f hf => hf) ?_
            refine LO_v rfl rfl rfl rfl (V_move rfl rfl) ?_
            refine LO_v rfl rfl rfl rfl (V_extract rfl rfl rfl) ?_
            refine LO_v rfl rfl rfl rfl (V_extract rfl rfl rfl) ?_
            refine LO_s rfl rfl rfl (S_storeW 3 rfl rfl rfl rfl rfl (szd sz47e (by kernel_rfl)) (all_one (by kernel_rfl)) (by kernel_rfl) ⟨(Pk.of_sub (List.Sublist.cons_cons _ (List.Sublist.cons_cons _ (List.Sublist.cons_cons _ (List.nil_sublist _))))), (fun f hf => hf), ?_⟩)
            refine LO_s rfl rfl rfl (S_storeW 4 rfl rfl rfl rfl rfl (szd sz45e (by kernel_rfl)) (all_one (by kernel_rfl)) (by kernel_rfl) ⟨(Pk.of_sub (List.Sublist.cons_cons _ (List.Sublist.cons_cons _ (List.Sublist.cons_cons _ (List.nil_sublist _))))), (fun f hf => hf), ?_⟩)
            refine LO_nil ?_
            change J _ _ _ _
            refine J_seq ?_
            refine J_regionO (.pure 0 (.pure 1 (.one 2 (.one 3 (.pure 4 (.nil)))))) ([(b0, row 47 (ctM c m)), (b3, row 47 (ctM (turnC c (afterN c.target)) m)), (b4, row 45 (msM ((turnC c (afterN c.target)).msg) m))]) _ (Pk.of_sub (List.Sublist.cons_cons _ (List.Sublist.cons _ (List.Sublist.cons _ (List.Sublist.cons_cons _ (List.Sublist.cons_cons _ (List.nil_sublist _))))))) (fun f hf => hf) rfl rfl (by kernel_rfl) ?_
            refine LO_v rfl rfl rfl rfl (V_loadT 1 (vs := ctM (turnC c (afterN c.target)) m) rfl rfl rfl Try.underlying47 rfl sz47e (by kernel_rfl) (by kernel_rfl)) ?_
            refine LO_v rfl rfl rfl rfl (V_loadT 2 (vs := msM ((turnC c (afterN c.target)).msg) m) rfl rfl rfl Try.underlying45 rfl sz45e (by kernel_rfl) (by kernel_rfl)) ?_
            refine LO_s rfl rfl rfl (S_storeW 1 rfl rfl rfl rfl rfl (szd sz47e (by kernel_rfl)) (all_one (by kernel_rfl)) (by kernel_rfl) ⟨(Pk.of_sub (List.Sublist.cons_cons _ (List.Sublist.cons _ (List.Sublist.cons _ (List.Sublist.cons_cons _ (List.Sublist.cons_cons _ (List.nil_sublist _))))))), (fun f hf => hf), ?_⟩)
            refine LO_s rfl rfl rfl (S_storeW 2 rfl rfl rfl rfl rfl (szd sz45e (by kernel_rfl)) (all_one (by kernel_rfl)) (by kernel_rfl) ⟨(Pk.of_sub (List.Sublist.cons_cons _ (List.Sublist.cons _ (List.Sublist.cons _ (List.Sublist.cons_cons _ (List.Sublist.cons_cons _ (List.nil_sublist _))))))), (fun f hf => hf), ?_⟩)
            refine LO_v rfl rfl rfl rfl (V_assign rfl rfl) ?_
            refine LO_nil ?_
            change J _ _ _ _
            refine J_ret ?_
            change Kret _ _ _ Exit.ret _
            refine ret3 rfl rfl (RV_c 1 rfl rfl Try.underlying47 rfl (szd sz47e (by kernel_rfl))) (RV_c 2 rfl rfl Try.underlying45 rfl (szd sz45e (by kernel_rfl))) (RV_t rfl) ?_
            exact fun w' h => ⟨by have hk : retK c = 2 := (by unfold retK; rw [if_pos hr, if_pos (by simpa using h2)]); unfold retC retX retS retT retE; rw [hk]; rfl, h.fr⟩
        ·
          refine LO_s rfl rfl rfl (S_alloc rfl rfl rfl z45e (fun b3 => ⟨(Pk.of_sub (List.Sublist.cons_cons _ (List.Sublist.cons_cons _ (List.Sublist.cons_cons _ (List.nil_sublist _))))), (fun f hf => hf), ?_⟩))
          refine LO_both ?_ ?_
          ·
            refine LO_callV rfl rfl rfl rfl rfl rfl rfl rfl tx25e (fun w1 hw => turned_w c m _ w1 ⟨i7, i8⟩) (Pk.of_sub (List.Sublist.cons_cons _ (List.Sublist.cons_cons _ (List.Sublist.cons_cons _ (List.nil_sublist _))))) (fun f hf => hf) ?_
            refine LO_v rfl rfl rfl rfl (V_move rfl rfl) ?_
            refine LO_v rfl rfl rfl rfl (V_extract rfl rfl rfl) ?_
            refine LO_v rfl rfl rfl rfl (V_extract rfl rfl rfl) ?_
            refine LO_s rfl rfl rfl (S_alloc rfl rfl rfl z47e (fun b4 => ⟨(Pk.of_sub (List.Sublist.cons_cons _ (List.Sublist.cons_cons _ (List.Sublist.cons_cons _ (List.nil_sublist _))))), (fun f hf => hf), ?_⟩))
            refine LO_s rfl rfl rfl (S_storeW 4 rfl rfl rfl rfl rfl (szd sz47e (by kernel_rfl)) (all_one (by kernel_rfl)) (by kernel_rfl) ⟨(Pk.of_sub (List.Sublist.cons_cons _ (List.Sublist.cons_cons _ (List.Sublist.cons_cons _ (List.nil_sublist _))))), (fun f hf => hf), ?_⟩)
            refine LO_s rfl rfl rfl (S_storeW 3 rfl rfl rfl rfl rfl (szd sz45e (by kernel_rfl)) (all_one (by kernel_rfl)) (by kernel_rfl) ⟨(Pk.of_sub (List.Sublist.cons_cons _ (List.Sublist.cons_cons _ (List.Sublist.cons_cons _ (List.nil_sublist _))))), (fun f hf => hf), ?_⟩)
            refine LO_nil ?_
            change J _ _ _ _
            refine J_seq ?_
            refine J_regionO (.pure 0 (.pure 1 (.one 2 (.one 3 (.pure 4 (.nil)))))) ([(b0, row 47 (ctM c m)), (b3, row 45 (msM ((turnC c (afterN c.target)).msg) m)), (b4, row 47 (ctM (turnC c (afterN c.target)) m))]) _ (Pk.of_sub (List.Sublist.cons_cons _ (List.Sublist.cons _ (List.Sublist.cons _ (List.Sublist.cons_cons _ (List.Sublist.cons_cons _ (List.nil_sublist _))))))) (fun f hf => hf) rfl rfl (by kernel_rfl) ?_
            refine LO_v rfl rfl rfl rfl (V_loadT 2 (vs := ctM (turnC c (afterN c.target)) m) rfl rfl rfl Try.underlying47 rfl sz47e (by kernel_rfl) (by kernel_rfl)) ?_
            refine LO_v rfl rfl rfl rfl (V_loadT 1 (vs := msM ((turnC c (afterN c.target)).msg) m) rfl rfl rfl Try.underlying45 rfl sz45e (by kernel_rfl) (by kernel_rfl)) ?_
            refine LO_s rfl rfl rfl (S_storeW 1 rfl rfl rfl rfl rfl (szd sz47e (by kernel_rfl)) (all_one (by kernel_rfl)) (by kernel_rfl) ⟨(Pk.of_sub (List.Sublist.cons_cons _ (List.Sublist.cons _ (List.Sublist.cons _ (List.Sublist.cons_cons _ (List.Sublist.cons_cons _ (List.nil_sublist _))))))), (fun f hf => hf), ?_⟩)
            refine LO_s rfl rfl rfl (S_storeW 2 rfl rfl rfl rfl rfl (szd sz45e (by kernel_rfl)) (all_one (by kernel_rfl)) (by kernel_rfl) ⟨(Pk.of_sub (List.Sublist.cons_cons _ (List.Sublist.cons _ (List.Sublist.cons _ (List.Sublist.cons_cons _ (List.Sublist.cons_cons _ (List.nil_sublist _))))))), (fun f hf => hf), ?_⟩)
            refine LO_v rfl rfl rfl rfl (V_assign rfl rfl) ?_
            refine LO_nil ?_
            change J _ _ _ _
            refine J_ret ?_
            change Kret _ _ _ Exit.ret _
            refine ret3 rfl rfl (RV_c 1 rfl rfl Try.underlying47 rfl (szd sz47e (by kernel_rfl))) (RV_c 2 rfl rfl Try.underlying45 rfl (szd sz45e (by kernel_rfl))) (RV_t rfl) ?_
            exact fun w' h => ⟨by have hk : retK c = 2 := (by unfold retK; rw [if_pos hr, if_pos (by simpa using h2)]); unfold retC retX retS retT retE; rw [hk]; rfl, h.fr⟩
          ·
            refine LO_s rfl rfl rfl (S_alloc rfl rfl rfl z47e (fun b4 => ⟨(Pk.of_sub (List.Sublist.cons_cons _ (List.Sublist.cons_cons _ (List.Sublist.cons_cons _ (List.nil_sublist _))))), (fun f hf => hf), ?_⟩))
            refine LO_callV rfl rfl rfl rfl rfl rfl rfl rfl tx25e (fun w1 hw => turned_w c m _ w1 ⟨i7, i8⟩) (Pk.of_sub (List.Sublist.cons_cons _ (List.Sublist.cons_cons _ (List.Sublist.cons_cons _ (List.nil_sublist _))))) (fun f hf => hf) ?_
            refine LO_v rfl rfl rfl rfl (V_move rfl rfl) ?_
            refine LO_v rfl rfl rfl rfl (V_extract rfl rfl rfl) ?_
            refine LO_v rfl rfl rfl rfl (V_extract rfl rfl rfl) ?_
            refine LO_s rfl rfl rfl (S_storeW 4 rfl rfl rfl rfl rfl (szd sz47e (by kernel_rfl)) (all_one (by kernel_rfl)) (by kernel_rfl) ⟨(Pk.of_sub (List.Sublist.cons_cons _ (List.Sublist.cons_cons _ (List.Sublist.cons_cons _ (List.nil_sublist _))))), (fun f hf => hf), ?_⟩)
            refine LO_s rfl rfl rfl (S_storeW 3 rfl rfl rfl rfl rfl (szd sz45e (by kernel_rfl)) (all_one (by kernel_rfl)) (by kernel_rfl) ⟨(Pk.of_sub (List.Sublist.cons_cons _ (List.Sublist.cons_cons _ (List.Sublist.cons_cons _ (List.nil_sublist _))))), (fun f hf => hf), ?_⟩)
            refine LO_nil ?_
            change J _ _ _ _
            refine J_seq ?_
            refine J_regionO (.pure 0 (.pure 1 (.one 2 (.one 3 (.pure 4 (.nil)))))) ([(b0, row 47 (ctM c m)), (b3, row 45 (msM ((turnC c (afterN c.target)).msg) m)), (b4, row 47 (ctM (turnC c (afterN c.target)) m))]) _ (Pk.of_sub (List.Sublist.cons_cons _ (List.Sublist.cons _ (List.Sublist.cons _ (List.Sublist.cons_cons _ (List.Sublist.cons_cons _ (List.nil_sublist _))))))) (fun f hf => hf) rfl rfl (by kernel_rfl) ?_
            refine LO_v rfl rfl rfl rfl (V_loadT 2 (vs := ctM (turnC c (afterN c.target)) m) rfl rfl rfl Try.underlying47 rfl sz47e (by kernel_rfl) (by kernel_rfl)) ?_
            refine LO_v rfl rfl rfl rfl (V_loadT 1 (vs := msM ((turnC c (afterN c.target)).msg) m) rfl rfl rfl Try.underlying45 rfl sz45e (by kernel_rfl) (by kernel_rfl)) ?_
            refine LO_s rfl rfl rfl (S_storeW 1 rfl rfl rfl rfl rfl (szd sz47e (by kernel_rfl)) (all_one (by kernel_rfl)) (by kernel_rfl) ⟨(Pk.of_sub (List.Sublist.cons_cons _ (List.Sublist.cons _ (List.Sublist.cons _ (List.Sublist.cons_cons _ (List.Sublist.cons_cons _ (List.nil_sublist _))))))), (fun f hf => hf), ?_⟩)
            refine LO_s rfl rfl rfl (S_storeW 2 rfl rfl rfl rfl rfl (szd sz45e (by kernel_rfl)) (all_one (by kernel_rfl)) (by kernel_rfl) ⟨(Pk.of_sub (List.Sublist.cons_cons _ (List.Sublist.cons _ (List.Sublist.cons _ (List.Sublist.cons_cons _ (List.Sublist.cons_cons _ (List.nil_sublist _))))))), (fun f hf => hf), ?_⟩)
            refine LO_v rfl rfl rfl rfl (V_assign rfl rfl) ?_
            refine LO_nil ?_
            change J _ _ _ _
            refine J_ret ?_
            change Kret _ _ _ Exit.ret _
            refine ret3 rfl rfl (RV_c 1 rfl rfl Try.underlying47 rfl (szd sz47e (by kernel_rfl))) (RV_c 2 rfl rfl Try.underlying45 rfl (szd sz45e (by kernel_rfl))) (RV_t rfl) ?_
            exact fun w' h => ⟨by have hk : retK c = 2 := (by unfold retK; rw [if_pos hr, if_pos (by simpa using h2)]); unfold retC retX retS retT retE; rw [hk]; rfl, h.fr⟩
      ·
        refine LO_s rfl rfl rfl (S_alloc rfl rfl rfl z47e (fun b3 => ⟨(Pk.of_sub (List.Sublist.cons_cons _ (List.Sublist.cons_cons _ (List.Sublist.cons_cons _ (List.nil_sublist _))))), (fun f hf => hf), ?_⟩))
        refine LO_both ?_ ?_
        ·
          refine LO_callV rfl rfl rfl rfl rfl rfl rfl rfl tx24e (fun w1 hw => after_w _ w1 ⟨i5, i6⟩) (Pk.of_sub (List.Sublist.cons_cons _ (List.Sublist.cons_cons _ (List.Sublist.cons_cons _ (List.nil_sublist _))))) (fun f hf => hf) ?_
          refine LO_both ?_ ?_
          ·
            refine LO_callV rfl rfl rfl rfl rfl rfl rfl rfl tx25e (fun w1 hw => turned_w c m _ w1 ⟨i7, i8⟩) (Pk.of_sub (List.Sublist.cons_cons _ (List.Sublist.cons_cons _ (List.Sublist.cons_cons _ (List.nil_sublist _))))) (fun f hf => hf) ?_
            refine LO_v rfl rfl rfl rfl (V_move rfl rfl) ?_
            refine LO_v rfl rfl rfl rfl (V_extract rfl rfl rfl) ?_
            refine LO_v rfl rfl rfl rfl (V_extract rfl rfl rfl) ?_
            refine LO_s rfl rfl rfl (S_alloc rfl rfl rfl z45e (fun b4 => ⟨(Pk.of_sub (List.Sublist.cons_cons _ (List.Sublist.cons_cons _ (List.Sublist.cons_cons _ (List.nil_sublist _))))), (fun f hf => hf), ?_⟩))
            refine LO_s rfl rfl rfl (S_storeW 3 rfl rfl rfl rfl rfl (szd sz47e (by kernel_rfl)) (all_one (by kernel_rfl)) (by kernel_rfl) ⟨(Pk.of_sub (List.Sublist.cons_cons _ (List.Sublist.cons_cons _ (List.Sublist.cons_cons _ (List.nil_sublist _))))), (fun f hf => hf), ?_⟩)
            refine LO_s rfl rfl rfl (S_storeW 4 rfl rfl rfl rfl rfl (szd sz45e (by kernel_rfl)) (all_one (by kernel_rfl)) (by kernel_rfl) ⟨(Pk.of_sub (List.Sublist.cons_cons _ (List.Sublist.cons_cons _ (List.Sublist.cons_cons _ (List.nil_sublist _))))), (fun f hf => hf), ?_⟩)
            refine LO_nil ?_
            change J _ _ _ _
            refine J_seq ?_
            refine J_regionO (.pure 0 (.pure 1 (.one 2 (.one 3 (.pure 4 (.nil)))))) ([(b0, row 47 (ctM c m)), (b3, row 47 (ctM (turnC c (afterN c.target)) m)), (b4, row 45 (msM ((turnC c (afterN c.target)).msg) m))]) _ (Pk.of_sub (List.Sublist.cons_cons _ (List.Sublist.cons _ (List.Sublist.cons _ (List.Sublist.cons_cons _ (List.Sublist.cons_cons _ (List.nil_sublist _))))))) (fun f hf => hf) rfl rfl (by kernel_rfl) ?_
            refine LO_v rfl rfl rfl rfl (V_loadT 1 (vs := ctM (turnC c (afterN c.target)) m) rfl rfl rfl Try.underlying47 rfl sz47e (by kernel_rfl) (by kernel_rfl)) ?_
            refine LO_v rfl rfl rfl rfl (V_loadT 2 (vs := msM ((turnC c (afterN c.target)).msg) m) rfl rfl rfl Try.underlying45 rfl sz45e (by kernel_rfl) (by kernel_rfl)) ?_
            refine LO_s rfl rfl rfl (S_storeW 1 rfl rfl rfl rfl rfl (szd sz47e (by kernel_rfl)) (all_one (by kernel_rfl)) (by kernel_rfl) ⟨(Pk.of_sub (List.Sublist.cons_cons _ (List.Sublist.cons _ (List.Sublist.cons _ (List.Sublist.cons_cons _ (List.Sublist.cons_cons _ (List.nil_sublist _))))))), (fun f hf => hf), ?_⟩)
            refine LO_s rfl rfl rfl (S_storeW 2 rfl rfl rfl rfl rfl (szd sz45e (by kernel_rfl)) (all_one (by kernel_rfl)) (by kernel_rfl) ⟨(Pk.of_sub (List.Sublist.cons_cons _ (List.Sublist.cons _ (List.Sublist.cons _ (List.Sublist.cons_cons _ (List.Sublist.cons_cons _ (List.nil_sublist _))))))), (fun f hf => hf), ?_⟩)
            refine LO_v rfl rfl rfl rfl (V_assign rfl rfl) ?_
            refine LO_nil ?_
            change J _ _ _ _
            refine J_ret ?_
            change Kret _ _ _ Exit.ret _
            refine ret3 rfl rfl (RV_c 1 rfl rfl Try.underlying47 rfl (szd sz47e (by kernel_rfl))) (RV_c 2 rfl rfl Try.underlying45 rfl (szd sz45e (by kernel_rfl))) (RV_t rfl) ?_
            exact fun w' h => ⟨by have hk : retK c = 2 := (by unfold retK; rw [if_pos hr, if_pos (by simpa using h2)]); unfold retC retX retS retT retE; rw [hk]; rfl, h.fr⟩
          ·
            refine LO_s rfl rfl rfl (S_alloc rfl rfl rfl z45e (fun b4 => ⟨(Pk.of_sub (List.Sublist.cons_cons _ (List.Sublist.cons_cons _ (List.Sublist.cons_cons _ (List.nil_sublist _))))), (fun f hf => hf), ?_⟩))
            refine LO_callV rfl rfl rfl rfl rfl rfl rfl rfl tx25e (fun w1 hw => turned_w c m _ w1 ⟨i7, i8⟩) (Pk.of_sub (List.Sublist.cons_cons _ (List.Sublist.cons_cons _ (List.Sublist.cons_cons _ (List.nil_sublist _))))) (fun f hf => hf) ?_
            refine LO_v rfl rfl rfl rfl (V_move rfl rfl) ?_
            refine LO_v rfl rfl rfl rfl (V_extract rfl rfl rfl) ?_
            refine LO_v rfl rfl rfl rfl (V_extract rfl rfl rfl) ?_
            refine LO_s rfl rfl rfl (S_storeW 3 rfl rfl rfl rfl rfl (szd sz47e (by kernel_rfl)) (all_one (by kernel_rfl)) (by kernel_rfl) ⟨(Pk.of_sub (List.Sublist.cons_cons _ (List.Sublist.cons_cons _ (List.Sublist.cons_cons _ (List.nil_sublist _))))), (fun f hf => hf), ?_⟩)
            refine LO_s rfl rfl rfl (S_storeW 4 rfl rfl rfl rfl rfl (szd sz45e (by kernel_rfl)) (all_one (by kernel_rfl)) (by kernel_rfl) ⟨(Pk.of_sub (List.Sublist.cons_cons _ (List.Sublist.cons_cons _ (List.Sublist.cons_cons _ (List.nil_sublist _))))), (fun f hf => hf), ?_⟩)
            refine LO_nil ?_
            change J _ _ _ _
            refine J_seq ?_
            refine J_regionO (.pure 0 (.pure 1 (.one 2 (.one 3 (.pure 4 (.nil)))))) ([(b0, row 47 (ctM c m)), (b3, row 47 (ctM (turnC c (afterN c.target)) m)), (b4, row 45 (msM ((turnC c (afterN c.target)).msg) m))]) _ (Pk.of_sub (List.Sublist.cons_cons _ (List.Sublist.cons _ (List.Sublist.cons _ (List.Sublist.cons_cons _ (List.Sublist.cons_cons _ (List.nil_sublist _))))))) (fun f hf => hf) rfl rfl (by kernel_rfl) ?_
            refine LO_v rfl rfl rfl rfl (V_loadT 1 (vs := ctM (turnC c (afterN c.target)) m) rfl rfl rfl Try.underlying47 rfl sz47e (by kernel_rfl) (by kernel_rfl)) ?_
            refine LO_v rfl rfl rfl rfl (V_loadT 2 (vs := msM ((turnC c (afterN c.target)).msg) m) rfl rfl rfl Try.underlying45 rfl sz45e (by kernel_rfl) (by kernel_rfl)) ?_
            refine LO_s rfl rfl rfl (S_storeW 1 rfl rfl rfl rfl rfl (szd sz47e (by kernel_rfl)) (all_one (by kernel_rfl)) (by kernel_rfl) ⟨(Pk.of_sub (List.Sublist.cons_cons _ (List.Sublist.cons _ (List.Sublist.cons _ (List.Sublist.cons_cons _ (List.Sublist.cons_cons _ (List.nil_sublist _))))))), (fun f hf => hf), ?_⟩)
            refine LO_s rfl rfl rfl (S_storeW 2 rfl rfl rfl rfl rfl (szd sz45e (by kernel_rfl)) (all_one (by kernel_rfl)) (by kernel_rfl) ⟨(Pk.of_sub (List.Sublist.cons_cons _ (List.Sublist.cons _ (List.Sublist.cons _ (List.Sublist.cons_cons _ (List.Sublist.cons_cons _ (List.nil_sublist _))))))), (fun f hf => hf), ?_⟩)
            refine LO_v rfl rfl rfl rfl (V_assign rfl rfl) ?_
            refine LO_nil ?_
            change J _ _ _ _
            refine J_ret ?_
            change Kret _ _ _ Exit.ret _
            refine ret3 rfl rfl (RV_c 1 rfl rfl Try.underlying47 rfl (szd sz47e (by kernel_rfl))) (RV_c 2 rfl rfl Try.underlying45 rfl (szd sz45e (by kernel_rfl))) (RV_t rfl) ?_
            exact fun w' h => ⟨by have hk : retK c = 2 := (by unfold retK; rw [if_pos hr, if_pos (by simpa using h2)]); unfold retC retX retS retT retE; rw [hk]; rfl, h.fr⟩
        ·
          refine LO_s rfl rfl rfl (S_alloc rfl rfl rfl z45e (fun b4 => ⟨(Pk.of_sub (List.Sublist.cons_cons _ (List.Sublist.cons_cons _ (List.Sublist.cons_cons _ (List.nil_sublist _))))), (fun f hf => hf), ?_⟩))
          refine LO_callV rfl rfl rfl rfl rfl rfl rfl rfl tx24e (fun w1 hw => after_w _ w1 ⟨i5, i6⟩) (Pk.of_sub (List.Sublist.cons_cons _ (List.Sublist.cons_cons _ (List.Sublist.cons_cons _ (List.nil_sublist _))))) (fun f hf => hf) ?_
          refine LO_callV rfl rfl rfl rfl rfl rfl rfl rfl tx25e (fun w1 hw => turned_w c m _ w1 ⟨i7, i8⟩) (Pk.of_sub (List.Sublist.cons_cons _ (List.Sublist.cons_cons _ (List.Sublist.cons_cons _ (List.nil_sublist _))))) (fun f hf => hf) ?_
          refine LO_v rfl rfl rfl rfl (V_move rfl rfl) ?_
          refine LO_v rfl rfl rfl rfl (V_extract rfl rfl rfl) ?_
          refine LO_v rfl rfl rfl rfl (V_extract rfl rfl rfl) ?_
          refine LO_s rfl rfl rfl (S_storeW 3 rfl rfl rfl rfl rfl (szd sz47e (by kernel_rfl)) (all_one (by kernel_rfl)) (by kernel_rfl) ⟨(Pk.of_sub (List.Sublist.cons_cons _ (List.Sublist.cons_cons _ (List.Sublist.cons_cons _ (List.nil_sublist _))))), (fun f hf => hf), ?_⟩)
          refine LO_s rfl rfl rfl (S_storeW 4 rfl rfl rfl rfl rfl (szd sz45e (by kernel_rfl)) (all_one (by kernel_rfl)) (by kernel_rfl) ⟨(Pk.of_sub (List.Sublist.cons_cons _ (List.Sublist.cons_cons _ (List.Sublist.cons_cons _ (List.nil_sublist _))))), (fun f hf => hf), ?_⟩)
          refine LO_nil ?_
          change J _ _ _ _
          refine J_seq ?_
          refine J_regionO (.pure 0 (.pure 1 (.one 2 (.one 3 (.pure 4 (.nil)))))) ([(b0, row 47 (ctM c m)), (b3, row 47 (ctM (turnC c (afterN c.target)) m)), (b4, row 45 (msM ((turnC c (afterN c.target)).msg) m))]) _ (Pk.of_sub (List.Sublist.cons_cons _ (List.Sublist.cons _ (List.Sublist.cons _ (List.Sublist.cons_cons _ (List.Sublist.cons_cons _ (List.nil_sublist _))))))) (fun f hf => hf) rfl rfl (by kernel_rfl) ?_
          refine LO_v rfl rfl rfl rfl (V_loadT 1 (vs := ctM (turnC c (afterN c.target)) m) rfl rfl rfl Try.underlying47 rfl sz47e (by kernel_rfl) (by kernel_rfl)) ?_
          refine LO_v rfl rfl rfl rfl (V_loadT 2 (vs := msM ((turnC c (afterN c.target)).msg) m) rfl rfl rfl Try.underlying45 rfl sz45e (by kernel_rfl) (by kernel_rfl)) ?_
          refine LO_s rfl rfl rfl (S_storeW 1 rfl rfl rfl rfl rfl (szd sz47e (by kernel_rfl)) (all_one (by kernel_rfl)) (by kernel_rfl) ⟨(Pk.of_sub (List.Sublist.cons_cons _ (List.Sublist.cons _ (List.Sublist.cons _ (List.Sublist.cons_cons _ (List.Sublist.cons_cons _ (List.nil_sublist _))))))), (fun f hf => hf), ?_⟩)
          refine LO_s rfl rfl rfl (S_storeW 2 rfl rfl rfl rfl rfl (szd sz45e (by kernel_rfl)) (all_one (by kernel_rfl)) (by kernel_rfl) ⟨(Pk.of_sub (List.Sublist.cons_cons _ (List.Sublist.cons _ (List.Sublist.cons _ (List.Sublist.cons_cons _ (List.Sublist.cons_cons _ (List.nil_sublist _))))))), (fun f hf => hf), ?_⟩)
          refine LO_v rfl rfl rfl rfl (V_assign rfl rfl) ?_
          refine LO_nil ?_
          change J _ _ _ _
          refine J_ret ?_
          change Kret _ _ _ Exit.ret _
          refine ret3 rfl rfl (RV_c 1 rfl rfl Try.underlying47 rfl (szd sz47e (by kernel_rfl))) (RV_c 2 rfl rfl Try.underlying45 rfl (szd sz45e (by kernel_rfl))) (RV_t rfl) ?_
          exact fun w' h => ⟨by have hk : retK c = 2 := (by unfold retK; rw [if_pos hr, if_pos (by simpa using h2)]); unfold retC retX retS retT retE; rw [hk]; rfl, h.fr⟩
      ·
        refine LO_s rfl rfl rfl (S_alloc rfl rfl rfl z45e (fun b3 => ⟨(Pk.of_sub (List.Sublist.cons_cons _ (List.Sublist.cons_cons _ (List.Sublist.cons_cons _ (List.nil_sublist _))))), (fun f hf => hf), ?_⟩))
        refine LO_both ?_ ?_
        ·
          refine LO_callV rfl rfl rfl rfl rfl rfl rfl rfl tx24e (fun w1 hw => after_w _ w1 ⟨i5, i6⟩) (Pk.of_sub (List.Sublist.cons_cons _ (List.Sublist.cons_cons _ (List.Sublist.cons_cons _ (List.nil_sublist _))))) (fun f hf => hf) ?_
          refine LO_both ?_ ?_
          ·
            refine LO_callV rfl rfl rfl rfl rfl rfl rfl rfl tx25e (fun w1 hw => turned_w c m _ w1 ⟨i7, i8⟩) (Pk.of_sub (List.Sublist.cons_cons _ (List.Sublist.cons_cons _ (List.Sublist.cons_cons _ (List.nil_sublist _))))) (fun f hf => hf) ?_
            refine LO_v rfl rfl rfl rfl (V_move rfl rfl) ?_
            refine LO_v rfl rfl rfl rfl (V_extract rfl rfl rfl) ?_
            refine LO_v rfl rfl rfl rfl (V_extract rfl rfl rfl) ?_
            refine LO_s rfl rfl rfl (S_alloc rfl rfl rfl z47e (fun b4 => ⟨(Pk.of_sub (List.Sublist.cons_cons _ (List.Sublist.cons_cons _ (List.Sublist.cons_cons _ (List.nil_sublist _))))), (fun f hf => hf), ?_⟩))
            refine LO_s rfl rfl rfl (S_storeW 4 rfl rfl rfl rfl rfl (szd sz47e (by kernel_rfl)) (all_one (by kernel_rfl)) (by kernel_rfl) ⟨(Pk.of_sub (List.Sublist.cons_cons _ (List.Sublist.cons_cons _ (List.Sublist.cons_cons _ (List.nil_sublist _))))), (fun f hf => hf), ?_⟩)
            refine LO_s rfl rfl rfl (S_storeW 3 rfl rfl rfl rfl rfl (szd sz45e (by kernel_rfl)) (all_one (by kernel_rfl)) (by kernel_rfl) ⟨(Pk.of_sub (List.Sublist.cons_cons _ (List.Sublist.cons_cons _ (List.Sublist.cons_cons _ (List.nil_sublist _))))), (fun f hf => hf), ?_⟩)
            refine LO_nil ?_
            change J _ _ _ _
            refine J_seq ?_
            refine J_regionO (.pure 0 (.pure 1 (.one 2 (.one 3 (.pure 4 (.nil)))))) ([(b0, row 47 (ctM c m)), (b3, row 45 (msM ((turnC c (afterN c.target)).msg) m)), (b4, row 47 (ctM (turnC c (afterN c.target)) m))]) _ (Pk.of_sub (List.Sublist.cons_cons _ (List.Sublist.cons _ (List.Sublist.cons _ (List.Sublist.cons_cons _ (List.Sublist.cons_cons _ (List.nil_sublist _))))))) (fun f hf => hf) rfl rfl (by kernel_rfl) ?_
            refine LO_v rfl rfl rfl rfl (V_loadT 2 (vs := ctM (turnC c (afterN c.target)) m) rfl rfl rfl Try.underlying47 rfl sz47e (by kernel_rfl) (by kernel_rfl)) ?_
            refine LO_v rfl rfl rfl rfl (V_loadT 1 (vs := msM ((turnC c (afterN c.target)).msg) m) rfl rfl rfl Try.underlying45 rfl sz45e (by kernel_rfl) (by kernel_rfl)) ?_
            refine LO_s rfl rfl rfl (S_storeW 1 rfl rfl rfl rfl rfl (szd sz47e (by kernel_rfl)) (all_one (by kernel_rfl)) (by kernel_rfl) ⟨(Pk.of_sub (List.Sublist.cons_cons _ (List.Sublist.cons _ (List.Sublist.cons _ (List.Sublist.cons_cons _ (List.Sublist.cons_cons _ (List.nil_sublist _))))))), (fun f hf => hf), ?_⟩)
            refine LO_s rfl rfl rfl (S_storeW 2 rfl rfl rfl rfl rfl (szd sz45e (by kernel_rfl)) (all_one (by kernel_rfl)) (by kernel_rfl) ⟨(Pk.of_sub (List.Sublist.cons_cons _ (List.Sublist.cons _ (List.Sublist.cons _ (List.Sublist.cons_cons _ (List.Sublist.cons_cons _ (List.nil_sublist _))))))), (fun f hf => hf), ?_⟩)
            refine LO_v rfl rfl rfl rfl (V_assign rfl rfl) ?_
            refine LO_nil ?_
            change J _ _ _ _
            refine J_ret ?_
            change Kret _ _ _ Exit.ret _
            refine ret3 rfl rfl (RV_c 1 rfl rfl Try.underlying47 rfl (szd sz47e (by kernel_rfl))) (RV_c 2 rfl rfl Try.underlying45 rfl (szd sz45e (by kernel_rfl))) (RV_t rfl) ?_
            exact fun w' h => ⟨by have hk : retK c = 2 := (by unfold retK; rw [if_pos hr, if_pos (by simpa using h2)]); unfold retC retX retS retT retE; rw [hk]; rfl, h.fr⟩
          ·
            refine LO_s rfl rfl rfl (S_alloc rfl rfl rfl z47e (fun b4 => ⟨(Pk.of_sub (List.Sublist.cons_cons _ (List.Sublist.cons_cons _ (List.Sublist.cons_cons _ (List.nil_sublist _))))), (fun f hf => hf), ?_⟩))
            refine LO_callV rfl rfl rfl rfl rfl rfl rfl rfl tx25e (fun w1 hw => turned_w c m _ w1 ⟨i7, i8⟩) (Pk.of_sub (List.Sublist.cons_cons _ (List.Sublist.cons_cons _ (List.Sublist.cons_cons _ (List.nil_sublist _))))) (fun f hf => hf) ?_
            refine LO_v rfl rfl rfl rfl (V_move rfl rfl) ?_
            refine LO_v rfl rfl rfl rfl (V_extract rfl rfl rfl) ?_
            refine LO_v rfl rfl rfl rfl (V_extract rfl rfl rfl) ?_
            refine LO_s rfl rfl rfl (S_storeW 4 rfl rfl rfl rfl rfl (szd sz47e (by kernel_rfl)) (all_one (by kernel_rfl)) (by kernel_rfl) ⟨(Pk.of_sub (List.Sublist.cons_cons _ (List.Sublist.cons_cons _ (List.Sublist.cons_cons _ (List.nil_sublist _))))), (fun f hf => hf), ?_⟩)
            refine LO_s rfl rfl rfl (S_storeW 3 rfl rfl rfl rfl rfl (szd sz45e (by kernel_rfl)) (all_one (by kernel_rfl)) (by kernel_rfl) ⟨(Pk.of_sub (List.Sublist.cons_cons _ (List.Sublist.cons_cons _ (List.Sublist.cons_cons _ (List.nil_sublist _))))), (fun f hf => hf), ?_⟩)
            refine LO_nil ?_
            change J _ _ _ _
            refine J_seq ?_
            refine J_regionO (.pure 0 (.pure 1 (.one 2 (.one 3 (.pure 4 (.nil)))))) ([(b0, row 47 (ctM c m)), (b3, row 45 (msM ((turnC c (afterN c.target)).msg) m)), (b4, row 47 (ctM (turnC c (afterN c.target)) m))]) _ (Pk.of_sub (List.Sublist.cons_cons _ (List.Sublist.cons _ (List.Sublist.cons _ (List.Sublist.cons_cons _ (List.Sublist.cons_cons _ (List.nil_sublist _))))))) (fun f hf => hf) rfl rfl (by kernel_rfl) ?_
            refine LO_v rfl rfl rfl rfl (V_loadT 2 (vs := ctM (turnC c (afterN c.target)) m) rfl rfl rfl Try.underlying47 rfl sz47e (by kernel_rfl) (by kernel_rfl)) ?_
            refine LO_v rfl rfl rfl rfl (V_loadT 1 (vs := msM ((turnC c (afterN c.target)).msg) m) rfl rfl rfl Try.underlying45 rfl sz45e (by kernel_rfl) (by kernel_rfl)) ?_
            refine LO_s rfl rfl rfl (S_storeW 1 rfl rfl rfl rfl rfl (szd sz47e (by kernel_rfl)) (all_one (by kernel_rfl)) (by kernel_rfl) ⟨(Pk.of_sub (List.Sublist.cons_cons _ (List.Sublist.cons _ (List.Sublist.cons _ (List.Sublist.cons_cons _ (List.Sublist.cons_cons _ (List.nil_sublist _))))))), (fun f hf => hf), ?_⟩)
            refine LO_s rfl rfl rfl (S_storeW 2 rfl rfl rfl rfl rfl (szd sz45e (by kernel_rfl)) (all_one (by kernel_rfl)) (by kernel_rfl) ⟨(Pk.of_sub (List.Sublist.cons_cons _ (List.Sublist.cons _ (List.Sublist.cons _ (List.Sublist.cons_cons _ (List.Sublist.cons_cons _ (List.nil_sublist _))))))), (fun f hf => hf), ?_⟩)
            refine LO_v rfl rfl rfl rfl (V_assign rfl rfl) ?_
            refine LO_nil ?_
            change J _ _ _ _
            refine J_ret ?_
            change Kret _ _ _ Exit.ret _
            refine ret3 rfl rfl (RV_c 1 rfl rfl Try.underlying47 rfl (szd sz47e (by kernel_rfl))) (RV_c 2 rfl rfl Try.underlying45 rfl (szd sz45e (by kernel_rfl))) (RV_t rfl) ?_
            exact fun w' h => ⟨by have hk : retK c = 2 := (by unfold retK; rw [if_pos hr, if_pos (by simpa using h2)]); unfold retC retX retS retT retE; rw [hk]; rfl, h.fr⟩
        ·
          refine LO_s rfl rfl rfl (S_alloc rfl rfl rfl z47e (fun b4 => ⟨(Pk.of_sub (List.Sublist.cons_cons _ (List.Sublist.cons_cons _ (List.Sublist.cons_cons _ (List.nil_sublist _))))), (fun f hf => hf), ?_⟩))
          refine LO_callV rfl rfl rfl rfl rfl rfl rfl rfl tx24e (fun w1 hw => after_w _ w1 ⟨i5, i6⟩) (Pk.of_sub (List.Sublist.cons_cons _ (List.Sublist.cons_cons _ (List.Sublist.cons_cons _ (List.nil_sublist _))))) (fun f hf => hf) ?_
          refine LO_callV rfl rfl rfl rfl rfl rfl rfl rfl tx25e (fun w1 hw => turned_w c m _ w1 ⟨i7, i8⟩) (Pk.of_sub (List.Sublist.cons_cons _ (List.Sublist.cons_cons _ (List.Sublist.cons_cons _ (List.nil_sublist _))))) (fun f hf => hf) ?_
          refine LO_v rfl rfl rfl rfl (V_move rfl rfl) ?_
          refine LO_v rfl rfl rfl rfl (V_extract rfl rfl rfl) ?_
          refine LO_v rfl rfl rfl rfl (V_extract rfl rfl rfl) ?_
          refine LO_s rfl rfl rfl (S_storeW 4 rfl rfl rfl rfl rfl (szd sz47e (by kernel_rfl)) (all_one (by kernel_rfl)) (by kernel_rfl) ⟨(Pk.of_sub (List.Sublist.cons_cons _ (List.Sublist.cons_cons _ (List.Sublist.cons_cons _ (List.nil_sublist _))))), (fun f hf => hf), ?_⟩)
          refine LO_s rfl rfl rfl (S_storeW 3 rfl rfl rfl rfl rfl (szd sz45e (by kernel_rfl)) (all_one (by kernel_rfl)) (by kernel_rfl) ⟨(Pk.of_sub (List.Sublist.cons_cons _ (List.Sublist.cons_cons _ (List.Sublist.cons_cons _ (List.nil_sublist _))))), (fun f hf => hf), ?_⟩)
          refine LO_nil ?_
          change J _ _ _ _
          refine J_seq ?_
          refine J_regionO (.pure 0 (.pure 1 (.one 2 (.one 3 (.pure 4 (.nil)))))) ([(b0, row 47 (ctM c m)), (b3, row 45 (msM ((turnC c (afterN c.target)).msg) m)), (b4, row 47 (ctM (turnC c (afterN c.target)) m))]) _ (Pk.of_sub (List.Sublist.cons_cons _ (List.Sublist.cons _ (List.Sublist.cons _ (List.Sublist.cons_cons _ (List.Sublist.cons_cons _ (List.nil_sublist _))))))) (fun f hf => hf) rfl rfl (by kernel_rfl) ?_
          refine LO_v rfl rfl rfl rfl (V_loadT 2 (vs := ctM (turnC c (afterN c.target)) m) rfl rfl rfl Try.underlying47 rfl sz47e (by kernel_rfl) (by kernel_rfl)) ?_
          refine LO_v rfl rfl rfl rfl (V_loadT 1 (vs := msM ((turnC c (afterN c.target)).msg) m) rfl rfl rfl Try.underlying45 rfl sz45e (by kernel_rfl) (by kernel_rfl)) ?_
          refine LO_s rfl rfl rfl (S_storeW 1 rfl rfl rfl rfl rfl (szd sz47e (by kernel_rfl)) (all_one (by kernel_rfl)) (by kernel_rfl) ⟨(Pk.of_sub (List.Sublist.cons_cons _ (List.Sublist.cons _ (List.Sublist.cons _ (List.Sublist.cons_cons _ (List.Sublist.cons_cons _ (List.nil_sublist _))))))), (fun f hf => hf), ?_⟩)
          refine LO_s rfl rfl rfl (S_storeW 2 rfl rfl rfl rfl rfl (szd sz45e (by kernel_rfl)) (all_one (by kernel_rfl)) (by kernel_rfl) ⟨(Pk.of_sub (List.Sublist.cons_cons _ (List.Sublist.cons _ (List.Sublist.cons _ (List.Sublist.cons_cons _ (List.Sublist.cons_cons _ (List.nil_sublist _))))))), (fun f hf => hf), ?_⟩)
          refine LO_v rfl rfl rfl rfl (V_assign rfl rfl) ?_
          refine LO_nil ?_
          change J _ _ _ _
          refine J_ret ?_
          change Kret _ _ _ Exit.ret _
          refine ret3 rfl rfl (RV_c 1 rfl rfl Try.underlying47 rfl (szd sz47e (by kernel_rfl))) (RV_c 2 rfl rfl Try.underlying45 rfl (szd sz45e (by kernel_rfl))) (RV_t rfl) ?_
          exact fun w' h => ⟨by have hk : retK c = 2 := (by unfold retK; rw [if_pos hr, if_pos (by simpa using h2)]); unfold retC retX retS retT retE; rw [hk]; rfl, h.fr⟩

set_option maxHeartbeats 4000000 in
theorem hear_w (c : Ct) (m : M5) (es : List EnV) (x : Ms) (n : M5) (w : World) (hx : c.msg.entries = es.map Prod.fst) (f1 : FA w (msF c.msg m es)) (hB : Sz c.msg es) :
    Calls Try.prog 8 #[.agg (ctM c m).toArray, .agg (msM x n).toArray] w fun e w' => e = .returned (.tuple #[.agg (ctM (hearC c x) (selM (hearS c x) m)).toArray, .agg (msM (hearX c x) (selM (hearT c x) m)).toArray, .bool (hearD c x), .int .i64 (hearE c x)]) ∧ Fr [] w w' := by
  refine calls_of (args := [.agg (ctM c m).toArray, .agg (msM x n).toArray]) ([]) ([]) ([msF c.msg m es]) Try.func8 rfl rfl (okFW (.cons f1 .nil)) ?_
  refine J_seq ?_
  refine J_region ?_
  refine L_box rfl rfl rfl rfl rfl (fun b0 => ?_)
  refine L_box rfl rfl rfl rfl rfl (fun b1 => ?_)
  refine L_alloc rfl rfl rfl rfl z47e (fun b2 => ?_)
  refine L_alloc rfl rfl rfl rfl z45e (fun b3 => ?_)
  refine L_v rfl rfl rfl (V_assign rfl rfl) ?_
  refine L_v rfl rfl rfl (V_assign rfl rfl) ?_
  refine L_nil ?_
  change J _ _ _ _
  refine J_seq ?_
  refine J_seq ?_
  refine J_region ?_
  refine L_v rfl rfl rfl (V_loadT 0 (vs := ctM c m) rfl rfl rfl Try.underlying47 rfl sz47e (by kernel_rfl) (by kernel_rfl)) ?_
  refine L_callV rfl rfl rfl rfl rfl rfl tx19e (fun w1 hw => check_w c m es w1 hx (hw.fa 0 rfl) hB) ?_
  refine L_v rfl rfl rfl (V_assign rfl rfl) ?_
  refine L_nil ?_
  change J _ _ _ _
  refine J_seq ?_
  refine J_region ?_
  refine L_v rfl rfl rfl (V_move rfl rfl) ?_
  refine L_v rfl rfl rfl (V_neq rfl rfl rfl rfl) ?_
  refine L_nil ?_
  change J _ _ _ _
  refine J_cond rfl (fun h1 => ?_) (fun h1 => ?_)
  ·
    first | (have h1 := of_decide_eq_true h1) | (have h1 := of_decide_eq_false h1) | skip
    refine J_seq ?_
    refine J_region ?_
    refine L_v rfl rfl rfl (V_buildE (v := .agg (ctM ct0 m50).toArray) rfl rfl (fun w => by kernel_rfl)) ?_
    refine L_v rfl rfl rfl (V_buildE (v := .agg (msM ms0 m50).toArray) rfl rfl (fun w => by kernel_rfl)) ?_
    refine L_v rfl rfl rfl (V_move rfl rfl) ?_
    refine L_storeW 2 rfl rfl rfl rfl rfl rfl (szd sz47e (by kernel_rfl)) (all_one (by kernel_rfl)) (by kernel_rfl) ?_
    refine L_storeW 3 rfl rfl rfl rfl rfl rfl (szd sz45e (by kernel_rfl)) (all_one (by kernel_rfl)) (by kernel_rfl) ?_
    refine L_v rfl rfl rfl (V_assign rfl rfl) ?_
    refine L_v rfl rfl rfl (V_assign rfl rfl) ?_
    refine L_nil ?_
    change J _ _ _ _
    refine J_ret ?_
    change Kret _ _ _ Exit.ret _
    refine ret4 rfl rfl (RV_c 2 rfl rfl Try.underlying47 rfl (szd sz47e (by kernel_rfl))) (RV_c 3 rfl rfl Try.underlying45 rfl (szd sz45e (by kernel_rfl))) (RV_t rfl) (RV_t rfl) ?_
    exact fun w' h => ⟨by have hk := k0 (x := x) (chk1 h1); unfold hearC hearX hearS hearT hearD hearE; rw [hk, chk_n (chk1 h1)]; rfl, h.fr⟩
  ·
    first | (have h1 := of_decide_eq_true h1) | (have h1 := of_decide_eq_false h1) | skip
    have hr := chk0 h1
    obtain ⟨⟨i1, i2⟩, ⟨i3, i4⟩, ⟨i5, i6⟩, i7, i8⟩ := hr.nums
    refine J_skip ?_
    change J _ _ _ _
    refine J_seq ?_
    refine J_seq ?_
    refine J_region ?_
    refine L_v rfl rfl rfl (V_fieldAddr rfl rfl Try.underlying47 rfl sz4e rfl) ?_
    refine L_v rfl rfl rfl (V_load1 0 rfl rfl rfl Try.underlying4 rfl (by rfl)) ?_
    refine L_v rfl rfl rfl (V_not rfl rfl rfl) ?_
    refine L_v rfl rfl rfl (V_move rfl rfl) ?_
    apply L_or 3 22 26
    · rfl
    · rfl
    · rfl
    · rfl
    · rfl
    · rfl
    · rfl
    · kernel_rfl
    · intro hb2 _ _ hk2
      refine L_wv rfl rfl rfl rfl rfl rfl (V_fieldAddr rfl rfl Try.underlying45 rfl sz22e rfl) ?_
      refine L_wv rfl rfl rfl rfl rfl rfl (V_load1 1 rfl rfl rfl Try.underlying22 rfl (by rfl)) ?_
      refine L_wv rfl rfl rfl rfl rfl rfl (V_neq rfl rfl rfl rfl) ?_
      exact hk2 _ ⟨rfl, rfl, rfl, rfl, ext_cut 3 (by kernel_rfl) (by kernel_rfl)⟩
    refine L_v rfl rfl rfl (V_move rfl rfl) ?_
    apply L_or 4 27 32
    · rfl
    · rfl
    · rfl
    · rfl
    · rfl
    · rfl
    · rfl
    · kernel_rfl
    · intro hb3 _ _ hk3
      refine L_wv rfl rfl rfl rfl rfl rfl (V_fieldAddr rfl rfl Try.underlying45 rfl sz3e rfl) ?_
      refine L_wv rfl rfl rfl rfl rfl rfl (V_load1 1 rfl rfl rfl Try.underlying3 rfl (by rfl)) ?_
      refine L_wcallV rfl rfl rfl rfl rfl rfl rfl rfl rfl tx23e (fun w1 hw => within_w _ _ _ w1) ?_
      refine L_wv rfl rfl rfl rfl rfl rfl (V_not rfl rfl rfl) ?_
      exact hk3 _ ⟨rfl, rfl, rfl, rfl, ext_cut 4 (by kernel_rfl) (by kernel_rfl)⟩
    refine L_v rfl rfl rfl (V_move rfl rfl) ?_
    apply L_or 6 33 40
    · rfl
    · rfl
    · rfl
    · rfl
    · rfl
    · rfl
    · rfl
    · kernel_rfl
    · intro hb4 _ _ hk4
      refine L_wv rfl rfl rfl rfl rfl rfl (V_fieldAddr rfl rfl Try.underlying45 rfl sz3e rfl) ?_
      refine L_wv rfl rfl rfl rfl rfl rfl (V_load1 1 rfl rfl rfl Try.underlying3 rfl (by rfl)) ?_
      refine L_wv rfl rfl rfl rfl rfl rfl (V_fieldAddr rfl rfl Try.underlying47 rfl sz3e rfl) ?_
      refine L_wv rfl rfl rfl rfl rfl rfl (V_load1 0 rfl rfl rfl Try.underlying3 rfl (by rfl)) ?_
      refine L_wv rfl rfl rfl rfl rfl rfl (V_neg rfl rfl (by first | exact Go.IntWalk.i64_in _ (by omega) | rfl)) ?_
      refine L_wv rfl rfl rfl rfl rfl rfl (V_neq rfl rfl rfl rfl) ?_
      exact hk4 _ ⟨rfl, rfl, rfl, rfl, ext_cut 6 (by kernel_rfl) (by kernel_rfl)⟩
    refine L_v rfl rfl rfl (V_move rfl rfl) ?_
    apply L_or 6 41 48
    · rfl
    · rfl
    · rfl
    · rfl
    · rfl
    · rfl
    · rfl
    · kernel_rfl
    · intro hb5 _ _ hk5
      refine L_wv rfl rfl rfl rfl rfl rfl (V_fieldAddr rfl rfl Try.underlying45 rfl sz43e rfl) ?_
      refine L_wv rfl rfl rfl rfl rfl rfl (V_fieldAddr rfl rfl Try.underlying43 rfl sz3e rfl) ?_
      refine L_wv rfl rfl rfl rfl rfl rfl (V_load1 1 rfl rfl rfl Try.underlying3 rfl (by rfl)) ?_
      refine L_wv rfl rfl rfl rfl rfl rfl (V_fieldAddr rfl rfl Try.underlying47 rfl sz3e rfl) ?_
      refine L_wv rfl rfl rfl rfl rfl rfl (V_load1 0 rfl rfl rfl Try.underlying3 rfl (by rfl)) ?_
      refine L_wv rfl rfl rfl rfl rfl rfl (V_neq rfl rfl rfl rfl) ?_
      exact hk5 _ ⟨rfl, rfl, rfl, rfl, ext_cut 6 (by kernel_rfl) (by kernel_rfl)⟩
    refine L_nil ?_
    change J _ _ _ _
    refine J_cond rfl (fun h6 => ?_) (fun h6 => ?_)
    ·
      first | (have h6 := of_decide_eq_true h6) | (have h6 := of_decide_eq_false h6) | skip
      refine J_seq ?_
      refine J_region ?_
      refine L_v rfl rfl rfl (V_loadT 0 (vs := ctM c m) rfl rfl rfl Try.underlying47 rfl sz47e (by kernel_rfl) (by kernel_rfl)) ?_
      refine L_v rfl rfl rfl (V_buildE (v := .agg (msM ms0 m50).toArray) rfl rfl (fun w => by kernel_rfl)) ?_
      refine L_storeW 2 rfl rfl rfl rfl rfl rfl (szd sz47e (by kernel_rfl)) (all_one (by kernel_rfl)) (by kernel_rfl) ?_
      refine L_storeW 3 rfl rfl rfl rfl rfl rfl (szd sz45e (by kernel_rfl)) (all_one (by kernel_rfl)) (by kernel_rfl) ?_
      refine L_v rfl rfl rfl (V_assign rfl rfl) ?_
      refine L_v rfl rfl rfl (V_assign rfl rfl) ?_
      refine L_nil ?_
      change J _ _ _ _
      refine J_ret ?_
      change Kret _ _ _ Exit.ret _
      refine ret4 rfl rfl (RV_c 2 rfl rfl Try.underlying47 rfl (szd sz47e (by kernel_rfl))) (RV_c 3 rfl rfl Try.underlying45 rfl (szd sz45e (by kernel_rfl))) (RV_t rfl) (RV_t rfl) ?_
      exact fun w' h => ⟨by have hk := k1 hr h6; unfold hearC hearX hearS hearT hearD hearE; rw [hk]; rfl, h.fr⟩
    ·
      first | (have h6 := of_decide_eq_true h6) | (have h6 := of_decide_eq_false h6) | skip
      refine J_skip ?_
      change J _ _ _ _
      refine J_seq ?_
      refine J_seq ?_
      refine J_region ?_
      refine L_v rfl rfl rfl (V_fieldAddr rfl rfl Try.underlying45 rfl sz43e rfl) ?_
      refine L_v rfl rfl rfl (V_fieldAddr rfl rfl Try.underlying43 rfl sz33e rfl) ?_
      refine L_v rfl rfl rfl (V_load1 1 rfl rfl rfl Try.underlying33 rfl (by rfl)) ?_
      refine L_v rfl rfl rfl (V_neq rfl rfl rfl rfl) ?_
      refine L_nil ?_
      change J _ _ _ _
      refine J_cond rfl (fun h7 => ?_) (fun h7 => ?_)
      ·
        first | (have h7 := of_decide_eq_true h7) | (have h7 := of_decide_eq_false h7) | skip
        refine J_seq ?_
        refine J_region ?_
        refine L_v rfl rfl rfl (V_fieldAddr rfl rfl Try.underlying47 rfl sz3e rfl) ?_
        refine L_v rfl rfl rfl (V_load1 0 rfl rfl rfl Try.underlying3 rfl (by rfl)) ?_
        refine L_v rfl rfl rfl (V_fieldAddr rfl rfl Try.underlying47 rfl sz3e rfl) ?_
        refine L_v rfl rfl rfl (V_load1 0 rfl rfl rfl Try.underlying3 rfl (by rfl)) ?_
        refine L_v rfl rfl rfl (V_fieldAddr rfl rfl Try.underlying45 rfl sz3e rfl) ?_
        refine L_v rfl rfl rfl (V_load1 1 rfl rfl rfl Try.underlying3 rfl (by rfl)) ?_
        refine L_v rfl rfl rfl (V_buildE (v := .agg (ctM { ct0 with id := c.id, seq := c.seq, target := x.frm } m50).toArray) rfl rfl (fun w => by kernel_rfl)) ?_
        refine L_v rfl rfl rfl (V_buildE (v := .agg (msM ms0 m50).toArray) rfl rfl (fun w => by kernel_rfl)) ?_
        refine L_storeW 2 rfl rfl rfl rfl rfl rfl (szd sz47e (by kernel_rfl)) (all_one (by kernel_rfl)) (by kernel_rfl) ?_
        refine L_storeW 3 rfl rfl rfl rfl rfl rfl (szd sz45e (by kernel_rfl)) (all_one (by kernel_rfl)) (by kernel_rfl) ?_
        refine L_v rfl rfl rfl (V_assign rfl rfl) ?_
        refine L_v rfl rfl rfl (V_assign rfl rfl) ?_
        refine L_nil ?_
        change J _ _ _ _
        refine J_ret ?_
        change Kret _ _ _ Exit.ret _
        refine ret4 rfl rfl (RV_c 2 rfl rfl Try.underlying47 rfl (szd sz47e (by kernel_rfl))) (RV_c 3 rfl rfl Try.underlying45 rfl (szd sz45e (by kernel_rfl))) (RV_t rfl) (RV_t rfl) ?_
        exact fun w' h => ⟨by have hk := k2 hr h6 h7; unfold hearC hearX hearS hearT hearD hearE; rw [hk]; rfl, h.fr⟩
      ·
        first | (have h7 := of_decide_eq_true h7) | (have h7 := of_decide_eq_false h7) | skip
        have h7 : x.reply.code = 141 := Classical.byContradiction h7
        refine J_skip ?_
        change J _ _ _ _
        refine J_seq ?_
        refine J_region ?_
        refine L_v rfl rfl rfl (V_fieldAddr rfl rfl Try.underlying45 rfl sz43e rfl) ?_
        refine L_v rfl rfl rfl (V_fieldAddr rfl rfl Try.underlying43 rfl sz3e rfl) ?_
        refine L_v rfl rfl rfl (V_load1 1 rfl rfl rfl Try.underlying3 rfl (by rfl)) ?_
        refine L_v rfl rfl rfl (V_assign rfl rfl) ?_
        refine L_nil ?_
        change J _ _ _ _
        refine J_seq ?_
        refine J_seq ?_
        refine J_region ?_
        refine L_v rfl rfl rfl (V_move rfl rfl) ?_
        refine L_callV rfl rfl rfl rfl rfl rfl tx23e (fun w1 hw => within_w _ _ _ w1) ?_
        refine L_v rfl rfl rfl (V_not rfl rfl rfl) ?_
        refine L_v rfl rfl rfl (V_move rfl rfl) ?_
        apply L_or 4 69 74
        · rfl
        · rfl
        · rfl
        · rfl
        · rfl
        · rfl
        · rfl
        · kernel_rfl
        · intro hb8 _ _ hk8
          refine L_wv rfl rfl rfl rfl rfl rfl (V_move rfl rfl) ?_
          refine L_wv rfl rfl rfl rfl rfl rfl (V_fieldAddr rfl rfl Try.underlying45 rfl sz3e rfl) ?_
          refine L_wv rfl rfl rfl rfl rfl rfl (V_load1 1 rfl rfl rfl Try.underlying3 rfl (by rfl)) ?_
          refine L_wv rfl rfl rfl rfl rfl rfl (V_eql rfl rfl rfl rfl) ?_
          exact hk8 _ ⟨rfl, rfl, rfl, rfl, ext_cut 4 (by kernel_rfl) (by kernel_rfl)⟩
        refine L_nil ?_
        change J _ _ _ _
        refine J_cond rfl (fun h9 => ?_) (fun h9 => ?_)
        ·
          first | (have h9 := of_decide_eq_true h9) | (have h9 := of_decide_eq_false h9) | skip
          refine J_region ?_
          refine L_v rfl rfl rfl (V_fieldAddr rfl rfl Try.underlying45 rfl sz3e rfl) ?_
          refine L_v rfl rfl rfl (V_load1 1 rfl rfl rfl Try.underlying3 rfl (by rfl)) ?_
          refine L_callV rfl rfl rfl rfl rfl rfl tx24e (fun w1 hw => after_w _ w1 (heard_frm h6).2) ?_
          refine L_v rfl rfl rfl (V_assign rfl rfl) ?_
          refine L_nil ?_
          change J _ _ _ _
          refine J_seq ?_
          refine J_region ?_
          refine L_v rfl rfl rfl (V_loadT 0 (vs := ctM c m) rfl rfl rfl Try.underlying47 rfl sz47e (by kernel_rfl) (by kernel_rfl)) ?_
          refine L_v rfl rfl rfl (V_move rfl rfl) ?_
          refine L_callV rfl rfl rfl rfl rfl rfl tx25e (fun w1 hw => turned_w c m _ w1 ⟨i7, i8⟩) ?_
          refine L_v rfl rfl rfl (V_move rfl rfl) ?_
          refine L_v rfl rfl rfl (V_extract rfl rfl rfl) ?_
          refine L_v rfl rfl rfl (V_extract rfl rfl rfl) ?_
          refine L_alloc rfl rfl rfl rfl z47e (fun b4 => ?_)
          refine L_alloc rfl rfl rfl rfl z45e (fun b5 => ?_)
          refine L_storeW 4 rfl rfl rfl rfl rfl rfl (szd sz47e (by kernel_rfl)) (all_one (by kernel_rfl)) (by kernel_rfl) ?_
          refine L_storeW 5 rfl rfl rfl rfl rfl rfl (szd sz45e (by kernel_rfl)) (all_one (by kernel_rfl)) (by kernel_rfl) ?_
          refine L_nil ?_
          change J _ _ _ _
          refine J_seq ?_
          refine J_regionO (.pure 0 (.pure 1 (.one 2 (.one 3 (.pure 4 (.pure 5 (.nil))))))) ([(b0, row 47 (ctM c m)), (b1, row 45 (msM x n)), (b4, row 47 (ctM (turnC c (afterN x.frm)) m)), (b5, row 45 (msM ((turnC c (afterN x.frm)).msg) m))]) _ (Pk.of_sub (List.Sublist.cons_cons _ (List.Sublist.cons_cons _ (List.Sublist.cons _ (List.Sublist.cons _ (List.Sublist.cons_cons _ (List.Sublist.cons_cons _ (List.nil_sublist _)))))))) (fun f hf => hf) rfl rfl (by kernel_rfl) ?_
          refine LO_v rfl rfl rfl rfl (V_loadT 2 (vs := ctM (turnC c (afterN x.frm)) m) rfl rfl rfl Try.underlying47 rfl sz47e (by kernel_rfl) (by kernel_rfl)) ?_
          refine LO_v rfl rfl rfl rfl (V_loadT 3 (vs := msM ((turnC c (afterN x.frm)).msg) m) rfl rfl rfl Try.underlying45 rfl sz45e (by kernel_rfl) (by kernel_rfl)) ?_
          refine LO_s rfl rfl rfl (S_storeW 2 rfl rfl rfl rfl rfl (szd sz47e (by kernel_rfl)) (all_one (by kernel_rfl)) (by kernel_rfl) ⟨(Pk.of_sub (List.Sublist.cons_cons _ (List.Sublist.cons_cons _ (List.Sublist.cons _ (List.Sublist.cons _ (List.Sublist.cons_cons _ (List.Sublist.cons_cons _ (List.nil_sublist _)))))))), (fun f hf => hf), ?_⟩)
          refine LO_s rfl rfl rfl (S_storeW 3 rfl rfl rfl rfl rfl (szd sz45e (by kernel_rfl)) (all_one (by kernel_rfl)) (by kernel_rfl) ⟨(Pk.of_sub (List.Sublist.cons_cons _ (List.Sublist.cons_cons _ (List.Sublist.cons _ (List.Sublist.cons _ (List.Sublist.cons_cons _ (List.Sublist.cons_cons _ (List.nil_sublist _)))))))), (fun f hf => hf), ?_⟩)
          refine LO_v rfl rfl rfl rfl (V_assign rfl rfl) ?_
          refine LO_v rfl rfl rfl rfl (V_assign rfl rfl) ?_
          refine LO_nil ?_
          change J _ _ _ _
          refine J_ret ?_
          change Kret _ _ _ Exit.ret _
          refine ret4 rfl rfl (RV_c 2 rfl rfl Try.underlying47 rfl (szd sz47e (by kernel_rfl))) (RV_c 3 rfl rfl Try.underlying45 rfl (szd sz45e (by kernel_rfl))) (RV_t rfl) (RV_t rfl) ?_
          exact fun w' h => ⟨by have hk := k3 hr h6 h7; have ht := to_a h9; unfold hearC hearX hearS hearT hearD hearE; rw [hk, ht]; rfl, h.fr⟩
        ·
          first | (have h9 := of_decide_eq_true h9) | (have h9 := of_decide_eq_false h9) | skip
          refine J_skip ?_
          change J _ _ _ _
          refine J_seq ?_
          refine J_region ?_
          refine L_v rfl rfl rfl (V_loadT 0 (vs := ctM c m) rfl rfl rfl Try.underlying47 rfl sz47e (by kernel_rfl) (by kernel_rfl)) ?_
          refine L_v rfl rfl rfl (V_move rfl rfl) ?_
          refine L_callV rfl rfl rfl rfl rfl rfl tx25e (fun w1 hw => turned_w c m _ w1 ⟨i7, i8⟩) ?_
          refine L_v rfl rfl rfl (V_move rfl rfl) ?_
          refine L_v rfl rfl rfl (V_extract rfl rfl rfl) ?_
          refine L_v rfl rfl rfl (V_extract rfl rfl rfl) ?_
          refine L_alloc rfl rfl rfl rfl z47e (fun b4 => ?_)
          refine L_alloc rfl rfl rfl rfl z45e (fun b5 => ?_)
          refine L_storeW 4 rfl rfl rfl rfl rfl rfl (szd sz47e (by kernel_rfl)) (all_one (by kernel_rfl)) (by kernel_rfl) ?_
          refine L_storeW 5 rfl rfl rfl rfl rfl rfl (szd sz45e (by kernel_rfl)) (all_one (by kernel_rfl)) (by kernel_rfl) ?_
          refine L_nil ?_
          change J _ _ _ _
          refine J_seq ?_
          refine J_regionO (.pure 0 (.pure 1 (.one 2 (.one 3 (.pure 4 (.pure 5 (.nil))))))) ([(b0, row 47 (ctM c m)), (b1, row 45 (msM x n)), (b4, row 47 (ctM (turnC c x.reply.lead) m)), (b5, row 45 (msM ((turnC c x.reply.lead).msg) m))]) _ (Pk.of_sub (List.Sublist.cons_cons _ (List.Sublist.cons_cons _ (List.Sublist.cons _ (List.Sublist.cons _ (List.Sublist.cons_cons _ (List.Sublist.cons_cons _ (List.nil_sublist _)))))))) (fun f hf => hf) rfl rfl (by kernel_rfl) ?_
          refine LO_v rfl rfl rfl rfl (V_loadT 2 (vs := ctM (turnC c x.reply.lead) m) rfl rfl rfl Try.underlying47 rfl sz47e (by kernel_rfl) (by kernel_rfl)) ?_
          refine LO_v rfl rfl rfl rfl (V_loadT 3 (vs := msM ((turnC c x.reply.lead).msg) m) rfl rfl rfl Try.underlying45 rfl sz45e (by kernel_rfl) (by kernel_rfl)) ?_
          refine LO_s rfl rfl rfl (S_storeW 2 rfl rfl rfl rfl rfl (szd sz47e (by kernel_rfl)) (all_one (by kernel_rfl)) (by kernel_rfl) ⟨(Pk.of_sub (List.Sublist.cons_cons _ (List.Sublist.cons_cons _ (List.Sublist.cons _ (List.Sublist.cons _ (List.Sublist.cons_cons _ (List.Sublist.cons_cons _ (List.nil_sublist _)))))))), (fun f hf => hf), ?_⟩)
          refine LO_s rfl rfl rfl (S_storeW 3 rfl rfl rfl rfl rfl (szd sz45e (by kernel_rfl)) (all_one (by kernel_rfl)) (by kernel_rfl) ⟨(Pk.of_sub (List.Sublist.cons_cons _ (List.Sublist.cons_cons _ (List.Sublist.cons _ (List.Sublist.cons _ (List.Sublist.cons_cons _ (List.Sublist.cons_cons _ (List.nil_sublist _)))))))), (fun f hf => hf), ?_⟩)
          refine LO_v rfl rfl rfl rfl (V_assign rfl rfl) ?_
          refine LO_v rfl rfl rfl rfl (V_assign rfl rfl) ?_
          refine LO_nil ?_
          change J _ _ _ _
          refine J_ret ?_
          change Kret _ _ _ Exit.ret _
          refine ret4 rfl rfl (RV_c 2 rfl rfl Try.underlying47 rfl (szd sz47e (by kernel_rfl))) (RV_c 3 rfl rfl Try.underlying45 rfl (szd sz45e (by kernel_rfl))) (RV_t rfl) (RV_t rfl) ?_
          exact fun w' h => ⟨by have hk := k3 hr h6 h7; have ht := to_b h9; unfold hearC hearX hearS hearT hearD hearE; rw [hk, ht]; rfl, h.fr⟩

end Go.Proofs.Ytfdmjjhgdbpfeaa
