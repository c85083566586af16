/- Is a client right? -/
import Derived.Test.YtfdmjjhgdbpfeaaCMay
set_option linter.unusedVariables false
set_option linter.unusedSimpArgs false
set_option maxRecDepth 100000
namespace Go.Proofs.Ytfdmjjhgdbpfeaa
open Go.Sx
def ofM (x : Ms) : Pl := (x.kind, x.frm, x.to, x.seq, x.ask, x.user, x.cmd)
def pl0 : Pl := (0, 0, 0, 0, 0, ⟨#[]⟩, cmd0)
/-- A message has nothing but a client's own. -/
def bareP (x : Ms) : Prop := x.term = 0 ∧ x.index = 0 ∧ x.logTerm = 0 ∧ x.commit = 0 ∧ x.round = 0 ∧ x.ok = false ∧ x.total = 0 ∧ x.offset = 0 ∧ x.data = ⟨#[]⟩ ∧ x.entries = [] ∧ x.council = ([], []) ∧ x.reply = rp0
instance (x : Ms) : Decidable (bareP x) := by unfold bareP; infer_instance
theorem bare_iff (x : Ms) : bareP x ↔ x.term = 0 ∧ x.index = 0 ∧ x.logTerm = 0 ∧ x.commit = 0 ∧ x.round = 0 ∧ x.ok = false ∧ x.total = 0 ∧ x.offset = 0 ∧ x.data = ⟨#[]⟩ ∧ ((x.entries.length : Int) + (x.council.1.length : Int) + (x.council.2.length : Int) + (x.reply.vers.length : Int) + (x.reply.pf.sib.length : Int) = 0) ∧
    x.reply.code = 0 ∧ x.reply.seq = 0 ∧ x.reply.lead = 0 ∧ x.reply.index = 0 ∧ x.reply.epoch = 0 ∧ x.reply.head = sg0 ∧ x.reply.pf.other = false ∧ x.reply.pf.path = dz ∧ x.reply.pf.val = dz := by
  have hs : ((x.entries.length : Int) + (x.council.1.length : Int) + (x.council.2.length : Int) + (x.reply.vers.length : Int) + (x.reply.pf.sib.length : Int) = 0) ↔ x.entries = [] ∧ x.council.1 = [] ∧ x.council.2 = [] ∧ x.reply.vers = [] ∧ x.reply.pf.sib = [] := by
    rw [← List.length_eq_zero_iff, ← List.length_eq_zero_iff, ← List.length_eq_zero_iff, ← List.length_eq_zero_iff, ← List.length_eq_zero_iff]
    omega
  rw [hs]
  unfold bareP
  obtain ⟨k, f, t, te, ix, lt, co, ro, ok, en, ⟨ca, cb⟩, tot, off, da, cm, ak, sq, us, ⟨r1, r2, r3, r4, r5, r6, ⟨p1, p2, p3, p4⟩, r8⟩⟩ := x
  simp only [rp0, pf0, Rp.mk.injEq, Pf.mk.injEq, Prod.mk.injEq]
  grind
theorem ms_form {x : Ms} {k f t s a : Int} {u : ByteArray} {c : Cmd} : (bareP x ∧ ofM x = (k, f, t, s, a, u, c)) ↔ x = { ms0 with kind := k, frm := f, to := t, seq := s, ask := a, user := u, cmd := c } := by
  unfold bareP ofM ms0
  obtain ⟨k', f', t', te, ix, lt, co, ro, ok, en, cc, tot, off, da, cm, ak, sq, us, r⟩ := x
  simp only [Ms.mk.injEq, Prod.mk.injEq]
  grind
def mayP (c : Ct) (x : Ms) : Prop := if x.ask = 0 then bareP x ∧ ofM x = (9, -c.id, c.target, c.seq, 0, ⟨#[]⟩, x.cmd) ∧ MayP x.cmd ∧ x.cmd.2.1 = c.id ∧ x.cmd.2.2.1 = c.seq else bareP x ∧ ofM x = (9, -c.id, c.target, c.seq, x.ask, x.user, cmd0) ∧ AskP x.ask x.user ∧ 0 < c.seq
instance (c : Ct) (x : Ms) : Decidable (mayP c x) := by unfold mayP; infer_instance
theorem right_busy {c : Ct} (hn : numsP c) (hb : c.busy = true) : mayP c c.msg ↔ RightP c := by
  rw [show RightP c ↔ msgP c from and_iff_right hn]
  unfold msgP mayP mayCallP mayAskP reqM queM
  rw [hb]
  simp only [if_true]
  split
  · rename_i h0
    have := @ms_form c.msg 9 (-c.id) c.target c.seq 0 ⟨#[]⟩ c.msg.cmd
    have hi := hn.1
    constructor
    · rintro ⟨h1, h2, h3, h4, h5⟩
      exact ⟨⟨h3, h4, h5, by omega⟩, this.1 ⟨h1, h2⟩⟩
    · rintro ⟨⟨h3, h4, h5, h6⟩, h7⟩
      exact ⟨(this.2 h7).1, (this.2 h7).2, h3, h4, h5⟩
  · have := @ms_form c.msg 9 (-c.id) c.target c.seq c.msg.ask c.msg.user cmd0
    constructor
    · rintro ⟨h1, h2, h3, h4⟩
      exact ⟨⟨h3, by omega⟩, this.1 ⟨h1, h2⟩⟩
    · rintro ⟨⟨h3, h4⟩, h7⟩
      exact ⟨(this.2 h7).1, (this.2 h7).2, h3, by omega⟩
theorem right_free {c : Ct} (hn : numsP c) (hb : c.busy = false) : (c.tries = 0 ∧ bareP c.msg) ∧ ofM c.msg = pl0 ↔ RightP c := by
  rw [show RightP c ↔ msgP c from and_iff_right hn]
  unfold msgP
  rw [hb]
  have := @ms_form c.msg 0 0 0 0 0 ⟨#[]⟩ cmd0
  constructor
  · rintro ⟨⟨h1, h2⟩, h3⟩
    exact ⟨h1, this.1 ⟨h2, h3⟩⟩
  · rintro ⟨h1, h2⟩
    exact ⟨⟨h1, (this.2 h2).1⟩, (this.2 h2).2⟩
theorem right_not {c : Ct} (h : ¬ numsP c) : ¬ RightP c := fun h2 => h h2.1
theorem nums_iff {c : Ct} : ((((!wi c.id 1 4 || !wi c.seq 0 1000000) || !wi c.target 1 7) || !wi c.tries 0 1000) = true) ↔ ¬ numsP c := by
  simp only [Bool.or_eq_true, Bool.not_eq_true', wi, Bool.and_eq_false_iff, decide_eq_false_iff_not, numsP]
  omega
theorem nums_of {c : Ct} (h : (((!wi c.id 1 4 || !wi c.seq 0 1000000) || !wi c.target 1 7) || !wi c.tries 0 1000) = false) : numsP c := by
  refine Classical.byContradiction fun hc => ?_
  rw [nums_iff.2 hc] at h
  cases h
def chkE (c : Ct) : Int := if RightP c then 0 else 180
theorem Sz.szm {x : Ms} {es : List EnV} (h : Sz x es) : SzM x es := ⟨fun p hp => h.c p hp, by have := h.e; omega, h.l, by have := h.v; omega, by have := h.s; omega⟩
theorem fa_ms0 {w : World} : FA w (msF ms0 m50 []) := .and (.and (fa_nil1 rfl rfl) (.all .nil)) (.and fa_clN (.and (fa_nil1 rfl rfl) (fa_nil1 rfl rfl)))
theorem sz3r : (Try.prog.info? 3).map (·.size) = some 1 := by kernel_rfl
theorem sz4r : (Try.prog.info? 4).map (·.size) = some 1 := by kernel_rfl
theorem sz9r : (Try.prog.info? 9).map (·.size) = some 1 := by kernel_rfl
theorem sz22r : (Try.prog.info? 22).map (·.size) = some 1 := by kernel_rfl
theorem sz23r : (Try.prog.info? 23).map (·.size) = some 1 := by kernel_rfl
theorem sz24r : (Try.prog.info? 24).map (·.size) = some 1 := by kernel_rfl
theorem sz26r : (Try.prog.info? 26).map (·.size) = some 2 := by kernel_rfl
theorem sz29r : (Try.prog.info? 29).map (·.size) = some 32 := by kernel_rfl
theorem sz31r : (Try.prog.info? 31).map (·.size) = some 38 := by kernel_rfl
theorem sz32r : (Try.prog.info? 32).map (·.size) = some 1 := by kernel_rfl
theorem sz33r : (Try.prog.info? 33).map (·.size) = some 1 := by kernel_rfl
theorem sz34r : (Try.prog.info? 34).map (·.size) = some 1 := by kernel_rfl
theorem sz35r : (Try.prog.info? 35).map (·.size) = some 1 := by kernel_rfl
theorem sz37r : (Try.prog.info? 37).map (·.size) = some 66 := by kernel_rfl
theorem sz41r : (Try.prog.info? 41).map (·.size) = some 97 := by kernel_rfl
theorem sz43r : (Try.prog.info? 43).map (·.size) = some 169 := by kernel_rfl
theorem sz45r : (Try.prog.info? 45).map (·.size) = some 225 := by kernel_rfl
theorem sz47r : (Try.prog.info? 47).map (·.size) = some 230 := by kernel_rfl
theorem sz96r : (Try.prog.info? 96).map (·.size) = some 230 := by kernel_rfl
theorem sz112r : (Try.prog.info? 112).map (·.size) = some 44 := by kernel_rfl
theorem tx12r : Txt Try.prog 12 := txt_of Try.func12 rfl (by kernel_rfl)
theorem tx23r : Txt Try.prog 23 := txt_of Try.func23 rfl (by kernel_rfl)
theorem tx26r : Txt Try.prog 26 := txt_of Try.func26 rfl (by kernel_rfl)
theorem tx27r : Txt Try.prog 27 := txt_of Try.func27 rfl (by kernel_rfl)
theorem tx37r : Txt Try.prog 37 := txt_of Try.func37 rfl (by kernel_rfl)
theorem tx38r : Txt Try.prog 38 := txt_of Try.func38 rfl (by kernel_rfl)
theorem tx39r : Txt Try.prog 39 := txt_of Try.func39 rfl (by kernel_rfl)
theorem tx40r : Txt Try.prog 40 := txt_of Try.func40 rfl (by kernel_rfl)
theorem tx41r : Txt Try.prog 41 := txt_of Try.func41 rfl (by kernel_rfl)
theorem tx50r : Txt Try.prog 50 := txt_of Try.func50 rfl (by kernel_rfl)
theorem tx51r : Txt Try.prog 51 := txt_of Try.func51 rfl (by kernel_rfl)
theorem tx52r : Txt Try.prog 52 := txt_of Try.func52 rfl (by kernel_rfl)
theorem tx53r : Txt Try.prog 53 := txt_of Try.func53 rfl (by kernel_rfl)
theorem tx54r : Txt Try.prog 54 := txt_of Try.func54 rfl (by kernel_rfl)
theorem tx56r : Txt Try.prog 56 := txt_of Try.func56 rfl (by kernel_rfl)
theorem tx57r : Txt Try.prog 57 := txt_of Try.func57 rfl (by kernel_rfl)
theorem z43r : (Try.prog.info? 43).bind (·.zero) = some (.agg [.int .i64 0, .int .i64 0, .int .i64 0, .int .i64 0, .int .i64 0, .slice none 0 0, .slice none 0 0, .bool false, .int .u8 0, .int .u8 0, .int .u8 0, .int .u8 0, .int .u8 0, .int .u8 0, .int .u8 0, .int .u8 0, .int .u8 0, .int .u8 0, .int .u8 0, .int .u8 0, .int .u8 0, .int .u8 0, .int .u8 0, .int .u8 0, .int .u8 0, .int .u8 0, .int .u8 0, .int .u8 0, .int .u8 0, .int .u8 0, .int .u8 0, .int .u8 0, .int .u8 0, .int .u8 0, .int .u8 0, .int .u8 0, .int .u8 0, .int .u8 0, .int .u8 0, .int .u8 0, .int .u8 0, .int .u8 0, .int .u8 0, .int .u8 0, .int .u8 0, .int .u8 0, .int .u8 0, .int .u8 0, .int .u8 0, .int .u8 0, .int .u8 0, .int .u8 0, .int .u8 0, .int .u8 0, .int .u8 0, .int .u8 0, .int .u8 0, .int .u8 0, .int .u8 0, .int .u8 0, .int .u8 0, .int .u8 0, .int .u8 0, .int .u8 0, .int .u8 0, .int .u8 0, .int .u8 0, .int .u8 0, .int .u8 0, .int .u8 0, .int .u8 0, .int .u8 0, .int .i64 0, .int .u8 0, .int .u8 0, .int .u8 0, .int .u8 0, .int .u8 0, .int .u8 0, .int .u8 0, .int .u8 0, .int .u8 0, .int .u8 0, .int .u8 0, .int .u8 0, .int .u8 0, .int .u8 0, .int .u8 0, .int .u8 0, .int .u8 0, .int .u8 0, .int .u8 0, .int .u8 0, .int .u8 0, .int .u8 0, .int .u8 0, .int .u8 0, .int .u8 0, .int .u8 0, .int .u8 0, .int .u8 0, .int .u8 0, .int .u8 0, .int .u8 0, .int .u8 0, .int .u8 0, .int .u8 0, .int .u8 0, .int .u8 0, .int .u8 0, .int .u8 0, .int .u8 0, .int .u8 0, .int .u8 0, .int .u8 0, .int .u8 0, .int .u8 0, .int .u8 0, .int .u8 0, .int .u8 0, .int .u8 0, .int .u8 0, .int .u8 0, .int .u8 0, .int .u8 0, .int .u8 0, .int .u8 0, .int .u8 0, .int .u8 0, .int .u8 0, .int .u8 0, .int .u8 0, .int .u8 0, .int .u8 0, .int .u8 0, .int .u8 0, .int .u8 0, .int .u8 0, .int .u8 0, .int .u8 0, .int .u8 0, .int .u8 0, .int .u8 0, .int .u8 0, .int .u8 0, .int .u8 0, .int .u8 0, .int .u8 0, .int .u8 0, .int .u8 0, .int .u8 0, .int .u8 0, .int .u8 0, .int .u8 0, .int .u8 0, .int .u8 0, .int .u8 0, .int .u8 0, .int .u8 0, .int .u8 0, .int .u8 0, .int .u8 0, .int .u8 0, .int .u8 0, .int .u8 0, .int .u8 0, .int .u8 0, .int .u8 0, .int .u8 0].toArray) := by kernel_rfl
theorem z45r : (Try.prog.info? 45).bind (·.zero) = some (.agg [.int .i64 0, .int .i64 0, .int .i64 0, .int .i64 0, .int .i64 0, .int .i64 0, .int .i64 0, .int .i64 0, .bool false, .slice none 0 0, .slice none 0 0, .slice none 0 0, .int .i64 0, .int .i64 0, .string ByteArray.empty, .int .i64 0, .int .i64 0, .int .i64 0, .string ByteArray.empty, .string ByteArray.empty, .int .i64 0, .int .u8 0, .int .u8 0, .int .u8 0, .int .u8 0, .int .u8 0, .int .u8 0, .int .u8 0, .int .u8 0, .int .u8 0, .int .u8 0, .int .u8 0, .int .u8 0, .int .u8 0, .int .u8 0, .int .u8 0, .int .u8 0, .int .u8 0, .int .u8 0, .int .u8 0, .int .u8 0, .int .u8 0, .int .u8 0, .int .u8 0, .int .u8 0, .int .u8 0, .int .u8 0, .int .u8 0, .int .u8 0, .int .u8 0, .int .u8 0, .int .u8 0, .int .u8 0, .int .i64 0, .int .i64 0, .string ByteArray.empty, .int .i64 0, .int .i64 0, .int .i64 0, .int .i64 0, .int .i64 0, .slice none 0 0, .slice none 0 0, .bool false, .int .u8 0, .int .u8 0, .int .u8 0, .int .u8 0, .int .u8 0, .int .u8 0, .int .u8 0, .int .u8 0, .int .u8 0, .int .u8 0, .int .u8 0, .int .u8 0, .int .u8 0, .int .u8 0, .int .u8 0, .int .u8 0, .int .u8 0, .int .u8 0, .int .u8 0, .int .u8 0, .int .u8 0, .int .u8 0, .int .u8 0, .int .u8 0, .int .u8 0, .int .u8 0, .int .u8 0, .int .u8 0, .int .u8 0, .int .u8 0, .int .u8 0, .int .u8 0, .int .u8 0, .int .u8 0, .int .u8 0, .int .u8 0, .int .u8 0, .int .u8 0, .int .u8 0, .int .u8 0, .int .u8 0, .int .u8 0, .int .u8 0, .int .u8 0, .int .u8 0, .int .u8 0, .int .u8 0, .int .u8 0, .int .u8 0, .int .u8 0, .int .u8 0, .int .u8 0, .int .u8 0, .int .u8 0, .int .u8 0, .int .u8 0, .int .u8 0, .int .u8 0, .int .u8 0, .int .u8 0, .int .u8 0, .int .u8 0, .int .u8 0, .int .u8 0, .int .i64 0, .int .u8 0, .int .u8 0, .int .u8 0, .int .u8 0, .int .u8 0, .int .u8 0, .int .u8 0, .int .u8 0, .int .u8 0, .int .u8 0, .int .u8 0, .int .u8 0, .int .u8 0, .int .u8 0, .int .u8 0, .int .u8 0, .int .u8 0, .int .u8 0, .int .u8 0, .int .u8 0, .int .u8 0, .int .u8 0, .int .u8 0, .int .u8 0, .int .u8 0, .int .u8 0, .int .u8 0, .int .u8 0, .int .u8 0, .int .u8 0, .int .u8 0, .int .u8 0, .int .u8 0, .int .u8 0, .int .u8 0, .int .u8 0, .int .u8 0, .int .u8 0, .int .u8 0, .int .u8 0, .int .u8 0, .int .u8 0, .int .u8 0, .int .u8 0, .int .u8 0, .int .u8 0, .int .u8 0, .int .u8 0, .int .u8 0, .int .u8 0, .int .u8 0, .int .u8 0, .int .u8 0, .int .u8 0, .int .u8 0, .int .u8 0, .int .u8 0, .int .u8 0, .int .u8 0, .int .u8 0, .int .u8 0, .int .u8 0, .int .u8 0, .int .u8 0, .int .u8 0, .int .u8 0, .int .u8 0, .int .u8 0, .int .u8 0, .int .u8 0, .int .u8 0, .int .u8 0, .int .u8 0, .int .u8 0, .int .u8 0, .int .u8 0, .int .u8 0, .int .u8 0, .int .u8 0, .int .u8 0, .int .u8 0, .int .u8 0, .int .u8 0, .int .u8 0, .int .u8 0, .int .u8 0, .int .u8 0, .int .u8 0, .int .u8 0, .int .u8 0, .int .u8 0, .int .u8 0, .int .u8 0, .int .u8 0, .int .u8 0, .int .u8 0].toArray) := by kernel_rfl
theorem z112r : (Try.prog.info? 112).bind (·.zero) = some (.agg [.int .i64 0, .int .i64 0, .int .i64 0, .int .i64 0, .int .i64 0, .string ByteArray.empty, .int .i64 0, .int .i64 0, .int .i64 0, .string ByteArray.empty, .string ByteArray.empty, .int .i64 0, .int .u8 0, .int .u8 0, .int .u8 0, .int .u8 0, .int .u8 0, .int .u8 0, .int .u8 0, .int .u8 0, .int .u8 0, .int .u8 0, .int .u8 0, .int .u8 0, .int .u8 0, .int .u8 0, .int .u8 0, .int .u8 0, .int .u8 0, .int .u8 0, .int .u8 0, .int .u8 0, .int .u8 0, .int .u8 0, .int .u8 0, .int .u8 0, .int .u8 0, .int .u8 0, .int .u8 0, .int .u8 0, .int .u8 0, .int .u8 0, .int .u8 0, .int .u8 0].toArray) := by kernel_rfl

theorem asks_w (ask : Int) (u : ByteArray) (w : World) :
    Calls Try.prog 57 #[.int .i64 ask, .string u] w fun e w' => e = .returned (.bool (decide (AskP ask u))) ∧ Fr [] w w' := by
  refine calls_of (args := [.int .i64 ask, .string u]) ([]) ([]) ([]) Try.func57 rfl rfl (okW0 _ _ _ _) ?_
  by_cases k1 : ask = 3
  ·
    refine J_seq ?_
    refine J_region ?_
    refine L_v rfl rfl rfl (V_assign rfl rfl) ?_
    refine L_nil ?_
    change J _ _ _ _
    refine J_seq ?_
    refine J_seq ?_
    refine J_region ?_
    refine L_v rfl rfl rfl (V_move rfl rfl) ?_
    refine L_nil ?_
    change J _ _ _ _
    refine J_block ?_
    refine J_seq ?_
    refine J_region ?_
    refine L_v rfl rfl rfl (V_eql rfl rfl rfl (by first | exact decide_eq_true (by omega) | exact decide_eq_false (by omega) | rfl)) ?_
    refine L_v rfl rfl rfl (V_assign rfl rfl) ?_
    refine L_nil ?_
    change J _ _ _ _
    refine J_true rfl ?_
    refine J_seq ?_
    refine J_region ?_
    refine L_v rfl rfl rfl (V_move rfl rfl) ?_
    refine L_v rfl rfl rfl (V_eqS rfl rfl rfl rfl) ?_
    refine L_v rfl rfl rfl (V_assign rfl rfl) ?_
    refine L_nil ?_
    change J _ _ _ _
    refine J_ret ?_
    change Kret _ _ _ Exit.ret _
    refine ret1 rfl rfl (RV_t rfl) ?_
    exact fun w' h => ⟨congrArg (fun b => Ending.returned (Value.bool b)) (Bool.eq_iff_iff.2 (by simp only [Bool.and_eq_true, Bool.or_eq_true, decide_eq_true_eq, wi_iff, beq_iff_eq]; unfold AskP; grind)), h.fr⟩
  ·
    by_cases k2 : ask = 1
    ·
      refine J_seq ?_
      refine J_region ?_
      refine L_v rfl rfl rfl (V_assign rfl rfl) ?_
      refine L_nil ?_
      change J _ _ _ _
      refine J_seq ?_
      refine J_seq ?_
      refine J_region ?_
      refine L_v rfl rfl rfl (V_move rfl rfl) ?_
      refine L_nil ?_
      change J _ _ _ _
      refine J_block ?_
      refine J_seq ?_
      refine J_region ?_
      refine L_v rfl rfl rfl (V_eql rfl rfl rfl (by first | exact decide_eq_true (by omega) | exact decide_eq_false (by omega) | rfl)) ?_
      refine L_v rfl rfl rfl (V_assign rfl rfl) ?_
      refine L_nil ?_
      change J _ _ _ _
      refine J_false rfl ?_
      refine J_seq ?_
      refine J_seq ?_
      refine J_region ?_
      refine L_v rfl rfl rfl (V_eql rfl rfl rfl (by first | exact decide_eq_true (by omega) | exact decide_eq_false (by omega) | rfl)) ?_
      refine L_v rfl rfl rfl (V_assign rfl rfl) ?_
      refine L_nil ?_
      change J _ _ _ _
      refine J_true rfl ?_
      refine J_skip ?_
      change J _ _ _ _
      refine J_true rfl ?_
      refine J_seq ?_
      refine J_region ?_
      refine L_v rfl rfl rfl (V_move rfl rfl) ?_
      refine L_v rfl rfl rfl (V_lenS rfl rfl Try.underlying9 rfl) ?_
      refine L_callV rfl rfl rfl rfl rfl rfl tx23r (fun w1 hw => within_w _ _ _ w1) ?_
      refine L_v rfl rfl rfl (V_assign rfl rfl) ?_
      refine L_nil ?_
      change J _ _ _ _
      refine J_ret ?_
      change Kret _ _ _ Exit.ret _
      refine ret1 rfl rfl (RV_t rfl) ?_
      exact fun w' h => ⟨congrArg (fun b => Ending.returned (Value.bool b)) (Bool.eq_iff_iff.2 (by simp only [Bool.and_eq_true, Bool.or_eq_true, decide_eq_true_eq, wi_iff, beq_iff_eq]; unfold AskP; grind)), h.fr⟩
    ·
      by_cases k3 : ask = 2
      ·
        refine J_seq ?_
        refine J_region ?_
        refine L_v rfl rfl rfl (V_assign rfl rfl) ?_
        refine L_nil ?_
        change J _ _ _ _
        refine J_seq ?_
        refine J_seq ?_
        refine J_region ?_
        refine L_v rfl rfl rfl (V_move rfl rfl) ?_
        refine L_nil ?_
        change J _ _ _ _
        refine J_block ?_
        refine J_seq ?_
        refine J_region ?_
        refine L_v rfl rfl rfl (V_eql rfl rfl rfl (by first | exact decide_eq_true (by omega) | exact decide_eq_false (by omega) | rfl)) ?_
        refine L_v rfl rfl rfl (V_assign rfl rfl) ?_
        refine L_nil ?_
        change J _ _ _ _
        refine J_false rfl ?_
        refine J_seq ?_
        refine J_seq ?_
        refine J_region ?_
        refine L_v rfl rfl rfl (V_eql rfl rfl rfl (by first | exact decide_eq_true (by omega) | exact decide_eq_false (by omega) | rfl)) ?_
        refine L_v rfl rfl rfl (V_assign rfl rfl) ?_
        refine L_nil ?_
        change J _ _ _ _
        refine J_false rfl ?_
        refine J_region ?_
        refine L_v rfl rfl rfl (V_eql rfl rfl rfl (by first | exact decide_eq_true (by omega) | exact decide_eq_false (by omega) | rfl)) ?_
        refine L_v rfl rfl rfl (V_assign rfl rfl) ?_
        refine L_nil ?_
        change J _ _ _ _
        refine J_true rfl ?_
        refine J_seq ?_
        refine J_region ?_
        refine L_v rfl rfl rfl (V_move rfl rfl) ?_
        refine L_v rfl rfl rfl (V_lenS rfl rfl Try.underlying9 rfl) ?_
        refine L_callV rfl rfl rfl rfl rfl rfl tx23r (fun w1 hw => within_w _ _ _ w1) ?_
        refine L_v rfl rfl rfl (V_assign rfl rfl) ?_
        refine L_nil ?_
        change J _ _ _ _
        refine J_ret ?_
        change Kret _ _ _ Exit.ret _
        refine ret1 rfl rfl (RV_t rfl) ?_
        exact fun w' h => ⟨congrArg (fun b => Ending.returned (Value.bool b)) (Bool.eq_iff_iff.2 (by simp only [Bool.and_eq_true, Bool.or_eq_true, decide_eq_true_eq, wi_iff, beq_iff_eq]; unfold AskP; grind)), h.fr⟩
      ·
        refine J_seq ?_
        refine J_region ?_
        refine L_v rfl rfl rfl (V_assign rfl rfl) ?_
        refine L_nil ?_
        change J _ _ _ _
        refine J_seq ?_
        refine J_seq ?_
        refine J_region ?_
        refine L_v rfl rfl rfl (V_move rfl rfl) ?_
        refine L_nil ?_
        change J _ _ _ _
        refine J_block ?_
        refine J_seq ?_
        refine J_region ?_
        refine L_v rfl rfl rfl (V_eql rfl rfl rfl (by first | exact decide_eq_true (by omega) | exact decide_eq_false (by omega) | rfl)) ?_
        refine L_v rfl rfl rfl (V_assign rfl rfl) ?_
        refine L_nil ?_
        change J _ _ _ _
        refine J_false rfl ?_
        refine J_seq ?_
        refine J_seq ?_
        refine J_region ?_
        refine L_v rfl rfl rfl (V_eql rfl rfl rfl (by first | exact decide_eq_true (by omega) | exact decide_eq_false (by omega) | rfl)) ?_
        refine L_v rfl rfl rfl (V_assign rfl rfl) ?_
        refine L_nil ?_
        change J _ _ _ _
        refine J_false rfl ?_
        refine J_region ?_
        refine L_v rfl rfl rfl (V_eql rfl rfl rfl (by first | exact decide_eq_true (by omega) | exact decide_eq_false (by omega) | rfl)) ?_
        refine L_v rfl rfl rfl (V_assign rfl rfl) ?_
        refine L_nil ?_
        change J _ _ _ _
        refine J_false rfl ?_
        refine J_skip ?_
        change J _ _ _ _
        refine J_seq ?_
        refine J_region ?_
        refine L_v rfl rfl rfl (V_assign rfl rfl) ?_
        refine L_nil ?_
        change J _ _ _ _
        refine J_ret ?_
        change Kret _ _ _ Exit.ret _
        refine ret1 rfl rfl (RV_t rfl) ?_
        exact fun w' h => ⟨congrArg (fun b => Ending.returned (Value.bool b)) (Eq.symm (decide_eq_false (by unfold AskP; grind))), h.fr⟩

theorem of_w (x : Ms) (m : M5) (w : World)  :
    Calls Try.prog 54 #[.agg (msM x m).toArray] w fun e w' => e = .returned (.agg (plM (ofM x)).toArray) ∧ Fr [] w w' := by
  refine calls_of (args := [.agg (msM x m).toArray]) ([]) ([]) ([]) Try.func54 rfl rfl (okW0 _ _ _ _) ?_
  refine J_seq ?_
  refine J_region ?_
  refine L_box rfl rfl rfl rfl rfl (fun b0 => ?_)
  refine L_alloc rfl rfl rfl rfl z112r (fun b1 => ?_)
  refine L_nil ?_
  change J _ _ _ _
  refine J_seq ?_
  refine J_region ?_
  refine L_v rfl rfl rfl (V_fieldAddr rfl rfl Try.underlying45 rfl sz22r rfl) ?_
  refine L_v rfl rfl rfl (V_load1 0 rfl rfl rfl Try.underlying22 rfl (by rfl)) ?_
  refine L_v rfl rfl rfl (V_fieldAddr rfl rfl Try.underlying45 rfl sz3r rfl) ?_
  refine L_v rfl rfl rfl (V_load1 0 rfl rfl rfl Try.underlying3 rfl (by rfl)) ?_
  refine L_v rfl rfl rfl (V_fieldAddr rfl rfl Try.underlying45 rfl sz3r rfl) ?_
  refine L_v rfl rfl rfl (V_load1 0 rfl rfl rfl Try.underlying3 rfl (by rfl)) ?_
  refine L_v rfl rfl rfl (V_fieldAddr rfl rfl Try.underlying45 rfl sz3r rfl) ?_
  refine L_v rfl rfl rfl (V_load1 0 rfl rfl rfl Try.underlying3 rfl (by rfl)) ?_
  refine L_v rfl rfl rfl (V_fieldAddr rfl rfl Try.underlying45 rfl sz32r rfl) ?_
  refine L_v rfl rfl rfl (V_load1 0 rfl rfl rfl Try.underlying32 rfl (by rfl)) ?_
  refine L_v rfl rfl rfl (V_fieldAddr rfl rfl Try.underlying45 rfl sz9r rfl) ?_
  refine L_v rfl rfl rfl (V_load1 0 rfl rfl rfl Try.underlying9 rfl (by rfl)) ?_
  refine L_v rfl rfl rfl (V_fieldAddr rfl rfl Try.underlying45 rfl sz31r rfl) ?_
  refine L_v rfl rfl rfl (V_loadT 0 (vs := cmdM x.cmd) rfl rfl rfl Try.underlying31 rfl sz31r (by kernel_rfl) (by kernel_rfl)) ?_
  refine L_v rfl rfl rfl (V_buildE (v := .agg (plM (ofM x)).toArray) rfl rfl (fun w => by kernel_rfl)) ?_
  refine L_storeW 1 rfl rfl rfl rfl rfl rfl (szd sz112r (by kernel_rfl)) (all_one (by kernel_rfl)) (by kernel_rfl) ?_
  refine L_nil ?_
  change J _ _ _ _
  refine J_ret ?_
  change Kret _ _ _ Exit.ret _
  refine ret1 rfl rfl (RV_c 1 rfl rfl Try.underlying112 rfl (szd sz112r (by kernel_rfl))) ?_
  exact fun w' h => ⟨rfl, h.fr⟩

set_option maxHeartbeats 2000000 in
theorem bare_w (x : Ms) (m : M5) (w : World) (hB : x.entries.length ≤ 549755813888 ∧ x.council.1.length ≤ 1099511627776 ∧ x.council.2.length ≤ 1099511627776 ∧ x.reply.vers.length ≤ 549755813888 ∧ x.reply.pf.sib.length ≤ 549755813888) :
    Calls Try.prog 53 #[.agg (msM x m).toArray] w fun e w' => e = .returned (.bool (decide (bareP x))) ∧ Fr [] w w' := by
  refine calls_of (args := [.agg (msM x m).toArray]) ([]) ([]) ([]) Try.func53 rfl rfl (okW0 _ _ _ _) ?_
  refine J_seq ?_
  refine J_region ?_
  refine L_box rfl rfl rfl rfl rfl (fun b0 => ?_)
  refine L_v rfl rfl rfl (V_assign rfl rfl) ?_
  refine L_nil ?_
  change J _ _ _ _
  refine J_seq ?_
  refine J_region ?_
  refine L_v rfl rfl rfl (V_fieldAddr rfl rfl Try.underlying45 rfl sz43r rfl) ?_
  refine L_v rfl rfl rfl (V_loadT 0 (vs := rpM x.reply m.v m.s) rfl rfl rfl Try.underlying43 rfl sz43r (by kernel_rfl) (by kernel_rfl)) ?_
  refine L_alloc rfl rfl rfl rfl z43r (fun b1 => ?_)
  refine L_storeW 1 rfl rfl rfl rfl rfl rfl (szd sz43r (by kernel_rfl)) (all_one (by kernel_rfl)) (by kernel_rfl) ?_
  refine L_nil ?_
  change J _ _ _ _
  refine J_seq ?_
  refine J_region ?_
  refine L_v rfl rfl rfl (V_fieldAddr rfl rfl Try.underlying45 rfl sz3r rfl) ?_
  refine L_v rfl rfl rfl (V_load1 0 rfl rfl rfl Try.underlying3 rfl (by rfl)) ?_
  refine L_v rfl rfl rfl (V_eql rfl rfl rfl rfl) ?_
  refine L_v rfl rfl rfl (V_move rfl rfl) ?_
  apply L_and 3 12 16
  · rfl
  · rfl
  · rfl
  · rfl
  · rfl
  · rfl
  · rfl
  · kernel_rfl
  · intro hb1 _ _ hk1
    refine L_wv rfl rfl rfl rfl rfl rfl (V_fieldAddr rfl rfl Try.underlying45 rfl sz3r rfl) ?_
    refine L_wv rfl rfl rfl rfl rfl rfl (V_load1 0 rfl rfl rfl Try.underlying3 rfl (by rfl)) ?_
    refine L_wv rfl rfl rfl rfl rfl rfl (V_eql rfl rfl rfl rfl) ?_
    exact hk1 _ ⟨rfl, rfl, rfl, rfl, ext_cut 3 (by kernel_rfl) (by kernel_rfl)⟩
  refine L_v rfl rfl rfl (V_move rfl rfl) ?_
  apply L_and 3 17 21
  · rfl
  · rfl
  · rfl
  · rfl
  · rfl
  · rfl
  · rfl
  · kernel_rfl
  · intro hb2 _ _ hk2
    refine L_wv rfl rfl rfl rfl rfl rfl (V_fieldAddr rfl rfl Try.underlying45 rfl sz3r rfl) ?_
    refine L_wv rfl rfl rfl rfl rfl rfl (V_load1 0 rfl rfl rfl Try.underlying3 rfl (by rfl)) ?_
    refine L_wv rfl rfl rfl rfl rfl rfl (V_eql rfl rfl rfl rfl) ?_
    exact hk2 _ ⟨rfl, rfl, rfl, rfl, ext_cut 3 (by kernel_rfl) (by kernel_rfl)⟩
  refine L_v rfl rfl rfl (V_move rfl rfl) ?_
  apply L_and 3 22 26
  · rfl
  · rfl
  · rfl
  · rfl
  · rfl
  · rfl
  · rfl
  · kernel_rfl
  · intro hb3 _ _ hk3
    refine L_wv rfl rfl rfl rfl rfl rfl (V_fieldAddr rfl rfl Try.underlying45 rfl sz3r rfl) ?_
    refine L_wv rfl rfl rfl rfl rfl rfl (V_load1 0 rfl rfl rfl Try.underlying3 rfl (by rfl)) ?_
    refine L_wv rfl rfl rfl rfl rfl rfl (V_eql rfl rfl rfl rfl) ?_
    exact hk3 _ ⟨rfl, rfl, rfl, rfl, ext_cut 3 (by kernel_rfl) (by kernel_rfl)⟩
  refine L_v rfl rfl rfl (V_move rfl rfl) ?_
  apply L_and 3 27 31
  · rfl
  · rfl
  · rfl
  · rfl
  · rfl
  · rfl
  · rfl
  · kernel_rfl
  · intro hb4 _ _ hk4
    refine L_wv rfl rfl rfl rfl rfl rfl (V_fieldAddr rfl rfl Try.underlying45 rfl sz3r rfl) ?_
    refine L_wv rfl rfl rfl rfl rfl rfl (V_load1 0 rfl rfl rfl Try.underlying3 rfl (by rfl)) ?_
    refine L_wv rfl rfl rfl rfl rfl rfl (V_eql rfl rfl rfl rfl) ?_
    exact hk4 _ ⟨rfl, rfl, rfl, rfl, ext_cut 3 (by kernel_rfl) (by kernel_rfl)⟩
  refine L_v rfl rfl rfl (V_move rfl rfl) ?_
  apply L_and 3 32 36
  · rfl
  · rfl
  · rfl
  · rfl
  · rfl
  · rfl
  · rfl
  · kernel_rfl
  · intro hb5 _ _ hk5
    refine L_wv rfl rfl rfl rfl rfl rfl (V_fieldAddr rfl rfl Try.underlying45 rfl sz4r rfl) ?_
    refine L_wv rfl rfl rfl rfl rfl rfl (V_load1 0 rfl rfl rfl Try.underlying4 rfl (by rfl)) ?_
    refine L_wv rfl rfl rfl rfl rfl rfl (V_not rfl rfl rfl) ?_
    exact hk5 _ ⟨rfl, rfl, rfl, rfl, ext_cut 3 (by kernel_rfl) (by kernel_rfl)⟩
  refine L_v rfl rfl rfl (V_move rfl rfl) ?_
  apply L_and 3 37 41
  · rfl
  · rfl
  · rfl
  · rfl
  · rfl
  · rfl
  · rfl
  · kernel_rfl
  · intro hb6 _ _ hk6
    refine L_wv rfl rfl rfl rfl rfl rfl (V_fieldAddr rfl rfl Try.underlying45 rfl sz3r rfl) ?_
    refine L_wv rfl rfl rfl rfl rfl rfl (V_load1 0 rfl rfl rfl Try.underlying3 rfl (by rfl)) ?_
    refine L_wv rfl rfl rfl rfl rfl rfl (V_eql rfl rfl rfl rfl) ?_
    exact hk6 _ ⟨rfl, rfl, rfl, rfl, ext_cut 3 (by kernel_rfl) (by kernel_rfl)⟩
  refine L_v rfl rfl rfl (V_move rfl rfl) ?_
  apply L_and 3 42 46
  · rfl
  · rfl
  · rfl
  · rfl
  · rfl
  · rfl
  · rfl
  · kernel_rfl
  · intro hb7 _ _ hk7
    refine L_wv rfl rfl rfl rfl rfl rfl (V_fieldAddr rfl rfl Try.underlying45 rfl sz3r rfl) ?_
    refine L_wv rfl rfl rfl rfl rfl rfl (V_load1 0 rfl rfl rfl Try.underlying3 rfl (by rfl)) ?_
    refine L_wv rfl rfl rfl rfl rfl rfl (V_eql rfl rfl rfl rfl) ?_
    exact hk7 _ ⟨rfl, rfl, rfl, rfl, ext_cut 3 (by kernel_rfl) (by kernel_rfl)⟩
  refine L_v rfl rfl rfl (V_move rfl rfl) ?_
  apply L_and 3 47 51
  · rfl
  · rfl
  · rfl
  · rfl
  · rfl
  · rfl
  · rfl
  · kernel_rfl
  · intro hb8 _ _ hk8
    refine L_wv rfl rfl rfl rfl rfl rfl (V_fieldAddr rfl rfl Try.underlying45 rfl sz9r rfl) ?_
    refine L_wv rfl rfl rfl rfl rfl rfl (V_load1 0 rfl rfl rfl Try.underlying9 rfl (by rfl)) ?_
    refine L_wv rfl rfl rfl rfl rfl rfl (V_eqS rfl rfl rfl rfl) ?_
    exact hk8 _ ⟨rfl, rfl, rfl, rfl, ext_cut 3 (by kernel_rfl) (by kernel_rfl)⟩
  refine L_v rfl rfl rfl (V_assign rfl rfl) ?_
  refine L_nil ?_
  change J _ _ _ _
  refine J_seq ?_
  refine J_region ?_
  refine L_v rfl rfl rfl (V_fieldAddr rfl rfl Try.underlying45 rfl sz23r rfl) ?_
  refine L_v rfl rfl rfl (V_load1 0 rfl rfl rfl Try.underlying23 rfl (by rfl)) ?_
  refine L_v rfl rfl rfl (V_len rfl rfl Try.underlying23 rfl) ?_
  refine L_v rfl rfl rfl (V_fieldAddr rfl rfl Try.underlying45 rfl sz26r rfl) ?_
  refine L_v rfl rfl rfl (V_fieldAddr rfl rfl Try.underlying26 rfl sz24r rfl) ?_
  refine L_v rfl rfl rfl (V_load1 0 rfl rfl rfl Try.underlying24 rfl (by rfl)) ?_
  refine L_v rfl rfl rfl (V_len rfl rfl Try.underlying24 rfl) ?_
  refine L_v rfl rfl rfl (V_add rfl rfl rfl (by first | exact Go.IntWalk.i64_in _ (by omega) | rfl)) ?_
  refine L_v rfl rfl rfl (V_fieldAddr rfl rfl Try.underlying45 rfl sz26r rfl) ?_
  refine L_v rfl rfl rfl (V_fieldAddr rfl rfl Try.underlying26 rfl sz24r rfl) ?_
  refine L_v rfl rfl rfl (V_load1 0 rfl rfl rfl Try.underlying24 rfl (by rfl)) ?_
  refine L_v rfl rfl rfl (V_len rfl rfl Try.underlying24 rfl) ?_
  refine L_v rfl rfl rfl (V_add rfl rfl rfl (by first | exact Go.IntWalk.i64_in _ (by omega) | rfl)) ?_
  refine L_v rfl rfl rfl (V_fieldAddr rfl rfl Try.underlying43 rfl sz34r rfl) ?_
  refine L_v rfl rfl rfl (V_load1 1 rfl rfl rfl Try.underlying34 rfl (by rfl)) ?_
  refine L_v rfl rfl rfl (V_len rfl rfl Try.underlying34 rfl) ?_
  refine L_v rfl rfl rfl (V_add rfl rfl rfl (by first | exact Go.IntWalk.i64_in _ (by omega) | rfl)) ?_
  refine L_v rfl rfl rfl (V_fieldAddr rfl rfl Try.underlying43 rfl sz37r rfl) ?_
  refine L_v rfl rfl rfl (V_fieldAddr rfl rfl Try.underlying37 rfl sz35r rfl) ?_
  refine L_v rfl rfl rfl (V_load1 1 rfl rfl rfl Try.underlying35 rfl (by rfl)) ?_
  refine L_v rfl rfl rfl (V_len rfl rfl Try.underlying35 rfl) ?_
  refine L_v rfl rfl rfl (V_add rfl rfl rfl (by first | exact Go.IntWalk.i64_in _ (by omega) | rfl)) ?_
  refine L_v rfl rfl rfl (V_assign rfl rfl) ?_
  refine L_nil ?_
  change J _ _ _ _
  refine J_seq ?_
  refine J_region ?_
  refine L_v rfl rfl rfl (V_fieldAddr rfl rfl Try.underlying43 rfl sz33r rfl) ?_
  refine L_v rfl rfl rfl (V_load1 1 rfl rfl rfl Try.underlying33 rfl (by rfl)) ?_
  refine L_v rfl rfl rfl (V_eql rfl rfl rfl rfl) ?_
  refine L_v rfl rfl rfl (V_move rfl rfl) ?_
  apply L_and 3 77 81
  · rfl
  · rfl
  · rfl
  · rfl
  · rfl
  · rfl
  · rfl
  · kernel_rfl
  · intro hb9 _ _ hk9
    refine L_wv rfl rfl rfl rfl rfl rfl (V_fieldAddr rfl rfl Try.underlying43 rfl sz3r rfl) ?_
    refine L_wv rfl rfl rfl rfl rfl rfl (V_load1 1 rfl rfl rfl Try.underlying3 rfl (by rfl)) ?_
    refine L_wv rfl rfl rfl rfl rfl rfl (V_eql rfl rfl rfl rfl) ?_
    exact hk9 _ ⟨rfl, rfl, rfl, rfl, ext_cut 3 (by kernel_rfl) (by kernel_rfl)⟩
  refine L_v rfl rfl rfl (V_move rfl rfl) ?_
  apply L_and 3 82 86
  · rfl
  · rfl
  · rfl
  · rfl
  · rfl
  · rfl
  · rfl
  · kernel_rfl
  · intro hb10 _ _ hk10
    refine L_wv rfl rfl rfl rfl rfl rfl (V_fieldAddr rfl rfl Try.underlying43 rfl sz3r rfl) ?_
    refine L_wv rfl rfl rfl rfl rfl rfl (V_load1 1 rfl rfl rfl Try.underlying3 rfl (by rfl)) ?_
    refine L_wv rfl rfl rfl rfl rfl rfl (V_eql rfl rfl rfl rfl) ?_
    exact hk10 _ ⟨rfl, rfl, rfl, rfl, ext_cut 3 (by kernel_rfl) (by kernel_rfl)⟩
  refine L_v rfl rfl rfl (V_move rfl rfl) ?_
  apply L_and 3 87 91
  · rfl
  · rfl
  · rfl
  · rfl
  · rfl
  · rfl
  · rfl
  · kernel_rfl
  · intro hb11 _ _ hk11
    refine L_wv rfl rfl rfl rfl rfl rfl (V_fieldAddr rfl rfl Try.underlying43 rfl sz3r rfl) ?_
    refine L_wv rfl rfl rfl rfl rfl rfl (V_load1 1 rfl rfl rfl Try.underlying3 rfl (by rfl)) ?_
    refine L_wv rfl rfl rfl rfl rfl rfl (V_eql rfl rfl rfl rfl) ?_
    exact hk11 _ ⟨rfl, rfl, rfl, rfl, ext_cut 3 (by kernel_rfl) (by kernel_rfl)⟩
  refine L_v rfl rfl rfl (V_move rfl rfl) ?_
  apply L_and 3 92 96
  · rfl
  · rfl
  · rfl
  · rfl
  · rfl
  · rfl
  · rfl
  · kernel_rfl
  · intro hb12 _ _ hk12
    refine L_wv rfl rfl rfl rfl rfl rfl (V_fieldAddr rfl rfl Try.underlying43 rfl sz3r rfl) ?_
    refine L_wv rfl rfl rfl rfl rfl rfl (V_load1 1 rfl rfl rfl Try.underlying3 rfl (by rfl)) ?_
    refine L_wv rfl rfl rfl rfl rfl rfl (V_eql rfl rfl rfl rfl) ?_
    exact hk12 _ ⟨rfl, rfl, rfl, rfl, ext_cut 3 (by kernel_rfl) (by kernel_rfl)⟩
  refine L_v rfl rfl rfl (V_move rfl rfl) ?_
  apply L_and 4 97 102
  · rfl
  · rfl
  · rfl
  · rfl
  · rfl
  · rfl
  · rfl
  · kernel_rfl
  · intro hb13 _ _ hk13
    refine L_wv rfl rfl rfl rfl rfl rfl (V_fieldAddr rfl rfl Try.underlying43 rfl sz41r rfl) ?_
    refine L_wv rfl rfl rfl rfl rfl rfl (V_loadT 1 (vs := sgM x.reply.head) rfl rfl rfl Try.underlying41 rfl sz41r (by kernel_rfl) (by kernel_rfl)) ?_
    refine L_wv rfl rfl rfl rfl rfl rfl (V_buildE (v := .agg (sgM sg0).toArray) rfl rfl (fun w => by kernel_rfl)) ?_
    refine L_wv rfl rfl rfl rfl rfl rfl (V_eqAgg rfl rfl rfl (by kernel_rfl : Try.prog.eqGuardType Try.prog.depth 41 = false) (fun w => eqSgDO _ _ w) rfl) ?_
    exact hk13 _ ⟨rfl, rfl, rfl, rfl, ext_cut 4 (by kernel_rfl) (by kernel_rfl)⟩
  refine L_v rfl rfl rfl (V_assign rfl rfl) ?_
  refine L_nil ?_
  change J _ _ _ _
  refine J_seq ?_
  refine J_region ?_
  refine L_v rfl rfl rfl (V_move rfl rfl) ?_
  refine L_v rfl rfl rfl (V_move rfl rfl) ?_
  apply L_and 2 104 107
  · rfl
  · rfl
  · rfl
  · rfl
  · rfl
  · rfl
  · rfl
  · kernel_rfl
  · intro hb14 _ _ hk14
    refine L_wv rfl rfl rfl rfl rfl rfl (V_move rfl rfl) ?_
    refine L_wv rfl rfl rfl rfl rfl rfl (V_eql rfl rfl rfl rfl) ?_
    exact hk14 _ ⟨rfl, rfl, rfl, rfl, ext_cut 2 (by kernel_rfl) (by kernel_rfl)⟩
  refine L_v rfl rfl rfl (V_move rfl rfl) ?_
  apply L_and 1 108 110
  · rfl
  · rfl
  · rfl
  · rfl
  · rfl
  · rfl
  · rfl
  · kernel_rfl
  · intro hb15 _ _ hk15
    refine L_wv rfl rfl rfl rfl rfl rfl (V_move rfl rfl) ?_
    exact hk15 _ ⟨rfl, rfl, rfl, rfl, ext_cut 1 (by kernel_rfl) (by kernel_rfl)⟩
  refine L_v rfl rfl rfl (V_move rfl rfl) ?_
  apply L_and 4 111 116
  · rfl
  · rfl
  · rfl
  · rfl
  · rfl
  · rfl
  · rfl
  · kernel_rfl
  · intro hb16 _ _ hk16
    refine L_wv rfl rfl rfl rfl rfl rfl (V_fieldAddr rfl rfl Try.underlying43 rfl sz37r rfl) ?_
    refine L_wv rfl rfl rfl rfl rfl rfl (V_fieldAddr rfl rfl Try.underlying37 rfl sz4r rfl) ?_
    refine L_wv rfl rfl rfl rfl rfl rfl (V_load1 1 rfl rfl rfl Try.underlying4 rfl (by rfl)) ?_
    refine L_wv rfl rfl rfl rfl rfl rfl (V_not rfl rfl rfl) ?_
    exact hk16 _ ⟨rfl, rfl, rfl, rfl, ext_cut 4 (by kernel_rfl) (by kernel_rfl)⟩
  refine L_v rfl rfl rfl (V_move rfl rfl) ?_
  apply L_and 5 117 123
  · rfl
  · rfl
  · rfl
  · rfl
  · rfl
  · rfl
  · rfl
  · kernel_rfl
  · intro hb17 _ _ hk17
    refine L_wv rfl rfl rfl rfl rfl rfl (V_fieldAddr rfl rfl Try.underlying43 rfl sz37r rfl) ?_
    refine L_wv rfl rfl rfl rfl rfl rfl (V_fieldAddr rfl rfl Try.underlying37 rfl sz29r rfl) ?_
    refine L_wv rfl rfl rfl rfl rfl rfl (V_loadT 1 (vs := dgM x.reply.pf.path) rfl rfl rfl Try.underlying29 rfl sz29r (by kernel_rfl) (by kernel_rfl)) ?_
    refine L_wv rfl rfl rfl rfl rfl rfl (V_buildE (v := .agg (dgM dz).toArray) rfl rfl (fun w => by kernel_rfl)) ?_
    refine L_wv rfl rfl rfl rfl rfl rfl (V_eqAgg rfl rfl rfl (by kernel_rfl : Try.prog.eqGuardType Try.prog.depth 29 = false) (fun w => eqDgDO _ _ w) rfl) ?_
    exact hk17 _ ⟨rfl, rfl, rfl, rfl, ext_cut 5 (by kernel_rfl) (by kernel_rfl)⟩
  refine L_v rfl rfl rfl (V_move rfl rfl) ?_
  apply L_and 5 124 130
  · rfl
  · rfl
  · rfl
  · rfl
  · rfl
  · rfl
  · rfl
  · kernel_rfl
  · intro hb18 _ _ hk18
    refine L_wv rfl rfl rfl rfl rfl rfl (V_fieldAddr rfl rfl Try.underlying43 rfl sz37r rfl) ?_
    refine L_wv rfl rfl rfl rfl rfl rfl (V_fieldAddr rfl rfl Try.underlying37 rfl sz29r rfl) ?_
    refine L_wv rfl rfl rfl rfl rfl rfl (V_loadT 1 (vs := dgM x.reply.pf.val) rfl rfl rfl Try.underlying29 rfl sz29r (by kernel_rfl) (by kernel_rfl)) ?_
    refine L_wv rfl rfl rfl rfl rfl rfl (V_buildE (v := .agg (dgM dz).toArray) rfl rfl (fun w => by kernel_rfl)) ?_
    refine L_wv rfl rfl rfl rfl rfl rfl (V_eqAgg rfl rfl rfl (by kernel_rfl : Try.prog.eqGuardType Try.prog.depth 29 = false) (fun w => eqDgDO _ _ w) rfl) ?_
    exact hk18 _ ⟨rfl, rfl, rfl, rfl, ext_cut 5 (by kernel_rfl) (by kernel_rfl)⟩
  refine L_v rfl rfl rfl (V_assign rfl rfl) ?_
  refine L_nil ?_
  change J _ _ _ _
  refine J_ret ?_
  change Kret _ _ _ Exit.ret _
  refine ret1 rfl rfl (RV_t rfl) ?_
  exact fun w' h => ⟨congrArg (fun b => Ending.returned (Value.bool b)) (Bool.eq_iff_iff.2 (by simp only [Bool.and_eq_true, Bool.or_eq_true, decide_eq_true_eq, wi_iff, beq_iff_eq]; rw [bare_iff]; simp only [Bool.not_eq_true']; grind)), h.fr⟩

set_option maxHeartbeats 2000000 in
theorem mayS_w (c : Ct) (m : M5) (x : Ms) (n : M5) (w : World) (hi : 1 ≤ c.id ∧ c.id ≤ 4) (hB : x.entries.length ≤ 549755813888 ∧ x.council.1.length ≤ 1099511627776 ∧ x.council.2.length ≤ 1099511627776 ∧ x.reply.vers.length ≤ 549755813888 ∧ x.reply.pf.sib.length ≤ 549755813888) :
    Calls Try.prog 52 #[.agg (ctM c m).toArray, .agg (msM x n).toArray] w fun e w' => e = .returned (.bool (decide (mayP c x))) ∧ Fr [] w w' := by
  refine calls_of (args := [.agg (ctM c m).toArray, .agg (msM x n).toArray]) ([]) ([]) ([]) Try.func52 rfl rfl (okW0 _ _ _ _) ?_
  refine J_seq ?_
  refine J_region ?_
  refine L_box rfl rfl rfl rfl rfl (fun b0 => ?_)
  refine L_box rfl rfl rfl rfl rfl (fun b1 => ?_)
  refine L_v rfl rfl rfl (V_assign rfl rfl) ?_
  refine L_nil ?_
  change J _ _ _ _
  refine J_seq ?_
  refine J_region ?_
  refine L_v rfl rfl rfl (V_fieldAddr rfl rfl Try.underlying96 rfl sz47r rfl) ?_
  refine L_v rfl rfl rfl (V_fieldAddr rfl rfl Try.underlying47 rfl sz3r rfl) ?_
  refine L_v rfl rfl rfl (V_load1 0 rfl rfl rfl Try.underlying3 rfl (by rfl)) ?_
  refine L_v rfl rfl rfl (V_neg rfl rfl (by first | exact Go.IntWalk.i64_in _ (by omega) | rfl)) ?_
  refine L_v rfl rfl rfl (V_fieldAddr rfl rfl Try.underlying96 rfl sz47r rfl) ?_
  refine L_v rfl rfl rfl (V_fieldAddr rfl rfl Try.underlying47 rfl sz3r rfl) ?_
  refine L_v rfl rfl rfl (V_load1 0 rfl rfl rfl Try.underlying3 rfl (by rfl)) ?_
  refine L_v rfl rfl rfl (V_fieldAddr rfl rfl Try.underlying96 rfl sz47r rfl) ?_
  refine L_v rfl rfl rfl (V_fieldAddr rfl rfl Try.underlying47 rfl sz3r rfl) ?_
  refine L_v rfl rfl rfl (V_load1 0 rfl rfl rfl Try.underlying3 rfl (by rfl)) ?_
  refine L_v rfl rfl rfl (V_buildE (v := .agg (plM (9, -c.id, c.target, c.seq, 0, ⟨#[]⟩, cmd0)).toArray) rfl rfl (fun w => by kernel_rfl)) ?_
  refine L_alloc rfl rfl rfl rfl z112r (fun b2 => ?_)
  refine L_storeW 2 rfl rfl rfl rfl rfl rfl (szd sz112r (by kernel_rfl)) (all_one (by kernel_rfl)) (by kernel_rfl) ?_
  refine L_nil ?_
  change J _ _ _ _
  refine J_seq ?_
  refine J_seq ?_
  refine J_region ?_
  refine L_v rfl rfl rfl (V_fieldAddr rfl rfl Try.underlying45 rfl sz32r rfl) ?_
  refine L_v rfl rfl rfl (V_load1 1 rfl rfl rfl Try.underlying32 rfl (by rfl)) ?_
  refine L_v rfl rfl rfl (V_eql rfl rfl rfl rfl) ?_
  refine L_nil ?_
  change J _ _ _ _
  refine J_cond rfl (fun h1 => ?_) (fun h1 => ?_)
  ·
    first | (have h1 := of_decide_eq_true h1) | (have h1 := of_decide_eq_false h1) | skip
    refine J_seq ?_
    refine J_region ?_
    refine L_v rfl rfl rfl (V_fieldAddr rfl rfl Try.underlying45 rfl sz31r rfl) ?_
    refine L_v rfl rfl rfl (V_loadT 1 (vs := cmdM x.cmd) rfl rfl rfl Try.underlying31 rfl sz31r (by kernel_rfl) (by kernel_rfl)) ?_
    refine L_v rfl rfl rfl (V_fieldAddr rfl rfl Try.underlying112 rfl sz31r rfl) ?_
    refine L_storeT 2 (l' := plM (9, -c.id, c.target, c.seq, 0, ⟨#[]⟩, x.cmd)) rfl rfl rfl rfl rfl rfl (szd sz31r (by kernel_rfl)) (all_one (by kernel_rfl)) (Nat.le_of_ble_eq_true (by kernel_rfl)) (by kernel_rfl) ?_
    refine L_nil ?_
    change J _ _ _ _
    refine J_seq ?_
    refine J_regionQ rfl (by kernel_rfl) ?_
    refine LQ_v rfl rfl rfl (V_loadT 1 (vs := msM x n) rfl rfl rfl Try.underlying45 rfl sz45r (by kernel_rfl) (by kernel_rfl)) ?_
    refine LQ_callV rfl rfl rfl rfl rfl rfl tx53r (fun w1 hw => bare_w x n w1 hB) ?_
    refine LQ_v rfl rfl rfl (V_move rfl rfl) ?_
    apply LQ_and 4 25 30
    · rfl
    · rfl
    · rfl
    · rfl
    · rfl
    · rfl
    · rfl
    · kernel_rfl
    · intro hb2 _ _ hk2
      refine LQ_wv rfl rfl rfl rfl rfl rfl (V_loadT 1 (vs := msM x n) rfl rfl rfl Try.underlying45 rfl sz45r (by kernel_rfl) (by kernel_rfl)) ?_
      refine LQ_wcallV rfl rfl rfl rfl rfl rfl rfl rfl rfl tx54r (fun w1 hw => of_w x n w1) ?_
      refine LQ_wv rfl rfl rfl rfl rfl rfl (V_loadT 2 (vs := plM (9, -c.id, c.target, c.seq, 0, ⟨#[]⟩, x.cmd)) rfl rfl rfl Try.underlying112 rfl sz112r (by kernel_rfl) (by kernel_rfl)) ?_
      refine LQ_wv rfl rfl rfl rfl rfl rfl (V_eqAgg rfl rfl rfl (by kernel_rfl : Try.prog.eqGuardType Try.prog.depth 112 = false) (fun w => eqPlDO _ _ w) rfl) ?_
      exact hk2 _ ⟨rfl, rfl, ext_cut 4 (by kernel_rfl) (by kernel_rfl)⟩
    refine LQ_v rfl rfl rfl (V_move rfl rfl) ?_
    apply LQ_and 3 31 35
    · rfl
    · rfl
    · rfl
    · rfl
    · rfl
    · rfl
    · rfl
    · kernel_rfl
    · intro hb3 _ _ hk3
      refine LQ_wv rfl rfl rfl rfl rfl rfl (V_fieldAddr rfl rfl Try.underlying45 rfl sz31r rfl) ?_
      refine LQ_wv rfl rfl rfl rfl rfl rfl (V_loadT 1 (vs := cmdM x.cmd) rfl rfl rfl Try.underlying31 rfl sz31r (by kernel_rfl) (by kernel_rfl)) ?_
      refine LQ_wcallV rfl rfl rfl rfl rfl rfl rfl rfl rfl tx56r (fun w1 hw => may_w x.cmd w1) ?_
      exact hk3 _ ⟨rfl, rfl, ext_cut 3 (by kernel_rfl) (by kernel_rfl)⟩
    refine LQ_v rfl rfl rfl (V_move rfl rfl) ?_
    apply LQ_and 7 36 44
    · rfl
    · rfl
    · rfl
    · rfl
    · rfl
    · rfl
    · rfl
    · kernel_rfl
    · intro hb4 _ _ hk4
      refine LQ_wv rfl rfl rfl rfl rfl rfl (V_fieldAddr rfl rfl Try.underlying45 rfl sz31r rfl) ?_
      refine LQ_wv rfl rfl rfl rfl rfl rfl (V_fieldAddr rfl rfl Try.underlying31 rfl sz3r rfl) ?_
      refine LQ_wv rfl rfl rfl rfl rfl rfl (V_load1 1 rfl rfl rfl Try.underlying3 rfl (by rfl)) ?_
      refine LQ_wv rfl rfl rfl rfl rfl rfl (V_fieldAddr rfl rfl Try.underlying96 rfl sz47r rfl) ?_
      refine LQ_wv rfl rfl rfl rfl rfl rfl (V_fieldAddr rfl rfl Try.underlying47 rfl sz3r rfl) ?_
      refine LQ_wv rfl rfl rfl rfl rfl rfl (V_load1 0 rfl rfl rfl Try.underlying3 rfl (by rfl)) ?_
      refine LQ_wv rfl rfl rfl rfl rfl rfl (V_eql rfl rfl rfl rfl) ?_
      exact hk4 _ ⟨rfl, rfl, ext_cut 7 (by kernel_rfl) (by kernel_rfl)⟩
    refine LQ_v rfl rfl rfl (V_move rfl rfl) ?_
    apply LQ_and 7 45 53
    · rfl
    · rfl
    · rfl
    · rfl
    · rfl
    · rfl
    · rfl
    · kernel_rfl
    · intro hb5 _ _ hk5
      refine LQ_wv rfl rfl rfl rfl rfl rfl (V_fieldAddr rfl rfl Try.underlying45 rfl sz31r rfl) ?_
      refine LQ_wv rfl rfl rfl rfl rfl rfl (V_fieldAddr rfl rfl Try.underlying31 rfl sz3r rfl) ?_
      refine LQ_wv rfl rfl rfl rfl rfl rfl (V_load1 1 rfl rfl rfl Try.underlying3 rfl (by rfl)) ?_
      refine LQ_wv rfl rfl rfl rfl rfl rfl (V_fieldAddr rfl rfl Try.underlying96 rfl sz47r rfl) ?_
      refine LQ_wv rfl rfl rfl rfl rfl rfl (V_fieldAddr rfl rfl Try.underlying47 rfl sz3r rfl) ?_
      refine LQ_wv rfl rfl rfl rfl rfl rfl (V_load1 0 rfl rfl rfl Try.underlying3 rfl (by rfl)) ?_
      refine LQ_wv rfl rfl rfl rfl rfl rfl (V_eql rfl rfl rfl rfl) ?_
      exact hk5 _ ⟨rfl, rfl, ext_cut 7 (by kernel_rfl) (by kernel_rfl)⟩
    refine LQ_v rfl rfl rfl (V_assign rfl rfl) ?_
    refine LQ_nil ?_
    change J _ _ _ _
    refine J_ret ?_
    change Kret _ _ _ Exit.ret _
    refine ret1 rfl rfl (RV_t rfl) ?_
    exact fun w' h => ⟨congrArg (fun b => Ending.returned (Value.bool b)) (Bool.eq_iff_iff.2 (by simp only [Bool.and_eq_true, Bool.or_eq_true, decide_eq_true_eq, wi_iff, beq_iff_eq]; unfold mayP; rw [if_pos h1]; grind)), h.fr⟩
  ·
    first | (have h1 := of_decide_eq_true h1) | (have h1 := of_decide_eq_false h1) | skip
    refine J_skip ?_
    change J _ _ _ _
    refine J_seq ?_
    refine J_regionO (.pure 0 (.pure 1 (.pure 2 (.pure 3 (.pure 4 (.one 5 (.pure 6 (.one 7 (.nil))))))))) ([(b0, row 96 (ctM c m)), (b1, row 45 (msM x n))]) _ (Pk.of_sub (List.Sublist.cons_cons _ (List.Sublist.cons_cons _ (List.nil_sublist _)))) (fun f hf => hf) rfl rfl (by kernel_rfl) ?_
    refine LO_v rfl rfl rfl rfl (V_fieldAddr rfl rfl Try.underlying45 rfl sz32r rfl) ?_
    refine LO_v rfl rfl rfl rfl (V_load1 1 rfl rfl rfl Try.underlying32 rfl (by rfl)) ?_
    refine LO_v rfl rfl rfl rfl (V_fieldAddr rfl rfl Try.underlying45 rfl sz9r rfl) ?_
    refine LO_v rfl rfl rfl rfl (V_load1 1 rfl rfl rfl Try.underlying9 rfl (by rfl)) ?_
    refine LO_v rfl rfl rfl rfl (V_fieldAddr rfl rfl Try.underlying112 rfl sz3r rfl) ?_
    refine LO_s rfl rfl rfl (S_store1 2 (l' := plM (9, -c.id, c.target, c.seq, x.ask, ⟨#[]⟩, cmd0)) rfl rfl rfl rfl rfl rfl sz3r (Nat.le_of_ble_eq_true (by kernel_rfl)) (by kernel_rfl) ⟨(Pk.of_sub (List.Sublist.cons_cons _ (List.Sublist.cons_cons _ (List.nil_sublist _)))), (fun f hf => hf), ?_⟩)
    refine LO_v rfl rfl rfl rfl (V_fieldAddr rfl rfl Try.underlying112 rfl sz9r rfl) ?_
    refine LO_s rfl rfl rfl (S_store1 2 (l' := plM (9, -c.id, c.target, c.seq, x.ask, x.user, cmd0)) rfl rfl rfl rfl rfl rfl sz9r (Nat.le_of_ble_eq_true (by kernel_rfl)) (by kernel_rfl) ⟨(Pk.of_sub (List.Sublist.cons_cons _ (List.Sublist.cons_cons _ (List.nil_sublist _)))), (fun f hf => hf), ?_⟩)
    refine LO_nil ?_
    change J _ _ _ _
    refine J_seq ?_
    refine J_regionQ rfl (by kernel_rfl) ?_
    refine LQ_v rfl rfl rfl (V_loadT 1 (vs := msM x n) rfl rfl rfl Try.underlying45 rfl sz45r (by kernel_rfl) (by kernel_rfl)) ?_
    refine LQ_callV rfl rfl rfl rfl rfl rfl tx53r (fun w1 hw => bare_w x n w1 hB) ?_
    refine LQ_v rfl rfl rfl (V_move rfl rfl) ?_
    apply LQ_and 4 62 67
    · rfl
    · rfl
    · rfl
    · rfl
    · rfl
    · rfl
    · rfl
    · kernel_rfl
    · intro hb2 _ _ hk2
      refine LQ_wv rfl rfl rfl rfl rfl rfl (V_loadT 1 (vs := msM x n) rfl rfl rfl Try.underlying45 rfl sz45r (by kernel_rfl) (by kernel_rfl)) ?_
      refine LQ_wcallV rfl rfl rfl rfl rfl rfl rfl rfl rfl tx54r (fun w1 hw => of_w x n w1) ?_
      refine LQ_wv rfl rfl rfl rfl rfl rfl (V_loadT 2 (vs := plM (9, -c.id, c.target, c.seq, x.ask, x.user, cmd0)) rfl rfl rfl Try.underlying112 rfl sz112r (by kernel_rfl) (by kernel_rfl)) ?_
      refine LQ_wv rfl rfl rfl rfl rfl rfl (V_eqAgg rfl rfl rfl (by kernel_rfl : Try.prog.eqGuardType Try.prog.depth 112 = false) (fun w => eqPlDO _ _ w) rfl) ?_
      exact hk2 _ ⟨rfl, rfl, ext_cut 4 (by kernel_rfl) (by kernel_rfl)⟩
    refine LQ_v rfl rfl rfl (V_move rfl rfl) ?_
    apply LQ_and 5 68 74
    · rfl
    · rfl
    · rfl
    · rfl
    · rfl
    · rfl
    · rfl
    · kernel_rfl
    · intro hb3 _ _ hk3
      refine LQ_wv rfl rfl rfl rfl rfl rfl (V_fieldAddr rfl rfl Try.underlying45 rfl sz32r rfl) ?_
      refine LQ_wv rfl rfl rfl rfl rfl rfl (V_load1 1 rfl rfl rfl Try.underlying32 rfl (by rfl)) ?_
      refine LQ_wv rfl rfl rfl rfl rfl rfl (V_fieldAddr rfl rfl Try.underlying45 rfl sz9r rfl) ?_
      refine LQ_wv rfl rfl rfl rfl rfl rfl (V_load1 1 rfl rfl rfl Try.underlying9 rfl (by rfl)) ?_
      refine LQ_wcallV rfl rfl rfl rfl rfl rfl rfl rfl rfl tx57r (fun w1 hw => asks_w x.ask x.user w1) ?_
      exact hk3 _ ⟨rfl, rfl, ext_cut 5 (by kernel_rfl) (by kernel_rfl)⟩
    refine LQ_v rfl rfl rfl (V_move rfl rfl) ?_
    apply LQ_and 4 75 80
    · rfl
    · rfl
    · rfl
    · rfl
    · rfl
    · rfl
    · rfl
    · kernel_rfl
    · intro hb4 _ _ hk4
      refine LQ_wv rfl rfl rfl rfl rfl rfl (V_fieldAddr rfl rfl Try.underlying96 rfl sz47r rfl) ?_
      refine LQ_wv rfl rfl rfl rfl rfl rfl (V_fieldAddr rfl rfl Try.underlying47 rfl sz3r rfl) ?_
      refine LQ_wv rfl rfl rfl rfl rfl rfl (V_load1 0 rfl rfl rfl Try.underlying3 rfl (by rfl)) ?_
      refine LQ_wv rfl rfl rfl rfl rfl rfl (V_gtr rfl rfl rfl rfl) ?_
      exact hk4 _ ⟨rfl, rfl, ext_cut 4 (by kernel_rfl) (by kernel_rfl)⟩
    refine LQ_v rfl rfl rfl (V_assign rfl rfl) ?_
    refine LQ_nil ?_
    change J _ _ _ _
    refine J_ret ?_
    change Kret _ _ _ Exit.ret _
    refine ret1 rfl rfl (RV_t rfl) ?_
    exact fun w' h => ⟨congrArg (fun b => Ending.returned (Value.bool b)) (Bool.eq_iff_iff.2 (by simp only [Bool.and_eq_true, Bool.or_eq_true, decide_eq_true_eq, wi_iff, beq_iff_eq]; unfold mayP; rw [if_neg h1]; grind)), h.fr⟩

set_option maxHeartbeats 2000000 in
theorem rightS_w (c : Ct) (m : M5) (es : List EnV) (w : World) (hx : c.msg.entries = es.map Prod.fst) (f1 : FA w (msF c.msg m es)) (hB : Sz c.msg es) :
    Calls Try.prog 41 #[.agg (ctM c m).toArray] w fun e w' => e = .returned (.bool (decide (RightP c))) ∧ Fr [] w w' := by
  refine calls_of (args := [.agg (ctM c m).toArray]) ([]) ([]) ([msF c.msg m es]) Try.func41 rfl rfl (okFW (.cons f1 .nil)) ?_
  refine J_seq ?_
  refine J_region ?_
  refine L_box rfl rfl rfl rfl rfl (fun b0 => ?_)
  refine L_v rfl rfl rfl (V_assign rfl rfl) ?_
  refine L_nil ?_
  change J _ _ _ _
  refine J_seq ?_
  refine J_seq ?_
  refine J_region ?_
  refine L_v rfl rfl rfl (V_fieldAddr rfl rfl Try.underlying96 rfl sz47r rfl) ?_
  refine L_v rfl rfl rfl (V_fieldAddr rfl rfl Try.underlying47 rfl sz3r rfl) ?_
  refine L_v rfl rfl rfl (V_load1 0 rfl rfl rfl Try.underlying3 rfl (by rfl)) ?_
  refine L_callV rfl rfl rfl rfl rfl rfl tx23r (fun w1 hw => within_w _ _ _ w1) ?_
  refine L_v rfl rfl rfl (V_not rfl rfl rfl) ?_
  refine L_v rfl rfl rfl (V_move rfl rfl) ?_
  apply L_or 5 8 14
  · rfl
  · rfl
  · rfl
  · rfl
  · rfl
  · rfl
  · rfl
  · kernel_rfl
  · intro hb1 _ _ hk1
    refine L_wv rfl rfl rfl rfl rfl rfl (V_fieldAddr rfl rfl Try.underlying96 rfl sz47r rfl) ?_
    refine L_wv rfl rfl rfl rfl rfl rfl (V_fieldAddr rfl rfl Try.underlying47 rfl sz3r rfl) ?_
    refine L_wv rfl rfl rfl rfl rfl rfl (V_load1 0 rfl rfl rfl Try.underlying3 rfl (by rfl)) ?_
    refine L_wcallV rfl rfl rfl rfl rfl rfl rfl rfl rfl tx23r (fun w1 hw => within_w _ _ _ w1) ?_
    refine L_wv rfl rfl rfl rfl rfl rfl (V_not rfl rfl rfl) ?_
    exact hk1 _ ⟨rfl, rfl, rfl, rfl, ext_cut 5 (by kernel_rfl) (by kernel_rfl)⟩
  refine L_v rfl rfl rfl (V_move rfl rfl) ?_
  apply L_or 5 15 21
  · rfl
  · rfl
  · rfl
  · rfl
  · rfl
  · rfl
  · rfl
  · kernel_rfl
  · intro hb2 _ _ hk2
    refine L_wv rfl rfl rfl rfl rfl rfl (V_fieldAddr rfl rfl Try.underlying96 rfl sz47r rfl) ?_
    refine L_wv rfl rfl rfl rfl rfl rfl (V_fieldAddr rfl rfl Try.underlying47 rfl sz3r rfl) ?_
    refine L_wv rfl rfl rfl rfl rfl rfl (V_load1 0 rfl rfl rfl Try.underlying3 rfl (by rfl)) ?_
    refine L_wcallV rfl rfl rfl rfl rfl rfl rfl rfl rfl tx23r (fun w1 hw => within_w _ _ _ w1) ?_
    refine L_wv rfl rfl rfl rfl rfl rfl (V_not rfl rfl rfl) ?_
    exact hk2 _ ⟨rfl, rfl, rfl, rfl, ext_cut 5 (by kernel_rfl) (by kernel_rfl)⟩
  refine L_v rfl rfl rfl (V_move rfl rfl) ?_
  apply L_or 5 22 28
  · rfl
  · rfl
  · rfl
  · rfl
  · rfl
  · rfl
  · rfl
  · kernel_rfl
  · intro hb3 _ _ hk3
    refine L_wv rfl rfl rfl rfl rfl rfl (V_fieldAddr rfl rfl Try.underlying96 rfl sz47r rfl) ?_
    refine L_wv rfl rfl rfl rfl rfl rfl (V_fieldAddr rfl rfl Try.underlying47 rfl sz3r rfl) ?_
    refine L_wv rfl rfl rfl rfl rfl rfl (V_load1 0 rfl rfl rfl Try.underlying3 rfl (by rfl)) ?_
    refine L_wcallV rfl rfl rfl rfl rfl rfl rfl rfl rfl tx23r (fun w1 hw => within_w _ _ _ w1) ?_
    refine L_wv rfl rfl rfl rfl rfl rfl (V_not rfl rfl rfl) ?_
    exact hk3 _ ⟨rfl, rfl, rfl, rfl, ext_cut 5 (by kernel_rfl) (by kernel_rfl)⟩
  refine L_nil ?_
  change J _ _ _ _
  refine J_cond rfl (fun h4 => ?_) (fun h4 => ?_)
  ·
    first | (have h4 := of_decide_eq_true h4) | (have h4 := of_decide_eq_false h4) | skip
    refine J_seq ?_
    refine J_region ?_
    refine L_v rfl rfl rfl (V_assign rfl rfl) ?_
    refine L_nil ?_
    change J _ _ _ _
    refine J_ret ?_
    change Kret _ _ _ Exit.ret _
    refine ret1 rfl rfl (RV_t rfl) ?_
    exact fun w' h => ⟨congrArg (fun b => Ending.returned (Value.bool b)) (Eq.symm (decide_eq_false (right_not (nums_iff.1 h4)))), h.fr⟩
  ·
    first | (have h4 := of_decide_eq_true h4) | (have h4 := of_decide_eq_false h4) | skip
    refine J_skip ?_
    change J _ _ _ _
    refine J_seq ?_
    refine J_seq ?_
    refine J_region ?_
    refine L_v rfl rfl rfl (V_fieldAddr rfl rfl Try.underlying96 rfl sz47r rfl) ?_
    refine L_v rfl rfl rfl (V_fieldAddr rfl rfl Try.underlying47 rfl sz4r rfl) ?_
    refine L_v rfl rfl rfl (V_load1 0 rfl rfl rfl Try.underlying4 rfl (by rfl)) ?_
    refine L_nil ?_
    change J _ _ _ _
    refine J_cond rfl (fun h5 => ?_) (fun h5 => ?_)
    ·
      first | (have h5 := of_decide_eq_true h5) | (have h5 := of_decide_eq_false h5) | skip
      refine J_seq ?_
      refine J_region ?_
      refine L_v rfl rfl rfl (V_loadT 0 (vs := ctM c m) rfl rfl rfl Try.underlying96 rfl sz96r (by kernel_rfl) (by kernel_rfl)) ?_
      refine L_v rfl rfl rfl (V_fieldAddr rfl rfl Try.underlying96 rfl sz47r rfl) ?_
      refine L_v rfl rfl rfl (V_fieldAddr rfl rfl Try.underlying47 rfl sz45r rfl) ?_
      refine L_v rfl rfl rfl (V_loadT 0 (vs := msM c.msg m) rfl rfl rfl Try.underlying45 rfl sz45r (by kernel_rfl) (by kernel_rfl)) ?_
      refine L_callV rfl rfl rfl rfl rfl rfl tx52r (fun w1 hw => mayS_w c m c.msg m w1 (nums_of h4).1 ⟨by rw [hx, List.length_map]; exact hB.e, hB.l.1, hB.l.2, hB.v, hB.s⟩) ?_
      refine L_v rfl rfl rfl (V_assign rfl rfl) ?_
      refine L_nil ?_
      change J _ _ _ _
      refine J_ret ?_
      change Kret _ _ _ Exit.ret _
      refine ret1 rfl rfl (RV_t rfl) ?_
      exact fun w' h => ⟨congrArg (fun b => Ending.returned (Value.bool b)) ((decide_eq_decide.2 (right_busy (nums_of h4) h5))), h.fr⟩
    ·
      first | (have h5 := of_decide_eq_true h5) | (have h5 := of_decide_eq_false h5) | skip
      refine J_skip ?_
      change J _ _ _ _
      refine J_seq ?_
      refine J_region ?_
      refine L_v rfl rfl rfl (V_fieldAddr rfl rfl Try.underlying96 rfl sz47r rfl) ?_
      refine L_v rfl rfl rfl (V_fieldAddr rfl rfl Try.underlying47 rfl sz3r rfl) ?_
      refine L_v rfl rfl rfl (V_load1 0 rfl rfl rfl Try.underlying3 rfl (by rfl)) ?_
      refine L_v rfl rfl rfl (V_eql rfl rfl rfl rfl) ?_
      refine L_v rfl rfl rfl (V_move rfl rfl) ?_
      apply L_and 4 41 46
      · rfl
      · rfl
      · rfl
      · rfl
      · rfl
      · rfl
      · rfl
      · kernel_rfl
      · intro hb6 _ _ hk6
        refine L_wv rfl rfl rfl rfl rfl rfl (V_fieldAddr rfl rfl Try.underlying96 rfl sz47r rfl) ?_
        refine L_wv rfl rfl rfl rfl rfl rfl (V_fieldAddr rfl rfl Try.underlying47 rfl sz45r rfl) ?_
        refine L_wv rfl rfl rfl rfl rfl rfl (V_loadT 0 (vs := msM c.msg m) rfl rfl rfl Try.underlying45 rfl sz45r (by kernel_rfl) (by kernel_rfl)) ?_
        refine L_wcallV rfl rfl rfl rfl rfl rfl rfl rfl rfl tx53r (fun w1 hw => bare_w c.msg m w1 ⟨by rw [hx, List.length_map]; exact hB.e, hB.l.1, hB.l.2, hB.v, hB.s⟩) ?_
        exact hk6 _ ⟨rfl, rfl, rfl, rfl, ext_cut 4 (by kernel_rfl) (by kernel_rfl)⟩
      refine L_v rfl rfl rfl (V_move rfl rfl) ?_
      apply L_and 6 47 54
      · rfl
      · rfl
      · rfl
      · rfl
      · rfl
      · rfl
      · rfl
      · kernel_rfl
      · intro hb7 _ _ hk7
        refine L_wv rfl rfl rfl rfl rfl rfl (V_fieldAddr rfl rfl Try.underlying96 rfl sz47r rfl) ?_
        refine L_wv rfl rfl rfl rfl rfl rfl (V_fieldAddr rfl rfl Try.underlying47 rfl sz45r rfl) ?_
        refine L_wv rfl rfl rfl rfl rfl rfl (V_loadT 0 (vs := msM c.msg m) rfl rfl rfl Try.underlying45 rfl sz45r (by kernel_rfl) (by kernel_rfl)) ?_
        refine L_wcallV rfl rfl rfl rfl rfl rfl rfl rfl rfl tx54r (fun w1 hw => of_w c.msg m w1) ?_
        refine L_wv rfl rfl rfl rfl rfl rfl (V_buildE (v := .agg (plM pl0).toArray) rfl rfl (fun w => by kernel_rfl)) ?_
        refine L_wv rfl rfl rfl rfl rfl rfl (V_eqAgg rfl rfl rfl (by kernel_rfl : Try.prog.eqGuardType Try.prog.depth 112 = false) (fun w => eqPlDO _ _ w) rfl) ?_
        exact hk7 _ ⟨rfl, rfl, rfl, rfl, ext_cut 6 (by kernel_rfl) (by kernel_rfl)⟩
      refine L_v rfl rfl rfl (V_assign rfl rfl) ?_
      refine L_nil ?_
      change J _ _ _ _
      refine J_ret ?_
      change Kret _ _ _ Exit.ret _
      refine ret1 rfl rfl (RV_t rfl) ?_
      exact fun w' h => ⟨congrArg (fun b => Ending.returned (Value.bool b)) (Bool.eq_iff_iff.2 (by simp only [Bool.and_eq_true, Bool.or_eq_true, decide_eq_true_eq, wi_iff, beq_iff_eq]; exact right_free (nums_of h4) h5)), h.fr⟩

theorem check_w (c : Ct) (m : M5) (es : List EnV) (w : World) (hx : c.msg.entries = es.map Prod.fst) (f1 : FA w (msF c.msg m es)) (hB : Sz c.msg es) :
    Calls Try.prog 19 #[.agg (ctM c m).toArray] w fun e w' => e = .returned (.int .i64 (chkE c)) ∧ Fr [] w w' := by
  refine calls_of (args := [.agg (ctM c m).toArray]) ([]) ([]) ([msF c.msg m es]) Try.func19 rfl rfl (okFW (.cons f1 .nil)) ?_
  refine J_seq ?_
  refine J_region ?_
  refine L_box rfl rfl rfl rfl rfl (fun b0 => ?_)
  refine L_v rfl rfl rfl (V_assign rfl rfl) ?_
  refine L_nil ?_
  change J _ _ _ _
  refine J_seq ?_
  refine J_seq ?_
  refine J_region ?_
  refine L_v rfl rfl rfl (V_loadT 0 (vs := ctM c m) rfl rfl rfl Try.underlying47 rfl sz47r (by kernel_rfl) (by kernel_rfl)) ?_
  refine L_v rfl rfl rfl (V_buildE (v := .agg (ctM c m).toArray) rfl rfl (fun w => by kernel_rfl)) ?_
  refine L_callV rfl rfl rfl rfl rfl rfl tx41r (fun w1 hw => rightS_w c m es w1 hx (hw.fa 0 rfl) hB) ?_
  refine L_v rfl rfl rfl (V_not rfl rfl rfl) ?_
  refine L_nil ?_
  change J _ _ _ _
  refine J_cond rfl (fun h1 => ?_) (fun h1 => ?_)
  ·
    first | (have h1 := of_decide_eq_true h1) | (have h1 := of_decide_eq_false h1) | skip
    refine J_seq ?_
    refine J_region ?_
    refine L_v rfl rfl rfl (V_assign rfl rfl) ?_
    refine L_nil ?_
    change J _ _ _ _
    refine J_ret ?_
    change Kret _ _ _ Exit.ret _
    refine ret1 rfl rfl (RV_t rfl) ?_
    exact fun w' h => ⟨congrArg (fun b => Ending.returned (Value.int .i64 b)) ((if_neg (by simpa using h1)).symm), h.fr⟩
  ·
    first | (have h1 := of_decide_eq_true h1) | (have h1 := of_decide_eq_false h1) | skip
    refine J_skip ?_
    change J _ _ _ _
    refine J_seq ?_
    refine J_region ?_
    refine L_v rfl rfl rfl (V_assign rfl rfl) ?_
    refine L_nil ?_
    change J _ _ _ _
    refine J_ret ?_
    change Kret _ _ _ Exit.ret _
    refine ret1 rfl rfl (RV_t rfl) ?_
    exact fun w' h => ⟨congrArg (fun b => Ending.returned (Value.int .i64 b)) ((if_pos (by simpa using h1)).symm), h.fr⟩

theorem mayCall_w (c : Ct) (m : M5) (d : Cmd) (w : World) :
    Calls Try.prog 37 #[.agg (ctM c m).toArray, .agg (cmdM d).toArray] w fun e w' => e = .returned (.bool (decide (mayCallP c d))) ∧ Fr [] w w' := by
  refine calls_of (args := [.agg (ctM c m).toArray, .agg (cmdM d).toArray]) ([]) ([]) ([]) Try.func37 rfl rfl (okW0 _ _ _ _) ?_
  refine J_seq ?_
  refine J_region ?_
  refine L_box rfl rfl rfl rfl rfl (fun b0 => ?_)
  refine L_box rfl rfl rfl rfl rfl (fun b1 => ?_)
  refine L_v rfl rfl rfl (V_assign rfl rfl) ?_
  refine L_nil ?_
  change J _ _ _ _
  refine J_seq ?_
  refine J_region ?_
  refine L_v rfl rfl rfl (V_loadT 1 (vs := cmdM d) rfl rfl rfl Try.underlying31 rfl sz31r (by kernel_rfl) (by kernel_rfl)) ?_
  refine L_callV rfl rfl rfl rfl rfl rfl tx50r (fun w1 hw => may10_w d w1) ?_
  refine L_v rfl rfl rfl (V_move rfl rfl) ?_
  apply L_and 5 7 13
  · rfl
  · rfl
  · rfl
  · rfl
  · rfl
  · rfl
  · rfl
  · kernel_rfl
  · intro hb1 _ _ hk1
    refine L_wv rfl rfl rfl rfl rfl rfl (V_fieldAddr rfl rfl Try.underlying31 rfl sz3r rfl) ?_
    refine L_wv rfl rfl rfl rfl rfl rfl (V_load1 1 rfl rfl rfl Try.underlying3 rfl (by rfl)) ?_
    refine L_wv rfl rfl rfl rfl rfl rfl (V_fieldAddr rfl rfl Try.underlying47 rfl sz3r rfl) ?_
    refine L_wv rfl rfl rfl rfl rfl rfl (V_load1 0 rfl rfl rfl Try.underlying3 rfl (by rfl)) ?_
    refine L_wv rfl rfl rfl rfl rfl rfl (V_eql rfl rfl rfl rfl) ?_
    exact hk1 _ ⟨rfl, rfl, rfl, rfl, ext_cut 5 (by kernel_rfl) (by kernel_rfl)⟩
  refine L_v rfl rfl rfl (V_move rfl rfl) ?_
  apply L_and 5 14 20
  · rfl
  · rfl
  · rfl
  · rfl
  · rfl
  · rfl
  · rfl
  · kernel_rfl
  · intro hb2 _ _ hk2
    refine L_wv rfl rfl rfl rfl rfl rfl (V_fieldAddr rfl rfl Try.underlying31 rfl sz3r rfl) ?_
    refine L_wv rfl rfl rfl rfl rfl rfl (V_load1 1 rfl rfl rfl Try.underlying3 rfl (by rfl)) ?_
    refine L_wv rfl rfl rfl rfl rfl rfl (V_fieldAddr rfl rfl Try.underlying47 rfl sz3r rfl) ?_
    refine L_wv rfl rfl rfl rfl rfl rfl (V_load1 0 rfl rfl rfl Try.underlying3 rfl (by rfl)) ?_
    refine L_wv rfl rfl rfl rfl rfl rfl (V_eql rfl rfl rfl rfl) ?_
    exact hk2 _ ⟨rfl, rfl, rfl, rfl, ext_cut 5 (by kernel_rfl) (by kernel_rfl)⟩
  refine L_v rfl rfl rfl (V_move rfl rfl) ?_
  apply L_and 3 21 25
  · rfl
  · rfl
  · rfl
  · rfl
  · rfl
  · rfl
  · rfl
  · kernel_rfl
  · intro hb3 _ _ hk3
    refine L_wv rfl rfl rfl rfl rfl rfl (V_fieldAddr rfl rfl Try.underlying47 rfl sz3r rfl) ?_
    refine L_wv rfl rfl rfl rfl rfl rfl (V_load1 0 rfl rfl rfl Try.underlying3 rfl (by rfl)) ?_
    refine L_wv rfl rfl rfl rfl rfl rfl (V_gtr rfl rfl rfl rfl) ?_
    exact hk3 _ ⟨rfl, rfl, rfl, rfl, ext_cut 3 (by kernel_rfl) (by kernel_rfl)⟩
  refine L_v rfl rfl rfl (V_assign rfl rfl) ?_
  refine L_nil ?_
  change J _ _ _ _
  refine J_ret ?_
  change Kret _ _ _ Exit.ret _
  refine ret1 rfl rfl (RV_t rfl) ?_
  exact fun w' h => ⟨congrArg (fun b => Ending.returned (Value.bool b)) (Bool.eq_iff_iff.2 (by simp only [Bool.and_eq_true, Bool.or_eq_true, decide_eq_true_eq, wi_iff, beq_iff_eq]; unfold mayCallP; grind)), h.fr⟩

theorem mayAsk_w (c : Ct) (m : M5) (ask : Int) (u : ByteArray) (w : World) :
    Calls Try.prog 39 #[.agg (ctM c m).toArray, .int .i64 ask, .string u] w fun e w' => e = .returned (.bool (decide (mayAskP c ask u))) ∧ Fr [] w w' := by
  refine calls_of (args := [.agg (ctM c m).toArray, .int .i64 ask, .string u]) ([]) ([]) ([]) Try.func39 rfl rfl (okW0 _ _ _ _) ?_
  refine J_seq ?_
  refine J_region ?_
  refine L_box rfl rfl rfl rfl rfl (fun b0 => ?_)
  refine L_v rfl rfl rfl (V_assign rfl rfl) ?_
  refine L_nil ?_
  change J _ _ _ _
  refine J_seq ?_
  refine J_seq ?_
  refine J_region ?_
  refine L_v rfl rfl rfl (V_move rfl rfl) ?_
  refine L_v rfl rfl rfl (V_eql rfl rfl rfl rfl) ?_
  refine L_nil ?_
  change J _ _ _ _
  refine J_cond rfl (fun h1 => ?_) (fun h1 => ?_)
  ·
    first | (have h1 := of_decide_eq_true h1) | (have h1 := of_decide_eq_false h1) | skip
    refine J_seq ?_
    refine J_region ?_
    refine L_v rfl rfl rfl (V_move rfl rfl) ?_
    refine L_v rfl rfl rfl (V_eqS rfl rfl rfl rfl) ?_
    refine L_v rfl rfl rfl (V_move rfl rfl) ?_
    apply L_and 3 11 15
    · rfl
    · rfl
    · rfl
    · rfl
    · rfl
    · rfl
    · rfl
    · kernel_rfl
    · intro hb2 _ _ hk2
      refine L_wv rfl rfl rfl rfl rfl rfl (V_fieldAddr rfl rfl Try.underlying47 rfl sz3r rfl) ?_
      refine L_wv rfl rfl rfl rfl rfl rfl (V_load1 0 rfl rfl rfl Try.underlying3 rfl (by rfl)) ?_
      refine L_wv rfl rfl rfl rfl rfl rfl (V_geq rfl rfl rfl rfl) ?_
      exact hk2 _ ⟨rfl, rfl, rfl, rfl, ext_cut 3 (by kernel_rfl) (by kernel_rfl)⟩
    refine L_v rfl rfl rfl (V_assign rfl rfl) ?_
    refine L_nil ?_
    change J _ _ _ _
    refine J_ret ?_
    change Kret _ _ _ Exit.ret _
    refine ret1 rfl rfl (RV_t rfl) ?_
    exact fun w' h => ⟨congrArg (fun b => Ending.returned (Value.bool b)) (Bool.eq_iff_iff.2 (by simp only [Bool.and_eq_true, Bool.or_eq_true, decide_eq_true_eq, wi_iff, beq_iff_eq]; unfold mayAskP AskP; grind)), h.fr⟩
  ·
    first | (have h1 := of_decide_eq_true h1) | (have h1 := of_decide_eq_false h1) | skip
    refine J_skip ?_
    change J _ _ _ _
    refine J_seq ?_
    refine J_region ?_
    refine L_v rfl rfl rfl (V_move rfl rfl) ?_
    refine L_v rfl rfl rfl (V_eql rfl rfl rfl rfl) ?_
    refine L_v rfl rfl rfl (V_move rfl rfl) ?_
    apply L_or 2 18 21
    · rfl
    · rfl
    · rfl
    · rfl
    · rfl
    · rfl
    · rfl
    · kernel_rfl
    · intro hb2 _ _ hk2
      refine L_wv rfl rfl rfl rfl rfl rfl (V_move rfl rfl) ?_
      refine L_wv rfl rfl rfl rfl rfl rfl (V_eql rfl rfl rfl rfl) ?_
      exact hk2 _ ⟨rfl, rfl, rfl, rfl, ext_cut 2 (by kernel_rfl) (by kernel_rfl)⟩
    refine L_v rfl rfl rfl (V_move rfl rfl) ?_
    apply L_and 2 22 25
    · rfl
    · rfl
    · rfl
    · rfl
    · rfl
    · rfl
    · rfl
    · kernel_rfl
    · intro hb3 _ _ hk3
      refine L_wv rfl rfl rfl rfl rfl rfl (V_move rfl rfl) ?_
      refine L_wcallV rfl rfl rfl rfl rfl rfl rfl rfl rfl tx51r (fun w1 hw => name10_w u w1) ?_
      exact hk3 _ ⟨rfl, rfl, rfl, rfl, ext_cut 2 (by kernel_rfl) (by kernel_rfl)⟩
    refine L_v rfl rfl rfl (V_move rfl rfl) ?_
    apply L_and 3 26 30
    · rfl
    · rfl
    · rfl
    · rfl
    · rfl
    · rfl
    · rfl
    · kernel_rfl
    · intro hb4 _ _ hk4
      refine L_wv rfl rfl rfl rfl rfl rfl (V_fieldAddr rfl rfl Try.underlying47 rfl sz3r rfl) ?_
      refine L_wv rfl rfl rfl rfl rfl rfl (V_load1 0 rfl rfl rfl Try.underlying3 rfl (by rfl)) ?_
      refine L_wv rfl rfl rfl rfl rfl rfl (V_geq rfl rfl rfl rfl) ?_
      exact hk4 _ ⟨rfl, rfl, rfl, rfl, ext_cut 3 (by kernel_rfl) (by kernel_rfl)⟩
    refine L_v rfl rfl rfl (V_assign rfl rfl) ?_
    refine L_nil ?_
    change J _ _ _ _
    refine J_ret ?_
    change Kret _ _ _ Exit.ret _
    refine ret1 rfl rfl (RV_t rfl) ?_
    exact fun w' h => ⟨congrArg (fun b => Ending.returned (Value.bool b)) (Bool.eq_iff_iff.2 (by simp only [Bool.and_eq_true, Bool.or_eq_true, decide_eq_true_eq, wi_iff, beq_iff_eq]; unfold mayAskP AskP; grind)), h.fr⟩

theorem request_w (c : Ct) (m : M5) (d : Cmd) (w : World) (hi : 1 ≤ c.id ∧ c.id ≤ 4) :
    Calls Try.prog 38 #[.agg (ctM c m).toArray, .agg (cmdM d).toArray] w fun e w' => e = .returned (.agg (msM (reqM c d) m50).toArray) ∧ Fr [] w w' := by
  refine calls_of (args := [.agg (ctM c m).toArray, .agg (cmdM d).toArray]) ([]) ([]) ([]) Try.func38 rfl rfl (okW0 _ _ _ _) ?_
  refine J_seq ?_
  refine J_region ?_
  refine L_box rfl rfl rfl rfl rfl (fun b0 => ?_)
  refine L_box rfl rfl rfl rfl rfl (fun b1 => ?_)
  refine L_alloc rfl rfl rfl rfl z45r (fun b2 => ?_)
  refine L_nil ?_
  change J _ _ _ _
  refine J_seq ?_
  refine J_region ?_
  refine L_v rfl rfl rfl (V_fieldAddr rfl rfl Try.underlying47 rfl sz3r rfl) ?_
  refine L_v rfl rfl rfl (V_load1 0 rfl rfl rfl Try.underlying3 rfl (by rfl)) ?_
  refine L_v rfl rfl rfl (V_neg rfl rfl (by first | exact Go.IntWalk.i64_in _ (by omega) | rfl)) ?_
  refine L_v rfl rfl rfl (V_fieldAddr rfl rfl Try.underlying47 rfl sz3r rfl) ?_
  refine L_v rfl rfl rfl (V_load1 0 rfl rfl rfl Try.underlying3 rfl (by rfl)) ?_
  refine L_v rfl rfl rfl (V_fieldAddr rfl rfl Try.underlying47 rfl sz3r rfl) ?_
  refine L_v rfl rfl rfl (V_load1 0 rfl rfl rfl Try.underlying3 rfl (by rfl)) ?_
  refine L_v rfl rfl rfl (V_loadT 1 (vs := cmdM d) rfl rfl rfl Try.underlying31 rfl sz31r (by kernel_rfl) (by kernel_rfl)) ?_
  refine L_v rfl rfl rfl (V_buildE (v := .agg (msM (reqM c d) m50).toArray) rfl rfl (fun w => by kernel_rfl)) ?_
  refine L_storeW 2 rfl rfl rfl rfl rfl rfl (szd sz45r (by kernel_rfl)) (all_one (by kernel_rfl)) (by kernel_rfl) ?_
  refine L_nil ?_
  change J _ _ _ _
  refine J_ret ?_
  change Kret _ _ _ Exit.ret _
  refine ret1 rfl rfl (RV_c 2 rfl rfl Try.underlying45 rfl (szd sz45r (by kernel_rfl))) ?_
  exact fun w' h => ⟨rfl, h.fr⟩

theorem question_w (c : Ct) (m : M5) (ask : Int) (u : ByteArray) (w : World) (hi : 1 ≤ c.id ∧ c.id ≤ 4) :
    Calls Try.prog 40 #[.agg (ctM c m).toArray, .int .i64 ask, .string u] w fun e w' => e = .returned (.agg (msM (queM c ask u) m50).toArray) ∧ Fr [] w w' := by
  refine calls_of (args := [.agg (ctM c m).toArray, .int .i64 ask, .string u]) ([]) ([]) ([]) Try.func40 rfl rfl (okW0 _ _ _ _) ?_
  refine J_seq ?_
  refine J_region ?_
  refine L_box rfl rfl rfl rfl rfl (fun b0 => ?_)
  refine L_alloc rfl rfl rfl rfl z45r (fun b1 => ?_)
  refine L_nil ?_
  change J _ _ _ _
  refine J_seq ?_
  refine J_region ?_
  refine L_v rfl rfl rfl (V_fieldAddr rfl rfl Try.underlying47 rfl sz3r rfl) ?_
  refine L_v rfl rfl rfl (V_load1 0 rfl rfl rfl Try.underlying3 rfl (by rfl)) ?_
  refine L_v rfl rfl rfl (V_neg rfl rfl (by first | exact Go.IntWalk.i64_in _ (by omega) | rfl)) ?_
  refine L_v rfl rfl rfl (V_fieldAddr rfl rfl Try.underlying47 rfl sz3r rfl) ?_
  refine L_v rfl rfl rfl (V_load1 0 rfl rfl rfl Try.underlying3 rfl (by rfl)) ?_
  refine L_v rfl rfl rfl (V_fieldAddr rfl rfl Try.underlying47 rfl sz3r rfl) ?_
  refine L_v rfl rfl rfl (V_load1 0 rfl rfl rfl Try.underlying3 rfl (by rfl)) ?_
  refine L_v rfl rfl rfl (V_move rfl rfl) ?_
  refine L_v rfl rfl rfl (V_move rfl rfl) ?_
  refine L_v rfl rfl rfl (V_buildE (v := .agg (msM (queM c ask u) m50).toArray) rfl rfl (fun w => by kernel_rfl)) ?_
  refine L_storeW 1 rfl rfl rfl rfl rfl rfl (szd sz45r (by kernel_rfl)) (all_one (by kernel_rfl)) (by kernel_rfl) ?_
  refine L_nil ?_
  change J _ _ _ _
  refine J_ret ?_
  change Kret _ _ _ Exit.ret _
  refine ret1 rfl rfl (RV_c 1 rfl rfl Try.underlying45 rfl (szd sz45r (by kernel_rfl))) ?_
  exact fun w' h => ⟨rfl, h.fr⟩

set_option maxHeartbeats 2000000 in
theorem right21_w (c : Ct) (m : M5) (es : List EnV) (w : World) (hx : c.msg.entries = es.map Prod.fst) (f1 : FA w (msF c.msg m es)) (hB : Sz c.msg es) :
    Calls Try.prog 26 #[.agg (ctM c m).toArray] w fun e w' => e = .returned (.bool (decide (RightP c))) ∧ Fr [] w w' := by
  refine calls_of (args := [.agg (ctM c m).toArray]) ([]) ([]) ([msF c.msg m es]) Try.func26 rfl rfl (okFW (.cons f1 .nil)) ?_
  refine J_seq ?_
  refine J_region ?_
  refine L_box rfl rfl rfl rfl rfl (fun b0 => ?_)
  refine L_v rfl rfl rfl (V_assign rfl rfl) ?_
  refine L_nil ?_
  change J _ _ _ _
  refine J_seq ?_
  refine J_seq ?_
  refine J_region ?_
  refine L_v rfl rfl rfl (V_fieldAddr rfl rfl Try.underlying47 rfl sz3r rfl) ?_
  refine L_v rfl rfl rfl (V_load1 0 rfl rfl rfl Try.underlying3 rfl (by rfl)) ?_
  refine L_callV rfl rfl rfl rfl rfl rfl tx27r (fun w1 hw => within21_w _ _ _ w1) ?_
  refine L_v rfl rfl rfl (V_not rfl rfl rfl) ?_
  refine L_v rfl rfl rfl (V_move rfl rfl) ?_
  apply L_or 4 8 13
  · rfl
  · rfl
  · rfl
  · rfl
  · rfl
  · rfl
  · rfl
  · kernel_rfl
  · intro hb1 _ _ hk1
    refine L_wv rfl rfl rfl rfl rfl rfl (V_fieldAddr rfl rfl Try.underlying47 rfl sz3r rfl) ?_
    refine L_wv rfl rfl rfl rfl rfl rfl (V_load1 0 rfl rfl rfl Try.underlying3 rfl (by rfl)) ?_
    refine L_wcallV rfl rfl rfl rfl rfl rfl rfl rfl rfl tx27r (fun w1 hw => within21_w _ _ _ w1) ?_
    refine L_wv rfl rfl rfl rfl rfl rfl (V_not rfl rfl rfl) ?_
    exact hk1 _ ⟨rfl, rfl, rfl, rfl, ext_cut 4 (by kernel_rfl) (by kernel_rfl)⟩
  refine L_v rfl rfl rfl (V_move rfl rfl) ?_
  apply L_or 4 14 19
  · rfl
  · rfl
  · rfl
  · rfl
  · rfl
  · rfl
  · rfl
  · kernel_rfl
  · intro hb2 _ _ hk2
    refine L_wv rfl rfl rfl rfl rfl rfl (V_fieldAddr rfl rfl Try.underlying47 rfl sz3r rfl) ?_
    refine L_wv rfl rfl rfl rfl rfl rfl (V_load1 0 rfl rfl rfl Try.underlying3 rfl (by rfl)) ?_
    refine L_wcallV rfl rfl rfl rfl rfl rfl rfl rfl rfl tx27r (fun w1 hw => within21_w _ _ _ w1) ?_
    refine L_wv rfl rfl rfl rfl rfl rfl (V_not rfl rfl rfl) ?_
    exact hk2 _ ⟨rfl, rfl, rfl, rfl, ext_cut 4 (by kernel_rfl) (by kernel_rfl)⟩
  refine L_v rfl rfl rfl (V_move rfl rfl) ?_
  apply L_or 4 20 25
  · rfl
  · rfl
  · rfl
  · rfl
  · rfl
  · rfl
  · rfl
  · kernel_rfl
  · intro hb3 _ _ hk3
    refine L_wv rfl rfl rfl rfl rfl rfl (V_fieldAddr rfl rfl Try.underlying47 rfl sz3r rfl) ?_
    refine L_wv rfl rfl rfl rfl rfl rfl (V_load1 0 rfl rfl rfl Try.underlying3 rfl (by rfl)) ?_
    refine L_wcallV rfl rfl rfl rfl rfl rfl rfl rfl rfl tx27r (fun w1 hw => within21_w _ _ _ w1) ?_
    refine L_wv rfl rfl rfl rfl rfl rfl (V_not rfl rfl rfl) ?_
    exact hk3 _ ⟨rfl, rfl, rfl, rfl, ext_cut 4 (by kernel_rfl) (by kernel_rfl)⟩
  refine L_nil ?_
  change J _ _ _ _
  refine J_cond rfl (fun h4 => ?_) (fun h4 => ?_)
  ·
    first | (have h4 := of_decide_eq_true h4) | (have h4 := of_decide_eq_false h4) | skip
    refine J_seq ?_
    refine J_region ?_
    refine L_v rfl rfl rfl (V_assign rfl rfl) ?_
    refine L_nil ?_
    change J _ _ _ _
    refine J_ret ?_
    change Kret _ _ _ Exit.ret _
    refine ret1 rfl rfl (RV_t rfl) ?_
    exact fun w' h => ⟨congrArg (fun b => Ending.returned (Value.bool b)) (Eq.symm (decide_eq_false (right_not (nums_iff.1 h4)))), h.fr⟩
  ·
    first | (have h4 := of_decide_eq_true h4) | (have h4 := of_decide_eq_false h4) | skip
    refine J_skip ?_
    change J _ _ _ _
    refine J_seq ?_
    refine J_region ?_
    refine L_v rfl rfl rfl (V_fieldAddr rfl rfl Try.underlying47 rfl sz45r rfl) ?_
    refine L_v rfl rfl rfl (V_loadT 0 (vs := msM c.msg m) rfl rfl rfl Try.underlying45 rfl sz45r (by kernel_rfl) (by kernel_rfl)) ?_
    refine L_alloc rfl rfl rfl rfl z45r (fun b1 => ?_)
    refine L_storeW 1 rfl rfl rfl rfl rfl rfl (szd sz45r (by kernel_rfl)) (all_one (by kernel_rfl)) (by kernel_rfl) ?_
    refine L_nil ?_
    change J _ _ _ _
    refine J_seq ?_
    refine J_seq ?_
    refine J_region ?_
    refine L_v rfl rfl rfl (V_fieldAddr rfl rfl Try.underlying47 rfl sz4r rfl) ?_
    refine L_v rfl rfl rfl (V_load1 0 rfl rfl rfl Try.underlying4 rfl (by rfl)) ?_
    refine L_v rfl rfl rfl (V_not rfl rfl rfl) ?_
    refine L_nil ?_
    change J _ _ _ _
    refine J_cond rfl (fun h5 => ?_) (fun h5 => ?_)
    ·
      first | (have h5 := of_decide_eq_true h5) | (have h5 := of_decide_eq_false h5) | skip
      refine J_seq ?_
      refine J_region ?_
      refine L_v rfl rfl rfl (V_fieldAddr rfl rfl Try.underlying47 rfl sz3r rfl) ?_
      refine L_v rfl rfl rfl (V_load1 0 rfl rfl rfl Try.underlying3 rfl (by rfl)) ?_
      refine L_v rfl rfl rfl (V_eql rfl rfl rfl rfl) ?_
      refine L_v rfl rfl rfl (V_move rfl rfl) ?_
      apply L_and 3 34 38
      · rfl
      · rfl
      · rfl
      · rfl
      · rfl
      · rfl
      · rfl
      · kernel_rfl
      · intro hb6 _ _ hk6
        refine L_wv rfl rfl rfl rfl rfl rfl (V_loadT 1 (vs := msM c.msg m) rfl rfl rfl Try.underlying45 rfl sz45r (by kernel_rfl) (by kernel_rfl)) ?_
        refine L_wv rfl rfl rfl rfl rfl rfl (V_buildE (v := .agg (msM ms0 m50).toArray) rfl rfl (fun w => by kernel_rfl)) ?_
        refine L_wcallV rfl rfl rfl rfl rfl rfl rfl rfl rfl tx12r (fun w1 hw => sameMessage0_w c.msg ms0 m m50 es [] w1 hx rfl (hw.fa 0 rfl) fa_ms0 hB.szm) ?_
        exact hk6 _ ⟨rfl, rfl, rfl, rfl, ext_cut 3 (by kernel_rfl) (by kernel_rfl)⟩
      refine L_v rfl rfl rfl (V_assign rfl rfl) ?_
      refine L_nil ?_
      change J _ _ _ _
      refine J_ret ?_
      change Kret _ _ _ Exit.ret _
      refine ret1 rfl rfl (RV_t rfl) ?_
      exact fun w' h => ⟨congrArg (fun b => Ending.returned (Value.bool b)) (Bool.eq_iff_iff.2 (by simp only [Bool.and_eq_true, Bool.or_eq_true, decide_eq_true_eq, wi_iff, beq_iff_eq]; rw [show RightP c ↔ msgP c from and_iff_right (nums_of h4)]; unfold msgP; grind)), h.fr⟩
    ·
      first | (have h5 := of_decide_eq_true h5) | (have h5 := of_decide_eq_false h5) | skip
      refine J_skip ?_
      change J _ _ _ _
      refine J_seq ?_
      refine J_seq ?_
      refine J_region ?_
      refine L_v rfl rfl rfl (V_fieldAddr rfl rfl Try.underlying45 rfl sz32r rfl) ?_
      refine L_v rfl rfl rfl (V_load1 1 rfl rfl rfl Try.underlying32 rfl (by rfl)) ?_
      refine L_v rfl rfl rfl (V_eql rfl rfl rfl rfl) ?_
      refine L_nil ?_
      change J _ _ _ _
      refine J_cond rfl (fun h6 => ?_) (fun h6 => ?_)
      ·
        first | (have h6 := of_decide_eq_true h6) | (have h6 := of_decide_eq_false h6) | skip
        refine J_seq ?_
        refine J_regionQ rfl (by kernel_rfl) ?_
        refine LQ_v rfl rfl rfl (V_loadT 0 (vs := ctM c m) rfl rfl rfl Try.underlying47 rfl sz47r (by kernel_rfl) (by kernel_rfl)) ?_
        refine LQ_v rfl rfl rfl (V_fieldAddr rfl rfl Try.underlying45 rfl sz31r rfl) ?_
        refine LQ_v rfl rfl rfl (V_loadT 1 (vs := cmdM c.msg.cmd) rfl rfl rfl Try.underlying31 rfl sz31r (by kernel_rfl) (by kernel_rfl)) ?_
        refine LQ_callV rfl rfl rfl rfl rfl rfl tx37r (fun w1 hw => mayCall_w c m c.msg.cmd w1) ?_
        refine LQ_v rfl rfl rfl (V_move rfl rfl) ?_
        apply LQ_and 6 46 53
        · rfl
        · rfl
        · rfl
        · rfl
        · rfl
        · rfl
        · rfl
        · kernel_rfl
        · intro hb7 _ _ hk7
          refine LQ_wv rfl rfl rfl rfl rfl rfl (V_loadT 1 (vs := msM c.msg m) rfl rfl rfl Try.underlying45 rfl sz45r (by kernel_rfl) (by kernel_rfl)) ?_
          refine LQ_wv rfl rfl rfl rfl rfl rfl (V_loadT 0 (vs := ctM c m) rfl rfl rfl Try.underlying47 rfl sz47r (by kernel_rfl) (by kernel_rfl)) ?_
          refine LQ_wv rfl rfl rfl rfl rfl rfl (V_fieldAddr rfl rfl Try.underlying45 rfl sz31r rfl) ?_
          refine LQ_wv rfl rfl rfl rfl rfl rfl (V_loadT 1 (vs := cmdM c.msg.cmd) rfl rfl rfl Try.underlying31 rfl sz31r (by kernel_rfl) (by kernel_rfl)) ?_
          refine LQ_wcallV rfl rfl rfl rfl rfl rfl rfl rfl rfl tx38r (fun w1 hw => request_w c m c.msg.cmd w1 (nums_of h4).1) ?_
          refine LQ_wcallV rfl rfl rfl rfl rfl rfl rfl rfl rfl tx12r (fun w1 hw => sameMessage0_w c.msg (reqM c c.msg.cmd) m m50 es [] w1 hx rfl (hw.fa 0 rfl) fa_ms0 hB.szm) ?_
          exact hk7 _ ⟨rfl, rfl, ext_cut 6 (by kernel_rfl) (by kernel_rfl)⟩
        refine LQ_v rfl rfl rfl (V_assign rfl rfl) ?_
        refine LQ_nil ?_
        change J _ _ _ _
        refine J_ret ?_
        change Kret _ _ _ Exit.ret _
        refine ret1 rfl rfl (RV_t rfl) ?_
        exact fun w' h => ⟨congrArg (fun b => Ending.returned (Value.bool b)) (Bool.eq_iff_iff.2 (by simp only [Bool.and_eq_true, Bool.or_eq_true, decide_eq_true_eq, wi_iff, beq_iff_eq]; rw [show RightP c ↔ msgP c from and_iff_right (nums_of h4)]; unfold msgP; grind)), h.fr⟩
      ·
        first | (have h6 := of_decide_eq_true h6) | (have h6 := of_decide_eq_false h6) | skip
        refine J_skip ?_
        change J _ _ _ _
        refine J_seq ?_
        refine J_regionQ rfl (by kernel_rfl) ?_
        refine LQ_v rfl rfl rfl (V_loadT 0 (vs := ctM c m) rfl rfl rfl Try.underlying47 rfl sz47r (by kernel_rfl) (by kernel_rfl)) ?_
        refine LQ_v rfl rfl rfl (V_fieldAddr rfl rfl Try.underlying45 rfl sz32r rfl) ?_
        refine LQ_v rfl rfl rfl (V_load1 1 rfl rfl rfl Try.underlying32 rfl (by rfl)) ?_
        refine LQ_v rfl rfl rfl (V_fieldAddr rfl rfl Try.underlying45 rfl sz9r rfl) ?_
        refine LQ_v rfl rfl rfl (V_load1 1 rfl rfl rfl Try.underlying9 rfl (by rfl)) ?_
        refine LQ_callV rfl rfl rfl rfl rfl rfl tx39r (fun w1 hw => mayAsk_w c m c.msg.ask c.msg.user w1) ?_
        refine LQ_v rfl rfl rfl (V_move rfl rfl) ?_
        apply LQ_and 8 60 69
        · rfl
        · rfl
        · rfl
        · rfl
        · rfl
        · rfl
        · rfl
        · kernel_rfl
        · intro hb7 _ _ hk7
          refine LQ_wv rfl rfl rfl rfl rfl rfl (V_loadT 1 (vs := msM c.msg m) rfl rfl rfl Try.underlying45 rfl sz45r (by kernel_rfl) (by kernel_rfl)) ?_
          refine LQ_wv rfl rfl rfl rfl rfl rfl (V_loadT 0 (vs := ctM c m) rfl rfl rfl Try.underlying47 rfl sz47r (by kernel_rfl) (by kernel_rfl)) ?_
          refine LQ_wv rfl rfl rfl rfl rfl rfl (V_fieldAddr rfl rfl Try.underlying45 rfl sz32r rfl) ?_
          refine LQ_wv rfl rfl rfl rfl rfl rfl (V_load1 1 rfl rfl rfl Try.underlying32 rfl (by rfl)) ?_
          refine LQ_wv rfl rfl rfl rfl rfl rfl (V_fieldAddr rfl rfl Try.underlying45 rfl sz9r rfl) ?_
          refine LQ_wv rfl rfl rfl rfl rfl rfl (V_load1 1 rfl rfl rfl Try.underlying9 rfl (by rfl)) ?_
          refine LQ_wcallV rfl rfl rfl rfl rfl rfl rfl rfl rfl tx40r (fun w1 hw => question_w c m c.msg.ask c.msg.user w1 (nums_of h4).1) ?_
          refine LQ_wcallV rfl rfl rfl rfl rfl rfl rfl rfl rfl tx12r (fun w1 hw => sameMessage0_w c.msg (queM c c.msg.ask c.msg.user) m m50 es [] w1 hx rfl (hw.fa 0 rfl) fa_ms0 hB.szm) ?_
          exact hk7 _ ⟨rfl, rfl, ext_cut 8 (by kernel_rfl) (by kernel_rfl)⟩
        refine LQ_v rfl rfl rfl (V_assign rfl rfl) ?_
        refine LQ_nil ?_
        change J _ _ _ _
        refine J_ret ?_
        change Kret _ _ _ Exit.ret _
        refine ret1 rfl rfl (RV_t rfl) ?_
        exact fun w' h => ⟨congrArg (fun b => Ending.returned (Value.bool b)) (Bool.eq_iff_iff.2 (by simp only [Bool.and_eq_true, Bool.or_eq_true, decide_eq_true_eq, wi_iff, beq_iff_eq]; rw [show RightP c ↔ msgP c from and_iff_right (nums_of h4)]; unfold msgP; grind)), h.fr⟩

theorem ready_w (c : Ct) (m : M5) (es : List EnV) (w : World) (hx : c.msg.entries = es.map Prod.fst) (f1 : FA w (msF c.msg m es)) (hB : Sz c.msg es) :
    Calls Try.prog 36 #[.agg (ctM c m).toArray] w fun e w' => e = .returned (.int .i64 (readyE c)) ∧ Fr [] w w' := by
  refine calls_of (args := [.agg (ctM c m).toArray]) ([]) ([]) ([msF c.msg m es]) Try.func36 rfl rfl (okFW (.cons f1 .nil)) ?_
  refine J_seq ?_
  refine J_region ?_
  refine L_box rfl rfl rfl rfl rfl (fun b0 => ?_)
  refine L_v rfl rfl rfl (V_assign rfl rfl) ?_
  refine L_nil ?_
  change J _ _ _ _
  refine J_seq ?_
  refine J_seq ?_
  refine J_region ?_
  refine L_v rfl rfl rfl (V_loadT 0 (vs := ctM c m) rfl rfl rfl Try.underlying47 rfl sz47r (by kernel_rfl) (by kernel_rfl)) ?_
  refine L_callV rfl rfl rfl rfl rfl rfl tx26r (fun w1 hw => right21_w c m es w1 hx (hw.fa 0 rfl) hB) ?_
  refine L_v rfl rfl rfl (V_not rfl rfl rfl) ?_
  refine L_nil ?_
  change J _ _ _ _
  refine J_cond rfl (fun h1 => ?_) (fun h1 => ?_)
  ·
    first | (have h1 := of_decide_eq_true h1) | (have h1 := of_decide_eq_false h1) | skip
    refine J_seq ?_
    refine J_region ?_
    refine L_v rfl rfl rfl (V_assign rfl rfl) ?_
    refine L_nil ?_
    change J _ _ _ _
    refine J_ret ?_
    change Kret _ _ _ Exit.ret _
    refine ret1 rfl rfl (RV_t rfl) ?_
    exact fun w' h => ⟨congrArg (fun b => Ending.returned (Value.int .i64 b)) (by unfold readyE; grind), h.fr⟩
  ·
    first | (have h1 := of_decide_eq_true h1) | (have h1 := of_decide_eq_false h1) | skip
    refine J_skip ?_
    change J _ _ _ _
    refine J_seq ?_
    refine J_seq ?_
    refine J_region ?_
    refine L_v rfl rfl rfl (V_fieldAddr rfl rfl Try.underlying47 rfl sz4r rfl) ?_
    refine L_v rfl rfl rfl (V_load1 0 rfl rfl rfl Try.underlying4 rfl (by rfl)) ?_
    refine L_nil ?_
    change J _ _ _ _
    refine J_cond rfl (fun h2 => ?_) (fun h2 => ?_)
    ·
      first | (have h2 := of_decide_eq_true h2) | (have h2 := of_decide_eq_false h2) | skip
      refine J_seq ?_
      refine J_region ?_
      refine L_v rfl rfl rfl (V_assign rfl rfl) ?_
      refine L_nil ?_
      change J _ _ _ _
      refine J_ret ?_
      change Kret _ _ _ Exit.ret _
      refine ret1 rfl rfl (RV_t rfl) ?_
      exact fun w' h => ⟨congrArg (fun b => Ending.returned (Value.int .i64 b)) (by unfold readyE; grind), h.fr⟩
    ·
      first | (have h2 := of_decide_eq_true h2) | (have h2 := of_decide_eq_false h2) | skip
      refine J_skip ?_
      change J _ _ _ _
      refine J_seq ?_
      refine J_seq ?_
      refine J_region ?_
      refine L_v rfl rfl rfl (V_fieldAddr rfl rfl Try.underlying47 rfl sz3r rfl) ?_
      refine L_v rfl rfl rfl (V_load1 0 rfl rfl rfl Try.underlying3 rfl (by rfl)) ?_
      refine L_v rfl rfl rfl (V_geq rfl rfl rfl rfl) ?_
      refine L_nil ?_
      change J _ _ _ _
      refine J_cond rfl (fun h3 => ?_) (fun h3 => ?_)
      ·
        first | (have h3 := of_decide_eq_true h3) | (have h3 := of_decide_eq_false h3) | skip
        refine J_seq ?_
        refine J_region ?_
        refine L_v rfl rfl rfl (V_assign rfl rfl) ?_
        refine L_nil ?_
        change J _ _ _ _
        refine J_ret ?_
        change Kret _ _ _ Exit.ret _
        refine ret1 rfl rfl (RV_t rfl) ?_
        exact fun w' h => ⟨congrArg (fun b => Ending.returned (Value.int .i64 b)) (by unfold readyE; grind), h.fr⟩
      ·
        first | (have h3 := of_decide_eq_true h3) | (have h3 := of_decide_eq_false h3) | skip
        refine J_skip ?_
        change J _ _ _ _
        refine J_seq ?_
        refine J_region ?_
        refine L_v rfl rfl rfl (V_assign rfl rfl) ?_
        refine L_nil ?_
        change J _ _ _ _
        refine J_ret ?_
        change Kret _ _ _ Exit.ret _
        refine ret1 rfl rfl (RV_t rfl) ?_
        exact fun w' h => ⟨congrArg (fun b => Ending.returned (Value.int .i64 b)) (by unfold readyE; grind), h.fr⟩

end Go.Proofs.Ytfdmjjhgdbpfeaa
