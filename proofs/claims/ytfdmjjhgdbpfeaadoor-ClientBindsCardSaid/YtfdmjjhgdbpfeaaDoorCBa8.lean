/- Part 8 of the texts that the law leans on. -/
import Derived.Test.YtfdmjjhgdbpfeaaDoorCBa7
import Derived.Test.YtfdmjjhgdbpfeaaDoorCBa2
import Derived.Test.YtfdmjjhgdbpfeaaDoorCBa3
/- What the functions of layer 9 and of its reference come to. -/
set_option linter.unusedVariables false
set_option linter.unusedSimpArgs false
set_option maxRecDepth 100000
namespace Go.Proofs.YtfdmjjhgdbpfeaaDoor
open Go.Sx
def sgL (e : Int) (r p g : List Int) : List Value := hdL e r p ++ dg g
theorem sgL_len {e : Int} {r p g : List Int} (hr : r.length = 32) (hp : p.length = 32) (hg : g.length = 32) : (sgL e r p g).length = 97 := by
  unfold sgL
  rw [List.length_append, hdL_len hr hp, dg_length, hg]
theorem sgL_one (e : Int) (r p g : List Int) : ∀ u ∈ sgL e r p g, u.oneCell' = true := fun u hu => (List.mem_append.1 hu).elim (hd_one _ _ _ u) (dg_one _ u)
theorem sg_hd {e : Int} {r p g : List Int} (hr : r.length = 32) (hp : p.length = 32) : ∀ j, j < (hdL e r p).length → (sgL e r p g)[0 + j]? = (hdL e r p)[j]? := by
  intro j hj
  unfold sgL
  rw [Nat.zero_add, List.getElem?_append_left hj]
theorem sg_sig {e : Int} {r p g : List Int} (hr : r.length = 32) (hp : p.length = 32) : ∀ j, j < (dg g).length → (sgL e r p g)[65 + j]? = (dg g)[j]? := by
  intro j hj
  unfold sgL
  rw [List.getElem?_append_right (by rw [hdL_len hr hp]; omega), hdL_len hr hp]
  congr 1
  omega
/-- What is signed. -/
def lay (e : Int) (r p : List Int) : List Int := grp e ++ r ++ p
theorem lay_byt {e : Int} {r p : List Int} (h0 : 0 ≤ e) (h1 : e ≤ 200) (hr : Byt r) (hp : Byt p) : Byt (lay e r p) := ((grp_byt h0 (by omega)).append hr).append hp
theorem lay_len {e : Int} {r p : List Int} (hr : r.length = 32) (hp : p.length = 32) : (lay e r p).length = 0 + (grp e).length + 32 + 32 := by
  unfold lay
  rw [List.length_append, List.length_append, hr, hp, Nat.zero_add]
def okE (e : Int) : Bool := decide (1 ≤ e ∧ e ≤ 200)
def okK (s : ByteArray) : Bool := decide (1 ≤ s.size ∧ s.size ≤ 64)
def sgn (s : ByteArray) (e : Int) (r p : List Int) : List Int := macP (bs s) (lay e r p)
theorem sgn_len (s : ByteArray) (e : Int) (r p : List Int) : (sgn s e r p).length = 32 := macP_len _ _
theorem sgn_byt (s : ByteArray) (e : Int) (r p : List Int) : Byt (sgn s e r p) := macP_byt _ _
/-- What a check tells. -/
def chk (s : ByteArray) (e : Int) (r p g : List Int) : Int := if okK s = true ∧ okE e = true then (if sgn s e r p = g then 0 else 81) else 80
theorem blt36 (parts : List (Nat × Value)) : Tryd.prog.built 32 parts = Instr.fill ([(0, 65), (65, 32)].toArray[·]?) (sgL 0 zd zd zd).toArray parts := by kernel_rfl
theorem bdS {e : Int} {r p g : List Int} (hr : r.length = 32) (hp : p.length = 32) (hg : g.length = 32) (w : World) : (Instr.build 32 [(0, .agg (hdL e r p).toArray), (1, .agg (dg g).toArray)].toArray).run Tryd.prog w = .ok (.agg (sgL e r p g).toArray) w := by
  refine run_build w _ _ _ ?_
  have h1 := hdL_len (e := e) hr hp
  have h2 : (dg g).length = 32 := by rw [dg_length, hg]
  show Tryd.prog.built 32 [(0, .agg (hdL e r p).toArray), (1, .agg (dg g).toArray)] = _
  rw [blt36, fill_set (vl := hdL e r p) (i := 0) (off := 0) (n := 65) rfl rfl h1 (by rw [sgL_len zd_length zd_length zd_length]; decide)]
  have h3 : ((sgL 0 zd zd zd).take 0 ++ hdL e r p ++ (sgL 0 zd zd zd).drop (0 + 65)).length = 97 := by
    rw [List.length_append, List.length_append, List.length_take, List.length_drop, h1, sgL_len zd_length zd_length zd_length]
    decide
  rw [fill_set (vl := dg g) (i := 1) (off := 65) (n := 32) rfl rfl h2 (by rw [h3]; decide)]
  have h4 : ((sgL 0 zd zd zd).take 0 ++ hdL e r p ++ (sgL 0 zd zd zd).drop (0 + 65)).take 65 = hdL e r p := by
    rw [List.take_zero, List.nil_append, List.take_append, h1, Nat.sub_self, List.take_zero, List.append_nil, List.take_of_length_le (by omega)]
  rw [h4, List.drop_eq_nil_of_le (by rw [h3]; decide), List.append_nil]
  rfl
theorem bdS0 (w : World) : (Instr.build 32 ([] : List (Nat × Value)).toArray).run Tryd.prog w = .ok (.agg (sgL 0 zd zd zd).toArray) w := by kernel_rfl
theorem bdD0 (w : World) : (Instr.build 26 ([] : List (Nat × Value)).toArray).run Tryd.prog w = .ok (.agg (dg zd).toArray) w := by kernel_rfl
theorem elp : ElemOf Tryd.prog 5 1 1 (.int .u8 0) := elem_of (by kernel_rfl) rfl
theorem egD9 : Tryd.prog.eqGuardType Tryd.prog.depth 26 = false := by kernel_rfl
theorem sz3v : (Tryd.prog.info? 3).map (·.size) = some 1 := by kernel_rfl
theorem sz5v : (Tryd.prog.info? 5).map (·.size) = some 1 := by kernel_rfl
theorem sz26v : (Tryd.prog.info? 26).map (·.size) = some 32 := by kernel_rfl
theorem sz30v : (Tryd.prog.info? 30).map (·.size) = some 65 := by kernel_rfl
theorem sz32v : (Tryd.prog.info? 32).map (·.size) = some 97 := by kernel_rfl
theorem tx16v : Txt Tryd.prog 16 := txt_of Tryd.func16 rfl (by kernel_rfl)
theorem tx40v : Txt Tryd.prog 40 := txt_of Tryd.func40 rfl (by kernel_rfl)
theorem tx41v : Txt Tryd.prog 41 := txt_of Tryd.func41 rfl (by kernel_rfl)
theorem tx42v : Txt Tryd.prog 42 := txt_of Tryd.func42 rfl (by kernel_rfl)
theorem tx43v : Txt Tryd.prog 43 := txt_of Tryd.func43 rfl (by kernel_rfl)
theorem tx48v : Txt Tryd.prog 48 := txt_of Tryd.func48 rfl (by kernel_rfl)
theorem tx74v : Txt Tryd.prog 74 := txt_of Tryd.func74 rfl (by kernel_rfl)
theorem tx75v : Txt Tryd.prog 75 := txt_of Tryd.func75 rfl (by kernel_rfl)
theorem tx76v : Txt Tryd.prog 76 := txt_of Tryd.func76 rfl (by kernel_rfl)
theorem tx91v : Txt Tryd.prog 91 := txt_of Tryd.func91 rfl (by kernel_rfl)
theorem tx92v : Txt Tryd.prog 92 := txt_of Tryd.func92 rfl (by kernel_rfl)
theorem z32v : (Tryd.prog.info? 32).bind (·.zero) = some (.agg (sgL 0 zd zd zd).toArray) := by kernel_rfl

theorem hmay_w (er : Int) (r p : List Int) (w : World) (hr : r.length = 32) (hp : p.length = 32)  :
    Calls Tryd.prog 91 #[.agg (hdL er r p).toArray] w fun e w' => e = .returned (.bool (okE er)) ∧ Fr [] w w' := by
  refine calls_of (args := [.agg (hdL er r p).toArray]) ([]) ([]) ([]) Tryd.func91 rfl rfl (okW0 _ _ _ _) ?_
  refine J_seq ?_
  refine J_region ?_
  refine L_box rfl rfl rfl rfl rfl (fun b0 => ?_)
  refine L_v rfl rfl rfl (V_assign rfl rfl) ?_
  refine L_nil ?_
  change J _ _ _ _
  refine J_seq ?_
  refine J_region ?_
  refine L_v rfl rfl rfl (V_fieldAddr rfl rfl Tryd.underlying30 rfl sz3v rfl) ?_
  refine L_v rfl rfl rfl (V_load1 0 rfl rfl rfl Tryd.underlying3 rfl (by rfl)) ?_
  refine L_v rfl rfl rfl (V_geq rfl rfl rfl (by first | exact decide_eq_true (by omega) | exact decide_eq_false (by omega) | rfl)) ?_
  refine L_v rfl rfl rfl (V_move rfl rfl) ?_
  refine L_split 6 rfl (fun h1 => ?_) (fun h1 => ?_)
  ·
    first | (have h1 := of_decide_eq_true h1) | (have h1 := of_decide_eq_false h1) | skip
    refine L_wv rfl rfl rfl rfl rfl rfl (V_fieldAddr rfl rfl Tryd.underlying30 rfl sz3v rfl) ?_
    refine L_wv rfl rfl rfl rfl rfl rfl (V_load1 0 rfl rfl rfl Tryd.underlying3 rfl (by rfl)) ?_
    refine L_wv rfl rfl rfl rfl rfl rfl (V_leq rfl rfl rfl (by first | exact decide_eq_true (by omega) | exact decide_eq_false (by omega) | rfl)) ?_
    first | refine L_v rfl rfl rfl (V_pickT rfl rfl rfl) ?_ | refine L_v rfl rfl rfl (V_pickF rfl rfl rfl) ?_
    refine L_v rfl rfl rfl (V_assign rfl rfl) ?_
    refine L_nil ?_
    change J _ _ _ _
    refine J_ret ?_
    change Kret _ _ _ Exit.ret _
    refine ret1 rfl rfl (RV_t rfl) ?_
    exact fun w' h => ⟨congrArg (fun b => Ending.returned (.bool b)) (decide_eq_decide.2 (by omega)), h.fr⟩
  ·
    first | (have h1 := of_decide_eq_true h1) | (have h1 := of_decide_eq_false h1) | skip
    refine L_skip rfl rfl rfl rfl rfl rfl rfl ?_
    refine L_skip rfl rfl rfl rfl rfl rfl rfl ?_
    refine L_skip rfl rfl rfl rfl rfl rfl rfl ?_
    first | refine L_v rfl rfl rfl (V_pickT rfl rfl rfl) ?_ | refine L_v rfl rfl rfl (V_pickF rfl rfl rfl) ?_
    refine L_v rfl rfl rfl (V_assign rfl rfl) ?_
    refine L_nil ?_
    change J _ _ _ _
    refine J_ret ?_
    change Kret _ _ _ Exit.ret _
    refine ret1 rfl rfl (RV_t rfl) ?_
    exact fun w' h => ⟨congrArg (fun b => Ending.returned (.bool b)) (decide_eq_false (by omega)).symm, h.fr⟩

theorem hmay_b {b : Bool} {er : Int} (he : okE er = b) (r p : List Int) (w : World) (hr : r.length = 32) (hp : p.length = 32) : Calls Tryd.prog 91 #[.agg (hdL er r p).toArray] w fun e w' => e = .returned (.bool b) ∧ Fr [] w w' := by
  subst he
  exact hmay_w er r p w hr hp

theorem rhb_ok (er : Int) (r p : List Int) (w : World) (hr : r.length = 32) (hp : p.length = 32) (he : okE er = true) :
    Calls Tryd.prog 74 #[.agg (hdL er r p).toArray] w fun e w' => RetB 5 w (lay er r p) (0 + (grp er).length + 32 + 32) (fun s => .tuple #[s, .int .i64 0]) e w' := by
  have h01 : 1 ≤ er ∧ er ≤ 200 := of_decide_eq_true he
  obtain ⟨h0, h1⟩ := h01
  have hgl := grp_len er
  refine calls_of (args := [.agg (hdL er r p).toArray]) ([]) ([]) ([]) Tryd.func74 rfl rfl (okW0 _ _ _ _) ?_
  refine J_seq ?_
  refine J_region ?_
  refine L_box rfl rfl rfl rfl rfl (fun b0 => ?_)
  refine L_v rfl rfl rfl (V_assign rfl rfl) ?_
  refine L_v rfl rfl rfl (V_assign rfl rfl) ?_
  refine L_nil ?_
  change J _ _ _ _
  refine J_seq ?_
  refine J_seq ?_
  refine J_region ?_
  refine L_v rfl rfl rfl (V_loadW 0 rfl rfl rfl Tryd.underlying30 rfl (szd sz30v (by first | exact hdL_len (by first | assumption | exact shaP_len _ | exact sgn_len _ _ _ _ | exact macP_len _ _ | exact zd_length | rfl) (by first | assumption | exact shaP_len _ | exact sgn_len _ _ _ _ | exact macP_len _ _ | exact zd_length | rfl) | (rw [hdL_len (by first | assumption | exact shaP_len _ | exact sgn_len _ _ _ _ | exact macP_len _ _ | exact zd_length | rfl) (by first | assumption | exact shaP_len _ | exact sgn_len _ _ _ _ | exact macP_len _ _ | exact zd_length | rfl), hdL_len (by first | assumption | exact shaP_len _ | exact sgn_len _ _ _ _ | exact macP_len _ _ | exact zd_length | rfl) (by first | assumption | exact shaP_len _ | exact sgn_len _ _ _ _ | exact macP_len _ _ | exact zd_length | rfl)])))) ?_
  refine L_callV rfl rfl rfl rfl rfl rfl tx91v (fun w1 _ => hmay_b he r p w1 hr hp) ?_
  refine L_v rfl rfl rfl (V_not rfl rfl rfl) ?_
  refine L_nil ?_
  change J _ _ _ _
  refine J_false rfl ?_
  refine J_skip ?_
  change J _ _ _ _
  refine J_seq ?_
  refine J_region ?_
  refine L_v rfl rfl rfl (V_fieldAddr rfl rfl Tryd.underlying30 rfl sz3v rfl) ?_
  refine L_v rfl rfl rfl (V_load1 0 rfl rfl rfl Tryd.underlying3 rfl (by rfl)) ?_
  refine L_callB rfl rfl rfl rfl rfl rfl tx92v (fun w1 hw => grp_w er w1 (by omega) (by omega)) (fun g1 r1 c1 hl1 hc1 hr1 => ?_)
  refine L_v rfl rfl rfl (V_assign rfl rfl) ?_
  refine L_nil ?_
  change J _ _ _ _
  refine J_seq ?_
  refine J_region ?_
  refine L_v rfl rfl rfl (V_move rfl rfl) ?_
  refine L_v rfl rfl rfl (V_fieldAddr rfl rfl Tryd.underlying30 rfl sz26v rfl) ?_
  refine L_v rfl rfl rfl (V_sliceArr rfl rfl Tryd.underlying26 sz5v) ?_
  refine L_appO 1 (dg (grp er)) r1 (n := (grp er).length) (n' := (grp er).length + 32) (ks' := dg (grp er ++ r)) rfl rfl rfl rfl rfl Tryd.underlying57 elp rfl (by rw [dg_length, Nat.mul_one]) (by rw [Nat.mul_one]; exact hr1) hc1 (fun w1 hw => src_bytes' Tryd.underlying57 (SlB.at_off hw (i := 0) rfl hr (hd_root hr) 32) hr) rfl (dg_append _ _).symm (by omega) (by omega) (fun g2 c2 r2 hc2 hr2 => ?_)
  refine L_v rfl rfl rfl (V_assign rfl rfl) ?_
  refine L_nil ?_
  change J _ _ _ _
  refine J_seq ?_
  refine J_region ?_
  refine L_v rfl rfl rfl (V_move rfl rfl) ?_
  refine L_v rfl rfl rfl (V_fieldAddr rfl rfl Tryd.underlying30 rfl sz26v rfl) ?_
  refine L_v rfl rfl rfl (V_sliceArr rfl rfl Tryd.underlying26 sz5v) ?_
  refine L_appO 1 (dg (grp er ++ r)) r2 (n := (grp er).length + 32) (n' := (grp er).length + 32 + 32) (ks' := dg (grp er ++ r ++ p)) rfl rfl rfl rfl rfl Tryd.underlying57 elp rfl (by rw [dg_length, List.length_append, hr, Nat.mul_one]) hr2 hc2 (fun w1 hw => src_bytes' Tryd.underlying57 (SlB.at_off hw (i := 0) rfl hp (hd_prev hr) 32) hp) rfl (dg_append _ _).symm (by omega) (by omega) (fun g3 c3 r3 hc3 hr3 => ?_)
  refine L_v rfl rfl rfl (V_assign rfl rfl) ?_
  refine L_nil ?_
  change J _ _ _ _
  refine J_seq ?_
  refine J_region ?_
  refine L_v rfl rfl rfl (V_move rfl rfl) ?_
  refine L_v rfl rfl rfl (V_assign rfl rfl) ?_
  refine L_v rfl rfl rfl (V_assign rfl rfl) ?_
  refine L_nil ?_
  change J _ _ _ _
  refine J_ret ?_
  change Kret _ _ _ Exit.ret _
  refine ret2 rfl rfl (RV_t rfl) (RV_t rfl) ?_
  exact fun w' h => RetB.of (l := lay er r p) (n := (0 + (grp er).length + 32 + 32)) (r := r3) (c := c3) h rfl 1 rfl (by rw [Nat.zero_add]) (lay_len hr hp) (by omega) (by omega)

theorem rhb_no (er : Int) (r p : List Int) (w : World) (hr : r.length = 32) (hp : p.length = 32) (he : okE er = false) :
    Calls Tryd.prog 74 #[.agg (hdL er r p).toArray] w fun e w' => e = .returned (.tuple #[.slice none 0 0, .int .i64 80]) ∧ Fr [] w w' := by
  refine calls_of (args := [.agg (hdL er r p).toArray]) ([]) ([]) ([]) Tryd.func74 rfl rfl (okW0 _ _ _ _) ?_
  refine J_seq ?_
  refine J_region ?_
  refine L_box rfl rfl rfl rfl rfl (fun b0 => ?_)
  refine L_v rfl rfl rfl (V_assign rfl rfl) ?_
  refine L_v rfl rfl rfl (V_assign rfl rfl) ?_
  refine L_nil ?_
  change J _ _ _ _
  refine J_seq ?_
  refine J_seq ?_
  refine J_region ?_
  refine L_v rfl rfl rfl (V_loadW 0 rfl rfl rfl Tryd.underlying30 rfl (szd sz30v (by first | exact hdL_len (by first | assumption | exact shaP_len _ | exact sgn_len _ _ _ _ | exact macP_len _ _ | exact zd_length | rfl) (by first | assumption | exact shaP_len _ | exact sgn_len _ _ _ _ | exact macP_len _ _ | exact zd_length | rfl) | (rw [hdL_len (by first | assumption | exact shaP_len _ | exact sgn_len _ _ _ _ | exact macP_len _ _ | exact zd_length | rfl) (by first | assumption | exact shaP_len _ | exact sgn_len _ _ _ _ | exact macP_len _ _ | exact zd_length | rfl), hdL_len (by first | assumption | exact shaP_len _ | exact sgn_len _ _ _ _ | exact macP_len _ _ | exact zd_length | rfl) (by first | assumption | exact shaP_len _ | exact sgn_len _ _ _ _ | exact macP_len _ _ | exact zd_length | rfl)])))) ?_
  refine L_callV rfl rfl rfl rfl rfl rfl tx91v (fun w1 _ => hmay_b he r p w1 hr hp) ?_
  refine L_v rfl rfl rfl (V_not rfl rfl rfl) ?_
  refine L_nil ?_
  change J _ _ _ _
  refine J_true rfl ?_
  refine J_seq ?_
  refine J_region ?_
  refine L_v rfl rfl rfl (V_assign rfl rfl) ?_
  refine L_v rfl rfl rfl (V_assign rfl rfl) ?_
  refine L_nil ?_
  change J _ _ _ _
  refine J_ret ?_
  change Kret _ _ _ Exit.ret _
  refine ret2 rfl rfl (RV_t rfl) (RV_t rfl) ?_
  exact fun w' h => ⟨rfl, h.fr⟩

theorem sng_w (s : ByteArray) (w : World) :
    Calls Tryd.prog 41 #[.string s] w fun e w' => e = .returned (.bool (okK s)) ∧ Fr [] w w' := by
  refine calls_of (args := [.string s]) ([]) ([]) ([]) Tryd.func41 rfl rfl (okW0 _ _ _ _) ?_
  refine J_seq ?_
  refine J_region ?_
  refine L_v rfl rfl rfl (V_assign rfl rfl) ?_
  refine L_nil ?_
  change J _ _ _ _
  refine J_seq ?_
  refine J_region ?_
  refine L_v rfl rfl rfl (V_move rfl rfl) ?_
  refine L_v rfl rfl rfl (V_neS rfl rfl rfl (neE0 _)) ?_
  refine L_v rfl rfl rfl (V_move rfl rfl) ?_
  refine L_split 5 rfl (fun h1 => ?_) (fun h1 => ?_)
  ·
    first | (have h1 := of_decide_eq_true h1) | (have h1 := of_decide_eq_false h1) | skip
    refine L_wv rfl rfl rfl rfl rfl rfl (V_move rfl rfl) ?_
    refine L_wv rfl rfl rfl rfl rfl rfl (V_lenS rfl rfl Tryd.underlying9 rfl) ?_
    refine L_wv rfl rfl rfl rfl rfl rfl (V_leq rfl rfl rfl (by first | exact decide_eq_true (by omega) | exact decide_eq_false (by omega) | rfl)) ?_
    first | refine L_v rfl rfl rfl (V_pickT rfl rfl rfl) ?_ | refine L_v rfl rfl rfl (V_pickF rfl rfl rfl) ?_
    refine L_v rfl rfl rfl (V_assign rfl rfl) ?_
    refine L_nil ?_
    change J _ _ _ _
    refine J_ret ?_
    change Kret _ _ _ Exit.ret _
    refine ret1 rfl rfl (RV_t rfl) ?_
    exact fun w' h => ⟨congrArg (fun b => Ending.returned (.bool b)) (decide_eq_decide.2 (by omega)), h.fr⟩
  ·
    first | (have h1 := of_decide_eq_true h1) | (have h1 := of_decide_eq_false h1) | skip
    refine L_skip rfl rfl rfl rfl rfl rfl rfl ?_
    refine L_skip rfl rfl rfl rfl rfl rfl rfl ?_
    refine L_skip rfl rfl rfl rfl rfl rfl rfl ?_
    first | refine L_v rfl rfl rfl (V_pickT rfl rfl rfl) ?_ | refine L_v rfl rfl rfl (V_pickF rfl rfl rfl) ?_
    refine L_v rfl rfl rfl (V_assign rfl rfl) ?_
    refine L_nil ?_
    change J _ _ _ _
    refine J_ret ?_
    change Kret _ _ _ Exit.ret _
    refine ret1 rfl rfl (RV_t rfl) ?_
    exact fun w' h => ⟨congrArg (fun b => Ending.returned (.bool b)) (decide_eq_false (by omega)).symm, h.fr⟩

theorem sng_b {s : ByteArray} {b : Bool} (h : okK s = b) (w : World) : Calls Tryd.prog 41 #[.string s] w fun e w' => e = .returned (.bool b) ∧ Fr [] w w' := by
  subst h
  exact sng_w s w

theorem key_w (s : ByteArray) (w : World) :
    Calls Tryd.prog 75 #[.string s] w fun e w' => e = .returned (.bool (okK s)) ∧ Fr [] w w' := by
  refine calls_of (args := [.string s]) ([]) ([]) ([]) Tryd.func75 rfl rfl (okW0 _ _ _ _) ?_
  refine J_seq ?_
  refine J_region ?_
  refine L_v rfl rfl rfl (V_assign rfl rfl) ?_
  refine L_nil ?_
  change J _ _ _ _
  refine J_seq ?_
  refine J_region ?_
  refine L_v rfl rfl rfl (V_move rfl rfl) ?_
  refine L_v rfl rfl rfl (V_lenS rfl rfl Tryd.underlying9 rfl) ?_
  refine L_v rfl rfl rfl (V_geq rfl rfl rfl (by first | exact decide_eq_true (by omega) | exact decide_eq_false (by omega) | rfl)) ?_
  refine L_v rfl rfl rfl (V_move rfl rfl) ?_
  refine L_split 6 rfl (fun h1 => ?_) (fun h1 => ?_)
  ·
    first | (have h1 := of_decide_eq_true h1) | (have h1 := of_decide_eq_false h1) | skip
    refine L_wv rfl rfl rfl rfl rfl rfl (V_move rfl rfl) ?_
    refine L_wv rfl rfl rfl rfl rfl rfl (V_lenS rfl rfl Tryd.underlying9 rfl) ?_
    refine L_wv rfl rfl rfl rfl rfl rfl (V_leq rfl rfl rfl (by first | exact decide_eq_true (by omega) | exact decide_eq_false (by omega) | rfl)) ?_
    first | refine L_v rfl rfl rfl (V_pickT rfl rfl rfl) ?_ | refine L_v rfl rfl rfl (V_pickF rfl rfl rfl) ?_
    refine L_v rfl rfl rfl (V_assign rfl rfl) ?_
    refine L_nil ?_
    change J _ _ _ _
    refine J_ret ?_
    change Kret _ _ _ Exit.ret _
    refine ret1 rfl rfl (RV_t rfl) ?_
    exact fun w' h => ⟨congrArg (fun b => Ending.returned (.bool b)) (decide_eq_decide.2 (by omega)), h.fr⟩
  ·
    first | (have h1 := of_decide_eq_true h1) | (have h1 := of_decide_eq_false h1) | skip
    refine L_skip rfl rfl rfl rfl rfl rfl rfl ?_
    refine L_skip rfl rfl rfl rfl rfl rfl rfl ?_
    refine L_skip rfl rfl rfl rfl rfl rfl rfl ?_
    first | refine L_v rfl rfl rfl (V_pickT rfl rfl rfl) ?_ | refine L_v rfl rfl rfl (V_pickF rfl rfl rfl) ?_
    refine L_v rfl rfl rfl (V_assign rfl rfl) ?_
    refine L_nil ?_
    change J _ _ _ _
    refine J_ret ?_
    change Kret _ _ _ Exit.ret _
    refine ret1 rfl rfl (RV_t rfl) ?_
    exact fun w' h => ⟨congrArg (fun b => Ending.returned (.bool b)) (decide_eq_false (by omega)).symm, h.fr⟩

theorem key_b {s : ByteArray} {b : Bool} (h : okK s = b) (w : World) : Calls Tryd.prog 75 #[.string s] w fun e w' => e = .returned (.bool b) ∧ Fr [] w w' := by
  subst h
  exact key_w s w

set_option maxHeartbeats 1000000 in
theorem sign_ok (s : ByteArray) (er : Int) (r p : List Int) (w : World) (hr : r.length = 32) (hp : p.length = 32) (hrb : Byt r) (hpb : Byt p) (hk : okK s = true) (he : okE er = true) (hK : TabK KT 1 w)  :
    Calls Tryd.prog 16 #[.string s, .agg (hdL er r p).toArray] w fun e w' => e = .returned (.tuple #[.agg (sgL er r p (sgn s er r p)).toArray, .int .i64 0]) ∧ Fr [] w w' := by
  have h01 : 1 ≤ er ∧ er ≤ 200 := of_decide_eq_true he
  obtain ⟨h0, h1⟩ := h01
  have hgl := grp_len er
  have hks : 1 ≤ s.size ∧ s.size ≤ 64 := of_decide_eq_true hk
  refine calls_of (args := [.string s, .agg (hdL er r p).toArray]) ([]) ([]) ([]) Tryd.func16 rfl rfl (okW0 _ _ _ _) ?_
  refine J_seq ?_
  refine J_region ?_
  refine L_box rfl rfl rfl rfl rfl (fun b0 => ?_)
  refine L_alloc rfl rfl rfl rfl z32v (fun b1 => ?_)
  refine L_v rfl rfl rfl (V_assign rfl rfl) ?_
  refine L_nil ?_
  change J _ _ _ _
  refine J_seq ?_
  refine J_region ?_
  refine L_v rfl rfl rfl (V_loadW 0 rfl rfl rfl Tryd.underlying30 rfl (szd sz30v (by first | exact hdL_len (by first | assumption | exact shaP_len _ | exact sgn_len _ _ _ _ | exact macP_len _ _ | exact zd_length | rfl) (by first | assumption | exact shaP_len _ | exact sgn_len _ _ _ _ | exact macP_len _ _ | exact zd_length | rfl) | (rw [hdL_len (by first | assumption | exact shaP_len _ | exact sgn_len _ _ _ _ | exact macP_len _ _ | exact zd_length | rfl) (by first | assumption | exact shaP_len _ | exact sgn_len _ _ _ _ | exact macP_len _ _ | exact zd_length | rfl), hdL_len (by first | assumption | exact shaP_len _ | exact sgn_len _ _ _ _ | exact macP_len _ _ | exact zd_length | rfl) (by first | assumption | exact shaP_len _ | exact sgn_len _ _ _ _ | exact macP_len _ _ | exact zd_length | rfl)])))) ?_
  refine L_callB rfl rfl rfl rfl rfl rfl tx40v (fun w1 hw => hbytes_ok er r p w1 hr hp h0 h1) (fun g1 r1 c1 hl1 hc1 hr1 => ?_)
  refine L_v rfl rfl rfl (V_move rfl rfl) ?_
  refine L_v rfl rfl rfl (V_extract rfl rfl rfl) ?_
  refine L_v rfl rfl rfl (V_extract rfl rfl rfl) ?_
  refine L_v rfl rfl rfl (V_assign rfl rfl) ?_
  refine L_v rfl rfl rfl (V_assign rfl rfl) ?_
  refine L_nil ?_
  change J _ _ _ _
  refine J_seq ?_
  refine J_seq ?_
  refine J_region ?_
  refine L_v rfl rfl rfl (V_move rfl rfl) ?_
  refine L_callV rfl rfl rfl rfl rfl rfl tx41v (fun w1 _ => sng_b hk w1) ?_
  refine L_v rfl rfl rfl (V_not rfl rfl rfl) ?_
  refine L_v rfl rfl rfl (V_move rfl rfl) ?_
  refine L_wv rfl rfl rfl rfl rfl rfl (V_move rfl rfl) ?_
  refine L_wv rfl rfl rfl rfl rfl rfl (V_neq rfl rfl rfl (by first | exact decide_eq_true (by omega) | exact decide_eq_false (by omega) | rfl)) ?_
  first | refine L_v rfl rfl rfl (V_pickT rfl rfl rfl) ?_ | refine L_v rfl rfl rfl (V_pickF rfl rfl rfl) ?_
  refine L_nil ?_
  change J _ _ _ _
  refine J_false rfl ?_
  refine J_skip ?_
  change J _ _ _ _
  refine J_seq ?_
  refine J_regionO (.pure 0 (.pure 1 (.pure 3 (.one 2 (.one 4 (.pure 5 (.one 6 (.pure 7 (.nil))))))))) ([(b0, row 30 (hdL er r p))]) _ (Pk.of_sub (List.Sublist.cons_cons _ (List.nil_sublist _))) (fun f hf => hf) rfl rfl (by kernel_rfl) ?_
  refine LO_v rfl rfl rfl rfl (V_loadW 0 rfl rfl rfl Tryd.underlying30 rfl (szd sz30v (by first | exact hdL_len (by first | assumption | exact shaP_len _ | exact sgn_len _ _ _ _ | exact macP_len _ _ | exact zd_length | rfl) (by first | assumption | exact shaP_len _ | exact sgn_len _ _ _ _ | exact macP_len _ _ | exact zd_length | rfl) | (rw [hdL_len (by first | assumption | exact shaP_len _ | exact sgn_len _ _ _ _ | exact macP_len _ _ | exact zd_length | rfl) (by first | assumption | exact shaP_len _ | exact sgn_len _ _ _ _ | exact macP_len _ _ | exact zd_length | rfl), hdL_len (by first | assumption | exact shaP_len _ | exact sgn_len _ _ _ _ | exact macP_len _ _ | exact zd_length | rfl) (by first | assumption | exact shaP_len _ | exact sgn_len _ _ _ _ | exact macP_len _ _ | exact zd_length | rfl)])))) ?_
  refine LO_v rfl rfl rfl rfl (V_move rfl rfl) ?_
  refine LO_v rfl rfl rfl rfl (V_move rfl rfl) ?_
  refine LO_s rfl rfl rfl (S_toBytesC rfl rfl rfl rfl Tryd.underlying9 Tryd.underlying57 Tryd.underlying5 (fun b4 c4 r4 z4 hc4 hr4 => ⟨(Pk.app (Pk.of_sub (List.Sublist.cons_cons _ (List.nil_sublist _))) _), fun f hf => hf, ?_⟩)) 
  refine LO_callV rfl rfl rfl rfl rfl rfl rfl rfl tx42v (fun w1 hw => mac_w (bs s) (some ⟨b4, 0, none⟩) s.size c4 (lay er r p) (some ⟨g1, 0, none⟩) (0 + (grp er).length + 32 + 32) c1 w1 (SlB.of_own hw (i := 3) rfl (bs_length _) c4) (bs_byt s) (SlB.of_own hw (i := 2) (l := lay er r p) rfl hl1 c1) (lay_byt (by omega) h1 hrb hpb) hc4 hc1 (TabK.later hw (by simp) hK) (by rw [bs_length]; omega) (by rw [lay_len hr hp]; omega)) (Pk.app (Pk.of_sub (List.Sublist.cons_cons _ (List.nil_sublist _))) _) (fun f hf => hf) ?_
  refine LO_v rfl rfl rfl rfl (V_build (vs := [(0, .agg (hdL er r p).toArray), (1, .agg (dg (sgn s er r p)).toArray)]) rfl rfl (bdS hr hp (sgn_len _ _ _ _))) ?_
  refine LO_s rfl rfl rfl (S_storeW 1 rfl rfl rfl rfl rfl (szd sz32v (by first | exact sgL_len (by first | assumption | exact shaP_len _ | exact sgn_len _ _ _ _ | exact macP_len _ _ | exact zd_length | rfl) (by first | assumption | exact shaP_len _ | exact sgn_len _ _ _ _ | exact macP_len _ _ | exact zd_length | rfl) (by first | assumption | exact shaP_len _ | exact sgn_len _ _ _ _ | exact macP_len _ _ | exact zd_length | rfl) | (rw [sgL_len (by first | assumption | exact shaP_len _ | exact sgn_len _ _ _ _ | exact macP_len _ _ | exact zd_length | rfl) (by first | assumption | exact shaP_len _ | exact sgn_len _ _ _ _ | exact macP_len _ _ | exact zd_length | rfl) (by first | assumption | exact shaP_len _ | exact sgn_len _ _ _ _ | exact macP_len _ _ | exact zd_length | rfl), sgL_len (by first | assumption | exact shaP_len _ | exact sgn_len _ _ _ _ | exact macP_len _ _ | exact zd_length | rfl) (by first | assumption | exact shaP_len _ | exact sgn_len _ _ _ _ | exact macP_len _ _ | exact zd_length | rfl) (by first | assumption | exact shaP_len _ | exact sgn_len _ _ _ _ | exact macP_len _ _ | exact zd_length | rfl)]))) (by first | exact sgL_one _ _ _ _ | exact hd_one _ _ _ | exact dg_one _) (by first | exact sgL_len (by first | assumption | exact shaP_len _ | exact sgn_len _ _ _ _ | exact macP_len _ _ | exact zd_length | rfl) (by first | assumption | exact shaP_len _ | exact sgn_len _ _ _ _ | exact macP_len _ _ | exact zd_length | rfl) (by first | assumption | exact shaP_len _ | exact sgn_len _ _ _ _ | exact macP_len _ _ | exact zd_length | rfl) | (rw [sgL_len (by first | assumption | exact shaP_len _ | exact sgn_len _ _ _ _ | exact macP_len _ _ | exact zd_length | rfl) (by first | assumption | exact shaP_len _ | exact sgn_len _ _ _ _ | exact macP_len _ _ | exact zd_length | rfl) (by first | assumption | exact shaP_len _ | exact sgn_len _ _ _ _ | exact macP_len _ _ | exact zd_length | rfl), sgL_len (by first | assumption | exact shaP_len _ | exact sgn_len _ _ _ _ | exact macP_len _ _ | exact zd_length | rfl) (by first | assumption | exact shaP_len _ | exact sgn_len _ _ _ _ | exact macP_len _ _ | exact zd_length | rfl) (by first | assumption | exact shaP_len _ | exact sgn_len _ _ _ _ | exact macP_len _ _ | exact zd_length | rfl)])) ⟨(Pk.of_sub (List.Sublist.cons_cons _ (List.nil_sublist _))), fun f hf => hf, ?_⟩) 
  refine LO_v rfl rfl rfl rfl (V_assign rfl rfl) ?_
  refine LO_nil ?_
  change J _ _ _ _
  refine J_ret ?_
  change Kret _ _ _ Exit.ret _
  refine ret2 rfl rfl (RV_c 1 rfl rfl Tryd.underlying32 rfl (szd sz32v (by first | exact sgL_len (by first | assumption | exact shaP_len _ | exact sgn_len _ _ _ _ | exact macP_len _ _ | exact zd_length | rfl) (by first | assumption | exact shaP_len _ | exact sgn_len _ _ _ _ | exact macP_len _ _ | exact zd_length | rfl) (by first | assumption | exact shaP_len _ | exact sgn_len _ _ _ _ | exact macP_len _ _ | exact zd_length | rfl) | (rw [sgL_len (by first | assumption | exact shaP_len _ | exact sgn_len _ _ _ _ | exact macP_len _ _ | exact zd_length | rfl) (by first | assumption | exact shaP_len _ | exact sgn_len _ _ _ _ | exact macP_len _ _ | exact zd_length | rfl) (by first | assumption | exact shaP_len _ | exact sgn_len _ _ _ _ | exact macP_len _ _ | exact zd_length | rfl), sgL_len (by first | assumption | exact shaP_len _ | exact sgn_len _ _ _ _ | exact macP_len _ _ | exact zd_length | rfl) (by first | assumption | exact shaP_len _ | exact sgn_len _ _ _ _ | exact macP_len _ _ | exact zd_length | rfl) (by first | assumption | exact shaP_len _ | exact sgn_len _ _ _ _ | exact macP_len _ _ | exact zd_length | rfl)])))) (RV_t rfl) ?_
  exact fun w' h => ⟨rfl, h.fr⟩

theorem sign_noE (s : ByteArray) (er : Int) (r p : List Int) (w : World) (hr : r.length = 32) (hp : p.length = 32) (hrb : Byt r) (hpb : Byt p) (he : okE er = false)  :
    Calls Tryd.prog 16 #[.string s, .agg (hdL er r p).toArray] w fun e w' => e = .returned (.tuple #[.agg (sgL 0 zd zd zd).toArray, .int .i64 80]) ∧ Fr [] w w' := by
  have h := of_decide_eq_false he
  refine calls_of (args := [.string s, .agg (hdL er r p).toArray]) ([]) ([]) ([]) Tryd.func16 rfl rfl (okW0 _ _ _ _) ?_
  refine J_seq ?_
  refine J_region ?_
  refine L_box rfl rfl rfl rfl rfl (fun b0 => ?_)
  refine L_alloc rfl rfl rfl rfl z32v (fun b1 => ?_)
  refine L_v rfl rfl rfl (V_assign rfl rfl) ?_
  refine L_nil ?_
  change J _ _ _ _
  refine J_seq ?_
  refine J_region ?_
  refine L_v rfl rfl rfl (V_loadW 0 rfl rfl rfl Tryd.underlying30 rfl (szd sz30v (by first | exact hdL_len (by first | assumption | exact shaP_len _ | exact sgn_len _ _ _ _ | exact macP_len _ _ | exact zd_length | rfl) (by first | assumption | exact shaP_len _ | exact sgn_len _ _ _ _ | exact macP_len _ _ | exact zd_length | rfl) | (rw [hdL_len (by first | assumption | exact shaP_len _ | exact sgn_len _ _ _ _ | exact macP_len _ _ | exact zd_length | rfl) (by first | assumption | exact shaP_len _ | exact sgn_len _ _ _ _ | exact macP_len _ _ | exact zd_length | rfl), hdL_len (by first | assumption | exact shaP_len _ | exact sgn_len _ _ _ _ | exact macP_len _ _ | exact zd_length | rfl) (by first | assumption | exact shaP_len _ | exact sgn_len _ _ _ _ | exact macP_len _ _ | exact zd_length | rfl)])))) ?_
  refine L_callV rfl rfl rfl rfl rfl rfl tx40v (fun w1 _ => hbytes_no er r p w1 hr hp h) ?_
  refine L_v rfl rfl rfl (V_move rfl rfl) ?_
  refine L_v rfl rfl rfl (V_extract rfl rfl rfl) ?_
  refine L_v rfl rfl rfl (V_extract rfl rfl rfl) ?_
  refine L_v rfl rfl rfl (V_assign rfl rfl) ?_
  refine L_v rfl rfl rfl (V_assign rfl rfl) ?_
  refine L_nil ?_
  change J _ _ _ _
  refine J_seq ?_
  refine J_seq ?_
  refine J_region ?_
  refine L_v rfl rfl rfl (V_move rfl rfl) ?_
  refine L_callV rfl rfl rfl rfl rfl rfl tx41v (fun w1 _ => sng_b rfl w1) ?_
  refine L_v rfl rfl rfl (V_not rfl rfl rfl) ?_
  refine L_v rfl rfl rfl (V_move rfl rfl) ?_
  refine L_split 16 rfl (fun h1 => ?_) (fun h1 => ?_)
  ·
    first | (have h1 := of_decide_eq_true h1) | (have h1 := of_decide_eq_false h1) | skip
    refine L_skip rfl rfl rfl rfl rfl rfl rfl ?_
    refine L_skip rfl rfl rfl rfl rfl rfl rfl ?_
    first | refine L_v rfl rfl rfl (V_pickT rfl rfl rfl) ?_ | refine L_v rfl rfl rfl (V_pickF rfl rfl rfl) ?_
    refine L_nil ?_
    change J _ _ _ _
    refine J_true rfl ?_
    refine J_seq ?_
    refine J_region ?_
    refine L_v rfl rfl rfl (V_build (vs := []) rfl rfl bdS0) ?_
    refine L_storeW 1 rfl rfl rfl rfl rfl rfl (szd sz32v (by first | exact sgL_len (by first | assumption | exact shaP_len _ | exact sgn_len _ _ _ _ | exact macP_len _ _ | exact zd_length | rfl) (by first | assumption | exact shaP_len _ | exact sgn_len _ _ _ _ | exact macP_len _ _ | exact zd_length | rfl) (by first | assumption | exact shaP_len _ | exact sgn_len _ _ _ _ | exact macP_len _ _ | exact zd_length | rfl) | (rw [sgL_len (by first | assumption | exact shaP_len _ | exact sgn_len _ _ _ _ | exact macP_len _ _ | exact zd_length | rfl) (by first | assumption | exact shaP_len _ | exact sgn_len _ _ _ _ | exact macP_len _ _ | exact zd_length | rfl) (by first | assumption | exact shaP_len _ | exact sgn_len _ _ _ _ | exact macP_len _ _ | exact zd_length | rfl), sgL_len (by first | assumption | exact shaP_len _ | exact sgn_len _ _ _ _ | exact macP_len _ _ | exact zd_length | rfl) (by first | assumption | exact shaP_len _ | exact sgn_len _ _ _ _ | exact macP_len _ _ | exact zd_length | rfl) (by first | assumption | exact shaP_len _ | exact sgn_len _ _ _ _ | exact macP_len _ _ | exact zd_length | rfl)]))) (by first | exact sgL_one _ _ _ _ | exact hd_one _ _ _ | exact dg_one _) (by first | exact sgL_len (by first | assumption | exact shaP_len _ | exact sgn_len _ _ _ _ | exact macP_len _ _ | exact zd_length | rfl) (by first | assumption | exact shaP_len _ | exact sgn_len _ _ _ _ | exact macP_len _ _ | exact zd_length | rfl) (by first | assumption | exact shaP_len _ | exact sgn_len _ _ _ _ | exact macP_len _ _ | exact zd_length | rfl) | (rw [sgL_len (by first | assumption | exact shaP_len _ | exact sgn_len _ _ _ _ | exact macP_len _ _ | exact zd_length | rfl) (by first | assumption | exact shaP_len _ | exact sgn_len _ _ _ _ | exact macP_len _ _ | exact zd_length | rfl) (by first | assumption | exact shaP_len _ | exact sgn_len _ _ _ _ | exact macP_len _ _ | exact zd_length | rfl), sgL_len (by first | assumption | exact shaP_len _ | exact sgn_len _ _ _ _ | exact macP_len _ _ | exact zd_length | rfl) (by first | assumption | exact shaP_len _ | exact sgn_len _ _ _ _ | exact macP_len _ _ | exact zd_length | rfl) (by first | assumption | exact shaP_len _ | exact sgn_len _ _ _ _ | exact macP_len _ _ | exact zd_length | rfl)])) ?_
    refine L_v rfl rfl rfl (V_assign rfl rfl) ?_
    refine L_nil ?_
    change J _ _ _ _
    refine J_ret ?_
    change Kret _ _ _ Exit.ret _
    refine ret2 rfl rfl (RV_c 1 rfl rfl Tryd.underlying32 rfl (szd sz32v (by first | exact sgL_len (by first | assumption | exact shaP_len _ | exact sgn_len _ _ _ _ | exact macP_len _ _ | exact zd_length | rfl) (by first | assumption | exact shaP_len _ | exact sgn_len _ _ _ _ | exact macP_len _ _ | exact zd_length | rfl) (by first | assumption | exact shaP_len _ | exact sgn_len _ _ _ _ | exact macP_len _ _ | exact zd_length | rfl) | (rw [sgL_len (by first | assumption | exact shaP_len _ | exact sgn_len _ _ _ _ | exact macP_len _ _ | exact zd_length | rfl) (by first | assumption | exact shaP_len _ | exact sgn_len _ _ _ _ | exact macP_len _ _ | exact zd_length | rfl) (by first | assumption | exact shaP_len _ | exact sgn_len _ _ _ _ | exact macP_len _ _ | exact zd_length | rfl), sgL_len (by first | assumption | exact shaP_len _ | exact sgn_len _ _ _ _ | exact macP_len _ _ | exact zd_length | rfl) (by first | assumption | exact shaP_len _ | exact sgn_len _ _ _ _ | exact macP_len _ _ | exact zd_length | rfl) (by first | assumption | exact shaP_len _ | exact sgn_len _ _ _ _ | exact macP_len _ _ | exact zd_length | rfl)])))) (RV_t rfl) ?_
    exact fun w' h => ⟨rfl, h.fr⟩
  ·
    first | (have h1 := of_decide_eq_true h1) | (have h1 := of_decide_eq_false h1) | skip
    refine L_wv rfl rfl rfl rfl rfl rfl (V_move rfl rfl) ?_
    refine L_wv rfl rfl rfl rfl rfl rfl (V_neq rfl rfl rfl (by first | exact decide_eq_true (by omega) | exact decide_eq_false (by omega) | rfl)) ?_
    first | refine L_v rfl rfl rfl (V_pickT rfl rfl rfl) ?_ | refine L_v rfl rfl rfl (V_pickF rfl rfl rfl) ?_
    refine L_nil ?_
    change J _ _ _ _
    refine J_true rfl ?_
    refine J_seq ?_
    refine J_region ?_
    refine L_v rfl rfl rfl (V_build (vs := []) rfl rfl bdS0) ?_
    refine L_storeW 1 rfl rfl rfl rfl rfl rfl (szd sz32v (by first | exact sgL_len (by first | assumption | exact shaP_len _ | exact sgn_len _ _ _ _ | exact macP_len _ _ | exact zd_length | rfl) (by first | assumption | exact shaP_len _ | exact sgn_len _ _ _ _ | exact macP_len _ _ | exact zd_length | rfl) (by first | assumption | exact shaP_len _ | exact sgn_len _ _ _ _ | exact macP_len _ _ | exact zd_length | rfl) | (rw [sgL_len (by first | assumption | exact shaP_len _ | exact sgn_len _ _ _ _ | exact macP_len _ _ | exact zd_length | rfl) (by first | assumption | exact shaP_len _ | exact sgn_len _ _ _ _ | exact macP_len _ _ | exact zd_length | rfl) (by first | assumption | exact shaP_len _ | exact sgn_len _ _ _ _ | exact macP_len _ _ | exact zd_length | rfl), sgL_len (by first | assumption | exact shaP_len _ | exact sgn_len _ _ _ _ | exact macP_len _ _ | exact zd_length | rfl) (by first | assumption | exact shaP_len _ | exact sgn_len _ _ _ _ | exact macP_len _ _ | exact zd_length | rfl) (by first | assumption | exact shaP_len _ | exact sgn_len _ _ _ _ | exact macP_len _ _ | exact zd_length | rfl)]))) (by first | exact sgL_one _ _ _ _ | exact hd_one _ _ _ | exact dg_one _) (by first | exact sgL_len (by first | assumption | exact shaP_len _ | exact sgn_len _ _ _ _ | exact macP_len _ _ | exact zd_length | rfl) (by first | assumption | exact shaP_len _ | exact sgn_len _ _ _ _ | exact macP_len _ _ | exact zd_length | rfl) (by first | assumption | exact shaP_len _ | exact sgn_len _ _ _ _ | exact macP_len _ _ | exact zd_length | rfl) | (rw [sgL_len (by first | assumption | exact shaP_len _ | exact sgn_len _ _ _ _ | exact macP_len _ _ | exact zd_length | rfl) (by first | assumption | exact shaP_len _ | exact sgn_len _ _ _ _ | exact macP_len _ _ | exact zd_length | rfl) (by first | assumption | exact shaP_len _ | exact sgn_len _ _ _ _ | exact macP_len _ _ | exact zd_length | rfl), sgL_len (by first | assumption | exact shaP_len _ | exact sgn_len _ _ _ _ | exact macP_len _ _ | exact zd_length | rfl) (by first | assumption | exact shaP_len _ | exact sgn_len _ _ _ _ | exact macP_len _ _ | exact zd_length | rfl) (by first | assumption | exact shaP_len _ | exact sgn_len _ _ _ _ | exact macP_len _ _ | exact zd_length | rfl)])) ?_
    refine L_v rfl rfl rfl (V_assign rfl rfl) ?_
    refine L_nil ?_
    change J _ _ _ _
    refine J_ret ?_
    change Kret _ _ _ Exit.ret _
    refine ret2 rfl rfl (RV_c 1 rfl rfl Tryd.underlying32 rfl (szd sz32v (by first | exact sgL_len (by first | assumption | exact shaP_len _ | exact sgn_len _ _ _ _ | exact macP_len _ _ | exact zd_length | rfl) (by first | assumption | exact shaP_len _ | exact sgn_len _ _ _ _ | exact macP_len _ _ | exact zd_length | rfl) (by first | assumption | exact shaP_len _ | exact sgn_len _ _ _ _ | exact macP_len _ _ | exact zd_length | rfl) | (rw [sgL_len (by first | assumption | exact shaP_len _ | exact sgn_len _ _ _ _ | exact macP_len _ _ | exact zd_length | rfl) (by first | assumption | exact shaP_len _ | exact sgn_len _ _ _ _ | exact macP_len _ _ | exact zd_length | rfl) (by first | assumption | exact shaP_len _ | exact sgn_len _ _ _ _ | exact macP_len _ _ | exact zd_length | rfl), sgL_len (by first | assumption | exact shaP_len _ | exact sgn_len _ _ _ _ | exact macP_len _ _ | exact zd_length | rfl) (by first | assumption | exact shaP_len _ | exact sgn_len _ _ _ _ | exact macP_len _ _ | exact zd_length | rfl) (by first | assumption | exact shaP_len _ | exact sgn_len _ _ _ _ | exact macP_len _ _ | exact zd_length | rfl)])))) (RV_t rfl) ?_
    exact fun w' h => ⟨rfl, h.fr⟩

theorem sign_noK (s : ByteArray) (er : Int) (r p : List Int) (w : World) (hr : r.length = 32) (hp : p.length = 32) (hrb : Byt r) (hpb : Byt p) (hk : okK s = false) (he : okE er = true)  :
    Calls Tryd.prog 16 #[.string s, .agg (hdL er r p).toArray] w fun e w' => e = .returned (.tuple #[.agg (sgL 0 zd zd zd).toArray, .int .i64 80]) ∧ Fr [] w w' := by
  have h01 : 1 ≤ er ∧ er ≤ 200 := of_decide_eq_true he
  obtain ⟨h0, h1⟩ := h01
  refine calls_of (args := [.string s, .agg (hdL er r p).toArray]) ([]) ([]) ([]) Tryd.func16 rfl rfl (okW0 _ _ _ _) ?_
  refine J_seq ?_
  refine J_region ?_
  refine L_box rfl rfl rfl rfl rfl (fun b0 => ?_)
  refine L_alloc rfl rfl rfl rfl z32v (fun b1 => ?_)
  refine L_v rfl rfl rfl (V_assign rfl rfl) ?_
  refine L_nil ?_
  change J _ _ _ _
  refine J_seq ?_
  refine J_region ?_
  refine L_v rfl rfl rfl (V_loadW 0 rfl rfl rfl Tryd.underlying30 rfl (szd sz30v (by first | exact hdL_len (by first | assumption | exact shaP_len _ | exact sgn_len _ _ _ _ | exact macP_len _ _ | exact zd_length | rfl) (by first | assumption | exact shaP_len _ | exact sgn_len _ _ _ _ | exact macP_len _ _ | exact zd_length | rfl) | (rw [hdL_len (by first | assumption | exact shaP_len _ | exact sgn_len _ _ _ _ | exact macP_len _ _ | exact zd_length | rfl) (by first | assumption | exact shaP_len _ | exact sgn_len _ _ _ _ | exact macP_len _ _ | exact zd_length | rfl), hdL_len (by first | assumption | exact shaP_len _ | exact sgn_len _ _ _ _ | exact macP_len _ _ | exact zd_length | rfl) (by first | assumption | exact shaP_len _ | exact sgn_len _ _ _ _ | exact macP_len _ _ | exact zd_length | rfl)])))) ?_
  refine L_callB rfl rfl rfl rfl rfl rfl tx40v (fun w1 hw => hbytes_ok er r p w1 hr hp h0 h1) (fun g1 r1 c1 hl1 hc1 hr1 => ?_)
  refine L_v rfl rfl rfl (V_move rfl rfl) ?_
  refine L_v rfl rfl rfl (V_extract rfl rfl rfl) ?_
  refine L_v rfl rfl rfl (V_extract rfl rfl rfl) ?_
  refine L_v rfl rfl rfl (V_assign rfl rfl) ?_
  refine L_v rfl rfl rfl (V_assign rfl rfl) ?_
  refine L_nil ?_
  change J _ _ _ _
  refine J_seq ?_
  refine J_seq ?_
  refine J_region ?_
  refine L_v rfl rfl rfl (V_move rfl rfl) ?_
  refine L_callV rfl rfl rfl rfl rfl rfl tx41v (fun w1 _ => sng_b hk w1) ?_
  refine L_v rfl rfl rfl (V_not rfl rfl rfl) ?_
  refine L_v rfl rfl rfl (V_move rfl rfl) ?_
  refine L_skip rfl rfl rfl rfl rfl rfl rfl ?_
  refine L_skip rfl rfl rfl rfl rfl rfl rfl ?_
  first | refine L_v rfl rfl rfl (V_pickT rfl rfl rfl) ?_ | refine L_v rfl rfl rfl (V_pickF rfl rfl rfl) ?_
  refine L_nil ?_
  change J _ _ _ _
  refine J_true rfl ?_
  refine J_seq ?_
  refine J_region ?_
  refine L_v rfl rfl rfl (V_build (vs := []) rfl rfl bdS0) ?_
  refine L_storeW 1 rfl rfl rfl rfl rfl rfl (szd sz32v (by first | exact sgL_len (by first | assumption | exact shaP_len _ | exact sgn_len _ _ _ _ | exact macP_len _ _ | exact zd_length | rfl) (by first | assumption | exact shaP_len _ | exact sgn_len _ _ _ _ | exact macP_len _ _ | exact zd_length | rfl) (by first | assumption | exact shaP_len _ | exact sgn_len _ _ _ _ | exact macP_len _ _ | exact zd_length | rfl) | (rw [sgL_len (by first | assumption | exact shaP_len _ | exact sgn_len _ _ _ _ | exact macP_len _ _ | exact zd_length | rfl) (by first | assumption | exact shaP_len _ | exact sgn_len _ _ _ _ | exact macP_len _ _ | exact zd_length | rfl) (by first | assumption | exact shaP_len _ | exact sgn_len _ _ _ _ | exact macP_len _ _ | exact zd_length | rfl), sgL_len (by first | assumption | exact shaP_len _ | exact sgn_len _ _ _ _ | exact macP_len _ _ | exact zd_length | rfl) (by first | assumption | exact shaP_len _ | exact sgn_len _ _ _ _ | exact macP_len _ _ | exact zd_length | rfl) (by first | assumption | exact shaP_len _ | exact sgn_len _ _ _ _ | exact macP_len _ _ | exact zd_length | rfl)]))) (by first | exact sgL_one _ _ _ _ | exact hd_one _ _ _ | exact dg_one _) (by first | exact sgL_len (by first | assumption | exact shaP_len _ | exact sgn_len _ _ _ _ | exact macP_len _ _ | exact zd_length | rfl) (by first | assumption | exact shaP_len _ | exact sgn_len _ _ _ _ | exact macP_len _ _ | exact zd_length | rfl) (by first | assumption | exact shaP_len _ | exact sgn_len _ _ _ _ | exact macP_len _ _ | exact zd_length | rfl) | (rw [sgL_len (by first | assumption | exact shaP_len _ | exact sgn_len _ _ _ _ | exact macP_len _ _ | exact zd_length | rfl) (by first | assumption | exact shaP_len _ | exact sgn_len _ _ _ _ | exact macP_len _ _ | exact zd_length | rfl) (by first | assumption | exact shaP_len _ | exact sgn_len _ _ _ _ | exact macP_len _ _ | exact zd_length | rfl), sgL_len (by first | assumption | exact shaP_len _ | exact sgn_len _ _ _ _ | exact macP_len _ _ | exact zd_length | rfl) (by first | assumption | exact shaP_len _ | exact sgn_len _ _ _ _ | exact macP_len _ _ | exact zd_length | rfl) (by first | assumption | exact shaP_len _ | exact sgn_len _ _ _ _ | exact macP_len _ _ | exact zd_length | rfl)])) ?_
  refine L_v rfl rfl rfl (V_assign rfl rfl) ?_
  refine L_nil ?_
  change J _ _ _ _
  refine J_ret ?_
  change Kret _ _ _ Exit.ret _
  refine ret2 rfl rfl (RV_c 1 rfl rfl Tryd.underlying32 rfl (szd sz32v (by first | exact sgL_len (by first | assumption | exact shaP_len _ | exact sgn_len _ _ _ _ | exact macP_len _ _ | exact zd_length | rfl) (by first | assumption | exact shaP_len _ | exact sgn_len _ _ _ _ | exact macP_len _ _ | exact zd_length | rfl) (by first | assumption | exact shaP_len _ | exact sgn_len _ _ _ _ | exact macP_len _ _ | exact zd_length | rfl) | (rw [sgL_len (by first | assumption | exact shaP_len _ | exact sgn_len _ _ _ _ | exact macP_len _ _ | exact zd_length | rfl) (by first | assumption | exact shaP_len _ | exact sgn_len _ _ _ _ | exact macP_len _ _ | exact zd_length | rfl) (by first | assumption | exact shaP_len _ | exact sgn_len _ _ _ _ | exact macP_len _ _ | exact zd_length | rfl), sgL_len (by first | assumption | exact shaP_len _ | exact sgn_len _ _ _ _ | exact macP_len _ _ | exact zd_length | rfl) (by first | assumption | exact shaP_len _ | exact sgn_len _ _ _ _ | exact macP_len _ _ | exact zd_length | rfl) (by first | assumption | exact shaP_len _ | exact sgn_len _ _ _ _ | exact macP_len _ _ | exact zd_length | rfl)])))) (RV_t rfl) ?_
  exact fun w' h => ⟨rfl, h.fr⟩

set_option maxHeartbeats 1000000 in
theorem rsign_ok (s : ByteArray) (er : Int) (r p : List Int) (w : World) (hr : r.length = 32) (hp : p.length = 32) (hrb : Byt r) (hpb : Byt p) (hk : okK s = true) (he : okE er = true) (hR : TabK KT 0 w)  :
    Calls Tryd.prog 48 #[.string s, .agg (hdL er r p).toArray] w fun e w' => e = .returned (.tuple #[.agg (sgL er r p (sgn s er r p)).toArray, .int .i64 0]) ∧ Fr [] w w' := by
  have h01 : 1 ≤ er ∧ er ≤ 200 := of_decide_eq_true he
  obtain ⟨h0, h1⟩ := h01
  have hgl := grp_len er
  have hks : 1 ≤ s.size ∧ s.size ≤ 64 := of_decide_eq_true hk
  refine calls_of (args := [.string s, .agg (hdL er r p).toArray]) ([]) ([]) ([]) Tryd.func48 rfl rfl (okW0 _ _ _ _) ?_
  refine J_seq ?_
  refine J_region ?_
  refine L_box rfl rfl rfl rfl rfl (fun b0 => ?_)
  refine L_alloc rfl rfl rfl rfl z32v (fun b1 => ?_)
  refine L_v rfl rfl rfl (V_assign rfl rfl) ?_
  refine L_nil ?_
  change J _ _ _ _
  refine J_seq ?_
  refine J_region ?_
  refine L_v rfl rfl rfl (V_loadW 0 rfl rfl rfl Tryd.underlying30 rfl (szd sz30v (by first | exact hdL_len (by first | assumption | exact shaP_len _ | exact sgn_len _ _ _ _ | exact macP_len _ _ | exact zd_length | rfl) (by first | assumption | exact shaP_len _ | exact sgn_len _ _ _ _ | exact macP_len _ _ | exact zd_length | rfl) | (rw [hdL_len (by first | assumption | exact shaP_len _ | exact sgn_len _ _ _ _ | exact macP_len _ _ | exact zd_length | rfl) (by first | assumption | exact shaP_len _ | exact sgn_len _ _ _ _ | exact macP_len _ _ | exact zd_length | rfl), hdL_len (by first | assumption | exact shaP_len _ | exact sgn_len _ _ _ _ | exact macP_len _ _ | exact zd_length | rfl) (by first | assumption | exact shaP_len _ | exact sgn_len _ _ _ _ | exact macP_len _ _ | exact zd_length | rfl)])))) ?_
  refine L_callB rfl rfl rfl rfl rfl rfl tx74v (fun w1 hw => rhb_ok er r p w1 hr hp he) (fun g1 r1 c1 hl1 hc1 hr1 => ?_)
  refine L_v rfl rfl rfl (V_move rfl rfl) ?_
  refine L_v rfl rfl rfl (V_extract rfl rfl rfl) ?_
  refine L_v rfl rfl rfl (V_extract rfl rfl rfl) ?_
  refine L_v rfl rfl rfl (V_assign rfl rfl) ?_
  refine L_v rfl rfl rfl (V_assign rfl rfl) ?_
  refine L_nil ?_
  change J _ _ _ _
  refine J_seq ?_
  refine J_seq ?_
  refine J_region ?_
  refine L_v rfl rfl rfl (V_move rfl rfl) ?_
  refine L_callV rfl rfl rfl rfl rfl rfl tx75v (fun w1 _ => key_b hk w1) ?_
  refine L_v rfl rfl rfl (V_not rfl rfl rfl) ?_
  refine L_v rfl rfl rfl (V_move rfl rfl) ?_
  refine L_wv rfl rfl rfl rfl rfl rfl (V_move rfl rfl) ?_
  refine L_wv rfl rfl rfl rfl rfl rfl (V_neq rfl rfl rfl (by first | exact decide_eq_true (by omega) | exact decide_eq_false (by omega) | rfl)) ?_
  first | refine L_v rfl rfl rfl (V_pickT rfl rfl rfl) ?_ | refine L_v rfl rfl rfl (V_pickF rfl rfl rfl) ?_
  refine L_nil ?_
  change J _ _ _ _
  refine J_false rfl ?_
  refine J_skip ?_
  change J _ _ _ _
  refine J_seq ?_
  refine J_regionO (.pure 0 (.pure 1 (.pure 3 (.one 2 (.one 4 (.pure 5 (.one 6 (.pure 7 (.nil))))))))) ([(b0, row 30 (hdL er r p))]) _ (Pk.of_sub (List.Sublist.cons_cons _ (List.nil_sublist _))) (fun f hf => hf) rfl rfl (by kernel_rfl) ?_
  refine LO_v rfl rfl rfl rfl (V_loadW 0 rfl rfl rfl Tryd.underlying30 rfl (szd sz30v (by first | exact hdL_len (by first | assumption | exact shaP_len _ | exact sgn_len _ _ _ _ | exact macP_len _ _ | exact zd_length | rfl) (by first | assumption | exact shaP_len _ | exact sgn_len _ _ _ _ | exact macP_len _ _ | exact zd_length | rfl) | (rw [hdL_len (by first | assumption | exact shaP_len _ | exact sgn_len _ _ _ _ | exact macP_len _ _ | exact zd_length | rfl) (by first | assumption | exact shaP_len _ | exact sgn_len _ _ _ _ | exact macP_len _ _ | exact zd_length | rfl), hdL_len (by first | assumption | exact shaP_len _ | exact sgn_len _ _ _ _ | exact macP_len _ _ | exact zd_length | rfl) (by first | assumption | exact shaP_len _ | exact sgn_len _ _ _ _ | exact macP_len _ _ | exact zd_length | rfl)])))) ?_
  refine LO_v rfl rfl rfl rfl (V_move rfl rfl) ?_
  refine LO_v rfl rfl rfl rfl (V_move rfl rfl) ?_
  refine LO_s rfl rfl rfl (S_toBytesC rfl rfl rfl rfl Tryd.underlying9 Tryd.underlying57 Tryd.underlying5 (fun b4 c4 r4 z4 hc4 hr4 => ⟨(Pk.app (Pk.of_sub (List.Sublist.cons_cons _ (List.nil_sublist _))) _), fun f hf => hf, ?_⟩)) 
  refine LO_callV rfl rfl rfl rfl rfl rfl rfl rfl tx76v (fun w1 hw => rmac_w (bs s) (some ⟨b4, 0, none⟩) s.size c4 (lay er r p) (some ⟨g1, 0, none⟩) (0 + (grp er).length + 32 + 32) c1 w1 (SlB.of_own hw (i := 3) rfl (bs_length _) c4) (bs_byt s) (SlB.of_own hw (i := 2) (l := lay er r p) rfl hl1 c1) (lay_byt (by omega) h1 hrb hpb) (TabK.later hw (by simp) hR) (by rw [bs_length]; omega) (by rw [lay_len hr hp]; omega)) (Pk.app (Pk.of_sub (List.Sublist.cons_cons _ (List.nil_sublist _))) _) (fun f hf => hf) ?_
  refine LO_v rfl rfl rfl rfl (V_build (vs := [(0, .agg (hdL er r p).toArray), (1, .agg (dg (sgn s er r p)).toArray)]) rfl rfl (bdS hr hp (sgn_len _ _ _ _))) ?_
  refine LO_s rfl rfl rfl (S_storeW 1 rfl rfl rfl rfl rfl (szd sz32v (by first | exact sgL_len (by first | assumption | exact shaP_len _ | exact sgn_len _ _ _ _ | exact macP_len _ _ | exact zd_length | rfl) (by first | assumption | exact shaP_len _ | exact sgn_len _ _ _ _ | exact macP_len _ _ | exact zd_length | rfl) (by first | assumption | exact shaP_len _ | exact sgn_len _ _ _ _ | exact macP_len _ _ | exact zd_length | rfl) | (rw [sgL_len (by first | assumption | exact shaP_len _ | exact sgn_len _ _ _ _ | exact macP_len _ _ | exact zd_length | rfl) (by first | assumption | exact shaP_len _ | exact sgn_len _ _ _ _ | exact macP_len _ _ | exact zd_length | rfl) (by first | assumption | exact shaP_len _ | exact sgn_len _ _ _ _ | exact macP_len _ _ | exact zd_length | rfl), sgL_len (by first | assumption | exact shaP_len _ | exact sgn_len _ _ _ _ | exact macP_len _ _ | exact zd_length | rfl) (by first | assumption | exact shaP_len _ | exact sgn_len _ _ _ _ | exact macP_len _ _ | exact zd_length | rfl) (by first | assumption | exact shaP_len _ | exact sgn_len _ _ _ _ | exact macP_len _ _ | exact zd_length | rfl)]))) (by first | exact sgL_one _ _ _ _ | exact hd_one _ _ _ | exact dg_one _) (by first | exact sgL_len (by first | assumption | exact shaP_len _ | exact sgn_len _ _ _ _ | exact macP_len _ _ | exact zd_length | rfl) (by first | assumption | exact shaP_len _ | exact sgn_len _ _ _ _ | exact macP_len _ _ | exact zd_length | rfl) (by first | assumption | exact shaP_len _ | exact sgn_len _ _ _ _ | exact macP_len _ _ | exact zd_length | rfl) | (rw [sgL_len (by first | assumption | exact shaP_len _ | exact sgn_len _ _ _ _ | exact macP_len _ _ | exact zd_length | rfl) (by first | assumption | exact shaP_len _ | exact sgn_len _ _ _ _ | exact macP_len _ _ | exact zd_length | rfl) (by first | assumption | exact shaP_len _ | exact sgn_len _ _ _ _ | exact macP_len _ _ | exact zd_length | rfl), sgL_len (by first | assumption | exact shaP_len _ | exact sgn_len _ _ _ _ | exact macP_len _ _ | exact zd_length | rfl) (by first | assumption | exact shaP_len _ | exact sgn_len _ _ _ _ | exact macP_len _ _ | exact zd_length | rfl) (by first | assumption | exact shaP_len _ | exact sgn_len _ _ _ _ | exact macP_len _ _ | exact zd_length | rfl)])) ⟨(Pk.of_sub (List.Sublist.cons_cons _ (List.nil_sublist _))), fun f hf => hf, ?_⟩) 
  refine LO_v rfl rfl rfl rfl (V_assign rfl rfl) ?_
  refine LO_nil ?_
  change J _ _ _ _
  refine J_ret ?_
  change Kret _ _ _ Exit.ret _
  refine ret2 rfl rfl (RV_c 1 rfl rfl Tryd.underlying32 rfl (szd sz32v (by first | exact sgL_len (by first | assumption | exact shaP_len _ | exact sgn_len _ _ _ _ | exact macP_len _ _ | exact zd_length | rfl) (by first | assumption | exact shaP_len _ | exact sgn_len _ _ _ _ | exact macP_len _ _ | exact zd_length | rfl) (by first | assumption | exact shaP_len _ | exact sgn_len _ _ _ _ | exact macP_len _ _ | exact zd_length | rfl) | (rw [sgL_len (by first | assumption | exact shaP_len _ | exact sgn_len _ _ _ _ | exact macP_len _ _ | exact zd_length | rfl) (by first | assumption | exact shaP_len _ | exact sgn_len _ _ _ _ | exact macP_len _ _ | exact zd_length | rfl) (by first | assumption | exact shaP_len _ | exact sgn_len _ _ _ _ | exact macP_len _ _ | exact zd_length | rfl), sgL_len (by first | assumption | exact shaP_len _ | exact sgn_len _ _ _ _ | exact macP_len _ _ | exact zd_length | rfl) (by first | assumption | exact shaP_len _ | exact sgn_len _ _ _ _ | exact macP_len _ _ | exact zd_length | rfl) (by first | assumption | exact shaP_len _ | exact sgn_len _ _ _ _ | exact macP_len _ _ | exact zd_length | rfl)])))) (RV_t rfl) ?_
  exact fun w' h => ⟨rfl, h.fr⟩

theorem rsign_noE (s : ByteArray) (er : Int) (r p : List Int) (w : World) (hr : r.length = 32) (hp : p.length = 32) (hrb : Byt r) (hpb : Byt p) (he : okE er = false)  :
    Calls Tryd.prog 48 #[.string s, .agg (hdL er r p).toArray] w fun e w' => e = .returned (.tuple #[.agg (sgL 0 zd zd zd).toArray, .int .i64 80]) ∧ Fr [] w w' := by
  have h := of_decide_eq_false he
  refine calls_of (args := [.string s, .agg (hdL er r p).toArray]) ([]) ([]) ([]) Tryd.func48 rfl rfl (okW0 _ _ _ _) ?_
  refine J_seq ?_
  refine J_region ?_
  refine L_box rfl rfl rfl rfl rfl (fun b0 => ?_)
  refine L_alloc rfl rfl rfl rfl z32v (fun b1 => ?_)
  refine L_v rfl rfl rfl (V_assign rfl rfl) ?_
  refine L_nil ?_
  change J _ _ _ _
  refine J_seq ?_
  refine J_region ?_
  refine L_v rfl rfl rfl (V_loadW 0 rfl rfl rfl Tryd.underlying30 rfl (szd sz30v (by first | exact hdL_len (by first | assumption | exact shaP_len _ | exact sgn_len _ _ _ _ | exact macP_len _ _ | exact zd_length | rfl) (by first | assumption | exact shaP_len _ | exact sgn_len _ _ _ _ | exact macP_len _ _ | exact zd_length | rfl) | (rw [hdL_len (by first | assumption | exact shaP_len _ | exact sgn_len _ _ _ _ | exact macP_len _ _ | exact zd_length | rfl) (by first | assumption | exact shaP_len _ | exact sgn_len _ _ _ _ | exact macP_len _ _ | exact zd_length | rfl), hdL_len (by first | assumption | exact shaP_len _ | exact sgn_len _ _ _ _ | exact macP_len _ _ | exact zd_length | rfl) (by first | assumption | exact shaP_len _ | exact sgn_len _ _ _ _ | exact macP_len _ _ | exact zd_length | rfl)])))) ?_
  refine L_callV rfl rfl rfl rfl rfl rfl tx74v (fun w1 _ => rhb_no er r p w1 hr hp he) ?_
  refine L_v rfl rfl rfl (V_move rfl rfl) ?_
  refine L_v rfl rfl rfl (V_extract rfl rfl rfl) ?_
  refine L_v rfl rfl rfl (V_extract rfl rfl rfl) ?_
  refine L_v rfl rfl rfl (V_assign rfl rfl) ?_
  refine L_v rfl rfl rfl (V_assign rfl rfl) ?_
  refine L_nil ?_
  change J _ _ _ _
  refine J_seq ?_
  refine J_seq ?_
  refine J_region ?_
  refine L_v rfl rfl rfl (V_move rfl rfl) ?_
  refine L_callV rfl rfl rfl rfl rfl rfl tx75v (fun w1 _ => key_b rfl w1) ?_
  refine L_v rfl rfl rfl (V_not rfl rfl rfl) ?_
  refine L_v rfl rfl rfl (V_move rfl rfl) ?_
  refine L_split 16 rfl (fun h1 => ?_) (fun h1 => ?_)
  ·
    first | (have h1 := of_decide_eq_true h1) | (have h1 := of_decide_eq_false h1) | skip
    refine L_skip rfl rfl rfl rfl rfl rfl rfl ?_
    refine L_skip rfl rfl rfl rfl rfl rfl rfl ?_
    first | refine L_v rfl rfl rfl (V_pickT rfl rfl rfl) ?_ | refine L_v rfl rfl rfl (V_pickF rfl rfl rfl) ?_
    refine L_nil ?_
    change J _ _ _ _
    refine J_true rfl ?_
    refine J_seq ?_
    refine J_region ?_
    refine L_v rfl rfl rfl (V_build (vs := []) rfl rfl bdS0) ?_
    refine L_storeW 1 rfl rfl rfl rfl rfl rfl (szd sz32v (by first | exact sgL_len (by first | assumption | exact shaP_len _ | exact sgn_len _ _ _ _ | exact macP_len _ _ | exact zd_length | rfl) (by first | assumption | exact shaP_len _ | exact sgn_len _ _ _ _ | exact macP_len _ _ | exact zd_length | rfl) (by first | assumption | exact shaP_len _ | exact sgn_len _ _ _ _ | exact macP_len _ _ | exact zd_length | rfl) | (rw [sgL_len (by first | assumption | exact shaP_len _ | exact sgn_len _ _ _ _ | exact macP_len _ _ | exact zd_length | rfl) (by first | assumption | exact shaP_len _ | exact sgn_len _ _ _ _ | exact macP_len _ _ | exact zd_length | rfl) (by first | assumption | exact shaP_len _ | exact sgn_len _ _ _ _ | exact macP_len _ _ | exact zd_length | rfl), sgL_len (by first | assumption | exact shaP_len _ | exact sgn_len _ _ _ _ | exact macP_len _ _ | exact zd_length | rfl) (by first | assumption | exact shaP_len _ | exact sgn_len _ _ _ _ | exact macP_len _ _ | exact zd_length | rfl) (by first | assumption | exact shaP_len _ | exact sgn_len _ _ _ _ | exact macP_len _ _ | exact zd_length | rfl)]))) (by first | exact sgL_one _ _ _ _ | exact hd_one _ _ _ | exact dg_one _) (by first | exact sgL_len (by first | assumption | exact shaP_len _ | exact sgn_len _ _ _ _ | exact macP_len _ _ | exact zd_length | rfl) (by first | assumption | exact shaP_len _ | exact sgn_len _ _ _ _ | exact macP_len _ _ | exact zd_length | rfl) (by first | assumption | exact shaP_len _ | exact sgn_len _ _ _ _ | exact macP_len _ _ | exact zd_length | rfl) | (rw [sgL_len (by first | assumption | exact shaP_len _ | exact sgn_len _ _ _ _ | exact macP_len _ _ | exact zd_length | rfl) (by first | assumption | exact shaP_len _ | exact sgn_len _ _ _ _ | exact macP_len _ _ | exact zd_length | rfl) (by first | assumption | exact shaP_len _ | exact sgn_len _ _ _ _ | exact macP_len _ _ | exact zd_length | rfl), sgL_len (by first | assumption | exact shaP_len _ | exact sgn_len _ _ _ _ | exact macP_len _ _ | exact zd_length | rfl) (by first | assumption | exact shaP_len _ | exact sgn_len _ _ _ _ | exact macP_len _ _ | exact zd_length | rfl) (by first | assumption | exact shaP_len _ | exact sgn_len _ _ _ _ | exact macP_len _ _ | exact zd_length | rfl)])) ?_
    refine L_v rfl rfl rfl (V_assign rfl rfl) ?_
    refine L_nil ?_
    change J _ _ _ _
    refine J_ret ?_
    change Kret _ _ _ Exit.ret _
    refine ret2 rfl rfl (RV_c 1 rfl rfl Tryd.underlying32 rfl (szd sz32v (by first | exact sgL_len (by first | assumption | exact shaP_len _ | exact sgn_len _ _ _ _ | exact macP_len _ _ | exact zd_length | rfl) (by first | assumption | exact shaP_len _ | exact sgn_len _ _ _ _ | exact macP_len _ _ | exact zd_length | rfl) (by first | assumption | exact shaP_len _ | exact sgn_len _ _ _ _ | exact macP_len _ _ | exact zd_length | rfl) | (rw [sgL_len (by first | assumption | exact shaP_len _ | exact sgn_len _ _ _ _ | exact macP_len _ _ | exact zd_length | rfl) (by first | assumption | exact shaP_len _ | exact sgn_len _ _ _ _ | exact macP_len _ _ | exact zd_length | rfl) (by first | assumption | exact shaP_len _ | exact sgn_len _ _ _ _ | exact macP_len _ _ | exact zd_length | rfl), sgL_len (by first | assumption | exact shaP_len _ | exact sgn_len _ _ _ _ | exact macP_len _ _ | exact zd_length | rfl) (by first | assumption | exact shaP_len _ | exact sgn_len _ _ _ _ | exact macP_len _ _ | exact zd_length | rfl) (by first | assumption | exact shaP_len _ | exact sgn_len _ _ _ _ | exact macP_len _ _ | exact zd_length | rfl)])))) (RV_t rfl) ?_
    exact fun w' h => ⟨rfl, h.fr⟩
  ·
    first | (have h1 := of_decide_eq_true h1) | (have h1 := of_decide_eq_false h1) | skip
    refine L_wv rfl rfl rfl rfl rfl rfl (V_move rfl rfl) ?_
    refine L_wv rfl rfl rfl rfl rfl rfl (V_neq rfl rfl rfl (by first | exact decide_eq_true (by omega) | exact decide_eq_false (by omega) | rfl)) ?_
    first | refine L_v rfl rfl rfl (V_pickT rfl rfl rfl) ?_ | refine L_v rfl rfl rfl (V_pickF rfl rfl rfl) ?_
    refine L_nil ?_
    change J _ _ _ _
    refine J_true rfl ?_
    refine J_seq ?_
    refine J_region ?_
    refine L_v rfl rfl rfl (V_build (vs := []) rfl rfl bdS0) ?_
    refine L_storeW 1 rfl rfl rfl rfl rfl rfl (szd sz32v (by first | exact sgL_len (by first | assumption | exact shaP_len _ | exact sgn_len _ _ _ _ | exact macP_len _ _ | exact zd_length | rfl) (by first | assumption | exact shaP_len _ | exact sgn_len _ _ _ _ | exact macP_len _ _ | exact zd_length | rfl) (by first | assumption | exact shaP_len _ | exact sgn_len _ _ _ _ | exact macP_len _ _ | exact zd_length | rfl) | (rw [sgL_len (by first | assumption | exact shaP_len _ | exact sgn_len _ _ _ _ | exact macP_len _ _ | exact zd_length | rfl) (by first | assumption | exact shaP_len _ | exact sgn_len _ _ _ _ | exact macP_len _ _ | exact zd_length | rfl) (by first | assumption | exact shaP_len _ | exact sgn_len _ _ _ _ | exact macP_len _ _ | exact zd_length | rfl), sgL_len (by first | assumption | exact shaP_len _ | exact sgn_len _ _ _ _ | exact macP_len _ _ | exact zd_length | rfl) (by first | assumption | exact shaP_len _ | exact sgn_len _ _ _ _ | exact macP_len _ _ | exact zd_length | rfl) (by first | assumption | exact shaP_len _ | exact sgn_len _ _ _ _ | exact macP_len _ _ | exact zd_length | rfl)]))) (by first | exact sgL_one _ _ _ _ | exact hd_one _ _ _ | exact dg_one _) (by first | exact sgL_len (by first | assumption | exact shaP_len _ | exact sgn_len _ _ _ _ | exact macP_len _ _ | exact zd_length | rfl) (by first | assumption | exact shaP_len _ | exact sgn_len _ _ _ _ | exact macP_len _ _ | exact zd_length | rfl) (by first | assumption | exact shaP_len _ | exact sgn_len _ _ _ _ | exact macP_len _ _ | exact zd_length | rfl) | (rw [sgL_len (by first | assumption | exact shaP_len _ | exact sgn_len _ _ _ _ | exact macP_len _ _ | exact zd_length | rfl) (by first | assumption | exact shaP_len _ | exact sgn_len _ _ _ _ | exact macP_len _ _ | exact zd_length | rfl) (by first | assumption | exact shaP_len _ | exact sgn_len _ _ _ _ | exact macP_len _ _ | exact zd_length | rfl), sgL_len (by first | assumption | exact shaP_len _ | exact sgn_len _ _ _ _ | exact macP_len _ _ | exact zd_length | rfl) (by first | assumption | exact shaP_len _ | exact sgn_len _ _ _ _ | exact macP_len _ _ | exact zd_length | rfl) (by first | assumption | exact shaP_len _ | exact sgn_len _ _ _ _ | exact macP_len _ _ | exact zd_length | rfl)])) ?_
    refine L_v rfl rfl rfl (V_assign rfl rfl) ?_
    refine L_nil ?_
    change J _ _ _ _
    refine J_ret ?_
    change Kret _ _ _ Exit.ret _
    refine ret2 rfl rfl (RV_c 1 rfl rfl Tryd.underlying32 rfl (szd sz32v (by first | exact sgL_len (by first | assumption | exact shaP_len _ | exact sgn_len _ _ _ _ | exact macP_len _ _ | exact zd_length | rfl) (by first | assumption | exact shaP_len _ | exact sgn_len _ _ _ _ | exact macP_len _ _ | exact zd_length | rfl) (by first | assumption | exact shaP_len _ | exact sgn_len _ _ _ _ | exact macP_len _ _ | exact zd_length | rfl) | (rw [sgL_len (by first | assumption | exact shaP_len _ | exact sgn_len _ _ _ _ | exact macP_len _ _ | exact zd_length | rfl) (by first | assumption | exact shaP_len _ | exact sgn_len _ _ _ _ | exact macP_len _ _ | exact zd_length | rfl) (by first | assumption | exact shaP_len _ | exact sgn_len _ _ _ _ | exact macP_len _ _ | exact zd_length | rfl), sgL_len (by first | assumption | exact shaP_len _ | exact sgn_len _ _ _ _ | exact macP_len _ _ | exact zd_length | rfl) (by first | assumption | exact shaP_len _ | exact sgn_len _ _ _ _ | exact macP_len _ _ | exact zd_length | rfl) (by first | assumption | exact shaP_len _ | exact sgn_len _ _ _ _ | exact macP_len _ _ | exact zd_length | rfl)])))) (RV_t rfl) ?_
    exact fun w' h => ⟨rfl, h.fr⟩

theorem rsign_noK (s : ByteArray) (er : Int) (r p : List Int) (w : World) (hr : r.length = 32) (hp : p.length = 32) (hrb : Byt r) (hpb : Byt p) (hk : okK s = false) (he : okE er = true)  :
    Calls Tryd.prog 48 #[.string s, .agg (hdL er r p).toArray] w fun e w' => e = .returned (.tuple #[.agg (sgL 0 zd zd zd).toArray, .int .i64 80]) ∧ Fr [] w w' := by
  have h01 : 1 ≤ er ∧ er ≤ 200 := of_decide_eq_true he
  obtain ⟨h0, h1⟩ := h01
  refine calls_of (args := [.string s, .agg (hdL er r p).toArray]) ([]) ([]) ([]) Tryd.func48 rfl rfl (okW0 _ _ _ _) ?_
  refine J_seq ?_
  refine J_region ?_
  refine L_box rfl rfl rfl rfl rfl (fun b0 => ?_)
  refine L_alloc rfl rfl rfl rfl z32v (fun b1 => ?_)
  refine L_v rfl rfl rfl (V_assign rfl rfl) ?_
  refine L_nil ?_
  change J _ _ _ _
  refine J_seq ?_
  refine J_region ?_
  refine L_v rfl rfl rfl (V_loadW 0 rfl rfl rfl Tryd.underlying30 rfl (szd sz30v (by first | exact hdL_len (by first | assumption | exact shaP_len _ | exact sgn_len _ _ _ _ | exact macP_len _ _ | exact zd_length | rfl) (by first | assumption | exact shaP_len _ | exact sgn_len _ _ _ _ | exact macP_len _ _ | exact zd_length | rfl) | (rw [hdL_len (by first | assumption | exact shaP_len _ | exact sgn_len _ _ _ _ | exact macP_len _ _ | exact zd_length | rfl) (by first | assumption | exact shaP_len _ | exact sgn_len _ _ _ _ | exact macP_len _ _ | exact zd_length | rfl), hdL_len (by first | assumption | exact shaP_len _ | exact sgn_len _ _ _ _ | exact macP_len _ _ | exact zd_length | rfl) (by first | assumption | exact shaP_len _ | exact sgn_len _ _ _ _ | exact macP_len _ _ | exact zd_length | rfl)])))) ?_
  refine L_callB rfl rfl rfl rfl rfl rfl tx74v (fun w1 hw => rhb_ok er r p w1 hr hp he) (fun g1 r1 c1 hl1 hc1 hr1 => ?_)
  refine L_v rfl rfl rfl (V_move rfl rfl) ?_
  refine L_v rfl rfl rfl (V_extract rfl rfl rfl) ?_
  refine L_v rfl rfl rfl (V_extract rfl rfl rfl) ?_
  refine L_v rfl rfl rfl (V_assign rfl rfl) ?_
  refine L_v rfl rfl rfl (V_assign rfl rfl) ?_
  refine L_nil ?_
  change J _ _ _ _
  refine J_seq ?_
  refine J_seq ?_
  refine J_region ?_
  refine L_v rfl rfl rfl (V_move rfl rfl) ?_
  refine L_callV rfl rfl rfl rfl rfl rfl tx75v (fun w1 _ => key_b hk w1) ?_
  refine L_v rfl rfl rfl (V_not rfl rfl rfl) ?_
  refine L_v rfl rfl rfl (V_move rfl rfl) ?_
  refine L_skip rfl rfl rfl rfl rfl rfl rfl ?_
  refine L_skip rfl rfl rfl rfl rfl rfl rfl ?_
  first | refine L_v rfl rfl rfl (V_pickT rfl rfl rfl) ?_ | refine L_v rfl rfl rfl (V_pickF rfl rfl rfl) ?_
  refine L_nil ?_
  change J _ _ _ _
  refine J_true rfl ?_
  refine J_seq ?_
  refine J_region ?_
  refine L_v rfl rfl rfl (V_build (vs := []) rfl rfl bdS0) ?_
  refine L_storeW 1 rfl rfl rfl rfl rfl rfl (szd sz32v (by first | exact sgL_len (by first | assumption | exact shaP_len _ | exact sgn_len _ _ _ _ | exact macP_len _ _ | exact zd_length | rfl) (by first | assumption | exact shaP_len _ | exact sgn_len _ _ _ _ | exact macP_len _ _ | exact zd_length | rfl) (by first | assumption | exact shaP_len _ | exact sgn_len _ _ _ _ | exact macP_len _ _ | exact zd_length | rfl) | (rw [sgL_len (by first | assumption | exact shaP_len _ | exact sgn_len _ _ _ _ | exact macP_len _ _ | exact zd_length | rfl) (by first | assumption | exact shaP_len _ | exact sgn_len _ _ _ _ | exact macP_len _ _ | exact zd_length | rfl) (by first | assumption | exact shaP_len _ | exact sgn_len _ _ _ _ | exact macP_len _ _ | exact zd_length | rfl), sgL_len (by first | assumption | exact shaP_len _ | exact sgn_len _ _ _ _ | exact macP_len _ _ | exact zd_length | rfl) (by first | assumption | exact shaP_len _ | exact sgn_len _ _ _ _ | exact macP_len _ _ | exact zd_length | rfl) (by first | assumption | exact shaP_len _ | exact sgn_len _ _ _ _ | exact macP_len _ _ | exact zd_length | rfl)]))) (by first | exact sgL_one _ _ _ _ | exact hd_one _ _ _ | exact dg_one _) (by first | exact sgL_len (by first | assumption | exact shaP_len _ | exact sgn_len _ _ _ _ | exact macP_len _ _ | exact zd_length | rfl) (by first | assumption | exact shaP_len _ | exact sgn_len _ _ _ _ | exact macP_len _ _ | exact zd_length | rfl) (by first | assumption | exact shaP_len _ | exact sgn_len _ _ _ _ | exact macP_len _ _ | exact zd_length | rfl) | (rw [sgL_len (by first | assumption | exact shaP_len _ | exact sgn_len _ _ _ _ | exact macP_len _ _ | exact zd_length | rfl) (by first | assumption | exact shaP_len _ | exact sgn_len _ _ _ _ | exact macP_len _ _ | exact zd_length | rfl) (by first | assumption | exact shaP_len _ | exact sgn_len _ _ _ _ | exact macP_len _ _ | exact zd_length | rfl), sgL_len (by first | assumption | exact shaP_len _ | exact sgn_len _ _ _ _ | exact macP_len _ _ | exact zd_length | rfl) (by first | assumption | exact shaP_len _ | exact sgn_len _ _ _ _ | exact macP_len _ _ | exact zd_length | rfl) (by first | assumption | exact shaP_len _ | exact sgn_len _ _ _ _ | exact macP_len _ _ | exact zd_length | rfl)])) ?_
  refine L_v rfl rfl rfl (V_assign rfl rfl) ?_
  refine L_nil ?_
  change J _ _ _ _
  refine J_ret ?_
  change Kret _ _ _ Exit.ret _
  refine ret2 rfl rfl (RV_c 1 rfl rfl Tryd.underlying32 rfl (szd sz32v (by first | exact sgL_len (by first | assumption | exact shaP_len _ | exact sgn_len _ _ _ _ | exact macP_len _ _ | exact zd_length | rfl) (by first | assumption | exact shaP_len _ | exact sgn_len _ _ _ _ | exact macP_len _ _ | exact zd_length | rfl) (by first | assumption | exact shaP_len _ | exact sgn_len _ _ _ _ | exact macP_len _ _ | exact zd_length | rfl) | (rw [sgL_len (by first | assumption | exact shaP_len _ | exact sgn_len _ _ _ _ | exact macP_len _ _ | exact zd_length | rfl) (by first | assumption | exact shaP_len _ | exact sgn_len _ _ _ _ | exact macP_len _ _ | exact zd_length | rfl) (by first | assumption | exact shaP_len _ | exact sgn_len _ _ _ _ | exact macP_len _ _ | exact zd_length | rfl), sgL_len (by first | assumption | exact shaP_len _ | exact sgn_len _ _ _ _ | exact macP_len _ _ | exact zd_length | rfl) (by first | assumption | exact shaP_len _ | exact sgn_len _ _ _ _ | exact macP_len _ _ | exact zd_length | rfl) (by first | assumption | exact shaP_len _ | exact sgn_len _ _ _ _ | exact macP_len _ _ | exact zd_length | rfl)])))) (RV_t rfl) ?_
  exact fun w' h => ⟨rfl, h.fr⟩

theorem chk_ok (s : ByteArray) (er : Int) (r p gg : List Int) (w : World) (hr : r.length = 32) (hp : p.length = 32) (hg : gg.length = 32) (hrb : Byt r) (hpb : Byt p) (hgb : Byt gg) (hk : okK s = true) (he : okE er = true) (hK : TabK KT 1 w)  :
    Calls Tryd.prog 17 #[.string s, .agg (sgL er r p gg).toArray] w fun e w' => e = .returned (.int .i64 (chk s er r p gg)) ∧ Fr [] w w' := by
  refine calls_of (args := [.string s, .agg (sgL er r p gg).toArray]) ([]) ([]) ([]) Tryd.func17 rfl rfl (okW0 _ _ _ _) ?_
  refine J_seq ?_
  refine J_region ?_
  refine L_box rfl rfl rfl rfl rfl (fun b0 => ?_)
  refine L_v rfl rfl rfl (V_assign rfl rfl) ?_
  refine L_nil ?_
  change J _ _ _ _
  refine J_seq ?_
  refine J_region ?_
  refine L_v rfl rfl rfl (V_move rfl rfl) ?_
  refine L_v rfl rfl rfl (V_fieldAddr rfl rfl Tryd.underlying32 rfl sz30v rfl) ?_
  refine L_v rfl rfl rfl (V_loadP 0 (vs := hdL er r p) rfl rfl rfl Tryd.underlying30 rfl (szd sz30v (by first | exact hdL_len (by first | assumption | exact shaP_len _ | exact sgn_len _ _ _ _ | exact macP_len _ _ | exact zd_length | rfl) (by first | assumption | exact shaP_len _ | exact sgn_len _ _ _ _ | exact macP_len _ _ | exact zd_length | rfl) | (rw [hdL_len (by first | assumption | exact shaP_len _ | exact sgn_len _ _ _ _ | exact macP_len _ _ | exact zd_length | rfl) (by first | assumption | exact shaP_len _ | exact sgn_len _ _ _ _ | exact macP_len _ _ | exact zd_length | rfl), hdL_len (by first | assumption | exact shaP_len _ | exact sgn_len _ _ _ _ | exact macP_len _ _ | exact zd_length | rfl) (by first | assumption | exact shaP_len _ | exact sgn_len _ _ _ _ | exact macP_len _ _ | exact zd_length | rfl)]))) (sg_hd hr hp)) ?_
  refine L_callV rfl rfl rfl rfl rfl rfl tx16v (fun w1 hw => sign_ok s er r p w1 hr hp hrb hpb hk he (TabK.later hw (by simp) hK)) ?_
  refine L_v rfl rfl rfl (V_move rfl rfl) ?_
  refine L_v rfl rfl rfl (V_extract rfl rfl rfl) ?_
  refine L_v rfl rfl rfl (V_extract rfl rfl rfl) ?_
  refine L_alloc rfl rfl rfl rfl z32v (fun b1 => ?_)
  refine L_storeW 1 rfl rfl rfl rfl rfl rfl (szd sz32v (by first | exact sgL_len (by first | assumption | exact shaP_len _ | exact sgn_len _ _ _ _ | exact macP_len _ _ | exact zd_length | rfl) (by first | assumption | exact shaP_len _ | exact sgn_len _ _ _ _ | exact macP_len _ _ | exact zd_length | rfl) (by first | assumption | exact shaP_len _ | exact sgn_len _ _ _ _ | exact macP_len _ _ | exact zd_length | rfl) | (rw [sgL_len (by first | assumption | exact shaP_len _ | exact sgn_len _ _ _ _ | exact macP_len _ _ | exact zd_length | rfl) (by first | assumption | exact shaP_len _ | exact sgn_len _ _ _ _ | exact macP_len _ _ | exact zd_length | rfl) (by first | assumption | exact shaP_len _ | exact sgn_len _ _ _ _ | exact macP_len _ _ | exact zd_length | rfl), sgL_len (by first | assumption | exact shaP_len _ | exact sgn_len _ _ _ _ | exact macP_len _ _ | exact zd_length | rfl) (by first | assumption | exact shaP_len _ | exact sgn_len _ _ _ _ | exact macP_len _ _ | exact zd_length | rfl) (by first | assumption | exact shaP_len _ | exact sgn_len _ _ _ _ | exact macP_len _ _ | exact zd_length | rfl)]))) (by first | exact sgL_one _ _ _ _ | exact hd_one _ _ _ | exact dg_one _) (by first | exact sgL_len (by first | assumption | exact shaP_len _ | exact sgn_len _ _ _ _ | exact macP_len _ _ | exact zd_length | rfl) (by first | assumption | exact shaP_len _ | exact sgn_len _ _ _ _ | exact macP_len _ _ | exact zd_length | rfl) (by first | assumption | exact shaP_len _ | exact sgn_len _ _ _ _ | exact macP_len _ _ | exact zd_length | rfl) | (rw [sgL_len (by first | assumption | exact shaP_len _ | exact sgn_len _ _ _ _ | exact macP_len _ _ | exact zd_length | rfl) (by first | assumption | exact shaP_len _ | exact sgn_len _ _ _ _ | exact macP_len _ _ | exact zd_length | rfl) (by first | assumption | exact shaP_len _ | exact sgn_len _ _ _ _ | exact macP_len _ _ | exact zd_length | rfl), sgL_len (by first | assumption | exact shaP_len _ | exact sgn_len _ _ _ _ | exact macP_len _ _ | exact zd_length | rfl) (by first | assumption | exact shaP_len _ | exact sgn_len _ _ _ _ | exact macP_len _ _ | exact zd_length | rfl) (by first | assumption | exact shaP_len _ | exact sgn_len _ _ _ _ | exact macP_len _ _ | exact zd_length | rfl)])) ?_
  refine L_v rfl rfl rfl (V_assign rfl rfl) ?_
  refine L_nil ?_
  change J _ _ _ _
  refine J_seq ?_
  refine J_block ?_
  refine J_seq ?_
  refine J_region ?_
  refine L_v rfl rfl rfl (V_move rfl rfl) ?_
  refine L_v rfl rfl rfl (V_neq rfl rfl rfl (by first | exact decide_eq_true (by omega) | exact decide_eq_false (by omega) | rfl)) ?_
  refine L_v rfl rfl rfl (V_assign rfl rfl) ?_
  refine L_nil ?_
  change J _ _ _ _
  refine J_false rfl ?_
  refine J_seq ?_
  refine J_region ?_
  refine L_v rfl rfl rfl (V_fieldAddr rfl rfl Tryd.underlying32 rfl sz26v rfl) ?_
  refine L_v rfl rfl rfl (V_loadP 1 (vs := dg (sgn s er r p)) rfl rfl rfl Tryd.underlying26 rfl (szd sz26v (by first | (rw [dg_length]; exact (by first | assumption | exact shaP_len _ | exact sgn_len _ _ _ _ | exact macP_len _ _ | exact zd_length | rfl)) | exact (rfl : (dg zd).length = (dg zd).length) | (rw [dg_length, dg_length, show zd.length = 32 from rfl]; exact Eq.symm (by first | assumption | exact shaP_len _ | exact sgn_len _ _ _ _ | exact macP_len _ _ | exact zd_length | rfl)))) (sg_sig hr hp)) ?_
  refine L_v rfl rfl rfl (V_fieldAddr rfl rfl Tryd.underlying32 rfl sz26v rfl) ?_
  refine L_v rfl rfl rfl (V_loadP 0 (vs := dg gg) rfl rfl rfl Tryd.underlying26 rfl (szd sz26v (by first | (rw [dg_length]; exact (by first | assumption | exact shaP_len _ | exact sgn_len _ _ _ _ | exact macP_len _ _ | exact zd_length | rfl)) | exact (rfl : (dg zd).length = (dg zd).length) | (rw [dg_length, dg_length, show zd.length = 32 from rfl]; exact Eq.symm (by first | assumption | exact shaP_len _ | exact sgn_len _ _ _ _ | exact macP_len _ _ | exact zd_length | rfl)))) (sg_sig hr hp)) ?_
  refine L_callV rfl rfl rfl rfl rfl rfl tx43v (fun w1 _ => dsame_w _ _ w1 (sgn_len _ _ _ _) hg (sgn_byt _ _ _ _) hgb) ?_
  refine L_v rfl rfl rfl (V_not rfl rfl rfl) ?_
  refine L_v rfl rfl rfl (V_assign rfl rfl) ?_
  refine L_nil ?_
  change J _ _ _ _
  refine J_cond rfl (fun h1 => ?_) (fun h1 => ?_)
  ·
    first | (have h1 := of_decide_eq_true h1) | (have h1 := of_decide_eq_false h1) | skip
    refine J_seq ?_
    refine J_region ?_
    refine L_v rfl rfl rfl (V_assign rfl rfl) ?_
    refine L_nil ?_
    change J _ _ _ _
    refine J_ret ?_
    change Kret _ _ _ Exit.ret _
    refine ret1 rfl rfl (RV_t rfl) ?_
    exact fun w' h => ⟨by rw [show chk s er r p gg = 81 from by unfold chk; rw [if_pos ⟨hk, he⟩, if_neg (by have := nbT h1; exact of_decide_eq_false this)]]; first | done | rfl, h.fr⟩
  ·
    first | (have h1 := of_decide_eq_true h1) | (have h1 := of_decide_eq_false h1) | skip
    refine J_skip ?_
    change J _ _ _ _
    refine J_seq ?_
    refine J_region ?_
    refine L_v rfl rfl rfl (V_assign rfl rfl) ?_
    refine L_nil ?_
    change J _ _ _ _
    refine J_ret ?_
    change Kret _ _ _ Exit.ret _
    refine ret1 rfl rfl (RV_t rfl) ?_
    exact fun w' h => ⟨by rw [show chk s er r p gg = 0 from by unfold chk; rw [if_pos ⟨hk, he⟩, if_pos (by have := nbF h1; exact of_decide_eq_true this)]]; first | done | rfl, h.fr⟩

theorem chk_noE (s : ByteArray) (er : Int) (r p gg : List Int) (w : World) (hr : r.length = 32) (hp : p.length = 32) (hg : gg.length = 32) (hrb : Byt r) (hpb : Byt p) (hgb : Byt gg) (he : okE er = false) :
    Calls Tryd.prog 17 #[.string s, .agg (sgL er r p gg).toArray] w fun e w' => e = .returned (.int .i64 (chk s er r p gg)) ∧ Fr [] w w' := by
  refine calls_of (args := [.string s, .agg (sgL er r p gg).toArray]) ([]) ([]) ([]) Tryd.func17 rfl rfl (okW0 _ _ _ _) ?_
  refine J_seq ?_
  refine J_region ?_
  refine L_box rfl rfl rfl rfl rfl (fun b0 => ?_)
  refine L_v rfl rfl rfl (V_assign rfl rfl) ?_
  refine L_nil ?_
  change J _ _ _ _
  refine J_seq ?_
  refine J_region ?_
  refine L_v rfl rfl rfl (V_move rfl rfl) ?_
  refine L_v rfl rfl rfl (V_fieldAddr rfl rfl Tryd.underlying32 rfl sz30v rfl) ?_
  refine L_v rfl rfl rfl (V_loadP 0 (vs := hdL er r p) rfl rfl rfl Tryd.underlying30 rfl (szd sz30v (by first | exact hdL_len (by first | assumption | exact shaP_len _ | exact sgn_len _ _ _ _ | exact macP_len _ _ | exact zd_length | rfl) (by first | assumption | exact shaP_len _ | exact sgn_len _ _ _ _ | exact macP_len _ _ | exact zd_length | rfl) | (rw [hdL_len (by first | assumption | exact shaP_len _ | exact sgn_len _ _ _ _ | exact macP_len _ _ | exact zd_length | rfl) (by first | assumption | exact shaP_len _ | exact sgn_len _ _ _ _ | exact macP_len _ _ | exact zd_length | rfl), hdL_len (by first | assumption | exact shaP_len _ | exact sgn_len _ _ _ _ | exact macP_len _ _ | exact zd_length | rfl) (by first | assumption | exact shaP_len _ | exact sgn_len _ _ _ _ | exact macP_len _ _ | exact zd_length | rfl)]))) (sg_hd hr hp)) ?_
  refine L_callV rfl rfl rfl rfl rfl rfl tx16v (fun w1 hw => sign_noE s er r p w1 hr hp hrb hpb he) ?_
  refine L_v rfl rfl rfl (V_move rfl rfl) ?_
  refine L_v rfl rfl rfl (V_extract rfl rfl rfl) ?_
  refine L_v rfl rfl rfl (V_extract rfl rfl rfl) ?_
  refine L_alloc rfl rfl rfl rfl z32v (fun b1 => ?_)
  refine L_storeW 1 rfl rfl rfl rfl rfl rfl (szd sz32v (by first | exact sgL_len (by first | assumption | exact shaP_len _ | exact sgn_len _ _ _ _ | exact macP_len _ _ | exact zd_length | rfl) (by first | assumption | exact shaP_len _ | exact sgn_len _ _ _ _ | exact macP_len _ _ | exact zd_length | rfl) (by first | assumption | exact shaP_len _ | exact sgn_len _ _ _ _ | exact macP_len _ _ | exact zd_length | rfl) | (rw [sgL_len (by first | assumption | exact shaP_len _ | exact sgn_len _ _ _ _ | exact macP_len _ _ | exact zd_length | rfl) (by first | assumption | exact shaP_len _ | exact sgn_len _ _ _ _ | exact macP_len _ _ | exact zd_length | rfl) (by first | assumption | exact shaP_len _ | exact sgn_len _ _ _ _ | exact macP_len _ _ | exact zd_length | rfl), sgL_len (by first | assumption | exact shaP_len _ | exact sgn_len _ _ _ _ | exact macP_len _ _ | exact zd_length | rfl) (by first | assumption | exact shaP_len _ | exact sgn_len _ _ _ _ | exact macP_len _ _ | exact zd_length | rfl) (by first | assumption | exact shaP_len _ | exact sgn_len _ _ _ _ | exact macP_len _ _ | exact zd_length | rfl)]))) (by first | exact sgL_one _ _ _ _ | exact hd_one _ _ _ | exact dg_one _) (by first | exact sgL_len (by first | assumption | exact shaP_len _ | exact sgn_len _ _ _ _ | exact macP_len _ _ | exact zd_length | rfl) (by first | assumption | exact shaP_len _ | exact sgn_len _ _ _ _ | exact macP_len _ _ | exact zd_length | rfl) (by first | assumption | exact shaP_len _ | exact sgn_len _ _ _ _ | exact macP_len _ _ | exact zd_length | rfl) | (rw [sgL_len (by first | assumption | exact shaP_len _ | exact sgn_len _ _ _ _ | exact macP_len _ _ | exact zd_length | rfl) (by first | assumption | exact shaP_len _ | exact sgn_len _ _ _ _ | exact macP_len _ _ | exact zd_length | rfl) (by first | assumption | exact shaP_len _ | exact sgn_len _ _ _ _ | exact macP_len _ _ | exact zd_length | rfl), sgL_len (by first | assumption | exact shaP_len _ | exact sgn_len _ _ _ _ | exact macP_len _ _ | exact zd_length | rfl) (by first | assumption | exact shaP_len _ | exact sgn_len _ _ _ _ | exact macP_len _ _ | exact zd_length | rfl) (by first | assumption | exact shaP_len _ | exact sgn_len _ _ _ _ | exact macP_len _ _ | exact zd_length | rfl)])) ?_
  refine L_v rfl rfl rfl (V_assign rfl rfl) ?_
  refine L_nil ?_
  change J _ _ _ _
  refine J_seq ?_
  refine J_block ?_
  refine J_seq ?_
  refine J_region ?_
  refine L_v rfl rfl rfl (V_move rfl rfl) ?_
  refine L_v rfl rfl rfl (V_neq rfl rfl rfl (by first | exact decide_eq_true (by omega) | exact decide_eq_false (by omega) | rfl)) ?_
  refine L_v rfl rfl rfl (V_assign rfl rfl) ?_
  refine L_nil ?_
  change J _ _ _ _
  refine J_true rfl ?_
  refine J_seq ?_
  refine J_region ?_
  refine L_v rfl rfl rfl (V_move rfl rfl) ?_
  refine L_v rfl rfl rfl (V_assign rfl rfl) ?_
  refine L_nil ?_
  change J _ _ _ _
  refine J_ret ?_
  change Kret _ _ _ Exit.ret _
  refine ret1 rfl rfl (RV_t rfl) ?_
  exact fun w' h => ⟨by rw [show chk s er r p gg = 80 from by unfold chk; rw [if_neg (fun h => by rw [he] at h; cases h.2)]]; first | done | rfl, h.fr⟩

theorem chk_noK (s : ByteArray) (er : Int) (r p gg : List Int) (w : World) (hr : r.length = 32) (hp : p.length = 32) (hg : gg.length = 32) (hrb : Byt r) (hpb : Byt p) (hgb : Byt gg) (hk : okK s = false) (he : okE er = true) :
    Calls Tryd.prog 17 #[.string s, .agg (sgL er r p gg).toArray] w fun e w' => e = .returned (.int .i64 (chk s er r p gg)) ∧ Fr [] w w' := by
  refine calls_of (args := [.string s, .agg (sgL er r p gg).toArray]) ([]) ([]) ([]) Tryd.func17 rfl rfl (okW0 _ _ _ _) ?_
  refine J_seq ?_
  refine J_region ?_
  refine L_box rfl rfl rfl rfl rfl (fun b0 => ?_)
  refine L_v rfl rfl rfl (V_assign rfl rfl) ?_
  refine L_nil ?_
  change J _ _ _ _
  refine J_seq ?_
  refine J_region ?_
  refine L_v rfl rfl rfl (V_move rfl rfl) ?_
  refine L_v rfl rfl rfl (V_fieldAddr rfl rfl Tryd.underlying32 rfl sz30v rfl) ?_
  refine L_v rfl rfl rfl (V_loadP 0 (vs := hdL er r p) rfl rfl rfl Tryd.underlying30 rfl (szd sz30v (by first | exact hdL_len (by first | assumption | exact shaP_len _ | exact sgn_len _ _ _ _ | exact macP_len _ _ | exact zd_length | rfl) (by first | assumption | exact shaP_len _ | exact sgn_len _ _ _ _ | exact macP_len _ _ | exact zd_length | rfl) | (rw [hdL_len (by first | assumption | exact shaP_len _ | exact sgn_len _ _ _ _ | exact macP_len _ _ | exact zd_length | rfl) (by first | assumption | exact shaP_len _ | exact sgn_len _ _ _ _ | exact macP_len _ _ | exact zd_length | rfl), hdL_len (by first | assumption | exact shaP_len _ | exact sgn_len _ _ _ _ | exact macP_len _ _ | exact zd_length | rfl) (by first | assumption | exact shaP_len _ | exact sgn_len _ _ _ _ | exact macP_len _ _ | exact zd_length | rfl)]))) (sg_hd hr hp)) ?_
  refine L_callV rfl rfl rfl rfl rfl rfl tx16v (fun w1 hw => sign_noK s er r p w1 hr hp hrb hpb hk he) ?_
  refine L_v rfl rfl rfl (V_move rfl rfl) ?_
  refine L_v rfl rfl rfl (V_extract rfl rfl rfl) ?_
  refine L_v rfl rfl rfl (V_extract rfl rfl rfl) ?_
  refine L_alloc rfl rfl rfl rfl z32v (fun b1 => ?_)
  refine L_storeW 1 rfl rfl rfl rfl rfl rfl (szd sz32v (by first | exact sgL_len (by first | assumption | exact shaP_len _ | exact sgn_len _ _ _ _ | exact macP_len _ _ | exact zd_length | rfl) (by first | assumption | exact shaP_len _ | exact sgn_len _ _ _ _ | exact macP_len _ _ | exact zd_length | rfl) (by first | assumption | exact shaP_len _ | exact sgn_len _ _ _ _ | exact macP_len _ _ | exact zd_length | rfl) | (rw [sgL_len (by first | assumption | exact shaP_len _ | exact sgn_len _ _ _ _ | exact macP_len _ _ | exact zd_length | rfl) (by first | assumption | exact shaP_len _ | exact sgn_len _ _ _ _ | exact macP_len _ _ | exact zd_length | rfl) (by first | assumption | exact shaP_len _ | exact sgn_len _ _ _ _ | exact macP_len _ _ | exact zd_length | rfl), sgL_len (by first | assumption | exact shaP_len _ | exact sgn_len _ _ _ _ | exact macP_len _ _ | exact zd_length | rfl) (by first | assumption | exact shaP_len _ | exact sgn_len _ _ _ _ | exact macP_len _ _ | exact zd_length | rfl) (by first | assumption | exact shaP_len _ | exact sgn_len _ _ _ _ | exact macP_len _ _ | exact zd_length | rfl)]))) (by first | exact sgL_one _ _ _ _ | exact hd_one _ _ _ | exact dg_one _) (by first | exact sgL_len (by first | assumption | exact shaP_len _ | exact sgn_len _ _ _ _ | exact macP_len _ _ | exact zd_length | rfl) (by first | assumption | exact shaP_len _ | exact sgn_len _ _ _ _ | exact macP_len _ _ | exact zd_length | rfl) (by first | assumption | exact shaP_len _ | exact sgn_len _ _ _ _ | exact macP_len _ _ | exact zd_length | rfl) | (rw [sgL_len (by first | assumption | exact shaP_len _ | exact sgn_len _ _ _ _ | exact macP_len _ _ | exact zd_length | rfl) (by first | assumption | exact shaP_len _ | exact sgn_len _ _ _ _ | exact macP_len _ _ | exact zd_length | rfl) (by first | assumption | exact shaP_len _ | exact sgn_len _ _ _ _ | exact macP_len _ _ | exact zd_length | rfl), sgL_len (by first | assumption | exact shaP_len _ | exact sgn_len _ _ _ _ | exact macP_len _ _ | exact zd_length | rfl) (by first | assumption | exact shaP_len _ | exact sgn_len _ _ _ _ | exact macP_len _ _ | exact zd_length | rfl) (by first | assumption | exact shaP_len _ | exact sgn_len _ _ _ _ | exact macP_len _ _ | exact zd_length | rfl)])) ?_
  refine L_v rfl rfl rfl (V_assign rfl rfl) ?_
  refine L_nil ?_
  change J _ _ _ _
  refine J_seq ?_
  refine J_block ?_
  refine J_seq ?_
  refine J_region ?_
  refine L_v rfl rfl rfl (V_move rfl rfl) ?_
  refine L_v rfl rfl rfl (V_neq rfl rfl rfl (by first | exact decide_eq_true (by omega) | exact decide_eq_false (by omega) | rfl)) ?_
  refine L_v rfl rfl rfl (V_assign rfl rfl) ?_
  refine L_nil ?_
  change J _ _ _ _
  refine J_true rfl ?_
  refine J_seq ?_
  refine J_region ?_
  refine L_v rfl rfl rfl (V_move rfl rfl) ?_
  refine L_v rfl rfl rfl (V_assign rfl rfl) ?_
  refine L_nil ?_
  change J _ _ _ _
  refine J_ret ?_
  change Kret _ _ _ Exit.ret _
  refine ret1 rfl rfl (RV_t rfl) ?_
  exact fun w' h => ⟨by rw [show chk s er r p gg = 80 from by unfold chk; rw [if_neg (fun h => by rw [hk] at h; cases h.1)]]; first | done | rfl, h.fr⟩

theorem chk_w (s : ByteArray) (er : Int) (r p gg : List Int) (w : World) (hr : r.length = 32) (hp : p.length = 32) (hg : gg.length = 32) (hrb : Byt r) (hpb : Byt p) (hgb : Byt gg) (hK : TabK KT 1 w) :
    Calls Tryd.prog 17 #[.string s, .agg (sgL er r p gg).toArray] w fun e w' => e = .returned (.int .i64 (chk s er r p gg)) ∧ Fr [] w w' := by
  cases he : okE er with
  | false => exact chk_noE s er r p gg w hr hp hg hrb hpb hgb he
  | true =>
    cases hk : okK s with
    | false => exact chk_noK s er r p gg w hr hp hg hrb hpb hgb hk he
    | true => exact chk_ok s er r p gg w hr hp hg hrb hpb hgb hk he hK

theorem rchk_ok (s : ByteArray) (er : Int) (r p gg : List Int) (w : World) (hr : r.length = 32) (hp : p.length = 32) (hg : gg.length = 32) (hrb : Byt r) (hpb : Byt p) (hgb : Byt gg) (hk : okK s = true) (he : okE er = true) (hR : TabK KT 0 w)  :
    Calls Tryd.prog 22 #[.string s, .agg (sgL er r p gg).toArray] w fun e w' => e = .returned (.int .i64 (chk s er r p gg)) ∧ Fr [] w w' := by
  refine calls_of (args := [.string s, .agg (sgL er r p gg).toArray]) ([]) ([]) ([]) Tryd.func22 rfl rfl (okW0 _ _ _ _) ?_
  refine J_seq ?_
  refine J_region ?_
  refine L_box rfl rfl rfl rfl rfl (fun b0 => ?_)
  refine L_v rfl rfl rfl (V_assign rfl rfl) ?_
  refine L_nil ?_
  change J _ _ _ _
  refine J_seq ?_
  refine J_region ?_
  refine L_v rfl rfl rfl (V_move rfl rfl) ?_
  refine L_v rfl rfl rfl (V_fieldAddr rfl rfl Tryd.underlying32 rfl sz30v rfl) ?_
  refine L_v rfl rfl rfl (V_loadP 0 (vs := hdL er r p) rfl rfl rfl Tryd.underlying30 rfl (szd sz30v (by first | exact hdL_len (by first | assumption | exact shaP_len _ | exact sgn_len _ _ _ _ | exact macP_len _ _ | exact zd_length | rfl) (by first | assumption | exact shaP_len _ | exact sgn_len _ _ _ _ | exact macP_len _ _ | exact zd_length | rfl) | (rw [hdL_len (by first | assumption | exact shaP_len _ | exact sgn_len _ _ _ _ | exact macP_len _ _ | exact zd_length | rfl) (by first | assumption | exact shaP_len _ | exact sgn_len _ _ _ _ | exact macP_len _ _ | exact zd_length | rfl), hdL_len (by first | assumption | exact shaP_len _ | exact sgn_len _ _ _ _ | exact macP_len _ _ | exact zd_length | rfl) (by first | assumption | exact shaP_len _ | exact sgn_len _ _ _ _ | exact macP_len _ _ | exact zd_length | rfl)]))) (sg_hd hr hp)) ?_
  refine L_callV rfl rfl rfl rfl rfl rfl tx48v (fun w1 hw => rsign_ok s er r p w1 hr hp hrb hpb hk he (TabK.later hw (by simp) hR)) ?_
  refine L_v rfl rfl rfl (V_move rfl rfl) ?_
  refine L_v rfl rfl rfl (V_extract rfl rfl rfl) ?_
  refine L_v rfl rfl rfl (V_extract rfl rfl rfl) ?_
  refine L_alloc rfl rfl rfl rfl z32v (fun b1 => ?_)
  refine L_storeW 1 rfl rfl rfl rfl rfl rfl (szd sz32v (by first | exact sgL_len (by first | assumption | exact shaP_len _ | exact sgn_len _ _ _ _ | exact macP_len _ _ | exact zd_length | rfl) (by first | assumption | exact shaP_len _ | exact sgn_len _ _ _ _ | exact macP_len _ _ | exact zd_length | rfl) (by first | assumption | exact shaP_len _ | exact sgn_len _ _ _ _ | exact macP_len _ _ | exact zd_length | rfl) | (rw [sgL_len (by first | assumption | exact shaP_len _ | exact sgn_len _ _ _ _ | exact macP_len _ _ | exact zd_length | rfl) (by first | assumption | exact shaP_len _ | exact sgn_len _ _ _ _ | exact macP_len _ _ | exact zd_length | rfl) (by first | assumption | exact shaP_len _ | exact sgn_len _ _ _ _ | exact macP_len _ _ | exact zd_length | rfl), sgL_len (by first | assumption | exact shaP_len _ | exact sgn_len _ _ _ _ | exact macP_len _ _ | exact zd_length | rfl) (by first | assumption | exact shaP_len _ | exact sgn_len _ _ _ _ | exact macP_len _ _ | exact zd_length | rfl) (by first | assumption | exact shaP_len _ | exact sgn_len _ _ _ _ | exact macP_len _ _ | exact zd_length | rfl)]))) (by first | exact sgL_one _ _ _ _ | exact hd_one _ _ _ | exact dg_one _) (by first | exact sgL_len (by first | assumption | exact shaP_len _ | exact sgn_len _ _ _ _ | exact macP_len _ _ | exact zd_length | rfl) (by first | assumption | exact shaP_len _ | exact sgn_len _ _ _ _ | exact macP_len _ _ | exact zd_length | rfl) (by first | assumption | exact shaP_len _ | exact sgn_len _ _ _ _ | exact macP_len _ _ | exact zd_length | rfl) | (rw [sgL_len (by first | assumption | exact shaP_len _ | exact sgn_len _ _ _ _ | exact macP_len _ _ | exact zd_length | rfl) (by first | assumption | exact shaP_len _ | exact sgn_len _ _ _ _ | exact macP_len _ _ | exact zd_length | rfl) (by first | assumption | exact shaP_len _ | exact sgn_len _ _ _ _ | exact macP_len _ _ | exact zd_length | rfl), sgL_len (by first | assumption | exact shaP_len _ | exact sgn_len _ _ _ _ | exact macP_len _ _ | exact zd_length | rfl) (by first | assumption | exact shaP_len _ | exact sgn_len _ _ _ _ | exact macP_len _ _ | exact zd_length | rfl) (by first | assumption | exact shaP_len _ | exact sgn_len _ _ _ _ | exact macP_len _ _ | exact zd_length | rfl)])) ?_
  refine L_v rfl rfl rfl (V_assign rfl rfl) ?_
  refine L_nil ?_
  change J _ _ _ _
  refine J_seq ?_
  refine J_seq ?_
  refine J_region ?_
  refine L_v rfl rfl rfl (V_move rfl rfl) ?_
  refine L_v rfl rfl rfl (V_neq rfl rfl rfl (by first | exact decide_eq_true (by omega) | exact decide_eq_false (by omega) | rfl)) ?_
  refine L_nil ?_
  change J _ _ _ _
  refine J_false rfl ?_
  refine J_skip ?_
  change J _ _ _ _
  refine J_seq ?_
  refine J_seq ?_
  refine J_region ?_
  refine L_v rfl rfl rfl (V_fieldAddr rfl rfl Tryd.underlying32 rfl sz26v rfl) ?_
  refine L_v rfl rfl rfl (V_loadP 1 (vs := dg (sgn s er r p)) rfl rfl rfl Tryd.underlying26 rfl (szd sz26v (by first | (rw [dg_length]; exact (by first | assumption | exact shaP_len _ | exact sgn_len _ _ _ _ | exact macP_len _ _ | exact zd_length | rfl)) | exact (rfl : (dg zd).length = (dg zd).length) | (rw [dg_length, dg_length, show zd.length = 32 from rfl]; exact Eq.symm (by first | assumption | exact shaP_len _ | exact sgn_len _ _ _ _ | exact macP_len _ _ | exact zd_length | rfl)))) (sg_sig hr hp)) ?_
  refine L_v rfl rfl rfl (V_fieldAddr rfl rfl Tryd.underlying32 rfl sz26v rfl) ?_
  refine L_v rfl rfl rfl (V_loadP 0 (vs := dg gg) rfl rfl rfl Tryd.underlying26 rfl (szd sz26v (by first | (rw [dg_length]; exact (by first | assumption | exact shaP_len _ | exact sgn_len _ _ _ _ | exact macP_len _ _ | exact zd_length | rfl)) | exact (rfl : (dg zd).length = (dg zd).length) | (rw [dg_length, dg_length, show zd.length = 32 from rfl]; exact Eq.symm (by first | assumption | exact shaP_len _ | exact sgn_len _ _ _ _ | exact macP_len _ _ | exact zd_length | rfl)))) (sg_sig hr hp)) ?_
  refine L_v rfl rfl rfl (V_neD rfl rfl rfl egD9 Tryd.underlying26 Tryd.underlying5 sz5v (sgn_len _ _ _ _) hg rfl) ?_
  refine L_nil ?_
  change J _ _ _ _
  refine J_cond rfl (fun h1 => ?_) (fun h1 => ?_)
  ·
    first | (have h1 := of_decide_eq_true h1) | (have h1 := of_decide_eq_false h1) | skip
    refine J_seq ?_
    refine J_region ?_
    refine L_v rfl rfl rfl (V_assign rfl rfl) ?_
    refine L_nil ?_
    change J _ _ _ _
    refine J_ret ?_
    change Kret _ _ _ Exit.ret _
    refine ret1 rfl rfl (RV_t rfl) ?_
    exact fun w' h => ⟨by rw [show chk s er r p gg = 81 from by unfold chk; rw [if_pos ⟨hk, he⟩, if_neg (h1)]]; first | done | rfl, h.fr⟩
  ·
    first | (have h1 := of_decide_eq_true h1) | (have h1 := of_decide_eq_false h1) | skip
    refine J_skip ?_
    change J _ _ _ _
    refine J_seq ?_
    refine J_region ?_
    refine L_v rfl rfl rfl (V_assign rfl rfl) ?_
    refine L_nil ?_
    change J _ _ _ _
    refine J_ret ?_
    change Kret _ _ _ Exit.ret _
    refine ret1 rfl rfl (RV_t rfl) ?_
    exact fun w' h => ⟨by rw [show chk s er r p gg = 0 from by unfold chk; rw [if_pos ⟨hk, he⟩, if_pos (Classical.not_not.1 h1)]]; first | done | rfl, h.fr⟩

theorem rchk_noE (s : ByteArray) (er : Int) (r p gg : List Int) (w : World) (hr : r.length = 32) (hp : p.length = 32) (hg : gg.length = 32) (hrb : Byt r) (hpb : Byt p) (hgb : Byt gg) (he : okE er = false) :
    Calls Tryd.prog 22 #[.string s, .agg (sgL er r p gg).toArray] w fun e w' => e = .returned (.int .i64 (chk s er r p gg)) ∧ Fr [] w w' := by
  refine calls_of (args := [.string s, .agg (sgL er r p gg).toArray]) ([]) ([]) ([]) Tryd.func22 rfl rfl (okW0 _ _ _ _) ?_
  refine J_seq ?_
  refine J_region ?_
  refine L_box rfl rfl rfl rfl rfl (fun b0 => ?_)
  refine L_v rfl rfl rfl (V_assign rfl rfl) ?_
  refine L_nil ?_
  change J _ _ _ _
  refine J_seq ?_
  refine J_region ?_
  refine L_v rfl rfl rfl (V_move rfl rfl) ?_
  refine L_v rfl rfl rfl (V_fieldAddr rfl rfl Tryd.underlying32 rfl sz30v rfl) ?_
  refine L_v rfl rfl rfl (V_loadP 0 (vs := hdL er r p) rfl rfl rfl Tryd.underlying30 rfl (szd sz30v (by first | exact hdL_len (by first | assumption | exact shaP_len _ | exact sgn_len _ _ _ _ | exact macP_len _ _ | exact zd_length | rfl) (by first | assumption | exact shaP_len _ | exact sgn_len _ _ _ _ | exact macP_len _ _ | exact zd_length | rfl) | (rw [hdL_len (by first | assumption | exact shaP_len _ | exact sgn_len _ _ _ _ | exact macP_len _ _ | exact zd_length | rfl) (by first | assumption | exact shaP_len _ | exact sgn_len _ _ _ _ | exact macP_len _ _ | exact zd_length | rfl), hdL_len (by first | assumption | exact shaP_len _ | exact sgn_len _ _ _ _ | exact macP_len _ _ | exact zd_length | rfl) (by first | assumption | exact shaP_len _ | exact sgn_len _ _ _ _ | exact macP_len _ _ | exact zd_length | rfl)]))) (sg_hd hr hp)) ?_
  refine L_callV rfl rfl rfl rfl rfl rfl tx48v (fun w1 hw => rsign_noE s er r p w1 hr hp hrb hpb he) ?_
  refine L_v rfl rfl rfl (V_move rfl rfl) ?_
  refine L_v rfl rfl rfl (V_extract rfl rfl rfl) ?_
  refine L_v rfl rfl rfl (V_extract rfl rfl rfl) ?_
  refine L_alloc rfl rfl rfl rfl z32v (fun b1 => ?_)
  refine L_storeW 1 rfl rfl rfl rfl rfl rfl (szd sz32v (by first | exact sgL_len (by first | assumption | exact shaP_len _ | exact sgn_len _ _ _ _ | exact macP_len _ _ | exact zd_length | rfl) (by first | assumption | exact shaP_len _ | exact sgn_len _ _ _ _ | exact macP_len _ _ | exact zd_length | rfl) (by first | assumption | exact shaP_len _ | exact sgn_len _ _ _ _ | exact macP_len _ _ | exact zd_length | rfl) | (rw [sgL_len (by first | assumption | exact shaP_len _ | exact sgn_len _ _ _ _ | exact macP_len _ _ | exact zd_length | rfl) (by first | assumption | exact shaP_len _ | exact sgn_len _ _ _ _ | exact macP_len _ _ | exact zd_length | rfl) (by first | assumption | exact shaP_len _ | exact sgn_len _ _ _ _ | exact macP_len _ _ | exact zd_length | rfl), sgL_len (by first | assumption | exact shaP_len _ | exact sgn_len _ _ _ _ | exact macP_len _ _ | exact zd_length | rfl) (by first | assumption | exact shaP_len _ | exact sgn_len _ _ _ _ | exact macP_len _ _ | exact zd_length | rfl) (by first | assumption | exact shaP_len _ | exact sgn_len _ _ _ _ | exact macP_len _ _ | exact zd_length | rfl)]))) (by first | exact sgL_one _ _ _ _ | exact hd_one _ _ _ | exact dg_one _) (by first | exact sgL_len (by first | assumption | exact shaP_len _ | exact sgn_len _ _ _ _ | exact macP_len _ _ | exact zd_length | rfl) (by first | assumption | exact shaP_len _ | exact sgn_len _ _ _ _ | exact macP_len _ _ | exact zd_length | rfl) (by first | assumption | exact shaP_len _ | exact sgn_len _ _ _ _ | exact macP_len _ _ | exact zd_length | rfl) | (rw [sgL_len (by first | assumption | exact shaP_len _ | exact sgn_len _ _ _ _ | exact macP_len _ _ | exact zd_length | rfl) (by first | assumption | exact shaP_len _ | exact sgn_len _ _ _ _ | exact macP_len _ _ | exact zd_length | rfl) (by first | assumption | exact shaP_len _ | exact sgn_len _ _ _ _ | exact macP_len _ _ | exact zd_length | rfl), sgL_len (by first | assumption | exact shaP_len _ | exact sgn_len _ _ _ _ | exact macP_len _ _ | exact zd_length | rfl) (by first | assumption | exact shaP_len _ | exact sgn_len _ _ _ _ | exact macP_len _ _ | exact zd_length | rfl) (by first | assumption | exact shaP_len _ | exact sgn_len _ _ _ _ | exact macP_len _ _ | exact zd_length | rfl)])) ?_
  refine L_v rfl rfl rfl (V_assign rfl rfl) ?_
  refine L_nil ?_
  change J _ _ _ _
  refine J_seq ?_
  refine J_seq ?_
  refine J_region ?_
  refine L_v rfl rfl rfl (V_move rfl rfl) ?_
  refine L_v rfl rfl rfl (V_neq rfl rfl rfl (by first | exact decide_eq_true (by omega) | exact decide_eq_false (by omega) | rfl)) ?_
  refine L_nil ?_
  change J _ _ _ _
  refine J_true rfl ?_
  refine J_seq ?_
  refine J_region ?_
  refine L_v rfl rfl rfl (V_move rfl rfl) ?_
  refine L_v rfl rfl rfl (V_assign rfl rfl) ?_
  refine L_nil ?_
  change J _ _ _ _
  refine J_ret ?_
  change Kret _ _ _ Exit.ret _
  refine ret1 rfl rfl (RV_t rfl) ?_
  exact fun w' h => ⟨by rw [show chk s er r p gg = 80 from by unfold chk; rw [if_neg (fun h => by rw [he] at h; cases h.2)]]; first | done | rfl, h.fr⟩

theorem rchk_noK (s : ByteArray) (er : Int) (r p gg : List Int) (w : World) (hr : r.length = 32) (hp : p.length = 32) (hg : gg.length = 32) (hrb : Byt r) (hpb : Byt p) (hgb : Byt gg) (hk : okK s = false) (he : okE er = true) :
    Calls Tryd.prog 22 #[.string s, .agg (sgL er r p gg).toArray] w fun e w' => e = .returned (.int .i64 (chk s er r p gg)) ∧ Fr [] w w' := by
  refine calls_of (args := [.string s, .agg (sgL er r p gg).toArray]) ([]) ([]) ([]) Tryd.func22 rfl rfl (okW0 _ _ _ _) ?_
  refine J_seq ?_
  refine J_region ?_
  refine L_box rfl rfl rfl rfl rfl (fun b0 => ?_)
  refine L_v rfl rfl rfl (V_assign rfl rfl) ?_
  refine L_nil ?_
  change J _ _ _ _
  refine J_seq ?_
  refine J_region ?_
  refine L_v rfl rfl rfl (V_move rfl rfl) ?_
  refine L_v rfl rfl rfl (V_fieldAddr rfl rfl Tryd.underlying32 rfl sz30v rfl) ?_
  refine L_v rfl rfl rfl (V_loadP 0 (vs := hdL er r p) rfl rfl rfl Tryd.underlying30 rfl (szd sz30v (by first | exact hdL_len (by first | assumption | exact shaP_len _ | exact sgn_len _ _ _ _ | exact macP_len _ _ | exact zd_length | rfl) (by first | assumption | exact shaP_len _ | exact sgn_len _ _ _ _ | exact macP_len _ _ | exact zd_length | rfl) | (rw [hdL_len (by first | assumption | exact shaP_len _ | exact sgn_len _ _ _ _ | exact macP_len _ _ | exact zd_length | rfl) (by first | assumption | exact shaP_len _ | exact sgn_len _ _ _ _ | exact macP_len _ _ | exact zd_length | rfl), hdL_len (by first | assumption | exact shaP_len _ | exact sgn_len _ _ _ _ | exact macP_len _ _ | exact zd_length | rfl) (by first | assumption | exact shaP_len _ | exact sgn_len _ _ _ _ | exact macP_len _ _ | exact zd_length | rfl)]))) (sg_hd hr hp)) ?_
  refine L_callV rfl rfl rfl rfl rfl rfl tx48v (fun w1 hw => rsign_noK s er r p w1 hr hp hrb hpb hk he) ?_
  refine L_v rfl rfl rfl (V_move rfl rfl) ?_
  refine L_v rfl rfl rfl (V_extract rfl rfl rfl) ?_
  refine L_v rfl rfl rfl (V_extract rfl rfl rfl) ?_
  refine L_alloc rfl rfl rfl rfl z32v (fun b1 => ?_)
  refine L_storeW 1 rfl rfl rfl rfl rfl rfl (szd sz32v (by first | exact sgL_len (by first | assumption | exact shaP_len _ | exact sgn_len _ _ _ _ | exact macP_len _ _ | exact zd_length | rfl) (by first | assumption | exact shaP_len _ | exact sgn_len _ _ _ _ | exact macP_len _ _ | exact zd_length | rfl) (by first | assumption | exact shaP_len _ | exact sgn_len _ _ _ _ | exact macP_len _ _ | exact zd_length | rfl) | (rw [sgL_len (by first | assumption | exact shaP_len _ | exact sgn_len _ _ _ _ | exact macP_len _ _ | exact zd_length | rfl) (by first | assumption | exact shaP_len _ | exact sgn_len _ _ _ _ | exact macP_len _ _ | exact zd_length | rfl) (by first | assumption | exact shaP_len _ | exact sgn_len _ _ _ _ | exact macP_len _ _ | exact zd_length | rfl), sgL_len (by first | assumption | exact shaP_len _ | exact sgn_len _ _ _ _ | exact macP_len _ _ | exact zd_length | rfl) (by first | assumption | exact shaP_len _ | exact sgn_len _ _ _ _ | exact macP_len _ _ | exact zd_length | rfl) (by first | assumption | exact shaP_len _ | exact sgn_len _ _ _ _ | exact macP_len _ _ | exact zd_length | rfl)]))) (by first | exact sgL_one _ _ _ _ | exact hd_one _ _ _ | exact dg_one _) (by first | exact sgL_len (by first | assumption | exact shaP_len _ | exact sgn_len _ _ _ _ | exact macP_len _ _ | exact zd_length | rfl) (by first | assumption | exact shaP_len _ | exact sgn_len _ _ _ _ | exact macP_len _ _ | exact zd_length | rfl) (by first | assumption | exact shaP_len _ | exact sgn_len _ _ _ _ | exact macP_len _ _ | exact zd_length | rfl) | (rw [sgL_len (by first | assumption | exact shaP_len _ | exact sgn_len _ _ _ _ | exact macP_len _ _ | exact zd_length | rfl) (by first | assumption | exact shaP_len _ | exact sgn_len _ _ _ _ | exact macP_len _ _ | exact zd_length | rfl) (by first | assumption | exact shaP_len _ | exact sgn_len _ _ _ _ | exact macP_len _ _ | exact zd_length | rfl), sgL_len (by first | assumption | exact shaP_len _ | exact sgn_len _ _ _ _ | exact macP_len _ _ | exact zd_length | rfl) (by first | assumption | exact shaP_len _ | exact sgn_len _ _ _ _ | exact macP_len _ _ | exact zd_length | rfl) (by first | assumption | exact shaP_len _ | exact sgn_len _ _ _ _ | exact macP_len _ _ | exact zd_length | rfl)])) ?_
  refine L_v rfl rfl rfl (V_assign rfl rfl) ?_
  refine L_nil ?_
  change J _ _ _ _
  refine J_seq ?_
  refine J_seq ?_
  refine J_region ?_
  refine L_v rfl rfl rfl (V_move rfl rfl) ?_
  refine L_v rfl rfl rfl (V_neq rfl rfl rfl (by first | exact decide_eq_true (by omega) | exact decide_eq_false (by omega) | rfl)) ?_
  refine L_nil ?_
  change J _ _ _ _
  refine J_true rfl ?_
  refine J_seq ?_
  refine J_region ?_
  refine L_v rfl rfl rfl (V_move rfl rfl) ?_
  refine L_v rfl rfl rfl (V_assign rfl rfl) ?_
  refine L_nil ?_
  change J _ _ _ _
  refine J_ret ?_
  change Kret _ _ _ Exit.ret _
  refine ret1 rfl rfl (RV_t rfl) ?_
  exact fun w' h => ⟨by rw [show chk s er r p gg = 80 from by unfold chk; rw [if_neg (fun h => by rw [hk] at h; cases h.1)]]; first | done | rfl, h.fr⟩

theorem rchk_w (s : ByteArray) (er : Int) (r p gg : List Int) (w : World) (hr : r.length = 32) (hp : p.length = 32) (hg : gg.length = 32) (hrb : Byt r) (hpb : Byt p) (hgb : Byt gg) (hR : TabK KT 0 w) :
    Calls Tryd.prog 22 #[.string s, .agg (sgL er r p gg).toArray] w fun e w' => e = .returned (.int .i64 (chk s er r p gg)) ∧ Fr [] w w' := by
  cases he : okE er with
  | false => exact rchk_noE s er r p gg w hr hp hg hrb hpb hgb he
  | true =>
    cases hk : okK s with
    | false => exact rchk_noK s er r p gg w hr hp hg hrb hpb hgb hk he
    | true => exact rchk_ok s er r p gg w hr hp hg hrb hpb hgb hk he hR

end Go.Proofs.YtfdmjjhgdbpfeaaDoor

/- What the functions of layer 7 come to. -/
set_option linter.unusedVariables false
set_option linter.unusedSimpArgs false
set_option maxRecDepth 100000
namespace Go.Proofs.YtfdmjjhgdbpfeaaDoor
open Go.Sx
theorem bdV0 (w : World) : (Instr.build 79 ([] : List (Nat × Value)).toArray).run Tryd.prog w = .ok (.agg (vc v0).toArray) w := by kernel_rfl
theorem str0 {s : ByteArray} : s = ⟨#[]⟩ ↔ s.size = 0 := by
  constructor
  · rintro rfl; rfl
  · intro h
    apply ByteArray.ext
    exact Array.eq_empty_of_size_eq_zero h
theorem eqE (s : ByteArray) : decide (s = ⟨#[]⟩) = decide (s.size = 0) := decide_eq_decide.2 str0
theorem neE (s : ByteArray) : decide (s ≠ ⟨#[]⟩) = decide (s.size ≠ 0) := decide_eq_decide.2 (not_congr str0)
theorem elv : ElemOf Tryd.prog 79 3 32 (.agg (vc v0).toArray) := elem_of (by kernel_rfl) rfl
theorem vc_one (v : Ver) : ∀ u ∈ vc v, u.oneCell' = true := by
  intro u hu
  simp only [vc, List.mem_cons, List.not_mem_nil, or_false] at hu
  rcases hu with rfl | rfl | rfl <;> rfl
theorem sz3ver : (Tryd.prog.info? 3).map (·.size) = some 1 := by kernel_rfl
theorem sz9ver : (Tryd.prog.info? 9).map (·.size) = some 1 := by kernel_rfl
theorem sz77ver : (Tryd.prog.info? 77).map (·.size) = some 1 := by kernel_rfl
theorem sz79ver : (Tryd.prog.info? 79).map (·.size) = some 3 := by kernel_rfl
theorem z79ver : (Tryd.prog.info? 79).bind (·.zero) = some (.agg (vc v0).toArray) := by kernel_rfl

theorem open_w (v : Ver) (w : World) :
    Calls Tryd.prog 46 #[.agg (vc v).toArray] w fun e w' => e = .returned (.bool (openV v)) ∧ Fr [] w w' := by
  refine calls_of (args := [.agg (vc v).toArray]) ([]) ([]) ([]) Tryd.func46 rfl rfl (okW0 _ _ _ _) ?_
  refine J_seq ?_
  refine J_region ?_
  refine L_box rfl rfl rfl rfl rfl (fun b0 => ?_)
  refine L_v rfl rfl rfl (V_assign rfl rfl) ?_
  refine L_nil ?_
  change J _ _ _ _
  refine J_seq ?_
  refine J_region ?_
  refine L_v rfl rfl rfl (V_fieldAddr rfl rfl Tryd.underlying79 rfl sz77ver rfl) ?_
  refine L_v rfl rfl rfl (V_load1 0 rfl rfl rfl Tryd.underlying77 rfl (by first | rfl | exact dg_get (by omega) (by omega))) ?_
  refine L_v rfl rfl rfl (V_eql rfl rfl rfl (by first | exact decide_eq_true (by omega) | exact decide_eq_false (by omega) | rfl)) ?_
  refine L_v rfl rfl rfl (V_move rfl rfl) ?_
  refine L_split 6 rfl (fun h1 => ?_) (fun h1 => ?_)
  ·
    first | (have h1 := of_decide_eq_true h1) | (have h1 := of_decide_eq_false h1) | skip
    refine L_skip rfl rfl rfl rfl rfl rfl rfl ?_
    refine L_skip rfl rfl rfl rfl rfl rfl rfl ?_
    refine L_skip rfl rfl rfl rfl rfl rfl rfl ?_
    first | refine L_v rfl rfl rfl (V_pickT rfl rfl rfl) ?_ | refine L_v rfl rfl rfl (V_pickF rfl rfl rfl) ?_
    refine L_v rfl rfl rfl (V_assign rfl rfl) ?_
    refine L_nil ?_
    change J _ _ _ _
    refine J_ret ?_
    change Kret _ _ _ Exit.ret _
    refine ret1 rfl rfl (RV_t rfl) ?_
    exact fun w' h => ⟨congrArg (fun b => Ending.returned (.bool b)) ((decide_eq_true (.inl h1)).symm), h.fr⟩
  ·
    first | (have h1 := of_decide_eq_true h1) | (have h1 := of_decide_eq_false h1) | skip
    refine L_wv rfl rfl rfl rfl rfl rfl (V_fieldAddr rfl rfl Tryd.underlying79 rfl sz77ver rfl) ?_
    refine L_wv rfl rfl rfl rfl rfl rfl (V_load1 0 rfl rfl rfl Tryd.underlying77 rfl (by first | rfl | exact dg_get (by omega) (by omega))) ?_
    refine L_wv rfl rfl rfl rfl rfl rfl (V_eql rfl rfl rfl (by first | exact decide_eq_true (by omega) | exact decide_eq_false (by omega) | rfl)) ?_
    first | refine L_v rfl rfl rfl (V_pickT rfl rfl rfl) ?_ | refine L_v rfl rfl rfl (V_pickF rfl rfl rfl) ?_
    refine L_v rfl rfl rfl (V_assign rfl rfl) ?_
    refine L_nil ?_
    change J _ _ _ _
    refine J_ret ?_
    change Kret _ _ _ Exit.ret _
    refine ret1 rfl rfl (RV_t rfl) ?_
    exact fun w' h => ⟨congrArg (fun b => Ending.returned (.bool b)) (by unfold openV; exact decide_eq_decide.2 ⟨fun h => .inr h, fun h => h.elim (fun h2 => absurd h2 h1) id⟩), h.fr⟩

theorem follows_w (x y : Int) (w : World) :
    Calls Tryd.prog 50 #[.int .i64 x, .int .i64 y] w fun e w' => e = .returned (.bool (decide (x = 0 ∨ x = 3) == decide (y = 1) && decide (y = 1 ∨ y = 2 ∨ y = 3))) ∧ Fr [] w w' := by
  refine calls_of (args := [.int .i64 x, .int .i64 y]) ([]) ([]) ([]) Tryd.func50 rfl rfl (okW0 _ _ _ _) ?_
  refine J_seq ?_
  refine J_region ?_
  refine L_v rfl rfl rfl (V_assign rfl rfl) ?_
  refine L_nil ?_
  change J _ _ _ _
  refine J_seq ?_
  refine J_seq ?_
  refine J_region ?_
  refine L_v rfl rfl rfl (V_move rfl rfl) ?_
  refine L_v rfl rfl rfl (V_eql rfl rfl rfl (by first | exact decide_eq_true (by omega) | exact decide_eq_false (by omega) | rfl)) ?_
  refine L_v rfl rfl rfl (V_move rfl rfl) ?_
  refine L_split 7 rfl (fun h1 => ?_) (fun h1 => ?_)
  ·
    first | (have h1 := of_decide_eq_true h1) | (have h1 := of_decide_eq_false h1) | skip
    refine L_skip rfl rfl rfl rfl rfl rfl rfl ?_
    refine L_skip rfl rfl rfl rfl rfl rfl rfl ?_
    first | refine L_v rfl rfl rfl (V_pickT rfl rfl rfl) ?_ | refine L_v rfl rfl rfl (V_pickF rfl rfl rfl) ?_
    refine L_nil ?_
    change J _ _ _ _
    refine J_true rfl ?_
    refine J_seq ?_
    refine J_region ?_
    refine L_v rfl rfl rfl (V_move rfl rfl) ?_
    refine L_v rfl rfl rfl (V_eql rfl rfl rfl (by first | exact decide_eq_true (by omega) | exact decide_eq_false (by omega) | rfl)) ?_
    refine L_v rfl rfl rfl (V_assign rfl rfl) ?_
    refine L_nil ?_
    change J _ _ _ _
    refine J_ret ?_
    change Kret _ _ _ Exit.ret _
    refine ret1 rfl rfl (RV_t rfl) ?_
    exact fun w' h => ⟨congrArg (fun b => Ending.returned (.bool b)) (by have : x = 0 := h1; by_cases h : y = 1 <;> simp [this, h]), h.fr⟩
  ·
    first | (have h1 := of_decide_eq_true h1) | (have h1 := of_decide_eq_false h1) | skip
    refine L_wv rfl rfl rfl rfl rfl rfl (V_move rfl rfl) ?_
    refine L_wv rfl rfl rfl rfl rfl rfl (V_eql rfl rfl rfl (by first | exact decide_eq_true (by omega) | exact decide_eq_false (by omega) | rfl)) ?_
    first | refine L_v rfl rfl rfl (V_pickT rfl rfl rfl) ?_ | refine L_v rfl rfl rfl (V_pickF rfl rfl rfl) ?_
    refine L_nil ?_
    change J _ _ _ _
    refine J_cond rfl (fun h2 => ?_) (fun h2 => ?_)
    ·
      first | (have h2 := of_decide_eq_true h2) | (have h2 := of_decide_eq_false h2) | skip
      refine J_seq ?_
      refine J_region ?_
      refine L_v rfl rfl rfl (V_move rfl rfl) ?_
      refine L_v rfl rfl rfl (V_eql rfl rfl rfl (by first | exact decide_eq_true (by omega) | exact decide_eq_false (by omega) | rfl)) ?_
      refine L_v rfl rfl rfl (V_assign rfl rfl) ?_
      refine L_nil ?_
      change J _ _ _ _
      refine J_ret ?_
      change Kret _ _ _ Exit.ret _
      refine ret1 rfl rfl (RV_t rfl) ?_
      exact fun w' h => ⟨congrArg (fun b => Ending.returned (.bool b)) (by by_cases h : y = 1 <;> simp [*]), h.fr⟩
    ·
      first | (have h2 := of_decide_eq_true h2) | (have h2 := of_decide_eq_false h2) | skip
      refine J_skip ?_
      change J _ _ _ _
      refine J_seq ?_
      refine J_region ?_
      refine L_v rfl rfl rfl (V_move rfl rfl) ?_
      refine L_v rfl rfl rfl (V_eql rfl rfl rfl (by first | exact decide_eq_true (by omega) | exact decide_eq_false (by omega) | rfl)) ?_
      refine L_v rfl rfl rfl (V_move rfl rfl) ?_
      refine L_split 15 rfl (fun h3 => ?_) (fun h3 => ?_)
      ·
        first | (have h3 := of_decide_eq_true h3) | (have h3 := of_decide_eq_false h3) | skip
        refine L_skip rfl rfl rfl rfl rfl rfl rfl ?_
        refine L_skip rfl rfl rfl rfl rfl rfl rfl ?_
        first | refine L_v rfl rfl rfl (V_pickT rfl rfl rfl) ?_ | refine L_v rfl rfl rfl (V_pickF rfl rfl rfl) ?_
        refine L_v rfl rfl rfl (V_assign rfl rfl) ?_
        refine L_nil ?_
        change J _ _ _ _
        refine J_ret ?_
        change Kret _ _ _ Exit.ret _
        refine ret1 rfl rfl (RV_t rfl) ?_
        exact fun w' h => ⟨congrArg (fun b => Ending.returned (.bool b)) (by simp [*]), h.fr⟩
      ·
        first | (have h3 := of_decide_eq_true h3) | (have h3 := of_decide_eq_false h3) | skip
        refine L_wv rfl rfl rfl rfl rfl rfl (V_move rfl rfl) ?_
        refine L_wv rfl rfl rfl rfl rfl rfl (V_eql rfl rfl rfl (by first | exact decide_eq_true (by omega) | exact decide_eq_false (by omega) | rfl)) ?_
        first | refine L_v rfl rfl rfl (V_pickT rfl rfl rfl) ?_ | refine L_v rfl rfl rfl (V_pickF rfl rfl rfl) ?_
        refine L_v rfl rfl rfl (V_assign rfl rfl) ?_
        refine L_nil ?_
        change J _ _ _ _
        refine J_ret ?_
        change Kret _ _ _ Exit.ret _
        refine ret1 rfl rfl (RV_t rfl) ?_
        exact fun w' h => ⟨congrArg (fun b => Ending.returned (.bool b)) (by by_cases h : y = 3 <;> simp [*]), h.fr⟩

theorem may_w (v : Ver) (w : World) :
    Calls Tryd.prog 45 #[.agg (vc v).toArray] w fun e w' => e = .returned (.bool (mayV v)) ∧ Fr [] w w' := by
  refine calls_of (args := [.agg (vc v).toArray]) ([]) ([]) ([]) Tryd.func45 rfl rfl (okW0 _ _ _ _) ?_
  refine J_seq ?_
  refine J_region ?_
  refine L_box rfl rfl rfl rfl rfl (fun b0 => ?_)
  refine L_v rfl rfl rfl (V_assign rfl rfl) ?_
  refine L_nil ?_
  change J _ _ _ _
  refine J_seq ?_
  refine J_region ?_
  refine L_v rfl rfl rfl (V_fieldAddr rfl rfl Tryd.underlying79 rfl sz3ver rfl) ?_
  refine L_v rfl rfl rfl (V_load1 0 rfl rfl rfl Tryd.underlying3 rfl (by first | rfl | exact dg_get (by omega) (by omega))) ?_
  refine L_v rfl rfl rfl (V_geq rfl rfl rfl (by first | exact decide_eq_true (by omega) | exact decide_eq_false (by omega) | rfl)) ?_
  refine L_v rfl rfl rfl (V_move rfl rfl) ?_
  refine L_split 7 rfl (fun h1 => ?_) (fun h1 => ?_)
  ·
    first | (have h1 := of_decide_eq_true h1) | (have h1 := of_decide_eq_false h1) | skip
    refine L_wv rfl rfl rfl rfl rfl rfl (V_fieldAddr rfl rfl Tryd.underlying79 rfl sz3ver rfl) ?_
    refine L_wv rfl rfl rfl rfl rfl rfl (V_load1 0 rfl rfl rfl Tryd.underlying3 rfl (by first | rfl | exact dg_get (by omega) (by omega))) ?_
    refine L_wv rfl rfl rfl rfl rfl rfl (V_leq rfl rfl rfl (by first | exact decide_eq_true (by omega) | exact decide_eq_false (by omega) | rfl)) ?_
    first | refine L_v rfl rfl rfl (V_pickT rfl rfl rfl) ?_ | refine L_v rfl rfl rfl (V_pickF rfl rfl rfl) ?_
    refine L_v rfl rfl rfl (V_assign rfl rfl) ?_
    refine L_nil ?_
    change J _ _ _ _
    refine J_seq ?_
    refine J_seq ?_
    refine J_region ?_
    refine L_v rfl rfl rfl (V_fieldAddr rfl rfl Tryd.underlying79 rfl sz77ver rfl) ?_
    refine L_v rfl rfl rfl (V_load1 0 rfl rfl rfl Tryd.underlying77 rfl (by first | rfl | exact dg_get (by omega) (by omega))) ?_
    refine L_nil ?_
    change J _ _ _ _
    refine J_block ?_
    refine J_seq ?_
    refine J_block ?_
    refine J_seq ?_
    refine J_block ?_
    refine J_block ?_
    refine J_seq ?_
    refine J_seq ?_
    refine J_seq ?_
    refine J_region ?_
    refine L_v rfl rfl rfl (V_eql rfl rfl rfl (by first | exact decide_eq_true (by omega) | exact decide_eq_false (by omega) | rfl)) ?_
    refine L_v rfl rfl rfl (V_assign rfl rfl) ?_
    refine L_nil ?_
    change J _ _ _ _
    refine J_cond rfl (fun h2 => ?_) (fun h2 => ?_)
    ·
      first | (have h2 := of_decide_eq_true h2) | (have h2 := of_decide_eq_false h2) | skip
      refine J_exit ?_
      change J _ _ _ _
      refine J_seq ?_
      refine J_seq ?_
      refine J_region ?_
      refine L_v rfl rfl rfl (V_move rfl rfl) ?_
      refine L_v rfl rfl rfl (V_move rfl rfl) ?_
      refine L_split 21 rfl (fun h3 => ?_) (fun h3 => ?_)
      ·
        first | (have h3 := of_decide_eq_true h3) | (have h3 := of_decide_eq_false h3) | skip
        refine L_wv rfl rfl rfl rfl rfl rfl (V_fieldAddr rfl rfl Tryd.underlying79 rfl sz9ver rfl) ?_
        refine L_wv rfl rfl rfl rfl rfl rfl (V_load1 0 rfl rfl rfl Tryd.underlying9 rfl (by first | rfl | exact dg_get (by omega) (by omega))) ?_
        refine L_wv rfl rfl rfl rfl rfl rfl (V_neS rfl rfl rfl (neE _)) ?_
        first | refine L_v rfl rfl rfl (V_pickT rfl rfl rfl) ?_ | refine L_v rfl rfl rfl (V_pickF rfl rfl rfl) ?_
        refine L_v rfl rfl rfl (V_move rfl rfl) ?_
        refine L_split 26 rfl (fun h4 => ?_) (fun h4 => ?_)
        ·
          first | (have h4 := of_decide_eq_true h4) | (have h4 := of_decide_eq_false h4) | skip
          refine L_wv rfl rfl rfl rfl rfl rfl (V_fieldAddr rfl rfl Tryd.underlying79 rfl sz9ver rfl) ?_
          refine L_wv rfl rfl rfl rfl rfl rfl (V_load1 0 rfl rfl rfl Tryd.underlying9 rfl (by first | rfl | exact dg_get (by omega) (by omega))) ?_
          refine L_wv rfl rfl rfl rfl rfl rfl (V_lenS rfl rfl Tryd.underlying9 rfl) ?_
          refine L_wv rfl rfl rfl rfl rfl rfl (V_leq rfl rfl rfl (by first | exact decide_eq_true (by omega) | exact decide_eq_false (by omega) | rfl)) ?_
          first | refine L_v rfl rfl rfl (V_pickT rfl rfl rfl) ?_ | refine L_v rfl rfl rfl (V_pickF rfl rfl rfl) ?_
          refine L_v rfl rfl rfl (V_assign rfl rfl) ?_
          refine L_nil ?_
          change J _ _ _ _
          refine J_ret ?_
          change Kret _ _ _ Exit.ret _
          refine ret1 rfl rfl (RV_t rfl) ?_
          exact fun w' h => ⟨congrArg (fun b => Ending.returned (.bool b)) (by unfold mayV; first | exact (decide_eq_true (by omega)).symm | exact (decide_eq_false (by omega)).symm | exact decide_eq_decide.2 (by omega)), h.fr⟩
        ·
          first | (have h4 := of_decide_eq_true h4) | (have h4 := of_decide_eq_false h4) | skip
          refine L_skip rfl rfl rfl rfl rfl rfl rfl ?_
          refine L_skip rfl rfl rfl rfl rfl rfl rfl ?_
          refine L_skip rfl rfl rfl rfl rfl rfl rfl ?_
          refine L_skip rfl rfl rfl rfl rfl rfl rfl ?_
          first | refine L_v rfl rfl rfl (V_pickT rfl rfl rfl) ?_ | refine L_v rfl rfl rfl (V_pickF rfl rfl rfl) ?_
          refine L_v rfl rfl rfl (V_assign rfl rfl) ?_
          refine L_nil ?_
          change J _ _ _ _
          refine J_ret ?_
          change Kret _ _ _ Exit.ret _
          refine ret1 rfl rfl (RV_t rfl) ?_
          exact fun w' h => ⟨congrArg (fun b => Ending.returned (.bool b)) (by unfold mayV; first | exact (decide_eq_true (by omega)).symm | exact (decide_eq_false (by omega)).symm | exact decide_eq_decide.2 (by omega)), h.fr⟩
      ·
        first | (have h3 := of_decide_eq_true h3) | (have h3 := of_decide_eq_false h3) | skip
        refine L_skip rfl rfl rfl rfl rfl rfl rfl ?_
        refine L_skip rfl rfl rfl rfl rfl rfl rfl ?_
        refine L_skip rfl rfl rfl rfl rfl rfl rfl ?_
        first | refine L_v rfl rfl rfl (V_pickT rfl rfl rfl) ?_ | refine L_v rfl rfl rfl (V_pickF rfl rfl rfl) ?_
        refine L_v rfl rfl rfl (V_move rfl rfl) ?_
        refine L_skip rfl rfl rfl rfl rfl rfl rfl ?_
        refine L_skip rfl rfl rfl rfl rfl rfl rfl ?_
        refine L_skip rfl rfl rfl rfl rfl rfl rfl ?_
        refine L_skip rfl rfl rfl rfl rfl rfl rfl ?_
        first | refine L_v rfl rfl rfl (V_pickT rfl rfl rfl) ?_ | refine L_v rfl rfl rfl (V_pickF rfl rfl rfl) ?_
        refine L_v rfl rfl rfl (V_assign rfl rfl) ?_
        refine L_nil ?_
        change J _ _ _ _
        refine J_ret ?_
        change Kret _ _ _ Exit.ret _
        refine ret1 rfl rfl (RV_t rfl) ?_
        exact fun w' h => ⟨congrArg (fun b => Ending.returned (.bool b)) (by unfold mayV; first | exact (decide_eq_true (by omega)).symm | exact (decide_eq_false (by omega)).symm | exact decide_eq_decide.2 (by omega)), h.fr⟩
    ·
      first | (have h2 := of_decide_eq_true h2) | (have h2 := of_decide_eq_false h2) | skip
      refine J_skip ?_
      change J _ _ _ _
      refine J_seq ?_
      refine J_seq ?_
      refine J_region ?_
      refine L_v rfl rfl rfl (V_eql rfl rfl rfl (by first | exact decide_eq_true (by omega) | exact decide_eq_false (by omega) | rfl)) ?_
      refine L_v rfl rfl rfl (V_assign rfl rfl) ?_
      refine L_nil ?_
      change J _ _ _ _
      refine J_cond rfl (fun h3 => ?_) (fun h3 => ?_)
      ·
        first | (have h3 := of_decide_eq_true h3) | (have h3 := of_decide_eq_false h3) | skip
        refine J_exit ?_
        change J _ _ _ _
        refine J_seq ?_
        refine J_seq ?_
        refine J_region ?_
        refine L_v rfl rfl rfl (V_move rfl rfl) ?_
        refine L_v rfl rfl rfl (V_move rfl rfl) ?_
        refine L_split 21 rfl (fun h4 => ?_) (fun h4 => ?_)
        ·
          first | (have h4 := of_decide_eq_true h4) | (have h4 := of_decide_eq_false h4) | skip
          refine L_wv rfl rfl rfl rfl rfl rfl (V_fieldAddr rfl rfl Tryd.underlying79 rfl sz9ver rfl) ?_
          refine L_wv rfl rfl rfl rfl rfl rfl (V_load1 0 rfl rfl rfl Tryd.underlying9 rfl (by first | rfl | exact dg_get (by omega) (by omega))) ?_
          refine L_wv rfl rfl rfl rfl rfl rfl (V_neS rfl rfl rfl (neE _)) ?_
          first | refine L_v rfl rfl rfl (V_pickT rfl rfl rfl) ?_ | refine L_v rfl rfl rfl (V_pickF rfl rfl rfl) ?_
          refine L_v rfl rfl rfl (V_move rfl rfl) ?_
          refine L_split 26 rfl (fun h5 => ?_) (fun h5 => ?_)
          ·
            first | (have h5 := of_decide_eq_true h5) | (have h5 := of_decide_eq_false h5) | skip
            refine L_wv rfl rfl rfl rfl rfl rfl (V_fieldAddr rfl rfl Tryd.underlying79 rfl sz9ver rfl) ?_
            refine L_wv rfl rfl rfl rfl rfl rfl (V_load1 0 rfl rfl rfl Tryd.underlying9 rfl (by first | rfl | exact dg_get (by omega) (by omega))) ?_
            refine L_wv rfl rfl rfl rfl rfl rfl (V_lenS rfl rfl Tryd.underlying9 rfl) ?_
            refine L_wv rfl rfl rfl rfl rfl rfl (V_leq rfl rfl rfl (by first | exact decide_eq_true (by omega) | exact decide_eq_false (by omega) | rfl)) ?_
            first | refine L_v rfl rfl rfl (V_pickT rfl rfl rfl) ?_ | refine L_v rfl rfl rfl (V_pickF rfl rfl rfl) ?_
            refine L_v rfl rfl rfl (V_assign rfl rfl) ?_
            refine L_nil ?_
            change J _ _ _ _
            refine J_ret ?_
            change Kret _ _ _ Exit.ret _
            refine ret1 rfl rfl (RV_t rfl) ?_
            exact fun w' h => ⟨congrArg (fun b => Ending.returned (.bool b)) (by unfold mayV; first | exact (decide_eq_true (by omega)).symm | exact (decide_eq_false (by omega)).symm | exact decide_eq_decide.2 (by omega)), h.fr⟩
          ·
            first | (have h5 := of_decide_eq_true h5) | (have h5 := of_decide_eq_false h5) | skip
            refine L_skip rfl rfl rfl rfl rfl rfl rfl ?_
            refine L_skip rfl rfl rfl rfl rfl rfl rfl ?_
            refine L_skip rfl rfl rfl rfl rfl rfl rfl ?_
            refine L_skip rfl rfl rfl rfl rfl rfl rfl ?_
            first | refine L_v rfl rfl rfl (V_pickT rfl rfl rfl) ?_ | refine L_v rfl rfl rfl (V_pickF rfl rfl rfl) ?_
            refine L_v rfl rfl rfl (V_assign rfl rfl) ?_
            refine L_nil ?_
            change J _ _ _ _
            refine J_ret ?_
            change Kret _ _ _ Exit.ret _
            refine ret1 rfl rfl (RV_t rfl) ?_
            exact fun w' h => ⟨congrArg (fun b => Ending.returned (.bool b)) (by unfold mayV; first | exact (decide_eq_true (by omega)).symm | exact (decide_eq_false (by omega)).symm | exact decide_eq_decide.2 (by omega)), h.fr⟩
        ·
          first | (have h4 := of_decide_eq_true h4) | (have h4 := of_decide_eq_false h4) | skip
          refine L_skip rfl rfl rfl rfl rfl rfl rfl ?_
          refine L_skip rfl rfl rfl rfl rfl rfl rfl ?_
          refine L_skip rfl rfl rfl rfl rfl rfl rfl ?_
          first | refine L_v rfl rfl rfl (V_pickT rfl rfl rfl) ?_ | refine L_v rfl rfl rfl (V_pickF rfl rfl rfl) ?_
          refine L_v rfl rfl rfl (V_move rfl rfl) ?_
          refine L_skip rfl rfl rfl rfl rfl rfl rfl ?_
          refine L_skip rfl rfl rfl rfl rfl rfl rfl ?_
          refine L_skip rfl rfl rfl rfl rfl rfl rfl ?_
          refine L_skip rfl rfl rfl rfl rfl rfl rfl ?_
          first | refine L_v rfl rfl rfl (V_pickT rfl rfl rfl) ?_ | refine L_v rfl rfl rfl (V_pickF rfl rfl rfl) ?_
          refine L_v rfl rfl rfl (V_assign rfl rfl) ?_
          refine L_nil ?_
          change J _ _ _ _
          refine J_ret ?_
          change Kret _ _ _ Exit.ret _
          refine ret1 rfl rfl (RV_t rfl) ?_
          exact fun w' h => ⟨congrArg (fun b => Ending.returned (.bool b)) (by unfold mayV; first | exact (decide_eq_true (by omega)).symm | exact (decide_eq_false (by omega)).symm | exact decide_eq_decide.2 (by omega)), h.fr⟩
      ·
        first | (have h3 := of_decide_eq_true h3) | (have h3 := of_decide_eq_false h3) | skip
        refine J_skip ?_
        change J _ _ _ _
        refine J_seq ?_
        refine J_region ?_
        refine L_v rfl rfl rfl (V_eql rfl rfl rfl (by first | exact decide_eq_true (by omega) | exact decide_eq_false (by omega) | rfl)) ?_
        refine L_v rfl rfl rfl (V_assign rfl rfl) ?_
        refine L_nil ?_
        change J _ _ _ _
        refine J_cond rfl (fun h4 => ?_) (fun h4 => ?_)
        ·
          first | (have h4 := of_decide_eq_true h4) | (have h4 := of_decide_eq_false h4) | skip
          refine J_exit ?_
          change J _ _ _ _
          refine J_seq ?_
          refine J_seq ?_
          refine J_region ?_
          refine L_v rfl rfl rfl (V_move rfl rfl) ?_
          refine L_v rfl rfl rfl (V_move rfl rfl) ?_
          refine L_split 33 rfl (fun h5 => ?_) (fun h5 => ?_)
          ·
            first | (have h5 := of_decide_eq_true h5) | (have h5 := of_decide_eq_false h5) | skip
            refine L_wv rfl rfl rfl rfl rfl rfl (V_fieldAddr rfl rfl Tryd.underlying79 rfl sz9ver rfl) ?_
            refine L_wv rfl rfl rfl rfl rfl rfl (V_load1 0 rfl rfl rfl Tryd.underlying9 rfl (by first | rfl | exact dg_get (by omega) (by omega))) ?_
            refine L_wv rfl rfl rfl rfl rfl rfl (V_eqS rfl rfl rfl (eqE _)) ?_
            first | refine L_v rfl rfl rfl (V_pickT rfl rfl rfl) ?_ | refine L_v rfl rfl rfl (V_pickF rfl rfl rfl) ?_
            refine L_v rfl rfl rfl (V_assign rfl rfl) ?_
            refine L_nil ?_
            change J _ _ _ _
            refine J_ret ?_
            change Kret _ _ _ Exit.ret _
            refine ret1 rfl rfl (RV_t rfl) ?_
            exact fun w' h => ⟨congrArg (fun b => Ending.returned (.bool b)) (by unfold mayV; first | exact (decide_eq_true (by omega)).symm | exact (decide_eq_false (by omega)).symm | exact decide_eq_decide.2 (by omega)), h.fr⟩
          ·
            first | (have h5 := of_decide_eq_true h5) | (have h5 := of_decide_eq_false h5) | skip
            refine L_skip rfl rfl rfl rfl rfl rfl rfl ?_
            refine L_skip rfl rfl rfl rfl rfl rfl rfl ?_
            refine L_skip rfl rfl rfl rfl rfl rfl rfl ?_
            first | refine L_v rfl rfl rfl (V_pickT rfl rfl rfl) ?_ | refine L_v rfl rfl rfl (V_pickF rfl rfl rfl) ?_
            refine L_v rfl rfl rfl (V_assign rfl rfl) ?_
            refine L_nil ?_
            change J _ _ _ _
            refine J_ret ?_
            change Kret _ _ _ Exit.ret _
            refine ret1 rfl rfl (RV_t rfl) ?_
            exact fun w' h => ⟨congrArg (fun b => Ending.returned (.bool b)) (by unfold mayV; first | exact (decide_eq_true (by omega)).symm | exact (decide_eq_false (by omega)).symm | exact decide_eq_decide.2 (by omega)), h.fr⟩
        ·
          first | (have h4 := of_decide_eq_true h4) | (have h4 := of_decide_eq_false h4) | skip
          refine J_skip ?_
          change J _ _ _ _
          refine J_exit ?_
          change J _ _ _ _
          refine J_seq ?_
          refine J_region ?_
          refine L_v rfl rfl rfl (V_assign rfl rfl) ?_
          refine L_nil ?_
          change J _ _ _ _
          refine J_ret ?_
          change Kret _ _ _ Exit.ret _
          refine ret1 rfl rfl (RV_t rfl) ?_
          exact fun w' h => ⟨congrArg (fun b => Ending.returned (.bool b)) (by unfold mayV; first | exact (decide_eq_true (by omega)).symm | exact (decide_eq_false (by omega)).symm | exact decide_eq_decide.2 (by omega)), h.fr⟩
  ·
    first | (have h1 := of_decide_eq_true h1) | (have h1 := of_decide_eq_false h1) | skip
    refine L_skip rfl rfl rfl rfl rfl rfl rfl ?_
    refine L_skip rfl rfl rfl rfl rfl rfl rfl ?_
    refine L_skip rfl rfl rfl rfl rfl rfl rfl ?_
    first | refine L_v rfl rfl rfl (V_pickT rfl rfl rfl) ?_ | refine L_v rfl rfl rfl (V_pickF rfl rfl rfl) ?_
    refine L_v rfl rfl rfl (V_assign rfl rfl) ?_
    refine L_nil ?_
    change J _ _ _ _
    refine J_seq ?_
    refine J_seq ?_
    refine J_region ?_
    refine L_v rfl rfl rfl (V_fieldAddr rfl rfl Tryd.underlying79 rfl sz77ver rfl) ?_
    refine L_v rfl rfl rfl (V_load1 0 rfl rfl rfl Tryd.underlying77 rfl (by first | rfl | exact dg_get (by omega) (by omega))) ?_
    refine L_nil ?_
    change J _ _ _ _
    refine J_block ?_
    refine J_seq ?_
    refine J_block ?_
    refine J_seq ?_
    refine J_block ?_
    refine J_block ?_
    refine J_seq ?_
    refine J_seq ?_
    refine J_seq ?_
    refine J_region ?_
    refine L_v rfl rfl rfl (V_eql rfl rfl rfl (by first | exact decide_eq_true (by omega) | exact decide_eq_false (by omega) | rfl)) ?_
    refine L_v rfl rfl rfl (V_assign rfl rfl) ?_
    refine L_nil ?_
    change J _ _ _ _
    refine J_cond rfl (fun h2 => ?_) (fun h2 => ?_)
    ·
      first | (have h2 := of_decide_eq_true h2) | (have h2 := of_decide_eq_false h2) | skip
      refine J_exit ?_
      change J _ _ _ _
      refine J_seq ?_
      refine J_seq ?_
      refine J_region ?_
      refine L_v rfl rfl rfl (V_move rfl rfl) ?_
      refine L_v rfl rfl rfl (V_move rfl rfl) ?_
      refine L_skip rfl rfl rfl rfl rfl rfl rfl ?_
      refine L_skip rfl rfl rfl rfl rfl rfl rfl ?_
      refine L_skip rfl rfl rfl rfl rfl rfl rfl ?_
      first | refine L_v rfl rfl rfl (V_pickT rfl rfl rfl) ?_ | refine L_v rfl rfl rfl (V_pickF rfl rfl rfl) ?_
      refine L_v rfl rfl rfl (V_move rfl rfl) ?_
      refine L_skip rfl rfl rfl rfl rfl rfl rfl ?_
      refine L_skip rfl rfl rfl rfl rfl rfl rfl ?_
      refine L_skip rfl rfl rfl rfl rfl rfl rfl ?_
      refine L_skip rfl rfl rfl rfl rfl rfl rfl ?_
      first | refine L_v rfl rfl rfl (V_pickT rfl rfl rfl) ?_ | refine L_v rfl rfl rfl (V_pickF rfl rfl rfl) ?_
      refine L_v rfl rfl rfl (V_assign rfl rfl) ?_
      refine L_nil ?_
      change J _ _ _ _
      refine J_ret ?_
      change Kret _ _ _ Exit.ret _
      refine ret1 rfl rfl (RV_t rfl) ?_
      exact fun w' h => ⟨congrArg (fun b => Ending.returned (.bool b)) (by unfold mayV; first | exact (decide_eq_true (by omega)).symm | exact (decide_eq_false (by omega)).symm | exact decide_eq_decide.2 (by omega)), h.fr⟩
    ·
      first | (have h2 := of_decide_eq_true h2) | (have h2 := of_decide_eq_false h2) | skip
      refine J_skip ?_
      change J _ _ _ _
      refine J_seq ?_
      refine J_seq ?_
      refine J_region ?_
      refine L_v rfl rfl rfl (V_eql rfl rfl rfl (by first | exact decide_eq_true (by omega) | exact decide_eq_false (by omega) | rfl)) ?_
      refine L_v rfl rfl rfl (V_assign rfl rfl) ?_
      refine L_nil ?_
      change J _ _ _ _
      refine J_cond rfl (fun h3 => ?_) (fun h3 => ?_)
      ·
        first | (have h3 := of_decide_eq_true h3) | (have h3 := of_decide_eq_false h3) | skip
        refine J_exit ?_
        change J _ _ _ _
        refine J_seq ?_
        refine J_seq ?_
        refine J_region ?_
        refine L_v rfl rfl rfl (V_move rfl rfl) ?_
        refine L_v rfl rfl rfl (V_move rfl rfl) ?_
        refine L_skip rfl rfl rfl rfl rfl rfl rfl ?_
        refine L_skip rfl rfl rfl rfl rfl rfl rfl ?_
        refine L_skip rfl rfl rfl rfl rfl rfl rfl ?_
        first | refine L_v rfl rfl rfl (V_pickT rfl rfl rfl) ?_ | refine L_v rfl rfl rfl (V_pickF rfl rfl rfl) ?_
        refine L_v rfl rfl rfl (V_move rfl rfl) ?_
        refine L_skip rfl rfl rfl rfl rfl rfl rfl ?_
        refine L_skip rfl rfl rfl rfl rfl rfl rfl ?_
        refine L_skip rfl rfl rfl rfl rfl rfl rfl ?_
        refine L_skip rfl rfl rfl rfl rfl rfl rfl ?_
        first | refine L_v rfl rfl rfl (V_pickT rfl rfl rfl) ?_ | refine L_v rfl rfl rfl (V_pickF rfl rfl rfl) ?_
        refine L_v rfl rfl rfl (V_assign rfl rfl) ?_
        refine L_nil ?_
        change J _ _ _ _
        refine J_ret ?_
        change Kret _ _ _ Exit.ret _
        refine ret1 rfl rfl (RV_t rfl) ?_
        exact fun w' h => ⟨congrArg (fun b => Ending.returned (.bool b)) (by unfold mayV; first | exact (decide_eq_true (by omega)).symm | exact (decide_eq_false (by omega)).symm | exact decide_eq_decide.2 (by omega)), h.fr⟩
      ·
        first | (have h3 := of_decide_eq_true h3) | (have h3 := of_decide_eq_false h3) | skip
        refine J_skip ?_
        change J _ _ _ _
        refine J_seq ?_
        refine J_region ?_
        refine L_v rfl rfl rfl (V_eql rfl rfl rfl (by first | exact decide_eq_true (by omega) | exact decide_eq_false (by omega) | rfl)) ?_
        refine L_v rfl rfl rfl (V_assign rfl rfl) ?_
        refine L_nil ?_
        change J _ _ _ _
        refine J_cond rfl (fun h4 => ?_) (fun h4 => ?_)
        ·
          first | (have h4 := of_decide_eq_true h4) | (have h4 := of_decide_eq_false h4) | skip
          refine J_exit ?_
          change J _ _ _ _
          refine J_seq ?_
          refine J_seq ?_
          refine J_region ?_
          refine L_v rfl rfl rfl (V_move rfl rfl) ?_
          refine L_v rfl rfl rfl (V_move rfl rfl) ?_
          refine L_skip rfl rfl rfl rfl rfl rfl rfl ?_
          refine L_skip rfl rfl rfl rfl rfl rfl rfl ?_
          refine L_skip rfl rfl rfl rfl rfl rfl rfl ?_
          first | refine L_v rfl rfl rfl (V_pickT rfl rfl rfl) ?_ | refine L_v rfl rfl rfl (V_pickF rfl rfl rfl) ?_
          refine L_v rfl rfl rfl (V_assign rfl rfl) ?_
          refine L_nil ?_
          change J _ _ _ _
          refine J_ret ?_
          change Kret _ _ _ Exit.ret _
          refine ret1 rfl rfl (RV_t rfl) ?_
          exact fun w' h => ⟨congrArg (fun b => Ending.returned (.bool b)) (by unfold mayV; first | exact (decide_eq_true (by omega)).symm | exact (decide_eq_false (by omega)).symm | exact decide_eq_decide.2 (by omega)), h.fr⟩
        ·
          first | (have h4 := of_decide_eq_true h4) | (have h4 := of_decide_eq_false h4) | skip
          refine J_skip ?_
          change J _ _ _ _
          refine J_exit ?_
          change J _ _ _ _
          refine J_seq ?_
          refine J_region ?_
          refine L_v rfl rfl rfl (V_assign rfl rfl) ?_
          refine L_nil ?_
          change J _ _ _ _
          refine J_ret ?_
          change Kret _ _ _ Exit.ret _
          refine ret1 rfl rfl (RV_t rfl) ?_
          exact fun w' h => ⟨congrArg (fun b => Ending.returned (.bool b)) (by unfold mayV; first | exact (decide_eq_true (by omega)).symm | exact (decide_eq_false (by omega)).symm | exact decide_eq_decide.2 (by omega)), h.fr⟩

theorem rmay_w (v : Ver) (w : World) :
    Calls Tryd.prog 49 #[.agg (vc v).toArray] w fun e w' => e = .returned (.bool (mayV v)) ∧ Fr [] w w' := by
  refine calls_of (args := [.agg (vc v).toArray]) ([]) ([]) ([]) Tryd.func49 rfl rfl (okW0 _ _ _ _) ?_
  refine J_seq ?_
  refine J_region ?_
  refine L_box rfl rfl rfl rfl rfl (fun b0 => ?_)
  refine L_v rfl rfl rfl (V_assign rfl rfl) ?_
  refine L_nil ?_
  change J _ _ _ _
  refine J_seq ?_
  refine J_seq ?_
  refine J_region ?_
  refine L_v rfl rfl rfl (V_fieldAddr rfl rfl Tryd.underlying79 rfl sz3ver rfl) ?_
  refine L_v rfl rfl rfl (V_load1 0 rfl rfl rfl Tryd.underlying3 rfl (by first | rfl | exact dg_get (by omega) (by omega))) ?_
  refine L_v rfl rfl rfl (V_lss rfl rfl rfl (by first | exact decide_eq_true (by omega) | exact decide_eq_false (by omega) | rfl)) ?_
  refine L_v rfl rfl rfl (V_move rfl rfl) ?_
  refine L_split 6 rfl (fun h1 => ?_) (fun h1 => ?_)
  ·
    first | (have h1 := of_decide_eq_true h1) | (have h1 := of_decide_eq_false h1) | skip
    refine L_skip rfl rfl rfl rfl rfl rfl rfl ?_
    refine L_skip rfl rfl rfl rfl rfl rfl rfl ?_
    refine L_skip rfl rfl rfl rfl rfl rfl rfl ?_
    first | refine L_v rfl rfl rfl (V_pickT rfl rfl rfl) ?_ | refine L_v rfl rfl rfl (V_pickF rfl rfl rfl) ?_
    refine L_nil ?_
    change J _ _ _ _
    refine J_true rfl ?_
    refine J_seq ?_
    refine J_region ?_
    refine L_v rfl rfl rfl (V_assign rfl rfl) ?_
    refine L_nil ?_
    change J _ _ _ _
    refine J_ret ?_
    change Kret _ _ _ Exit.ret _
    refine ret1 rfl rfl (RV_t rfl) ?_
    exact fun w' h => ⟨congrArg (fun b => Ending.returned (.bool b)) (by unfold mayV; first | exact (decide_eq_true (by omega)).symm | exact (decide_eq_false (by omega)).symm | exact decide_eq_decide.2 (by omega)), h.fr⟩
  ·
    first | (have h1 := of_decide_eq_true h1) | (have h1 := of_decide_eq_false h1) | skip
    refine L_wv rfl rfl rfl rfl rfl rfl (V_fieldAddr rfl rfl Tryd.underlying79 rfl sz3ver rfl) ?_
    refine L_wv rfl rfl rfl rfl rfl rfl (V_load1 0 rfl rfl rfl Tryd.underlying3 rfl (by first | rfl | exact dg_get (by omega) (by omega))) ?_
    refine L_wv rfl rfl rfl rfl rfl rfl (V_gtr rfl rfl rfl (by first | exact decide_eq_true (by omega) | exact decide_eq_false (by omega) | rfl)) ?_
    first | refine L_v rfl rfl rfl (V_pickT rfl rfl rfl) ?_ | refine L_v rfl rfl rfl (V_pickF rfl rfl rfl) ?_
    refine L_nil ?_
    change J _ _ _ _
    refine J_cond rfl (fun h2 => ?_) (fun h2 => ?_)
    ·
      first | (have h2 := of_decide_eq_true h2) | (have h2 := of_decide_eq_false h2) | skip
      refine J_seq ?_
      refine J_region ?_
      refine L_v rfl rfl rfl (V_assign rfl rfl) ?_
      refine L_nil ?_
      change J _ _ _ _
      refine J_ret ?_
      change Kret _ _ _ Exit.ret _
      refine ret1 rfl rfl (RV_t rfl) ?_
      exact fun w' h => ⟨congrArg (fun b => Ending.returned (.bool b)) (by unfold mayV; first | exact (decide_eq_true (by omega)).symm | exact (decide_eq_false (by omega)).symm | exact decide_eq_decide.2 (by omega)), h.fr⟩
    ·
      first | (have h2 := of_decide_eq_true h2) | (have h2 := of_decide_eq_false h2) | skip
      refine J_skip ?_
      change J _ _ _ _
      refine J_seq ?_
      refine J_seq ?_
      refine J_region ?_
      refine L_v rfl rfl rfl (V_fieldAddr rfl rfl Tryd.underlying79 rfl sz77ver rfl) ?_
      refine L_v rfl rfl rfl (V_load1 0 rfl rfl rfl Tryd.underlying77 rfl (by first | rfl | exact dg_get (by omega) (by omega))) ?_
      refine L_nil ?_
      change J _ _ _ _
      refine J_block ?_
      refine J_seq ?_
      refine J_seq ?_
      refine J_region ?_
      refine L_v rfl rfl rfl (V_eql rfl rfl rfl (by first | exact decide_eq_true (by omega) | exact decide_eq_false (by omega) | rfl)) ?_
      refine L_v rfl rfl rfl (V_assign rfl rfl) ?_
      refine L_nil ?_
      change J _ _ _ _
      refine J_cond rfl (fun h3 => ?_) (fun h3 => ?_)
      ·
        first | (have h3 := of_decide_eq_true h3) | (have h3 := of_decide_eq_false h3) | skip
        refine J_skip ?_
        change J _ _ _ _
        refine J_cond rfl (fun h4 => ?_) (fun h4 => ?_)
        ·
          first | (have h4 := of_decide_eq_true h4) | (have h4 := of_decide_eq_false h4) | skip
          refine J_seq ?_
          refine J_region ?_
          refine L_v rfl rfl rfl (V_fieldAddr rfl rfl Tryd.underlying79 rfl sz9ver rfl) ?_
          refine L_v rfl rfl rfl (V_load1 0 rfl rfl rfl Tryd.underlying9 rfl (by first | rfl | exact dg_get (by omega) (by omega))) ?_
          refine L_v rfl rfl rfl (V_lenS rfl rfl Tryd.underlying9 rfl) ?_
          refine L_v rfl rfl rfl (V_geq rfl rfl rfl (by first | exact decide_eq_true (by omega) | exact decide_eq_false (by omega) | rfl)) ?_
          refine L_v rfl rfl rfl (V_move rfl rfl) ?_
          refine L_split 20 rfl (fun h5 => ?_) (fun h5 => ?_)
          ·
            first | (have h5 := of_decide_eq_true h5) | (have h5 := of_decide_eq_false h5) | skip
            refine L_wv rfl rfl rfl rfl rfl rfl (V_fieldAddr rfl rfl Tryd.underlying79 rfl sz9ver rfl) ?_
            refine L_wv rfl rfl rfl rfl rfl rfl (V_load1 0 rfl rfl rfl Tryd.underlying9 rfl (by first | rfl | exact dg_get (by omega) (by omega))) ?_
            refine L_wv rfl rfl rfl rfl rfl rfl (V_lenS rfl rfl Tryd.underlying9 rfl) ?_
            refine L_wv rfl rfl rfl rfl rfl rfl (V_leq rfl rfl rfl (by first | exact decide_eq_true (by omega) | exact decide_eq_false (by omega) | rfl)) ?_
            first | refine L_v rfl rfl rfl (V_pickT rfl rfl rfl) ?_ | refine L_v rfl rfl rfl (V_pickF rfl rfl rfl) ?_
            refine L_v rfl rfl rfl (V_assign rfl rfl) ?_
            refine L_nil ?_
            change J _ _ _ _
            refine J_ret ?_
            change Kret _ _ _ Exit.ret _
            refine ret1 rfl rfl (RV_t rfl) ?_
            exact fun w' h => ⟨congrArg (fun b => Ending.returned (.bool b)) (by unfold mayV; first | exact (decide_eq_true (by omega)).symm | exact (decide_eq_false (by omega)).symm | exact decide_eq_decide.2 (by omega)), h.fr⟩
          ·
            first | (have h5 := of_decide_eq_true h5) | (have h5 := of_decide_eq_false h5) | skip
            refine L_skip rfl rfl rfl rfl rfl rfl rfl ?_
            refine L_skip rfl rfl rfl rfl rfl rfl rfl ?_
            refine L_skip rfl rfl rfl rfl rfl rfl rfl ?_
            refine L_skip rfl rfl rfl rfl rfl rfl rfl ?_
            first | refine L_v rfl rfl rfl (V_pickT rfl rfl rfl) ?_ | refine L_v rfl rfl rfl (V_pickF rfl rfl rfl) ?_
            refine L_v rfl rfl rfl (V_assign rfl rfl) ?_
            refine L_nil ?_
            change J _ _ _ _
            refine J_ret ?_
            change Kret _ _ _ Exit.ret _
            refine ret1 rfl rfl (RV_t rfl) ?_
            exact fun w' h => ⟨congrArg (fun b => Ending.returned (.bool b)) (by unfold mayV; first | exact (decide_eq_true (by omega)).symm | exact (decide_eq_false (by omega)).symm | exact decide_eq_decide.2 (by omega)), h.fr⟩
        ·
          first | (have h4 := of_decide_eq_true h4) | (have h4 := of_decide_eq_false h4) | skip
          exact absurd h3 h4
      ·
        first | (have h3 := of_decide_eq_true h3) | (have h3 := of_decide_eq_false h3) | skip
        refine J_region ?_
        refine L_v rfl rfl rfl (V_eql rfl rfl rfl (by first | exact decide_eq_true (by omega) | exact decide_eq_false (by omega) | rfl)) ?_
        refine L_v rfl rfl rfl (V_assign rfl rfl) ?_
        refine L_nil ?_
        change J _ _ _ _
        refine J_cond rfl (fun h4 => ?_) (fun h4 => ?_)
        ·
          first | (have h4 := of_decide_eq_true h4) | (have h4 := of_decide_eq_false h4) | skip
          refine J_seq ?_
          refine J_region ?_
          refine L_v rfl rfl rfl (V_fieldAddr rfl rfl Tryd.underlying79 rfl sz9ver rfl) ?_
          refine L_v rfl rfl rfl (V_load1 0 rfl rfl rfl Tryd.underlying9 rfl (by first | rfl | exact dg_get (by omega) (by omega))) ?_
          refine L_v rfl rfl rfl (V_lenS rfl rfl Tryd.underlying9 rfl) ?_
          refine L_v rfl rfl rfl (V_geq rfl rfl rfl (by first | exact decide_eq_true (by omega) | exact decide_eq_false (by omega) | rfl)) ?_
          refine L_v rfl rfl rfl (V_move rfl rfl) ?_
          refine L_split 20 rfl (fun h5 => ?_) (fun h5 => ?_)
          ·
            first | (have h5 := of_decide_eq_true h5) | (have h5 := of_decide_eq_false h5) | skip
            refine L_wv rfl rfl rfl rfl rfl rfl (V_fieldAddr rfl rfl Tryd.underlying79 rfl sz9ver rfl) ?_
            refine L_wv rfl rfl rfl rfl rfl rfl (V_load1 0 rfl rfl rfl Tryd.underlying9 rfl (by first | rfl | exact dg_get (by omega) (by omega))) ?_
            refine L_wv rfl rfl rfl rfl rfl rfl (V_lenS rfl rfl Tryd.underlying9 rfl) ?_
            refine L_wv rfl rfl rfl rfl rfl rfl (V_leq rfl rfl rfl (by first | exact decide_eq_true (by omega) | exact decide_eq_false (by omega) | rfl)) ?_
            first | refine L_v rfl rfl rfl (V_pickT rfl rfl rfl) ?_ | refine L_v rfl rfl rfl (V_pickF rfl rfl rfl) ?_
            refine L_v rfl rfl rfl (V_assign rfl rfl) ?_
            refine L_nil ?_
            change J _ _ _ _
            refine J_ret ?_
            change Kret _ _ _ Exit.ret _
            refine ret1 rfl rfl (RV_t rfl) ?_
            exact fun w' h => ⟨congrArg (fun b => Ending.returned (.bool b)) (by unfold mayV; first | exact (decide_eq_true (by omega)).symm | exact (decide_eq_false (by omega)).symm | exact decide_eq_decide.2 (by omega)), h.fr⟩
          ·
            first | (have h5 := of_decide_eq_true h5) | (have h5 := of_decide_eq_false h5) | skip
            refine L_skip rfl rfl rfl rfl rfl rfl rfl ?_
            refine L_skip rfl rfl rfl rfl rfl rfl rfl ?_
            refine L_skip rfl rfl rfl rfl rfl rfl rfl ?_
            refine L_skip rfl rfl rfl rfl rfl rfl rfl ?_
            first | refine L_v rfl rfl rfl (V_pickT rfl rfl rfl) ?_ | refine L_v rfl rfl rfl (V_pickF rfl rfl rfl) ?_
            refine L_v rfl rfl rfl (V_assign rfl rfl) ?_
            refine L_nil ?_
            change J _ _ _ _
            refine J_ret ?_
            change Kret _ _ _ Exit.ret _
            refine ret1 rfl rfl (RV_t rfl) ?_
            exact fun w' h => ⟨congrArg (fun b => Ending.returned (.bool b)) (by unfold mayV; first | exact (decide_eq_true (by omega)).symm | exact (decide_eq_false (by omega)).symm | exact decide_eq_decide.2 (by omega)), h.fr⟩
        ·
          first | (have h4 := of_decide_eq_true h4) | (have h4 := of_decide_eq_false h4) | skip
          refine J_seq ?_
          refine J_region ?_
          refine L_v rfl rfl rfl (V_eql rfl rfl rfl (by first | exact decide_eq_true (by omega) | exact decide_eq_false (by omega) | rfl)) ?_
          refine L_v rfl rfl rfl (V_assign rfl rfl) ?_
          refine L_nil ?_
          change J _ _ _ _
          refine J_cond rfl (fun h5 => ?_) (fun h5 => ?_)
          ·
            first | (have h5 := of_decide_eq_true h5) | (have h5 := of_decide_eq_false h5) | skip
            refine J_seq ?_
            refine J_region ?_
            refine L_v rfl rfl rfl (V_fieldAddr rfl rfl Tryd.underlying79 rfl sz9ver rfl) ?_
            refine L_v rfl rfl rfl (V_load1 0 rfl rfl rfl Tryd.underlying9 rfl (by first | rfl | exact dg_get (by omega) (by omega))) ?_
            refine L_v rfl rfl rfl (V_eqS rfl rfl rfl (eqE _)) ?_
            refine L_v rfl rfl rfl (V_assign rfl rfl) ?_
            refine L_nil ?_
            change J _ _ _ _
            refine J_ret ?_
            change Kret _ _ _ Exit.ret _
            refine ret1 rfl rfl (RV_t rfl) ?_
            exact fun w' h => ⟨congrArg (fun b => Ending.returned (.bool b)) (by unfold mayV; first | exact (decide_eq_true (by omega)).symm | exact (decide_eq_false (by omega)).symm | exact decide_eq_decide.2 (by omega)), h.fr⟩
          ·
            first | (have h5 := of_decide_eq_true h5) | (have h5 := of_decide_eq_false h5) | skip
            refine J_skip ?_
            change J _ _ _ _
            refine J_seq ?_
            refine J_region ?_
            refine L_v rfl rfl rfl (V_assign rfl rfl) ?_
            refine L_nil ?_
            change J _ _ _ _
            refine J_ret ?_
            change Kret _ _ _ Exit.ret _
            refine ret1 rfl rfl (RV_t rfl) ?_
            exact fun w' h => ⟨congrArg (fun b => Ending.returned (.bool b)) (by unfold mayV; first | exact (decide_eq_true (by omega)).symm | exact (decide_eq_false (by omega)).symm | exact decide_eq_decide.2 (by omega)), h.fr⟩

theorem last_w (a : Option Addr) (n c : Nat) (l : List Ver) (w : World) (hl : l.length = n) (hu : SlC 3 w (.slice a n c) n (vcs l)) (hn : n ≤ 1099511627776) :
    Calls Tryd.prog 44 #[.slice a n c] w fun e w' => e = .returned (.agg (vc (lastV l)).toArray) ∧ Fr [] w w' := by
  refine calls_of (args := [.slice a n c]) ([]) ([]) ([]) Tryd.func44 rfl rfl (okW0 _ _ _ _) ?_
  refine J_seq ?_
  refine J_region ?_
  refine L_alloc rfl rfl rfl rfl z79ver (fun b0 => ?_)
  refine L_nil ?_
  change J _ _ _ _
  refine J_seq ?_
  refine J_seq ?_
  refine J_region ?_
  refine L_v rfl rfl rfl (V_move rfl rfl) ?_
  refine L_v rfl rfl rfl (V_len rfl rfl Tryd.underlying23 rfl) ?_
  refine L_v rfl rfl rfl (V_eql rfl rfl rfl (by first | exact decide_eq_true (by omega) | exact decide_eq_false (by omega) | rfl)) ?_
  refine L_nil ?_
  change J _ _ _ _
  refine J_cond rfl (fun h1 => ?_) (fun h1 => ?_)
  ·
    first | (have h1 := of_decide_eq_true h1) | (have h1 := of_decide_eq_false h1) | skip
    refine J_seq ?_
    refine J_region ?_
    refine L_v rfl rfl rfl (V_build (vs := []) rfl rfl bdV0) ?_
    refine L_storeW 0 rfl rfl rfl rfl rfl rfl (szd sz79ver (by first | rfl | (simp [dg_length, zd_length, *]; done))) (vc_one _) (by first | rfl | (simp [dg_length, zd_length, *]; done)) ?_
    refine L_nil ?_
    change J _ _ _ _
    refine J_ret ?_
    change Kret _ _ _ Exit.ret _
    refine ret1 rfl rfl (RV_c 0 rfl rfl Tryd.underlying79 rfl (szd sz79ver (by first | rfl | (simp [dg_length, zd_length, *]; done)))) ?_
    exact fun w' h => ⟨by unfold lastV; rw [List.getD_eq_getElem?_getD, List.getElem?_eq_none (by omega)]; rfl, h.fr⟩
  ·
    first | (have h1 := of_decide_eq_true h1) | (have h1 := of_decide_eq_false h1) | skip
    refine J_skip ?_
    change J _ _ _ _
    refine J_seq ?_
    refine J_region ?_
    refine L_v rfl rfl rfl (V_move rfl rfl) ?_
    refine L_v rfl rfl rfl (V_move rfl rfl) ?_
    refine L_v rfl rfl rfl (V_len rfl rfl Tryd.underlying23 rfl) ?_
    refine L_v rfl rfl rfl (V_sub rfl rfl rfl (by first | exact Go.IntWalk.i64_in _ (by omega) | rfl)) ?_
    refine L_v rfl rfl rfl (V_indexC rfl rfl rfl Tryd.underlying23 sz79ver (fun w hw => SlC.later hw rfl hu) (by omega) (by omega)) ?_
    refine L_v rfl rfl rfl (V_loadCN (vs := vc (l.getD (n - 1) v0)) rfl rfl Tryd.underlying79 rfl (szd sz79ver (by first | rfl | (simp [dg_length, zd_length, *]; done))) (fun w hw => SlC.later hw rfl hu) (Nat.zero_lt_succ _) (by rw [show ((n : Int) - 1).toNat = ((n - 1 : Nat) : Int).toNat by omega]; exact vcs_v (by omega))) ?_
    refine L_storeW 0 rfl rfl rfl rfl rfl rfl (szd sz79ver (by first | rfl | (simp [dg_length, zd_length, *]; done))) (vc_one _) (by first | rfl | (simp [dg_length, zd_length, *]; done)) ?_
    refine L_nil ?_
    change J _ _ _ _
    refine J_ret ?_
    change Kret _ _ _ Exit.ret _
    refine ret1 rfl rfl (RV_c 0 rfl rfl Tryd.underlying79 rfl (szd sz79ver (by first | rfl | (simp [dg_length, zd_length, *]; done)))) ?_
    exact fun w' h => ⟨by unfold lastV; rw [hl], h.fr⟩

end Go.Proofs.YtfdmjjhgdbpfeaaDoor
