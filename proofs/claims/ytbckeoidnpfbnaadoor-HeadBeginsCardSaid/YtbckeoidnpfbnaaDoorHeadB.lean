/- What the laws of layer 9 share. -/
import Derived.Test.YtbckeoidnpfbnaaDoorHead2
set_option linter.unusedVariables false
set_option linter.unusedSimpArgs false
set_option maxRecDepth 100000
namespace Go.Proofs.YtbckeoidnpfbnaaDoor
open Go.Sx
theorem hd_ext1 {e : Int} {r p : List Int} (hr : r.length = 32) : (hdL e r p).toArray.extract 1 (1 + 32) = (dg r).toArray := by
  apply Array.ext'
  apply List.ext_getElem?
  intro i
  by_cases h : i < 32
  · have := hd_root (e := e) (r := r) (p := p) hr i (by rw [dg_length]; omega)
    rw [Nat.add_comm 1 i] at this
    simp [List.getElem?_take, h, this]
  · rw [List.getElem?_eq_none (by simp; omega), List.getElem?_eq_none (by simp [dg_length]; omega)]
theorem hd_ext2 {e : Int} {r p : List Int} (hr : r.length = 32) (hp : p.length = 32) : (hdL e r p).toArray.extract 33 (33 + 32) = (dg p).toArray := by
  apply Array.ext'
  apply List.ext_getElem?
  intro i
  by_cases h : i < 32
  · have := hd_prev (e := e) (r := r) (p := p) hr i (by rw [dg_length]; omega)
    simp [List.getElem?_take, h, this]
  · rw [List.getElem?_eq_none (by simp; omega), List.getElem?_eq_none (by simp [dg_length]; omega)]
theorem szD : (Tryd.prog.info? 23).map (·.size) = some 32 := by kernel_rfl
theorem szU : (Tryd.prog.info? 5).map (·.size) = some 1 := by kernel_rfl
theorem egH : Tryd.prog.eqGuardType Tryd.prog.depth 25 = false := by kernel_rfl
theorem eqH {e e' : Int} {r r' p p' : List Int} (hr : r.length = 32) (hr' : r'.length = 32) (hp : p.length = 32) (hp' : p'.length = 32) (w : World) :
    (Op.equal 25 (.agg (hdL e r p).toArray) (.agg (hdL e' r' p').toArray)).run Tryd.prog w = .ok (decide (e = e' ∧ r = r' ∧ p = p')) w := by
  show (Op.equalIn (9999 + 1) _ _ _).run _ w = _
  rw [run_eqStruct w 9999 _ _ (by kernel_rfl) (by kernel_rfl) (spec := [(true, 3, 0), (true, 23, 1), (true, 23, 33)]) (by kernel_rfl)]
  rw [eqF_one (run_part1 (cs := hdL e r p) (v := .int .i64 e) Tryd.underlying3 rfl rfl) (run_part1 (cs := hdL e' r' p') (v := .int .i64 e') Tryd.underlying3 rfl rfl) (run_equalIn_int w 9998 _ _ _ e e' Tryd.underlying3)]
  rw [eqF_one (by rw [run_partArr Tryd.underlying23 szD, hd_ext1 hr]) (by rw [run_partArr Tryd.underlying23 szD, hd_ext1 hr']) (run_eqDg Tryd.underlying23 Tryd.underlying5 szU hr hr' w 9997)]
  rw [eqF_one (by rw [run_partArr Tryd.underlying23 szD, hd_ext2 hr hp]) (by rw [run_partArr Tryd.underlying23 szD, hd_ext2 hr' hp']) (run_eqDg Tryd.underlying23 Tryd.underlying5 szU hp hp' w 9997)]
  by_cases h1 : e = e' <;> by_cases h2 : r = r' <;> by_cases h3 : p = p' <;> simp [h1, h2, h3, eqF]
theorem hd_same {e e' : Int} {r r' p p' : List Int} (hr : r.length = 32) (hr' : r'.length = 32) (hp : p.length = 32) (hp' : p'.length = 32) (br : Byt r) (br' : Byt r') (bp : Byt p) (bp' : Byt p') (he : 1 ≤ e ∧ e ≤ 200) (he' : 1 ≤ e' ∧ e' ≤ 200) :
    (decide (ba ([] ++ grp e ++ r ++ p) = ba ([] ++ grp e' ++ r' ++ p')) == decide (e = e' ∧ r = r' ∧ p = p')) = true := by
  rw [beq_iff_eq, decide_eq_decide]
  show ba (grp e ++ r ++ p) = ba (grp e' ++ r' ++ p') ↔ _
  rw [ba_inj (((grp_byt (by omega) (by omega)).append br).append bp) (((grp_byt (by omega) (by omega)).append br').append bp')]
  constructor
  · intro h
    simp only [List.append_assoc] at h
    have h1 := rc_grp (m := e) (r ++ p) (by omega) (by omega)
    have h2 := rc_grp (m := e') (r' ++ p') (by omega) (by omega)
    rw [h, h2] at h1
    simp only [Prod.mk.injEq] at h1
    obtain rfl := h1.1
    have h3 := List.append_cancel_left h
    have h4 := List.append_inj h3 (by rw [hr, hr'])
    exact ⟨rfl, h4.1, h4.2⟩
  · rintro ⟨rfl, rfl, rfl⟩
    rfl
theorem xor_byt {x y : Int} : 0 ≤ bits2 .xor .u8 x y ∧ bits2 .xor .u8 x y < 256 := by
  have := (BitVec.ofInt 8 x ^^^ BitVec.ofInt 8 y).isLt
  have e : IntKind.u8.wrap ((BitVec.ofInt 8 x ^^^ BitVec.ofInt 8 y).toNat : Int) = ((BitVec.ofInt 8 x ^^^ BitVec.ofInt 8 y).toNat : Int) := Go.IntWalk.u8_in _ (by omega)
  have h2 : bits2 .xor .u8 x y = ((BitVec.ofInt 8 x ^^^ BitVec.ofInt 8 y).toNat : Int) := e
  rw [h2]
  omega
theorem run_partN {P : Program} {t : TypeId} {d : TypeDesc} {sz : Nat} {cs : Array Value} {off : Nat} {w : World} (hu : P.underlying t = some d) (hs : scalarB d = false) (hz : (P.info? t).map (·.size) = some sz) : (part t cs off).run P w = .ok (.agg (cs.extract off (off + sz))) w := by
  simp only [part, Sem.run_bind, Sx.run_isAgg hu, hs, Result.andThen_ok, Sx.run_sizeOf hz]
  simp [Sx.run_sizeOf hz]
theorem sg_ext1 {e : Int} {r p g : List Int} (hr : r.length = 32) (hp : p.length = 32) : (sgL e r p g).toArray.extract 0 (0 + 65) = (hdL e r p).toArray := by
  apply Array.ext'
  apply List.ext_getElem?
  intro i
  have hl := hdL_len (e := e) hr hp
  by_cases h : i < 65
  · have := sg_hd (e := e) (r := r) (p := p) (g := g) hr hp i (by omega)
    rw [Nat.zero_add] at this
    simp [List.getElem?_take, h, this]
  · rw [List.getElem?_eq_none (by simp; omega), List.getElem?_eq_none (by simp; omega)]
theorem sg_ext2 {e : Int} {r p g : List Int} (hr : r.length = 32) (hp : p.length = 32) (hg : g.length = 32) : (sgL e r p g).toArray.extract 65 (65 + 32) = (dg g).toArray := by
  apply Array.ext'
  apply List.ext_getElem?
  intro i
  by_cases h : i < 32
  · have := sg_sig (e := e) (r := r) (p := p) (g := g) hr hp i (by rw [dg_length]; omega)
    simp [List.getElem?_take, h, this]
  · rw [List.getElem?_eq_none (by simp; omega), List.getElem?_eq_none (by simp [dg_length]; omega)]
theorem szH : (Tryd.prog.info? 25).map (·.size) = some 65 := by kernel_rfl
theorem egS : Tryd.prog.eqGuardType Tryd.prog.depth 36 = false := by kernel_rfl
theorem eqS {e e' : Int} {r r' p p' g g' : List Int} (hr : r.length = 32) (hr' : r'.length = 32) (hp : p.length = 32) (hp' : p'.length = 32) (hg : g.length = 32) (hg' : g'.length = 32) (w : World) :
    (Op.equal 36 (.agg (sgL e r p g).toArray) (.agg (sgL e' r' p' g').toArray)).run Tryd.prog w = .ok (decide ((e = e' ∧ r = r' ∧ p = p') ∧ g = g')) w := by
  have hin : (Op.equalIn 9999 25 (.agg (hdL e r p).toArray) (.agg (hdL e' r' p').toArray)).run Tryd.prog w = .ok (decide (e = e' ∧ r = r' ∧ p = p')) w := by
    show (Op.equalIn (9998 + 1) _ _ _).run _ w = _
    rw [run_eqStruct w 9998 _ _ (by kernel_rfl) (by kernel_rfl) (spec := [(true, 3, 0), (true, 23, 1), (true, 23, 33)]) (by kernel_rfl)]
    rw [eqF_one (run_part1 (cs := hdL e r p) (v := .int .i64 e) Tryd.underlying3 rfl rfl) (run_part1 (cs := hdL e' r' p') (v := .int .i64 e') Tryd.underlying3 rfl rfl) (run_equalIn_int w 9997 _ _ _ e e' Tryd.underlying3)]
    rw [eqF_one (by rw [run_partArr Tryd.underlying23 szD, hd_ext1 hr]) (by rw [run_partArr Tryd.underlying23 szD, hd_ext1 hr']) (run_eqDg Tryd.underlying23 Tryd.underlying5 szU hr hr' w 9996)]
    rw [eqF_one (by rw [run_partArr Tryd.underlying23 szD, hd_ext2 hr hp]) (by rw [run_partArr Tryd.underlying23 szD, hd_ext2 hr' hp']) (run_eqDg Tryd.underlying23 Tryd.underlying5 szU hp hp' w 9996)]
    by_cases h1 : e = e' <;> by_cases h2 : r = r' <;> by_cases h3 : p = p' <;> simp [h1, h2, h3, eqF]
  show (Op.equalIn (9999 + 1) _ _ _).run _ w = _
  rw [run_eqStruct w 9999 _ _ (by kernel_rfl) (by kernel_rfl) (spec := [(true, 25, 0), (true, 23, 65)]) (by kernel_rfl)]
  rw [eqF_one (by rw [run_partN Tryd.underlying25 rfl szH, sg_ext1 hr hp]) (by rw [run_partN Tryd.underlying25 rfl szH, sg_ext1 hr' hp']) hin]
  rw [eqF_one (by rw [run_partArr Tryd.underlying23 szD, sg_ext2 hr hp hg]) (by rw [run_partArr Tryd.underlying23 szD, sg_ext2 hr' hp' hg']) (run_eqDg Tryd.underlying23 Tryd.underlying5 szU hg hg' w 9997)]
  by_cases h1 : (e = e' ∧ r = r' ∧ p = p') <;> by_cases h2 : g = g' <;> simp [h1, h2, eqF]
def sk : ByteArray := ⟨#[107]⟩
def sl : ByteArray := ⟨#[108]⟩
theorem sg1 : chk sk 1 zd zd (sgn sk 1 zd zd) = 0 := by
  unfold chk
  rw [if_pos ⟨by decide, by decide⟩, if_pos rfl]
theorem sg2n : sgn sl 1 zd zd ≠ sgn sk 1 zd zd := by decide +kernel
theorem sg2 : chk sl 1 zd zd (sgn sk 1 zd zd) = 81 := by
  unfold chk
  rw [if_pos ⟨by decide, by decide⟩, if_neg sg2n]
theorem chk_b {s : ByteArray} {er : Int} {r p gg : List Int} (w : World) (hr : r.length = 32) (hp : p.length = 32) (hg : gg.length = 32) (hrb : Byt r) (hpb : Byt p) (hgb : Byt gg) (hK : TabK KT 0 w) {x : Int} (h : chk s er r p gg = x) : Calls Tryd.prog 17 #[.string s, .agg (sgL er r p gg).toArray] w fun e w' => e = .returned (.int .i64 x) ∧ Fr [] w w' := by
  subst h
  exact chk_w s er r p gg w hr hp hg hrb hpb hgb hK
theorem sz25x : (Tryd.prog.info? 25).map (·.size) = some 65 := by kernel_rfl
theorem sz36x : (Tryd.prog.info? 36).map (·.size) = some 97 := by kernel_rfl
theorem tx14x : Txt Tryd.prog 14 := txt_of Tryd.func14 rfl (by kernel_rfl)
theorem tx17x : Txt Tryd.prog 17 := txt_of Tryd.func17 rfl (by kernel_rfl)
theorem tx27x : Txt Tryd.prog 27 := txt_of Tryd.func27 rfl (by kernel_rfl)
theorem z36x : (Tryd.prog.info? 36).bind (·.zero) = some (.agg (sgL 0 zd zd zd).toArray) := by kernel_rfl

theorem signs_w (w : World) (hK : TabK KT 0 w)  :
    Calls Tryd.prog 16 #[] w fun e w' => e = .returned (.bool true) ∧ Fr [] w w' := by
  refine calls_of (args := []) ([]) ([]) ([]) Tryd.func16 rfl rfl (okW0 _ _ _ _) ?_
  refine J_seq ?_
  refine J_region ?_
  refine L_v rfl rfl rfl (V_assign rfl rfl) ?_
  refine L_nil ?_
  change J _ _ _ _
  refine J_seq ?_
  refine J_region ?_
  refine L_callV rfl rfl rfl rfl rfl rfl tx27x (fun w1 _ => first_w w1) ?_
  refine L_callV rfl rfl rfl rfl rfl rfl tx14x (fun w1 hw => sign_ok sk 1 zd zd w1 zd_length zd_length zd_byt zd_byt rfl rfl (TabK.later hw (by simp) hK)) ?_
  refine L_v rfl rfl rfl (V_move rfl rfl) ?_
  refine L_v rfl rfl rfl (V_extract rfl rfl rfl) ?_
  refine L_v rfl rfl rfl (V_extract rfl rfl rfl) ?_
  refine L_alloc rfl rfl rfl rfl z36x (fun b0 => ?_)
  refine L_storeW 0 rfl rfl rfl rfl rfl rfl (szd sz36x (by first | exact sgL_len (by first | assumption | exact shaP_len _ | exact sgn_len _ _ _ _ | exact macP_len _ _ | exact zd_length | rfl) (by first | assumption | exact shaP_len _ | exact sgn_len _ _ _ _ | exact macP_len _ _ | exact zd_length | rfl) (by first | assumption | exact shaP_len _ | exact sgn_len _ _ _ _ | exact macP_len _ _ | exact zd_length | rfl) | (rw [sgL_len (by first | assumption | exact shaP_len _ | exact sgn_len _ _ _ _ | exact macP_len _ _ | exact zd_length | rfl) (by first | assumption | exact shaP_len _ | exact sgn_len _ _ _ _ | exact macP_len _ _ | exact zd_length | rfl) (by first | assumption | exact shaP_len _ | exact sgn_len _ _ _ _ | exact macP_len _ _ | exact zd_length | rfl), sgL_len (by first | assumption | exact shaP_len _ | exact sgn_len _ _ _ _ | exact macP_len _ _ | exact zd_length | rfl) (by first | assumption | exact shaP_len _ | exact sgn_len _ _ _ _ | exact macP_len _ _ | exact zd_length | rfl) (by first | assumption | exact shaP_len _ | exact sgn_len _ _ _ _ | exact macP_len _ _ | exact zd_length | rfl)]))) (by first | exact sgL_one _ _ _ _ | exact hd_one _ _ _ | exact dg_one _) (by first | exact sgL_len (by first | assumption | exact shaP_len _ | exact sgn_len _ _ _ _ | exact macP_len _ _ | exact zd_length | rfl) (by first | assumption | exact shaP_len _ | exact sgn_len _ _ _ _ | exact macP_len _ _ | exact zd_length | rfl) (by first | assumption | exact shaP_len _ | exact sgn_len _ _ _ _ | exact macP_len _ _ | exact zd_length | rfl) | (rw [sgL_len (by first | assumption | exact shaP_len _ | exact sgn_len _ _ _ _ | exact macP_len _ _ | exact zd_length | rfl) (by first | assumption | exact shaP_len _ | exact sgn_len _ _ _ _ | exact macP_len _ _ | exact zd_length | rfl) (by first | assumption | exact shaP_len _ | exact sgn_len _ _ _ _ | exact macP_len _ _ | exact zd_length | rfl), sgL_len (by first | assumption | exact shaP_len _ | exact sgn_len _ _ _ _ | exact macP_len _ _ | exact zd_length | rfl) (by first | assumption | exact shaP_len _ | exact sgn_len _ _ _ _ | exact macP_len _ _ | exact zd_length | rfl) (by first | assumption | exact shaP_len _ | exact sgn_len _ _ _ _ | exact macP_len _ _ | exact zd_length | rfl)])) ?_
  refine L_v rfl rfl rfl (V_assign rfl rfl) ?_
  refine L_nil ?_
  change J _ _ _ _
  refine J_seq ?_
  refine J_region ?_
  refine L_v rfl rfl rfl (V_loadW 0 rfl rfl rfl Tryd.underlying36 rfl (szd sz36x (by first | exact sgL_len (by first | assumption | exact shaP_len _ | exact sgn_len _ _ _ _ | exact macP_len _ _ | exact zd_length | rfl) (by first | assumption | exact shaP_len _ | exact sgn_len _ _ _ _ | exact macP_len _ _ | exact zd_length | rfl) (by first | assumption | exact shaP_len _ | exact sgn_len _ _ _ _ | exact macP_len _ _ | exact zd_length | rfl) | (rw [sgL_len (by first | assumption | exact shaP_len _ | exact sgn_len _ _ _ _ | exact macP_len _ _ | exact zd_length | rfl) (by first | assumption | exact shaP_len _ | exact sgn_len _ _ _ _ | exact macP_len _ _ | exact zd_length | rfl) (by first | assumption | exact shaP_len _ | exact sgn_len _ _ _ _ | exact macP_len _ _ | exact zd_length | rfl), sgL_len (by first | assumption | exact shaP_len _ | exact sgn_len _ _ _ _ | exact macP_len _ _ | exact zd_length | rfl) (by first | assumption | exact shaP_len _ | exact sgn_len _ _ _ _ | exact macP_len _ _ | exact zd_length | rfl) (by first | assumption | exact shaP_len _ | exact sgn_len _ _ _ _ | exact macP_len _ _ | exact zd_length | rfl)])))) ?_
  refine L_callV rfl rfl rfl rfl rfl rfl tx17x (fun w1 hw => chk_b w1 zd_length zd_length (sgn_len _ _ _ _) zd_byt zd_byt (sgn_byt _ _ _ _) (TabK.later hw (by simp) hK) sg1) ?_
  refine L_v rfl rfl rfl (V_assign rfl rfl) ?_
  refine L_nil ?_
  change J _ _ _ _
  refine J_seq ?_
  refine J_region ?_
  refine L_v rfl rfl rfl (V_loadW 0 rfl rfl rfl Tryd.underlying36 rfl (szd sz36x (by first | exact sgL_len (by first | assumption | exact shaP_len _ | exact sgn_len _ _ _ _ | exact macP_len _ _ | exact zd_length | rfl) (by first | assumption | exact shaP_len _ | exact sgn_len _ _ _ _ | exact macP_len _ _ | exact zd_length | rfl) (by first | assumption | exact shaP_len _ | exact sgn_len _ _ _ _ | exact macP_len _ _ | exact zd_length | rfl) | (rw [sgL_len (by first | assumption | exact shaP_len _ | exact sgn_len _ _ _ _ | exact macP_len _ _ | exact zd_length | rfl) (by first | assumption | exact shaP_len _ | exact sgn_len _ _ _ _ | exact macP_len _ _ | exact zd_length | rfl) (by first | assumption | exact shaP_len _ | exact sgn_len _ _ _ _ | exact macP_len _ _ | exact zd_length | rfl), sgL_len (by first | assumption | exact shaP_len _ | exact sgn_len _ _ _ _ | exact macP_len _ _ | exact zd_length | rfl) (by first | assumption | exact shaP_len _ | exact sgn_len _ _ _ _ | exact macP_len _ _ | exact zd_length | rfl) (by first | assumption | exact shaP_len _ | exact sgn_len _ _ _ _ | exact macP_len _ _ | exact zd_length | rfl)])))) ?_
  refine L_callV rfl rfl rfl rfl rfl rfl tx17x (fun w1 hw => chk_b w1 zd_length zd_length (sgn_len _ _ _ _) zd_byt zd_byt (sgn_byt _ _ _ _) (TabK.later hw (by simp) hK) sg2) ?_
  refine L_v rfl rfl rfl (V_assign rfl rfl) ?_
  refine L_nil ?_
  change J _ _ _ _
  refine J_seq ?_
  refine J_regionQ rfl (by kernel_rfl) ?_
  refine LQ_v rfl rfl rfl (V_move rfl rfl) ?_
  refine LQ_v rfl rfl rfl (V_eql rfl rfl rfl (by first | exact decide_eq_true (by omega) | exact decide_eq_false (by omega) | rfl)) ?_
  refine LQ_v rfl rfl rfl (V_move rfl rfl) ?_
  refine LQ_wv rfl rfl rfl rfl rfl rfl (V_move rfl rfl) ?_
  refine LQ_wv rfl rfl rfl rfl rfl rfl (V_eql rfl rfl rfl (by first | exact decide_eq_true (by omega) | exact decide_eq_false (by omega) | rfl)) ?_
  first | refine LQ_v rfl rfl rfl (V_pickT rfl rfl rfl) ?_ | refine LQ_v rfl rfl rfl (V_pickF rfl rfl rfl) ?_
  refine LQ_v rfl rfl rfl (V_move rfl rfl) ?_
  refine LQ_wv rfl rfl rfl rfl rfl rfl (V_move rfl rfl) ?_
  refine LQ_wv rfl rfl rfl rfl rfl rfl (V_eql rfl rfl rfl (by first | exact decide_eq_true (by omega) | exact decide_eq_false (by omega) | rfl)) ?_
  first | refine LQ_v rfl rfl rfl (V_pickT rfl rfl rfl) ?_ | refine LQ_v rfl rfl rfl (V_pickF rfl rfl rfl) ?_
  refine LQ_v rfl rfl rfl (V_move rfl rfl) ?_
  refine LQ_wv rfl rfl rfl rfl rfl rfl (V_fieldAddr rfl rfl Tryd.underlying36 rfl sz25x rfl) ?_
  refine LQ_wv rfl rfl rfl rfl rfl rfl (V_loadP 0 (vs := hdL 1 zd zd) rfl rfl rfl Tryd.underlying25 rfl (szd sz25x (by first | exact hdL_len (by first | assumption | exact shaP_len _ | exact sgn_len _ _ _ _ | exact macP_len _ _ | exact zd_length | rfl) (by first | assumption | exact shaP_len _ | exact sgn_len _ _ _ _ | exact macP_len _ _ | exact zd_length | rfl) | (rw [hdL_len (by first | assumption | exact shaP_len _ | exact sgn_len _ _ _ _ | exact macP_len _ _ | exact zd_length | rfl) (by first | assumption | exact shaP_len _ | exact sgn_len _ _ _ _ | exact macP_len _ _ | exact zd_length | rfl), hdL_len (by first | assumption | exact shaP_len _ | exact sgn_len _ _ _ _ | exact macP_len _ _ | exact zd_length | rfl) (by first | assumption | exact shaP_len _ | exact sgn_len _ _ _ _ | exact macP_len _ _ | exact zd_length | rfl)]))) (sg_hd zd_length zd_length)) ?_
  refine LQ_wcallV rfl rfl rfl rfl rfl rfl rfl rfl rfl tx27x (fun w1 _ => first_w w1) ?_
  refine LQ_wv rfl rfl rfl rfl rfl rfl (V_eqAgg rfl rfl rfl egH (fun w => eqH (by first | assumption | exact shaP_len _ | exact sgn_len _ _ _ _ | exact macP_len _ _ | exact zd_length | rfl) (by first | assumption | exact shaP_len _ | exact sgn_len _ _ _ _ | exact macP_len _ _ | exact zd_length | rfl) (by first | assumption | exact shaP_len _ | exact sgn_len _ _ _ _ | exact macP_len _ _ | exact zd_length | rfl) (by first | assumption | exact shaP_len _ | exact sgn_len _ _ _ _ | exact macP_len _ _ | exact zd_length | rfl) w) (decide_eq_true ⟨rfl, rfl, rfl⟩)) ?_
  first | refine LQ_v rfl rfl rfl (V_pickT rfl rfl rfl) ?_ | refine LQ_v rfl rfl rfl (V_pickF rfl rfl rfl) ?_
  refine LQ_v rfl rfl rfl (V_assign rfl rfl) ?_
  refine LQ_nil ?_
  change J _ _ _ _
  refine J_ret ?_
  change Kret _ _ _ Exit.ret _
  refine ret1 rfl rfl (RV_t rfl) ?_
  exact fun w' h => ⟨rfl, h.fr⟩

end Go.Proofs.YtbckeoidnpfbnaaDoor
