/- What the law HeadApart comes to. -/
import Derived.Test.YtbckeoidnpfbnaaHead
set_option linter.unusedVariables false
set_option linter.unusedSimpArgs false
set_option maxRecDepth 100000
namespace Go.Proofs.Ytbckeoidnpfbnaa
open Go.Sx
theorem hd_ext1 {e : Int} {r p : List Int} (hr : r.length = 32) : (hdL e r p).toArray.extract 1 (1 + 32) = (dg r).toArray := by
  apply Array.ext'
  apply List.ext_getElem?
  intro i
  by_cases h : i < 32
  · have := hd_root (e := e) (r := r) (p := p) hr i (by rw [dg_length]; omega)
    rw [Nat.add_comm 1 i] at this
    simp [List.getElem?_take, h, this]
  · rw [List.getElem?_eq_none (by simp; omega), List.getElem?_eq_none (by simp [dg_length]; omega)]
theorem hd_ext2 {e : Int} {r p : List Int} (hr : r.length = 32) (hp : p.length = 32) : (hdL e r p).toArray.extract 33 (33 + 32) = (dg p).toArray := by
  apply Array.ext'
  apply List.ext_getElem?
  intro i
  by_cases h : i < 32
  · have := hd_prev (e := e) (r := r) (p := p) hr i (by rw [dg_length]; omega)
    simp [List.getElem?_take, h, this]
  · rw [List.getElem?_eq_none (by simp; omega), List.getElem?_eq_none (by simp [dg_length]; omega)]
theorem szD : (Try.prog.info? 23).map (·.size) = some 32 := by kernel_rfl
theorem szU : (Try.prog.info? 5).map (·.size) = some 1 := by kernel_rfl
theorem egH : Try.prog.eqGuardType Try.prog.depth 25 = false := by kernel_rfl
theorem eqH {e e' : Int} {r r' p p' : List Int} (hr : r.length = 32) (hr' : r'.length = 32) (hp : p.length = 32) (hp' : p'.length = 32) (w : World) :
    (Op.equal 25 (.agg (hdL e r p).toArray) (.agg (hdL e' r' p').toArray)).run Try.prog w = .ok (decide (e = e' ∧ r = r' ∧ p = p')) w := by
  show (Op.equalIn (9999 + 1) _ _ _).run _ w = _
  rw [run_eqStruct w 9999 _ _ (by kernel_rfl) (by kernel_rfl) (spec := [(true, 3, 0), (true, 23, 1), (true, 23, 33)]) (by kernel_rfl)]
  rw [eqF_one (run_part1 (cs := hdL e r p) (v := .int .i64 e) Try.underlying3 rfl rfl) (run_part1 (cs := hdL e' r' p') (v := .int .i64 e') Try.underlying3 rfl rfl) (run_equalIn_int w 9998 _ _ _ e e' Try.underlying3)]
  rw [eqF_one (by rw [run_partArr Try.underlying23 szD, hd_ext1 hr]) (by rw [run_partArr Try.underlying23 szD, hd_ext1 hr']) (run_eqDg Try.underlying23 Try.underlying5 szU hr hr' w 9997)]
  rw [eqF_one (by rw [run_partArr Try.underlying23 szD, hd_ext2 hr hp]) (by rw [run_partArr Try.underlying23 szD, hd_ext2 hr' hp']) (run_eqDg Try.underlying23 Try.underlying5 szU hp hp' w 9997)]
  by_cases h1 : e = e' <;> by_cases h2 : r = r' <;> by_cases h3 : p = p' <;> simp [h1, h2, h3, eqF]
theorem hd_same {e e' : Int} {r r' p p' : List Int} (hr : r.length = 32) (hr' : r'.length = 32) (hp : p.length = 32) (hp' : p'.length = 32) (br : Byt r) (br' : Byt r') (bp : Byt p) (bp' : Byt p') (he : 1 ≤ e ∧ e ≤ 200) (he' : 1 ≤ e' ∧ e' ≤ 200) :
    (decide (ba ([] ++ grp e ++ r ++ p) = ba ([] ++ grp e' ++ r' ++ p')) == decide (e = e' ∧ r = r' ∧ p = p')) = true := by
  rw [beq_iff_eq, decide_eq_decide]
  show ba (grp e ++ r ++ p) = ba (grp e' ++ r' ++ p') ↔ _
  rw [ba_inj (((grp_byt (by omega) (by omega)).append br).append bp) (((grp_byt (by omega) (by omega)).append br').append bp')]
  constructor
  · intro h
    simp only [List.append_assoc] at h
    have h1 := rc_grp (m := e) (r ++ p) (by omega) (by omega)
    have h2 := rc_grp (m := e') (r' ++ p') (by omega) (by omega)
    rw [h, h2] at h1
    simp only [Prod.mk.injEq] at h1
    obtain rfl := h1.1
    have h3 := List.append_cancel_left h
    have h4 := List.append_inj h3 (by rw [hr, hr'])
    exact ⟨rfl, h4.1, h4.2⟩
  · rintro ⟨rfl, rfl, rfl⟩
    rfl
theorem xor_byt {x y : Int} : 0 ≤ bits2 .xor .u8 x y ∧ bits2 .xor .u8 x y < 256 := by
  have := (BitVec.ofInt 8 x ^^^ BitVec.ofInt 8 y).isLt
  have e : IntKind.u8.wrap ((BitVec.ofInt 8 x ^^^ BitVec.ofInt 8 y).toNat : Int) = ((BitVec.ofInt 8 x ^^^ BitVec.ofInt 8 y).toNat : Int) := Go.IntWalk.u8_in _ (by omega)
  have h2 : bits2 .xor .u8 x y = ((BitVec.ofInt 8 x ^^^ BitVec.ofInt 8 y).toNat : Int) := e
  rw [h2]
  omega
theorem sz5q : (Try.prog.info? 5).map (·.size) = some 1 := by kernel_rfl
theorem sz23q : (Try.prog.info? 23).map (·.size) = some 32 := by kernel_rfl
theorem sz25q : (Try.prog.info? 25).map (·.size) = some 65 := by kernel_rfl
theorem tx4q : Txt Try.prog 4 := txt_of Try.func4 rfl (by kernel_rfl)
theorem tx5q : Txt Try.prog 5 := txt_of Try.func5 rfl (by kernel_rfl)

theorem HeadApart_A11 (eg eh at_ by_ : Int) (rg pg rh ph : List Int) (w : World) (hrg : rg.length = 32) (hpg : pg.length = 32) (hrh : rh.length = 32) (hph : ph.length = 32) (brg : Byt rg) (bpg : Byt pg) (brh : Byt rh) (bph : Byt ph) (hat : 0 ≤ at_ ∧ at_ < 32) (heg : (1 ≤ eg ∧ eg ≤ 200)) (heh : (1 ≤ eh ∧ eh ≤ 200)) :
    Calls Try.prog 3 #[.agg (hdL eg rg pg).toArray, .agg (hdL eh rh ph).toArray, .int .i64 at_, .int .u8 by_] w fun e w' => e = .returned (.bool true) ∧ Fr [] w w' := by
  have hR : (rh.set at_.toNat (bits2 .xor .u8 (rh.getD at_.toNat 0) by_)).length = 32 := by rw [List.length_set]; exact hrh
  have hP : ph.length = 32 := by exact hph
  have hfin := hd_same hrg hR hpg hP brg (brh.set _ xor_byt) bpg bph heg heh
  refine calls_of (args := [.agg (hdL eg rg pg).toArray, .agg (hdL eh rh ph).toArray, .int .i64 at_, .int .u8 by_]) ([]) ([]) ([]) Try.func3 rfl rfl (okW0 _ _ _ _) ?_
  refine J_seq ?_
  refine J_region ?_
  refine L_box rfl rfl rfl rfl rfl (fun b0 => ?_)
  refine L_box rfl rfl rfl rfl rfl (fun b1 => ?_)
  refine L_v rfl rfl rfl (V_assign rfl rfl) ?_
  refine L_nil ?_
  change J _ _ _ _
  refine J_seq ?_
  refine J_seq ?_
  refine J_region ?_
  refine L_v rfl rfl rfl (V_move rfl rfl) ?_
  refine L_v rfl rfl rfl (V_geq rfl rfl rfl (by first | exact decide_eq_true (by omega) | exact decide_eq_false (by omega) | rfl)) ?_
  refine L_v rfl rfl rfl (V_move rfl rfl) ?_
  refine L_wv rfl rfl rfl rfl rfl rfl (V_move rfl rfl) ?_
  refine L_wv rfl rfl rfl rfl rfl rfl (V_lss rfl rfl rfl (by first | exact decide_eq_true (by omega) | exact decide_eq_false (by omega) | rfl)) ?_
  first | refine L_v rfl rfl rfl (V_pickT rfl rfl rfl) ?_ | refine L_v rfl rfl rfl (V_pickF rfl rfl rfl) ?_
  refine L_nil ?_
  change J _ _ _ _
  refine J_true rfl ?_
  refine J_region ?_
  refine L_v rfl rfl rfl (V_move rfl rfl) ?_
  refine L_v rfl rfl rfl (V_move rfl rfl) ?_
  refine L_v rfl rfl rfl (V_fieldAddr rfl rfl Try.underlying25 rfl sz23q rfl) ?_
  refine L_v rfl rfl rfl (V_indexArr rfl rfl rfl Try.underlying23 sz5q (by omega) (by omega) (by first | exact ix0 _ | exact ix1 _ _ | rfl)) ?_
  refine L_v rfl rfl rfl (V_load1 1 rfl rfl rfl Try.underlying5 rfl (by first | exact hd_getR (by omega) | exact hd_getP hrh (by omega) | rfl)) ?_
  refine L_v rfl rfl rfl (V_move rfl rfl) ?_
  refine L_v rfl rfl rfl (V_xor rfl rfl rfl rfl) ?_
  refine L_v rfl rfl rfl (V_fieldAddr rfl rfl Try.underlying25 rfl sz23q rfl) ?_
  refine L_v rfl rfl rfl (V_indexArr rfl rfl rfl Try.underlying23 sz5q (by omega) (by omega) (by first | exact ix0 _ | exact ix1 _ _ | rfl)) ?_
  refine L_store1 1 rfl rfl rfl rfl rfl rfl rfl sz5q (by rw [hdL_len hrh hph]; first | (show 1 + at_.toNat < 65; omega) | (show 33 + (at_ - 32).toNat < 65; omega)) (by first | exact hd_setR (by omega) _ | exact hd_setP hrh _ | rfl) ?_
  refine L_nil ?_
  change J _ _ _ _
  refine J_seq ?_
  refine J_seq ?_
  refine J_region ?_
  refine L_v rfl rfl rfl (V_move rfl rfl) ?_
  refine L_v rfl rfl rfl (V_geq rfl rfl rfl (by first | exact decide_eq_true (by omega) | exact decide_eq_false (by omega) | rfl)) ?_
  refine L_v rfl rfl rfl (V_move rfl rfl) ?_
  refine L_skip rfl rfl rfl rfl rfl rfl rfl ?_
  refine L_skip rfl rfl rfl rfl rfl rfl rfl ?_
  first | refine L_v rfl rfl rfl (V_pickT rfl rfl rfl) ?_ | refine L_v rfl rfl rfl (V_pickF rfl rfl rfl) ?_
  refine L_nil ?_
  change J _ _ _ _
  refine J_false rfl ?_
  refine J_skip ?_
  change J _ _ _ _
  refine J_seq ?_
  refine J_region ?_
  refine L_v rfl rfl rfl (V_loadW 0 rfl rfl rfl Try.underlying25 rfl (szd sz25q (by first | exact hdL_len (by first | assumption | rfl) (by first | assumption | rfl) | (simp [dg_length, zd_length, *]; done) | exact (hdL_len (by first | assumption | rfl) (by first | assumption | rfl)).symm))) ?_
  refine L_callB rfl rfl rfl rfl rfl rfl tx4q (fun w hw => hbytes_ok eg rg pg w hrg hpg (by omega) (by omega)) (fun g1 r1 c1 hl1 hc1 hr1 => ?_)
  refine L_v rfl rfl rfl (V_move rfl rfl) ?_
  refine L_v rfl rfl rfl (V_extract rfl rfl rfl) ?_
  refine L_v rfl rfl rfl (V_extract rfl rfl rfl) ?_
  refine L_v rfl rfl rfl (V_assign rfl rfl) ?_
  refine L_v rfl rfl rfl (V_assign rfl rfl) ?_
  refine L_nil ?_
  change J _ _ _ _
  refine J_seq ?_
  refine J_region ?_
  refine L_v rfl rfl rfl (V_loadW 1 rfl rfl rfl Try.underlying25 rfl (szd sz25q (by first | exact hdL_len (by first | assumption | rfl) (by first | assumption | rfl) | (simp [dg_length, zd_length, *]; done) | exact (hdL_len (by first | assumption | rfl) (by first | assumption | rfl)).symm))) ?_
  refine L_callB rfl rfl rfl rfl rfl rfl tx4q (fun w hw => hbytes_ok eh (rh.set at_.toNat (bits2 .xor .u8 (rh.getD at_.toNat 0) by_)) ph w hR hP (by omega) (by omega)) (fun g2 r2 c2 hl2 hc2 hr2 => ?_)
  refine L_v rfl rfl rfl (V_move rfl rfl) ?_
  refine L_v rfl rfl rfl (V_extract rfl rfl rfl) ?_
  refine L_v rfl rfl rfl (V_extract rfl rfl rfl) ?_
  refine L_v rfl rfl rfl (V_assign rfl rfl) ?_
  refine L_v rfl rfl rfl (V_assign rfl rfl) ?_
  refine L_nil ?_
  change J _ _ _ _
  refine J_seq ?_
  refine J_seq ?_
  refine J_region ?_
  refine L_v rfl rfl rfl (V_move rfl rfl) ?_
  refine L_v rfl rfl rfl (V_neq rfl rfl rfl (by first | exact decide_eq_true (by omega) | exact decide_eq_false (by omega) | rfl)) ?_
  refine L_v rfl rfl rfl (V_move rfl rfl) ?_
  refine L_wv rfl rfl rfl rfl rfl rfl (V_move rfl rfl) ?_
  refine L_wv rfl rfl rfl rfl rfl rfl (V_neq rfl rfl rfl (by first | exact decide_eq_true (by omega) | exact decide_eq_false (by omega) | rfl)) ?_
  first | refine L_v rfl rfl rfl (V_pickT rfl rfl rfl) ?_ | refine L_v rfl rfl rfl (V_pickF rfl rfl rfl) ?_
  refine L_nil ?_
  change J _ _ _ _
  refine J_false rfl ?_
  refine J_skip ?_
  change J _ _ _ _
  refine J_seq ?_
  refine J_regionO [(0, true), (1, false), (2, false), (3, false), (4, false), (5, false), (6, false), (7, false), (8, false), (9, false), (10, false), (11, false), (12, false)] _ _ (Pk.refl _) (fun f hf => hf) rfl rfl (by kernel_rfl) ?_
  refine LO_callV rfl rfl rfl rfl rfl rfl rfl rfl tx5q (fun w _ => lays_w w) (Pk.refl _) (fun f hf => hf) ?_
  refine LO_v rfl rfl rfl rfl (V_move rfl rfl) ?_
  refine LO_wv rfl rfl rfl rfl rfl rfl rfl (V_move rfl rfl) ?_
  refine LO_wv rfl rfl rfl rfl rfl rfl rfl (V_str rfl rfl Try.underlying26 Try.underlying5 Try.underlying9 (fun w hw => SlB.of_own hw (i := 2) rfl hl1 c1)) ?_
  refine LO_wv rfl rfl rfl rfl rfl rfl rfl (V_move rfl rfl) ?_
  refine LO_wv rfl rfl rfl rfl rfl rfl rfl (V_str rfl rfl Try.underlying26 Try.underlying5 Try.underlying9 (fun w hw => SlB.of_own hw (i := 3) rfl hl2 c2)) ?_
  refine LO_wv rfl rfl rfl rfl rfl rfl rfl (V_eqS rfl rfl rfl rfl) ?_
  refine LO_wv rfl rfl rfl rfl rfl rfl rfl (V_loadW 0 rfl rfl rfl Try.underlying25 rfl (szd sz25q (by first | exact hdL_len (by first | assumption | rfl) (by first | assumption | rfl) | (simp [dg_length, zd_length, *]; done) | exact (hdL_len (by first | assumption | rfl) (by first | assumption | rfl)).symm))) ?_
  refine LO_wv rfl rfl rfl rfl rfl rfl rfl (V_loadW 1 rfl rfl rfl Try.underlying25 rfl (szd sz25q (by first | exact hdL_len (by first | assumption | rfl) (by first | assumption | rfl) | (simp [dg_length, zd_length, *]; done) | exact (hdL_len (by first | assumption | rfl) (by first | assumption | rfl)).symm))) ?_
  refine LO_wv rfl rfl rfl rfl rfl rfl rfl (V_eqAgg rfl rfl rfl egH (fun w => eqH hrg hR hpg hP w) rfl) ?_
  refine LO_wv rfl rfl rfl rfl rfl rfl rfl (V_eqB rfl rfl rfl Try.underlying4 hfin) ?_
  first | refine LO_v rfl rfl rfl rfl (V_pickT rfl rfl rfl) ?_ | refine LO_v rfl rfl rfl rfl (V_pickF rfl rfl rfl) ?_
  refine LO_v rfl rfl rfl rfl (V_assign rfl rfl) ?_
  refine LO_nil ?_
  change J _ _ _ _
  refine J_ret ?_
  change Kret _ _ _ Exit.ret _
  refine ret1 rfl rfl (RV_t rfl) ?_
  exact fun w' h => ⟨rfl, h.fr⟩

theorem HeadApart_A10 (eg eh at_ by_ : Int) (rg pg rh ph : List Int) (w : World) (hrg : rg.length = 32) (hpg : pg.length = 32) (hrh : rh.length = 32) (hph : ph.length = 32) (brg : Byt rg) (bpg : Byt pg) (brh : Byt rh) (bph : Byt ph) (hat : 0 ≤ at_ ∧ at_ < 32) (heg : (1 ≤ eg ∧ eg ≤ 200)) (heh : ¬ (1 ≤ eh ∧ eh ≤ 200)) :
    Calls Try.prog 3 #[.agg (hdL eg rg pg).toArray, .agg (hdL eh rh ph).toArray, .int .i64 at_, .int .u8 by_] w fun e w' => e = .returned (.bool true) ∧ Fr [] w w' := by
  have hR : (rh.set at_.toNat (bits2 .xor .u8 (rh.getD at_.toNat 0) by_)).length = 32 := by rw [List.length_set]; exact hrh
  have hP : ph.length = 32 := by exact hph
  refine calls_of (args := [.agg (hdL eg rg pg).toArray, .agg (hdL eh rh ph).toArray, .int .i64 at_, .int .u8 by_]) ([]) ([]) ([]) Try.func3 rfl rfl (okW0 _ _ _ _) ?_
  refine J_seq ?_
  refine J_region ?_
  refine L_box rfl rfl rfl rfl rfl (fun b0 => ?_)
  refine L_box rfl rfl rfl rfl rfl (fun b1 => ?_)
  refine L_v rfl rfl rfl (V_assign rfl rfl) ?_
  refine L_nil ?_
  change J _ _ _ _
  refine J_seq ?_
  refine J_seq ?_
  refine J_region ?_
  refine L_v rfl rfl rfl (V_move rfl rfl) ?_
  refine L_v rfl rfl rfl (V_geq rfl rfl rfl (by first | exact decide_eq_true (by omega) | exact decide_eq_false (by omega) | rfl)) ?_
  refine L_v rfl rfl rfl (V_move rfl rfl) ?_
  refine L_wv rfl rfl rfl rfl rfl rfl (V_move rfl rfl) ?_
  refine L_wv rfl rfl rfl rfl rfl rfl (V_lss rfl rfl rfl (by first | exact decide_eq_true (by omega) | exact decide_eq_false (by omega) | rfl)) ?_
  first | refine L_v rfl rfl rfl (V_pickT rfl rfl rfl) ?_ | refine L_v rfl rfl rfl (V_pickF rfl rfl rfl) ?_
  refine L_nil ?_
  change J _ _ _ _
  refine J_true rfl ?_
  refine J_region ?_
  refine L_v rfl rfl rfl (V_move rfl rfl) ?_
  refine L_v rfl rfl rfl (V_move rfl rfl) ?_
  refine L_v rfl rfl rfl (V_fieldAddr rfl rfl Try.underlying25 rfl sz23q rfl) ?_
  refine L_v rfl rfl rfl (V_indexArr rfl rfl rfl Try.underlying23 sz5q (by omega) (by omega) (by first | exact ix0 _ | exact ix1 _ _ | rfl)) ?_
  refine L_v rfl rfl rfl (V_load1 1 rfl rfl rfl Try.underlying5 rfl (by first | exact hd_getR (by omega) | exact hd_getP hrh (by omega) | rfl)) ?_
  refine L_v rfl rfl rfl (V_move rfl rfl) ?_
  refine L_v rfl rfl rfl (V_xor rfl rfl rfl rfl) ?_
  refine L_v rfl rfl rfl (V_fieldAddr rfl rfl Try.underlying25 rfl sz23q rfl) ?_
  refine L_v rfl rfl rfl (V_indexArr rfl rfl rfl Try.underlying23 sz5q (by omega) (by omega) (by first | exact ix0 _ | exact ix1 _ _ | rfl)) ?_
  refine L_store1 1 rfl rfl rfl rfl rfl rfl rfl sz5q (by rw [hdL_len hrh hph]; first | (show 1 + at_.toNat < 65; omega) | (show 33 + (at_ - 32).toNat < 65; omega)) (by first | exact hd_setR (by omega) _ | exact hd_setP hrh _ | rfl) ?_
  refine L_nil ?_
  change J _ _ _ _
  refine J_seq ?_
  refine J_seq ?_
  refine J_region ?_
  refine L_v rfl rfl rfl (V_move rfl rfl) ?_
  refine L_v rfl rfl rfl (V_geq rfl rfl rfl (by first | exact decide_eq_true (by omega) | exact decide_eq_false (by omega) | rfl)) ?_
  refine L_v rfl rfl rfl (V_move rfl rfl) ?_
  refine L_skip rfl rfl rfl rfl rfl rfl rfl ?_
  refine L_skip rfl rfl rfl rfl rfl rfl rfl ?_
  first | refine L_v rfl rfl rfl (V_pickT rfl rfl rfl) ?_ | refine L_v rfl rfl rfl (V_pickF rfl rfl rfl) ?_
  refine L_nil ?_
  change J _ _ _ _
  refine J_false rfl ?_
  refine J_skip ?_
  change J _ _ _ _
  refine J_seq ?_
  refine J_region ?_
  refine L_v rfl rfl rfl (V_loadW 0 rfl rfl rfl Try.underlying25 rfl (szd sz25q (by first | exact hdL_len (by first | assumption | rfl) (by first | assumption | rfl) | (simp [dg_length, zd_length, *]; done) | exact (hdL_len (by first | assumption | rfl) (by first | assumption | rfl)).symm))) ?_
  refine L_callB rfl rfl rfl rfl rfl rfl tx4q (fun w hw => hbytes_ok eg rg pg w hrg hpg (by omega) (by omega)) (fun g1 r1 c1 hl1 hc1 hr1 => ?_)
  refine L_v rfl rfl rfl (V_move rfl rfl) ?_
  refine L_v rfl rfl rfl (V_extract rfl rfl rfl) ?_
  refine L_v rfl rfl rfl (V_extract rfl rfl rfl) ?_
  refine L_v rfl rfl rfl (V_assign rfl rfl) ?_
  refine L_v rfl rfl rfl (V_assign rfl rfl) ?_
  refine L_nil ?_
  change J _ _ _ _
  refine J_seq ?_
  refine J_region ?_
  refine L_v rfl rfl rfl (V_loadW 1 rfl rfl rfl Try.underlying25 rfl (szd sz25q (by first | exact hdL_len (by first | assumption | rfl) (by first | assumption | rfl) | (simp [dg_length, zd_length, *]; done) | exact (hdL_len (by first | assumption | rfl) (by first | assumption | rfl)).symm))) ?_
  refine L_callV rfl rfl rfl rfl rfl rfl tx4q (fun w hw => hbytes_no eh (rh.set at_.toNat (bits2 .xor .u8 (rh.getD at_.toNat 0) by_)) ph w hR hP (by omega)) ?_
  refine L_v rfl rfl rfl (V_move rfl rfl) ?_
  refine L_v rfl rfl rfl (V_extract rfl rfl rfl) ?_
  refine L_v rfl rfl rfl (V_extract rfl rfl rfl) ?_
  refine L_v rfl rfl rfl (V_assign rfl rfl) ?_
  refine L_v rfl rfl rfl (V_assign rfl rfl) ?_
  refine L_nil ?_
  change J _ _ _ _
  refine J_seq ?_
  refine J_seq ?_
  refine J_region ?_
  refine L_v rfl rfl rfl (V_move rfl rfl) ?_
  refine L_v rfl rfl rfl (V_neq rfl rfl rfl (by first | exact decide_eq_true (by omega) | exact decide_eq_false (by omega) | rfl)) ?_
  refine L_v rfl rfl rfl (V_move rfl rfl) ?_
  refine L_wv rfl rfl rfl rfl rfl rfl (V_move rfl rfl) ?_
  refine L_wv rfl rfl rfl rfl rfl rfl (V_neq rfl rfl rfl (by first | exact decide_eq_true (by omega) | exact decide_eq_false (by omega) | rfl)) ?_
  first | refine L_v rfl rfl rfl (V_pickT rfl rfl rfl) ?_ | refine L_v rfl rfl rfl (V_pickF rfl rfl rfl) ?_
  refine L_nil ?_
  change J _ _ _ _
  refine J_true rfl ?_
  refine J_seq ?_
  refine J_region ?_
  refine L_callV rfl rfl rfl rfl rfl rfl tx5q (fun w _ => lays_w w) ?_
  refine L_v rfl rfl rfl (V_move rfl rfl) ?_
  refine L_wv rfl rfl rfl rfl rfl rfl (V_move rfl rfl) ?_
  refine L_wv rfl rfl rfl rfl rfl rfl (V_eql rfl rfl rfl (by first | exact decide_eq_true (by omega) | exact decide_eq_false (by omega) | rfl)) ?_
  refine L_wv rfl rfl rfl rfl rfl rfl (V_move rfl rfl) ?_
  refine L_skip rfl rfl rfl rfl rfl rfl rfl ?_
  refine L_skip rfl rfl rfl rfl rfl rfl rfl ?_
  refine L_skip rfl rfl rfl rfl rfl rfl rfl ?_
  first | refine L_wv rfl rfl rfl rfl rfl rfl (V_pickT rfl rfl rfl) ?_ | refine L_wv rfl rfl rfl rfl rfl rfl (V_pickF rfl rfl rfl) ?_
  first | refine L_v rfl rfl rfl (V_pickT rfl rfl rfl) ?_ | refine L_v rfl rfl rfl (V_pickF rfl rfl rfl) ?_
  refine L_v rfl rfl rfl (V_move rfl rfl) ?_
  refine L_wv rfl rfl rfl rfl rfl rfl (V_move rfl rfl) ?_
  refine L_wv rfl rfl rfl rfl rfl rfl (V_eql rfl rfl rfl (by first | exact decide_eq_true (by omega) | exact decide_eq_false (by omega) | rfl)) ?_
  refine L_wv rfl rfl rfl rfl rfl rfl (V_move rfl rfl) ?_
  refine L_wv rfl rfl rfl rfl rfl rfl (V_move rfl rfl) ?_
  refine L_wv rfl rfl rfl rfl rfl rfl (V_len rfl rfl Try.underlying26 rfl) ?_
  refine L_wv rfl rfl rfl rfl rfl rfl (V_eql rfl rfl rfl (by first | exact decide_eq_true (by omega) | exact decide_eq_false (by omega) | rfl)) ?_
  first | refine L_wv rfl rfl rfl rfl rfl rfl (V_pickT rfl rfl rfl) ?_ | refine L_wv rfl rfl rfl rfl rfl rfl (V_pickF rfl rfl rfl) ?_
  first | refine L_v rfl rfl rfl (V_pickT rfl rfl rfl) ?_ | refine L_v rfl rfl rfl (V_pickF rfl rfl rfl) ?_
  refine L_v rfl rfl rfl (V_assign rfl rfl) ?_
  refine L_nil ?_
  change J _ _ _ _
  refine J_ret ?_
  change Kret _ _ _ Exit.ret _
  refine ret1 rfl rfl (RV_t rfl) ?_
  exact fun w' h => ⟨rfl, h.fr⟩

theorem HeadApart_A01 (eg eh at_ by_ : Int) (rg pg rh ph : List Int) (w : World) (hrg : rg.length = 32) (hpg : pg.length = 32) (hrh : rh.length = 32) (hph : ph.length = 32) (brg : Byt rg) (bpg : Byt pg) (brh : Byt rh) (bph : Byt ph) (hat : 0 ≤ at_ ∧ at_ < 32) (heg : ¬ (1 ≤ eg ∧ eg ≤ 200)) (heh : (1 ≤ eh ∧ eh ≤ 200)) :
    Calls Try.prog 3 #[.agg (hdL eg rg pg).toArray, .agg (hdL eh rh ph).toArray, .int .i64 at_, .int .u8 by_] w fun e w' => e = .returned (.bool true) ∧ Fr [] w w' := by
  have hR : (rh.set at_.toNat (bits2 .xor .u8 (rh.getD at_.toNat 0) by_)).length = 32 := by rw [List.length_set]; exact hrh
  have hP : ph.length = 32 := by exact hph
  refine calls_of (args := [.agg (hdL eg rg pg).toArray, .agg (hdL eh rh ph).toArray, .int .i64 at_, .int .u8 by_]) ([]) ([]) ([]) Try.func3 rfl rfl (okW0 _ _ _ _) ?_
  refine J_seq ?_
  refine J_region ?_
  refine L_box rfl rfl rfl rfl rfl (fun b0 => ?_)
  refine L_box rfl rfl rfl rfl rfl (fun b1 => ?_)
  refine L_v rfl rfl rfl (V_assign rfl rfl) ?_
  refine L_nil ?_
  change J _ _ _ _
  refine J_seq ?_
  refine J_seq ?_
  refine J_region ?_
  refine L_v rfl rfl rfl (V_move rfl rfl) ?_
  refine L_v rfl rfl rfl (V_geq rfl rfl rfl (by first | exact decide_eq_true (by omega) | exact decide_eq_false (by omega) | rfl)) ?_
  refine L_v rfl rfl rfl (V_move rfl rfl) ?_
  refine L_wv rfl rfl rfl rfl rfl rfl (V_move rfl rfl) ?_
  refine L_wv rfl rfl rfl rfl rfl rfl (V_lss rfl rfl rfl (by first | exact decide_eq_true (by omega) | exact decide_eq_false (by omega) | rfl)) ?_
  first | refine L_v rfl rfl rfl (V_pickT rfl rfl rfl) ?_ | refine L_v rfl rfl rfl (V_pickF rfl rfl rfl) ?_
  refine L_nil ?_
  change J _ _ _ _
  refine J_true rfl ?_
  refine J_region ?_
  refine L_v rfl rfl rfl (V_move rfl rfl) ?_
  refine L_v rfl rfl rfl (V_move rfl rfl) ?_
  refine L_v rfl rfl rfl (V_fieldAddr rfl rfl Try.underlying25 rfl sz23q rfl) ?_
  refine L_v rfl rfl rfl (V_indexArr rfl rfl rfl Try.underlying23 sz5q (by omega) (by omega) (by first | exact ix0 _ | exact ix1 _ _ | rfl)) ?_
  refine L_v rfl rfl rfl (V_load1 1 rfl rfl rfl Try.underlying5 rfl (by first | exact hd_getR (by omega) | exact hd_getP hrh (by omega) | rfl)) ?_
  refine L_v rfl rfl rfl (V_move rfl rfl) ?_
  refine L_v rfl rfl rfl (V_xor rfl rfl rfl rfl) ?_
  refine L_v rfl rfl rfl (V_fieldAddr rfl rfl Try.underlying25 rfl sz23q rfl) ?_
  refine L_v rfl rfl rfl (V_indexArr rfl rfl rfl Try.underlying23 sz5q (by omega) (by omega) (by first | exact ix0 _ | exact ix1 _ _ | rfl)) ?_
  refine L_store1 1 rfl rfl rfl rfl rfl rfl rfl sz5q (by rw [hdL_len hrh hph]; first | (show 1 + at_.toNat < 65; omega) | (show 33 + (at_ - 32).toNat < 65; omega)) (by first | exact hd_setR (by omega) _ | exact hd_setP hrh _ | rfl) ?_
  refine L_nil ?_
  change J _ _ _ _
  refine J_seq ?_
  refine J_seq ?_
  refine J_region ?_
  refine L_v rfl rfl rfl (V_move rfl rfl) ?_
  refine L_v rfl rfl rfl (V_geq rfl rfl rfl (by first | exact decide_eq_true (by omega) | exact decide_eq_false (by omega) | rfl)) ?_
  refine L_v rfl rfl rfl (V_move rfl rfl) ?_
  refine L_skip rfl rfl rfl rfl rfl rfl rfl ?_
  refine L_skip rfl rfl rfl rfl rfl rfl rfl ?_
  first | refine L_v rfl rfl rfl (V_pickT rfl rfl rfl) ?_ | refine L_v rfl rfl rfl (V_pickF rfl rfl rfl) ?_
  refine L_nil ?_
  change J _ _ _ _
  refine J_false rfl ?_
  refine J_skip ?_
  change J _ _ _ _
  refine J_seq ?_
  refine J_region ?_
  refine L_v rfl rfl rfl (V_loadW 0 rfl rfl rfl Try.underlying25 rfl (szd sz25q (by first | exact hdL_len (by first | assumption | rfl) (by first | assumption | rfl) | (simp [dg_length, zd_length, *]; done) | exact (hdL_len (by first | assumption | rfl) (by first | assumption | rfl)).symm))) ?_
  refine L_callV rfl rfl rfl rfl rfl rfl tx4q (fun w hw => hbytes_no eg rg pg w hrg hpg (by omega)) ?_
  refine L_v rfl rfl rfl (V_move rfl rfl) ?_
  refine L_v rfl rfl rfl (V_extract rfl rfl rfl) ?_
  refine L_v rfl rfl rfl (V_extract rfl rfl rfl) ?_
  refine L_v rfl rfl rfl (V_assign rfl rfl) ?_
  refine L_v rfl rfl rfl (V_assign rfl rfl) ?_
  refine L_nil ?_
  change J _ _ _ _
  refine J_seq ?_
  refine J_region ?_
  refine L_v rfl rfl rfl (V_loadW 1 rfl rfl rfl Try.underlying25 rfl (szd sz25q (by first | exact hdL_len (by first | assumption | rfl) (by first | assumption | rfl) | (simp [dg_length, zd_length, *]; done) | exact (hdL_len (by first | assumption | rfl) (by first | assumption | rfl)).symm))) ?_
  refine L_callB rfl rfl rfl rfl rfl rfl tx4q (fun w hw => hbytes_ok eh (rh.set at_.toNat (bits2 .xor .u8 (rh.getD at_.toNat 0) by_)) ph w hR hP (by omega) (by omega)) (fun g2 r2 c2 hl2 hc2 hr2 => ?_)
  refine L_v rfl rfl rfl (V_move rfl rfl) ?_
  refine L_v rfl rfl rfl (V_extract rfl rfl rfl) ?_
  refine L_v rfl rfl rfl (V_extract rfl rfl rfl) ?_
  refine L_v rfl rfl rfl (V_assign rfl rfl) ?_
  refine L_v rfl rfl rfl (V_assign rfl rfl) ?_
  refine L_nil ?_
  change J _ _ _ _
  refine J_seq ?_
  refine J_seq ?_
  refine J_region ?_
  refine L_v rfl rfl rfl (V_move rfl rfl) ?_
  refine L_v rfl rfl rfl (V_neq rfl rfl rfl (by first | exact decide_eq_true (by omega) | exact decide_eq_false (by omega) | rfl)) ?_
  refine L_v rfl rfl rfl (V_move rfl rfl) ?_
  refine L_skip rfl rfl rfl rfl rfl rfl rfl ?_
  refine L_skip rfl rfl rfl rfl rfl rfl rfl ?_
  first | refine L_v rfl rfl rfl (V_pickT rfl rfl rfl) ?_ | refine L_v rfl rfl rfl (V_pickF rfl rfl rfl) ?_
  refine L_nil ?_
  change J _ _ _ _
  refine J_true rfl ?_
  refine J_seq ?_
  refine J_region ?_
  refine L_callV rfl rfl rfl rfl rfl rfl tx5q (fun w _ => lays_w w) ?_
  refine L_v rfl rfl rfl (V_move rfl rfl) ?_
  refine L_wv rfl rfl rfl rfl rfl rfl (V_move rfl rfl) ?_
  refine L_wv rfl rfl rfl rfl rfl rfl (V_eql rfl rfl rfl (by first | exact decide_eq_true (by omega) | exact decide_eq_false (by omega) | rfl)) ?_
  refine L_wv rfl rfl rfl rfl rfl rfl (V_move rfl rfl) ?_
  refine L_wv rfl rfl rfl rfl rfl rfl (V_move rfl rfl) ?_
  refine L_wv rfl rfl rfl rfl rfl rfl (V_len rfl rfl Try.underlying26 rfl) ?_
  refine L_wv rfl rfl rfl rfl rfl rfl (V_eql rfl rfl rfl (by first | exact decide_eq_true (by omega) | exact decide_eq_false (by omega) | rfl)) ?_
  first | refine L_wv rfl rfl rfl rfl rfl rfl (V_pickT rfl rfl rfl) ?_ | refine L_wv rfl rfl rfl rfl rfl rfl (V_pickF rfl rfl rfl) ?_
  first | refine L_v rfl rfl rfl (V_pickT rfl rfl rfl) ?_ | refine L_v rfl rfl rfl (V_pickF rfl rfl rfl) ?_
  refine L_v rfl rfl rfl (V_move rfl rfl) ?_
  refine L_wv rfl rfl rfl rfl rfl rfl (V_move rfl rfl) ?_
  refine L_wv rfl rfl rfl rfl rfl rfl (V_eql rfl rfl rfl (by first | exact decide_eq_true (by omega) | exact decide_eq_false (by omega) | rfl)) ?_
  refine L_wv rfl rfl rfl rfl rfl rfl (V_move rfl rfl) ?_
  refine L_skip rfl rfl rfl rfl rfl rfl rfl ?_
  refine L_skip rfl rfl rfl rfl rfl rfl rfl ?_
  refine L_skip rfl rfl rfl rfl rfl rfl rfl ?_
  first | refine L_wv rfl rfl rfl rfl rfl rfl (V_pickT rfl rfl rfl) ?_ | refine L_wv rfl rfl rfl rfl rfl rfl (V_pickF rfl rfl rfl) ?_
  first | refine L_v rfl rfl rfl (V_pickT rfl rfl rfl) ?_ | refine L_v rfl rfl rfl (V_pickF rfl rfl rfl) ?_
  refine L_v rfl rfl rfl (V_assign rfl rfl) ?_
  refine L_nil ?_
  change J _ _ _ _
  refine J_ret ?_
  change Kret _ _ _ Exit.ret _
  refine ret1 rfl rfl (RV_t rfl) ?_
  exact fun w' h => ⟨rfl, h.fr⟩

theorem HeadApart_A00 (eg eh at_ by_ : Int) (rg pg rh ph : List Int) (w : World) (hrg : rg.length = 32) (hpg : pg.length = 32) (hrh : rh.length = 32) (hph : ph.length = 32) (brg : Byt rg) (bpg : Byt pg) (brh : Byt rh) (bph : Byt ph) (hat : 0 ≤ at_ ∧ at_ < 32) (heg : ¬ (1 ≤ eg ∧ eg ≤ 200)) (heh : ¬ (1 ≤ eh ∧ eh ≤ 200)) :
    Calls Try.prog 3 #[.agg (hdL eg rg pg).toArray, .agg (hdL eh rh ph).toArray, .int .i64 at_, .int .u8 by_] w fun e w' => e = .returned (.bool true) ∧ Fr [] w w' := by
  have hR : (rh.set at_.toNat (bits2 .xor .u8 (rh.getD at_.toNat 0) by_)).length = 32 := by rw [List.length_set]; exact hrh
  have hP : ph.length = 32 := by exact hph
  refine calls_of (args := [.agg (hdL eg rg pg).toArray, .agg (hdL eh rh ph).toArray, .int .i64 at_, .int .u8 by_]) ([]) ([]) ([]) Try.func3 rfl rfl (okW0 _ _ _ _) ?_
  refine J_seq ?_
  refine J_region ?_
  refine L_box rfl rfl rfl rfl rfl (fun b0 => ?_)
  refine L_box rfl rfl rfl rfl rfl (fun b1 => ?_)
  refine L_v rfl rfl rfl (V_assign rfl rfl) ?_
  refine L_nil ?_
  change J _ _ _ _
  refine J_seq ?_
  refine J_seq ?_
  refine J_region ?_
  refine L_v rfl rfl rfl (V_move rfl rfl) ?_
  refine L_v rfl rfl rfl (V_geq rfl rfl rfl (by first | exact decide_eq_true (by omega) | exact decide_eq_false (by omega) | rfl)) ?_
  refine L_v rfl rfl rfl (V_move rfl rfl) ?_
  refine L_wv rfl rfl rfl rfl rfl rfl (V_move rfl rfl) ?_
  refine L_wv rfl rfl rfl rfl rfl rfl (V_lss rfl rfl rfl (by first | exact decide_eq_true (by omega) | exact decide_eq_false (by omega) | rfl)) ?_
  first | refine L_v rfl rfl rfl (V_pickT rfl rfl rfl) ?_ | refine L_v rfl rfl rfl (V_pickF rfl rfl rfl) ?_
  refine L_nil ?_
  change J _ _ _ _
  refine J_true rfl ?_
  refine J_region ?_
  refine L_v rfl rfl rfl (V_move rfl rfl) ?_
  refine L_v rfl rfl rfl (V_move rfl rfl) ?_
  refine L_v rfl rfl rfl (V_fieldAddr rfl rfl Try.underlying25 rfl sz23q rfl) ?_
  refine L_v rfl rfl rfl (V_indexArr rfl rfl rfl Try.underlying23 sz5q (by omega) (by omega) (by first | exact ix0 _ | exact ix1 _ _ | rfl)) ?_
  refine L_v rfl rfl rfl (V_load1 1 rfl rfl rfl Try.underlying5 rfl (by first | exact hd_getR (by omega) | exact hd_getP hrh (by omega) | rfl)) ?_
  refine L_v rfl rfl rfl (V_move rfl rfl) ?_
  refine L_v rfl rfl rfl (V_xor rfl rfl rfl rfl) ?_
  refine L_v rfl rfl rfl (V_fieldAddr rfl rfl Try.underlying25 rfl sz23q rfl) ?_
  refine L_v rfl rfl rfl (V_indexArr rfl rfl rfl Try.underlying23 sz5q (by omega) (by omega) (by first | exact ix0 _ | exact ix1 _ _ | rfl)) ?_
  refine L_store1 1 rfl rfl rfl rfl rfl rfl rfl sz5q (by rw [hdL_len hrh hph]; first | (show 1 + at_.toNat < 65; omega) | (show 33 + (at_ - 32).toNat < 65; omega)) (by first | exact hd_setR (by omega) _ | exact hd_setP hrh _ | rfl) ?_
  refine L_nil ?_
  change J _ _ _ _
  refine J_seq ?_
  refine J_seq ?_
  refine J_region ?_
  refine L_v rfl rfl rfl (V_move rfl rfl) ?_
  refine L_v rfl rfl rfl (V_geq rfl rfl rfl (by first | exact decide_eq_true (by omega) | exact decide_eq_false (by omega) | rfl)) ?_
  refine L_v rfl rfl rfl (V_move rfl rfl) ?_
  refine L_skip rfl rfl rfl rfl rfl rfl rfl ?_
  refine L_skip rfl rfl rfl rfl rfl rfl rfl ?_
  first | refine L_v rfl rfl rfl (V_pickT rfl rfl rfl) ?_ | refine L_v rfl rfl rfl (V_pickF rfl rfl rfl) ?_
  refine L_nil ?_
  change J _ _ _ _
  refine J_false rfl ?_
  refine J_skip ?_
  change J _ _ _ _
  refine J_seq ?_
  refine J_region ?_
  refine L_v rfl rfl rfl (V_loadW 0 rfl rfl rfl Try.underlying25 rfl (szd sz25q (by first | exact hdL_len (by first | assumption | rfl) (by first | assumption | rfl) | (simp [dg_length, zd_length, *]; done) | exact (hdL_len (by first | assumption | rfl) (by first | assumption | rfl)).symm))) ?_
  refine L_callV rfl rfl rfl rfl rfl rfl tx4q (fun w hw => hbytes_no eg rg pg w hrg hpg (by omega)) ?_
  refine L_v rfl rfl rfl (V_move rfl rfl) ?_
  refine L_v rfl rfl rfl (V_extract rfl rfl rfl) ?_
  refine L_v rfl rfl rfl (V_extract rfl rfl rfl) ?_
  refine L_v rfl rfl rfl (V_assign rfl rfl) ?_
  refine L_v rfl rfl rfl (V_assign rfl rfl) ?_
  refine L_nil ?_
  change J _ _ _ _
  refine J_seq ?_
  refine J_region ?_
  refine L_v rfl rfl rfl (V_loadW 1 rfl rfl rfl Try.underlying25 rfl (szd sz25q (by first | exact hdL_len (by first | assumption | rfl) (by first | assumption | rfl) | (simp [dg_length, zd_length, *]; done) | exact (hdL_len (by first | assumption | rfl) (by first | assumption | rfl)).symm))) ?_
  refine L_callV rfl rfl rfl rfl rfl rfl tx4q (fun w hw => hbytes_no eh (rh.set at_.toNat (bits2 .xor .u8 (rh.getD at_.toNat 0) by_)) ph w hR hP (by omega)) ?_
  refine L_v rfl rfl rfl (V_move rfl rfl) ?_
  refine L_v rfl rfl rfl (V_extract rfl rfl rfl) ?_
  refine L_v rfl rfl rfl (V_extract rfl rfl rfl) ?_
  refine L_v rfl rfl rfl (V_assign rfl rfl) ?_
  refine L_v rfl rfl rfl (V_assign rfl rfl) ?_
  refine L_nil ?_
  change J _ _ _ _
  refine J_seq ?_
  refine J_seq ?_
  refine J_region ?_
  refine L_v rfl rfl rfl (V_move rfl rfl) ?_
  refine L_v rfl rfl rfl (V_neq rfl rfl rfl (by first | exact decide_eq_true (by omega) | exact decide_eq_false (by omega) | rfl)) ?_
  refine L_v rfl rfl rfl (V_move rfl rfl) ?_
  refine L_skip rfl rfl rfl rfl rfl rfl rfl ?_
  refine L_skip rfl rfl rfl rfl rfl rfl rfl ?_
  first | refine L_v rfl rfl rfl (V_pickT rfl rfl rfl) ?_ | refine L_v rfl rfl rfl (V_pickF rfl rfl rfl) ?_
  refine L_nil ?_
  change J _ _ _ _
  refine J_true rfl ?_
  refine J_seq ?_
  refine J_region ?_
  refine L_callV rfl rfl rfl rfl rfl rfl tx5q (fun w _ => lays_w w) ?_
  refine L_v rfl rfl rfl (V_move rfl rfl) ?_
  refine L_wv rfl rfl rfl rfl rfl rfl (V_move rfl rfl) ?_
  refine L_wv rfl rfl rfl rfl rfl rfl (V_eql rfl rfl rfl (by first | exact decide_eq_true (by omega) | exact decide_eq_false (by omega) | rfl)) ?_
  refine L_wv rfl rfl rfl rfl rfl rfl (V_move rfl rfl) ?_
  refine L_wv rfl rfl rfl rfl rfl rfl (V_move rfl rfl) ?_
  refine L_wv rfl rfl rfl rfl rfl rfl (V_len rfl rfl Try.underlying26 rfl) ?_
  refine L_wv rfl rfl rfl rfl rfl rfl (V_eql rfl rfl rfl (by first | exact decide_eq_true (by omega) | exact decide_eq_false (by omega) | rfl)) ?_
  first | refine L_wv rfl rfl rfl rfl rfl rfl (V_pickT rfl rfl rfl) ?_ | refine L_wv rfl rfl rfl rfl rfl rfl (V_pickF rfl rfl rfl) ?_
  first | refine L_v rfl rfl rfl (V_pickT rfl rfl rfl) ?_ | refine L_v rfl rfl rfl (V_pickF rfl rfl rfl) ?_
  refine L_v rfl rfl rfl (V_move rfl rfl) ?_
  refine L_wv rfl rfl rfl rfl rfl rfl (V_move rfl rfl) ?_
  refine L_wv rfl rfl rfl rfl rfl rfl (V_eql rfl rfl rfl (by first | exact decide_eq_true (by omega) | exact decide_eq_false (by omega) | rfl)) ?_
  refine L_wv rfl rfl rfl rfl rfl rfl (V_move rfl rfl) ?_
  refine L_wv rfl rfl rfl rfl rfl rfl (V_move rfl rfl) ?_
  refine L_wv rfl rfl rfl rfl rfl rfl (V_len rfl rfl Try.underlying26 rfl) ?_
  refine L_wv rfl rfl rfl rfl rfl rfl (V_eql rfl rfl rfl (by first | exact decide_eq_true (by omega) | exact decide_eq_false (by omega) | rfl)) ?_
  first | refine L_wv rfl rfl rfl rfl rfl rfl (V_pickT rfl rfl rfl) ?_ | refine L_wv rfl rfl rfl rfl rfl rfl (V_pickF rfl rfl rfl) ?_
  first | refine L_v rfl rfl rfl (V_pickT rfl rfl rfl) ?_ | refine L_v rfl rfl rfl (V_pickF rfl rfl rfl) ?_
  refine L_v rfl rfl rfl (V_assign rfl rfl) ?_
  refine L_nil ?_
  change J _ _ _ _
  refine J_ret ?_
  change Kret _ _ _ Exit.ret _
  refine ret1 rfl rfl (RV_t rfl) ?_
  exact fun w' h => ⟨rfl, h.fr⟩

theorem HeadApart_B11 (eg eh at_ by_ : Int) (rg pg rh ph : List Int) (w : World) (hrg : rg.length = 32) (hpg : pg.length = 32) (hrh : rh.length = 32) (hph : ph.length = 32) (brg : Byt rg) (bpg : Byt pg) (brh : Byt rh) (bph : Byt ph) (hat : 32 ≤ at_ ∧ at_ < 64) (heg : (1 ≤ eg ∧ eg ≤ 200)) (heh : (1 ≤ eh ∧ eh ≤ 200)) :
    Calls Try.prog 3 #[.agg (hdL eg rg pg).toArray, .agg (hdL eh rh ph).toArray, .int .i64 at_, .int .u8 by_] w fun e w' => e = .returned (.bool true) ∧ Fr [] w w' := by
  have hR : rh.length = 32 := by exact hrh
  have hP : (ph.set (at_ - 32).toNat (bits2 .xor .u8 (ph.getD (at_ - 32).toNat 0) by_)).length = 32 := by rw [List.length_set]; exact hph
  have hfin := hd_same hrg hR hpg hP brg brh bpg (bph.set _ xor_byt) heg heh
  refine calls_of (args := [.agg (hdL eg rg pg).toArray, .agg (hdL eh rh ph).toArray, .int .i64 at_, .int .u8 by_]) ([]) ([]) ([]) Try.func3 rfl rfl (okW0 _ _ _ _) ?_
  refine J_seq ?_
  refine J_region ?_
  refine L_box rfl rfl rfl rfl rfl (fun b0 => ?_)
  refine L_box rfl rfl rfl rfl rfl (fun b1 => ?_)
  refine L_v rfl rfl rfl (V_assign rfl rfl) ?_
  refine L_nil ?_
  change J _ _ _ _
  refine J_seq ?_
  refine J_seq ?_
  refine J_region ?_
  refine L_v rfl rfl rfl (V_move rfl rfl) ?_
  refine L_v rfl rfl rfl (V_geq rfl rfl rfl (by first | exact decide_eq_true (by omega) | exact decide_eq_false (by omega) | rfl)) ?_
  refine L_v rfl rfl rfl (V_move rfl rfl) ?_
  refine L_wv rfl rfl rfl rfl rfl rfl (V_move rfl rfl) ?_
  refine L_wv rfl rfl rfl rfl rfl rfl (V_lss rfl rfl rfl (by first | exact decide_eq_true (by omega) | exact decide_eq_false (by omega) | rfl)) ?_
  first | refine L_v rfl rfl rfl (V_pickT rfl rfl rfl) ?_ | refine L_v rfl rfl rfl (V_pickF rfl rfl rfl) ?_
  refine L_nil ?_
  change J _ _ _ _
  refine J_false rfl ?_
  refine J_skip ?_
  change J _ _ _ _
  refine J_seq ?_
  refine J_seq ?_
  refine J_region ?_
  refine L_v rfl rfl rfl (V_move rfl rfl) ?_
  refine L_v rfl rfl rfl (V_geq rfl rfl rfl (by first | exact decide_eq_true (by omega) | exact decide_eq_false (by omega) | rfl)) ?_
  refine L_v rfl rfl rfl (V_move rfl rfl) ?_
  refine L_wv rfl rfl rfl rfl rfl rfl (V_move rfl rfl) ?_
  refine L_wv rfl rfl rfl rfl rfl rfl (V_lss rfl rfl rfl (by first | exact decide_eq_true (by omega) | exact decide_eq_false (by omega) | rfl)) ?_
  first | refine L_v rfl rfl rfl (V_pickT rfl rfl rfl) ?_ | refine L_v rfl rfl rfl (V_pickF rfl rfl rfl) ?_
  refine L_nil ?_
  change J _ _ _ _
  refine J_true rfl ?_
  refine J_region ?_
  refine L_v rfl rfl rfl (V_move rfl rfl) ?_
  refine L_v rfl rfl rfl (V_sub rfl rfl rfl (by first | exact Go.IntWalk.i64_in _ (by omega) | rfl)) ?_
  refine L_v rfl rfl rfl (V_move rfl rfl) ?_
  refine L_v rfl rfl rfl (V_sub rfl rfl rfl (by first | exact Go.IntWalk.i64_in _ (by omega) | rfl)) ?_
  refine L_v rfl rfl rfl (V_fieldAddr rfl rfl Try.underlying25 rfl sz23q rfl) ?_
  refine L_v rfl rfl rfl (V_indexArr rfl rfl rfl Try.underlying23 sz5q (by omega) (by omega) (by first | exact ix0 _ | exact ix1 _ _ | rfl)) ?_
  refine L_v rfl rfl rfl (V_load1 1 rfl rfl rfl Try.underlying5 rfl (by first | exact hd_getR (by omega) | exact hd_getP hrh (by omega) | rfl)) ?_
  refine L_v rfl rfl rfl (V_move rfl rfl) ?_
  refine L_v rfl rfl rfl (V_xor rfl rfl rfl rfl) ?_
  refine L_v rfl rfl rfl (V_fieldAddr rfl rfl Try.underlying25 rfl sz23q rfl) ?_
  refine L_v rfl rfl rfl (V_indexArr rfl rfl rfl Try.underlying23 sz5q (by omega) (by omega) (by first | exact ix0 _ | exact ix1 _ _ | rfl)) ?_
  refine L_store1 1 rfl rfl rfl rfl rfl rfl rfl sz5q (by rw [hdL_len hrh hph]; first | (show 1 + at_.toNat < 65; omega) | (show 33 + (at_ - 32).toNat < 65; omega)) (by first | exact hd_setR (by omega) _ | exact hd_setP hrh _ | rfl) ?_
  refine L_nil ?_
  change J _ _ _ _
  refine J_seq ?_
  refine J_region ?_
  refine L_v rfl rfl rfl (V_loadW 0 rfl rfl rfl Try.underlying25 rfl (szd sz25q (by first | exact hdL_len (by first | assumption | rfl) (by first | assumption | rfl) | (simp [dg_length, zd_length, *]; done) | exact (hdL_len (by first | assumption | rfl) (by first | assumption | rfl)).symm))) ?_
  refine L_callB rfl rfl rfl rfl rfl rfl tx4q (fun w hw => hbytes_ok eg rg pg w hrg hpg (by omega) (by omega)) (fun g1 r1 c1 hl1 hc1 hr1 => ?_)
  refine L_v rfl rfl rfl (V_move rfl rfl) ?_
  refine L_v rfl rfl rfl (V_extract rfl rfl rfl) ?_
  refine L_v rfl rfl rfl (V_extract rfl rfl rfl) ?_
  refine L_v rfl rfl rfl (V_assign rfl rfl) ?_
  refine L_v rfl rfl rfl (V_assign rfl rfl) ?_
  refine L_nil ?_
  change J _ _ _ _
  refine J_seq ?_
  refine J_region ?_
  refine L_v rfl rfl rfl (V_loadW 1 rfl rfl rfl Try.underlying25 rfl (szd sz25q (by first | exact hdL_len (by first | assumption | rfl) (by first | assumption | rfl) | (simp [dg_length, zd_length, *]; done) | exact (hdL_len (by first | assumption | rfl) (by first | assumption | rfl)).symm))) ?_
  refine L_callB rfl rfl rfl rfl rfl rfl tx4q (fun w hw => hbytes_ok eh rh (ph.set (at_ - 32).toNat (bits2 .xor .u8 (ph.getD (at_ - 32).toNat 0) by_)) w hR hP (by omega) (by omega)) (fun g2 r2 c2 hl2 hc2 hr2 => ?_)
  refine L_v rfl rfl rfl (V_move rfl rfl) ?_
  refine L_v rfl rfl rfl (V_extract rfl rfl rfl) ?_
  refine L_v rfl rfl rfl (V_extract rfl rfl rfl) ?_
  refine L_v rfl rfl rfl (V_assign rfl rfl) ?_
  refine L_v rfl rfl rfl (V_assign rfl rfl) ?_
  refine L_nil ?_
  change J _ _ _ _
  refine J_seq ?_
  refine J_seq ?_
  refine J_region ?_
  refine L_v rfl rfl rfl (V_move rfl rfl) ?_
  refine L_v rfl rfl rfl (V_neq rfl rfl rfl (by first | exact decide_eq_true (by omega) | exact decide_eq_false (by omega) | rfl)) ?_
  refine L_v rfl rfl rfl (V_move rfl rfl) ?_
  refine L_wv rfl rfl rfl rfl rfl rfl (V_move rfl rfl) ?_
  refine L_wv rfl rfl rfl rfl rfl rfl (V_neq rfl rfl rfl (by first | exact decide_eq_true (by omega) | exact decide_eq_false (by omega) | rfl)) ?_
  first | refine L_v rfl rfl rfl (V_pickT rfl rfl rfl) ?_ | refine L_v rfl rfl rfl (V_pickF rfl rfl rfl) ?_
  refine L_nil ?_
  change J _ _ _ _
  refine J_false rfl ?_
  refine J_skip ?_
  change J _ _ _ _
  refine J_seq ?_
  refine J_regionO [(0, true), (1, false), (2, false), (3, false), (4, false), (5, false), (6, false), (7, false), (8, false), (9, false), (10, false), (11, false), (12, false)] _ _ (Pk.refl _) (fun f hf => hf) rfl rfl (by kernel_rfl) ?_
  refine LO_callV rfl rfl rfl rfl rfl rfl rfl rfl tx5q (fun w _ => lays_w w) (Pk.refl _) (fun f hf => hf) ?_
  refine LO_v rfl rfl rfl rfl (V_move rfl rfl) ?_
  refine LO_wv rfl rfl rfl rfl rfl rfl rfl (V_move rfl rfl) ?_
  refine LO_wv rfl rfl rfl rfl rfl rfl rfl (V_str rfl rfl Try.underlying26 Try.underlying5 Try.underlying9 (fun w hw => SlB.of_own hw (i := 2) rfl hl1 c1)) ?_
  refine LO_wv rfl rfl rfl rfl rfl rfl rfl (V_move rfl rfl) ?_
  refine LO_wv rfl rfl rfl rfl rfl rfl rfl (V_str rfl rfl Try.underlying26 Try.underlying5 Try.underlying9 (fun w hw => SlB.of_own hw (i := 3) rfl hl2 c2)) ?_
  refine LO_wv rfl rfl rfl rfl rfl rfl rfl (V_eqS rfl rfl rfl rfl) ?_
  refine LO_wv rfl rfl rfl rfl rfl rfl rfl (V_loadW 0 rfl rfl rfl Try.underlying25 rfl (szd sz25q (by first | exact hdL_len (by first | assumption | rfl) (by first | assumption | rfl) | (simp [dg_length, zd_length, *]; done) | exact (hdL_len (by first | assumption | rfl) (by first | assumption | rfl)).symm))) ?_
  refine LO_wv rfl rfl rfl rfl rfl rfl rfl (V_loadW 1 rfl rfl rfl Try.underlying25 rfl (szd sz25q (by first | exact hdL_len (by first | assumption | rfl) (by first | assumption | rfl) | (simp [dg_length, zd_length, *]; done) | exact (hdL_len (by first | assumption | rfl) (by first | assumption | rfl)).symm))) ?_
  refine LO_wv rfl rfl rfl rfl rfl rfl rfl (V_eqAgg rfl rfl rfl egH (fun w => eqH hrg hR hpg hP w) rfl) ?_
  refine LO_wv rfl rfl rfl rfl rfl rfl rfl (V_eqB rfl rfl rfl Try.underlying4 hfin) ?_
  first | refine LO_v rfl rfl rfl rfl (V_pickT rfl rfl rfl) ?_ | refine LO_v rfl rfl rfl rfl (V_pickF rfl rfl rfl) ?_
  refine LO_v rfl rfl rfl rfl (V_assign rfl rfl) ?_
  refine LO_nil ?_
  change J _ _ _ _
  refine J_ret ?_
  change Kret _ _ _ Exit.ret _
  refine ret1 rfl rfl (RV_t rfl) ?_
  exact fun w' h => ⟨rfl, h.fr⟩

theorem HeadApart_B10 (eg eh at_ by_ : Int) (rg pg rh ph : List Int) (w : World) (hrg : rg.length = 32) (hpg : pg.length = 32) (hrh : rh.length = 32) (hph : ph.length = 32) (brg : Byt rg) (bpg : Byt pg) (brh : Byt rh) (bph : Byt ph) (hat : 32 ≤ at_ ∧ at_ < 64) (heg : (1 ≤ eg ∧ eg ≤ 200)) (heh : ¬ (1 ≤ eh ∧ eh ≤ 200)) :
    Calls Try.prog 3 #[.agg (hdL eg rg pg).toArray, .agg (hdL eh rh ph).toArray, .int .i64 at_, .int .u8 by_] w fun e w' => e = .returned (.bool true) ∧ Fr [] w w' := by
  have hR : rh.length = 32 := by exact hrh
  have hP : (ph.set (at_ - 32).toNat (bits2 .xor .u8 (ph.getD (at_ - 32).toNat 0) by_)).length = 32 := by rw [List.length_set]; exact hph
  refine calls_of (args := [.agg (hdL eg rg pg).toArray, .agg (hdL eh rh ph).toArray, .int .i64 at_, .int .u8 by_]) ([]) ([]) ([]) Try.func3 rfl rfl (okW0 _ _ _ _) ?_
  refine J_seq ?_
  refine J_region ?_
  refine L_box rfl rfl rfl rfl rfl (fun b0 => ?_)
  refine L_box rfl rfl rfl rfl rfl (fun b1 => ?_)
  refine L_v rfl rfl rfl (V_assign rfl rfl) ?_
  refine L_nil ?_
  change J _ _ _ _
  refine J_seq ?_
  refine J_seq ?_
  refine J_region ?_
  refine L_v rfl rfl rfl (V_move rfl rfl) ?_
  refine L_v rfl rfl rfl (V_geq rfl rfl rfl (by first | exact decide_eq_true (by omega) | exact decide_eq_false (by omega) | rfl)) ?_
  refine L_v rfl rfl rfl (V_move rfl rfl) ?_
  refine L_wv rfl rfl rfl rfl rfl rfl (V_move rfl rfl) ?_
  refine L_wv rfl rfl rfl rfl rfl rfl (V_lss rfl rfl rfl (by first | exact decide_eq_true (by omega) | exact decide_eq_false (by omega) | rfl)) ?_
  first | refine L_v rfl rfl rfl (V_pickT rfl rfl rfl) ?_ | refine L_v rfl rfl rfl (V_pickF rfl rfl rfl) ?_
  refine L_nil ?_
  change J _ _ _ _
  refine J_false rfl ?_
  refine J_skip ?_
  change J _ _ _ _
  refine J_seq ?_
  refine J_seq ?_
  refine J_region ?_
  refine L_v rfl rfl rfl (V_move rfl rfl) ?_
  refine L_v rfl rfl rfl (V_geq rfl rfl rfl (by first | exact decide_eq_true (by omega) | exact decide_eq_false (by omega) | rfl)) ?_
  refine L_v rfl rfl rfl (V_move rfl rfl) ?_
  refine L_wv rfl rfl rfl rfl rfl rfl (V_move rfl rfl) ?_
  refine L_wv rfl rfl rfl rfl rfl rfl (V_lss rfl rfl rfl (by first | exact decide_eq_true (by omega) | exact decide_eq_false (by omega) | rfl)) ?_
  first | refine L_v rfl rfl rfl (V_pickT rfl rfl rfl) ?_ | refine L_v rfl rfl rfl (V_pickF rfl rfl rfl) ?_
  refine L_nil ?_
  change J _ _ _ _
  refine J_true rfl ?_
  refine J_region ?_
  refine L_v rfl rfl rfl (V_move rfl rfl) ?_
  refine L_v rfl rfl rfl (V_sub rfl rfl rfl (by first | exact Go.IntWalk.i64_in _ (by omega) | rfl)) ?_
  refine L_v rfl rfl rfl (V_move rfl rfl) ?_
  refine L_v rfl rfl rfl (V_sub rfl rfl rfl (by first | exact Go.IntWalk.i64_in _ (by omega) | rfl)) ?_
  refine L_v rfl rfl rfl (V_fieldAddr rfl rfl Try.underlying25 rfl sz23q rfl) ?_
  refine L_v rfl rfl rfl (V_indexArr rfl rfl rfl Try.underlying23 sz5q (by omega) (by omega) (by first | exact ix0 _ | exact ix1 _ _ | rfl)) ?_
  refine L_v rfl rfl rfl (V_load1 1 rfl rfl rfl Try.underlying5 rfl (by first | exact hd_getR (by omega) | exact hd_getP hrh (by omega) | rfl)) ?_
  refine L_v rfl rfl rfl (V_move rfl rfl) ?_
  refine L_v rfl rfl rfl (V_xor rfl rfl rfl rfl) ?_
  refine L_v rfl rfl rfl (V_fieldAddr rfl rfl Try.underlying25 rfl sz23q rfl) ?_
  refine L_v rfl rfl rfl (V_indexArr rfl rfl rfl Try.underlying23 sz5q (by omega) (by omega) (by first | exact ix0 _ | exact ix1 _ _ | rfl)) ?_
  refine L_store1 1 rfl rfl rfl rfl rfl rfl rfl sz5q (by rw [hdL_len hrh hph]; first | (show 1 + at_.toNat < 65; omega) | (show 33 + (at_ - 32).toNat < 65; omega)) (by first | exact hd_setR (by omega) _ | exact hd_setP hrh _ | rfl) ?_
  refine L_nil ?_
  change J _ _ _ _
  refine J_seq ?_
  refine J_region ?_
  refine L_v rfl rfl rfl (V_loadW 0 rfl rfl rfl Try.underlying25 rfl (szd sz25q (by first | exact hdL_len (by first | assumption | rfl) (by first | assumption | rfl) | (simp [dg_length, zd_length, *]; done) | exact (hdL_len (by first | assumption | rfl) (by first | assumption | rfl)).symm))) ?_
  refine L_callB rfl rfl rfl rfl rfl rfl tx4q (fun w hw => hbytes_ok eg rg pg w hrg hpg (by omega) (by omega)) (fun g1 r1 c1 hl1 hc1 hr1 => ?_)
  refine L_v rfl rfl rfl (V_move rfl rfl) ?_
  refine L_v rfl rfl rfl (V_extract rfl rfl rfl) ?_
  refine L_v rfl rfl rfl (V_extract rfl rfl rfl) ?_
  refine L_v rfl rfl rfl (V_assign rfl rfl) ?_
  refine L_v rfl rfl rfl (V_assign rfl rfl) ?_
  refine L_nil ?_
  change J _ _ _ _
  refine J_seq ?_
  refine J_region ?_
  refine L_v rfl rfl rfl (V_loadW 1 rfl rfl rfl Try.underlying25 rfl (szd sz25q (by first | exact hdL_len (by first | assumption | rfl) (by first | assumption | rfl) | (simp [dg_length, zd_length, *]; done) | exact (hdL_len (by first | assumption | rfl) (by first | assumption | rfl)).symm))) ?_
  refine L_callV rfl rfl rfl rfl rfl rfl tx4q (fun w hw => hbytes_no eh rh (ph.set (at_ - 32).toNat (bits2 .xor .u8 (ph.getD (at_ - 32).toNat 0) by_)) w hR hP (by omega)) ?_
  refine L_v rfl rfl rfl (V_move rfl rfl) ?_
  refine L_v rfl rfl rfl (V_extract rfl rfl rfl) ?_
  refine L_v rfl rfl rfl (V_extract rfl rfl rfl) ?_
  refine L_v rfl rfl rfl (V_assign rfl rfl) ?_
  refine L_v rfl rfl rfl (V_assign rfl rfl) ?_
  refine L_nil ?_
  change J _ _ _ _
  refine J_seq ?_
  refine J_seq ?_
  refine J_region ?_
  refine L_v rfl rfl rfl (V_move rfl rfl) ?_
  refine L_v rfl rfl rfl (V_neq rfl rfl rfl (by first | exact decide_eq_true (by omega) | exact decide_eq_false (by omega) | rfl)) ?_
  refine L_v rfl rfl rfl (V_move rfl rfl) ?_
  refine L_wv rfl rfl rfl rfl rfl rfl (V_move rfl rfl) ?_
  refine L_wv rfl rfl rfl rfl rfl rfl (V_neq rfl rfl rfl (by first | exact decide_eq_true (by omega) | exact decide_eq_false (by omega) | rfl)) ?_
  first | refine L_v rfl rfl rfl (V_pickT rfl rfl rfl) ?_ | refine L_v rfl rfl rfl (V_pickF rfl rfl rfl) ?_
  refine L_nil ?_
  change J _ _ _ _
  refine J_true rfl ?_
  refine J_seq ?_
  refine J_region ?_
  refine L_callV rfl rfl rfl rfl rfl rfl tx5q (fun w _ => lays_w w) ?_
  refine L_v rfl rfl rfl (V_move rfl rfl) ?_
  refine L_wv rfl rfl rfl rfl rfl rfl (V_move rfl rfl) ?_
  refine L_wv rfl rfl rfl rfl rfl rfl (V_eql rfl rfl rfl (by first | exact decide_eq_true (by omega) | exact decide_eq_false (by omega) | rfl)) ?_
  refine L_wv rfl rfl rfl rfl rfl rfl (V_move rfl rfl) ?_
  refine L_skip rfl rfl rfl rfl rfl rfl rfl ?_
  refine L_skip rfl rfl rfl rfl rfl rfl rfl ?_
  refine L_skip rfl rfl rfl rfl rfl rfl rfl ?_
  first | refine L_wv rfl rfl rfl rfl rfl rfl (V_pickT rfl rfl rfl) ?_ | refine L_wv rfl rfl rfl rfl rfl rfl (V_pickF rfl rfl rfl) ?_
  first | refine L_v rfl rfl rfl (V_pickT rfl rfl rfl) ?_ | refine L_v rfl rfl rfl (V_pickF rfl rfl rfl) ?_
  refine L_v rfl rfl rfl (V_move rfl rfl) ?_
  refine L_wv rfl rfl rfl rfl rfl rfl (V_move rfl rfl) ?_
  refine L_wv rfl rfl rfl rfl rfl rfl (V_eql rfl rfl rfl (by first | exact decide_eq_true (by omega) | exact decide_eq_false (by omega) | rfl)) ?_
  refine L_wv rfl rfl rfl rfl rfl rfl (V_move rfl rfl) ?_
  refine L_wv rfl rfl rfl rfl rfl rfl (V_move rfl rfl) ?_
  refine L_wv rfl rfl rfl rfl rfl rfl (V_len rfl rfl Try.underlying26 rfl) ?_
  refine L_wv rfl rfl rfl rfl rfl rfl (V_eql rfl rfl rfl (by first | exact decide_eq_true (by omega) | exact decide_eq_false (by omega) | rfl)) ?_
  first | refine L_wv rfl rfl rfl rfl rfl rfl (V_pickT rfl rfl rfl) ?_ | refine L_wv rfl rfl rfl rfl rfl rfl (V_pickF rfl rfl rfl) ?_
  first | refine L_v rfl rfl rfl (V_pickT rfl rfl rfl) ?_ | refine L_v rfl rfl rfl (V_pickF rfl rfl rfl) ?_
  refine L_v rfl rfl rfl (V_assign rfl rfl) ?_
  refine L_nil ?_
  change J _ _ _ _
  refine J_ret ?_
  change Kret _ _ _ Exit.ret _
  refine ret1 rfl rfl (RV_t rfl) ?_
  exact fun w' h => ⟨rfl, h.fr⟩

theorem HeadApart_B01 (eg eh at_ by_ : Int) (rg pg rh ph : List Int) (w : World) (hrg : rg.length = 32) (hpg : pg.length = 32) (hrh : rh.length = 32) (hph : ph.length = 32) (brg : Byt rg) (bpg : Byt pg) (brh : Byt rh) (bph : Byt ph) (hat : 32 ≤ at_ ∧ at_ < 64) (heg : ¬ (1 ≤ eg ∧ eg ≤ 200)) (heh : (1 ≤ eh ∧ eh ≤ 200)) :
    Calls Try.prog 3 #[.agg (hdL eg rg pg).toArray, .agg (hdL eh rh ph).toArray, .int .i64 at_, .int .u8 by_] w fun e w' => e = .returned (.bool true) ∧ Fr [] w w' := by
  have hR : rh.length = 32 := by exact hrh
  have hP : (ph.set (at_ - 32).toNat (bits2 .xor .u8 (ph.getD (at_ - 32).toNat 0) by_)).length = 32 := by rw [List.length_set]; exact hph
  refine calls_of (args := [.agg (hdL eg rg pg).toArray, .agg (hdL eh rh ph).toArray, .int .i64 at_, .int .u8 by_]) ([]) ([]) ([]) Try.func3 rfl rfl (okW0 _ _ _ _) ?_
  refine J_seq ?_
  refine J_region ?_
  refine L_box rfl rfl rfl rfl rfl (fun b0 => ?_)
  refine L_box rfl rfl rfl rfl rfl (fun b1 => ?_)
  refine L_v rfl rfl rfl (V_assign rfl rfl) ?_
  refine L_nil ?_
  change J _ _ _ _
  refine J_seq ?_
  refine J_seq ?_
  refine J_region ?_
  refine L_v rfl rfl rfl (V_move rfl rfl) ?_
  refine L_v rfl rfl rfl (V_geq rfl rfl rfl (by first | exact decide_eq_true (by omega) | exact decide_eq_false (by omega) | rfl)) ?_
  refine L_v rfl rfl rfl (V_move rfl rfl) ?_
  refine L_wv rfl rfl rfl rfl rfl rfl (V_move rfl rfl) ?_
  refine L_wv rfl rfl rfl rfl rfl rfl (V_lss rfl rfl rfl (by first | exact decide_eq_true (by omega) | exact decide_eq_false (by omega) | rfl)) ?_
  first | refine L_v rfl rfl rfl (V_pickT rfl rfl rfl) ?_ | refine L_v rfl rfl rfl (V_pickF rfl rfl rfl) ?_
  refine L_nil ?_
  change J _ _ _ _
  refine J_false rfl ?_
  refine J_skip ?_
  change J _ _ _ _
  refine J_seq ?_
  refine J_seq ?_
  refine J_region ?_
  refine L_v rfl rfl rfl (V_move rfl rfl) ?_
  refine L_v rfl rfl rfl (V_geq rfl rfl rfl (by first | exact decide_eq_true (by omega) | exact decide_eq_false (by omega) | rfl)) ?_
  refine L_v rfl rfl rfl (V_move rfl rfl) ?_
  refine L_wv rfl rfl rfl rfl rfl rfl (V_move rfl rfl) ?_
  refine L_wv rfl rfl rfl rfl rfl rfl (V_lss rfl rfl rfl (by first | exact decide_eq_true (by omega) | exact decide_eq_false (by omega) | rfl)) ?_
  first | refine L_v rfl rfl rfl (V_pickT rfl rfl rfl) ?_ | refine L_v rfl rfl rfl (V_pickF rfl rfl rfl) ?_
  refine L_nil ?_
  change J _ _ _ _
  refine J_true rfl ?_
  refine J_region ?_
  refine L_v rfl rfl rfl (V_move rfl rfl) ?_
  refine L_v rfl rfl rfl (V_sub rfl rfl rfl (by first | exact Go.IntWalk.i64_in _ (by omega) | rfl)) ?_
  refine L_v rfl rfl rfl (V_move rfl rfl) ?_
  refine L_v rfl rfl rfl (V_sub rfl rfl rfl (by first | exact Go.IntWalk.i64_in _ (by omega) | rfl)) ?_
  refine L_v rfl rfl rfl (V_fieldAddr rfl rfl Try.underlying25 rfl sz23q rfl) ?_
  refine L_v rfl rfl rfl (V_indexArr rfl rfl rfl Try.underlying23 sz5q (by omega) (by omega) (by first | exact ix0 _ | exact ix1 _ _ | rfl)) ?_
  refine L_v rfl rfl rfl (V_load1 1 rfl rfl rfl Try.underlying5 rfl (by first | exact hd_getR (by omega) | exact hd_getP hrh (by omega) | rfl)) ?_
  refine L_v rfl rfl rfl (V_move rfl rfl) ?_
  refine L_v rfl rfl rfl (V_xor rfl rfl rfl rfl) ?_
  refine L_v rfl rfl rfl (V_fieldAddr rfl rfl Try.underlying25 rfl sz23q rfl) ?_
  refine L_v rfl rfl rfl (V_indexArr rfl rfl rfl Try.underlying23 sz5q (by omega) (by omega) (by first | exact ix0 _ | exact ix1 _ _ | rfl)) ?_
  refine L_store1 1 rfl rfl rfl rfl rfl rfl rfl sz5q (by rw [hdL_len hrh hph]; first | (show 1 + at_.toNat < 65; omega) | (show 33 + (at_ - 32).toNat < 65; omega)) (by first | exact hd_setR (by omega) _ | exact hd_setP hrh _ | rfl) ?_
  refine L_nil ?_
  change J _ _ _ _
  refine J_seq ?_
  refine J_region ?_
  refine L_v rfl rfl rfl (V_loadW 0 rfl rfl rfl Try.underlying25 rfl (szd sz25q (by first | exact hdL_len (by first | assumption | rfl) (by first | assumption | rfl) | (simp [dg_length, zd_length, *]; done) | exact (hdL_len (by first | assumption | rfl) (by first | assumption | rfl)).symm))) ?_
  refine L_callV rfl rfl rfl rfl rfl rfl tx4q (fun w hw => hbytes_no eg rg pg w hrg hpg (by omega)) ?_
  refine L_v rfl rfl rfl (V_move rfl rfl) ?_
  refine L_v rfl rfl rfl (V_extract rfl rfl rfl) ?_
  refine L_v rfl rfl rfl (V_extract rfl rfl rfl) ?_
  refine L_v rfl rfl rfl (V_assign rfl rfl) ?_
  refine L_v rfl rfl rfl (V_assign rfl rfl) ?_
  refine L_nil ?_
  change J _ _ _ _
  refine J_seq ?_
  refine J_region ?_
  refine L_v rfl rfl rfl (V_loadW 1 rfl rfl rfl Try.underlying25 rfl (szd sz25q (by first | exact hdL_len (by first | assumption | rfl) (by first | assumption | rfl) | (simp [dg_length, zd_length, *]; done) | exact (hdL_len (by first | assumption | rfl) (by first | assumption | rfl)).symm))) ?_
  refine L_callB rfl rfl rfl rfl rfl rfl tx4q (fun w hw => hbytes_ok eh rh (ph.set (at_ - 32).toNat (bits2 .xor .u8 (ph.getD (at_ - 32).toNat 0) by_)) w hR hP (by omega) (by omega)) (fun g2 r2 c2 hl2 hc2 hr2 => ?_)
  refine L_v rfl rfl rfl (V_move rfl rfl) ?_
  refine L_v rfl rfl rfl (V_extract rfl rfl rfl) ?_
  refine L_v rfl rfl rfl (V_extract rfl rfl rfl) ?_
  refine L_v rfl rfl rfl (V_assign rfl rfl) ?_
  refine L_v rfl rfl rfl (V_assign rfl rfl) ?_
  refine L_nil ?_
  change J _ _ _ _
  refine J_seq ?_
  refine J_seq ?_
  refine J_region ?_
  refine L_v rfl rfl rfl (V_move rfl rfl) ?_
  refine L_v rfl rfl rfl (V_neq rfl rfl rfl (by first | exact decide_eq_true (by omega) | exact decide_eq_false (by omega) | rfl)) ?_
  refine L_v rfl rfl rfl (V_move rfl rfl) ?_
  refine L_skip rfl rfl rfl rfl rfl rfl rfl ?_
  refine L_skip rfl rfl rfl rfl rfl rfl rfl ?_
  first | refine L_v rfl rfl rfl (V_pickT rfl rfl rfl) ?_ | refine L_v rfl rfl rfl (V_pickF rfl rfl rfl) ?_
  refine L_nil ?_
  change J _ _ _ _
  refine J_true rfl ?_
  refine J_seq ?_
  refine J_region ?_
  refine L_callV rfl rfl rfl rfl rfl rfl tx5q (fun w _ => lays_w w) ?_
  refine L_v rfl rfl rfl (V_move rfl rfl) ?_
  refine L_wv rfl rfl rfl rfl rfl rfl (V_move rfl rfl) ?_
  refine L_wv rfl rfl rfl rfl rfl rfl (V_eql rfl rfl rfl (by first | exact decide_eq_true (by omega) | exact decide_eq_false (by omega) | rfl)) ?_
  refine L_wv rfl rfl rfl rfl rfl rfl (V_move rfl rfl) ?_
  refine L_wv rfl rfl rfl rfl rfl rfl (V_move rfl rfl) ?_
  refine L_wv rfl rfl rfl rfl rfl rfl (V_len rfl rfl Try.underlying26 rfl) ?_
  refine L_wv rfl rfl rfl rfl rfl rfl (V_eql rfl rfl rfl (by first | exact decide_eq_true (by omega) | exact decide_eq_false (by omega) | rfl)) ?_
  first | refine L_wv rfl rfl rfl rfl rfl rfl (V_pickT rfl rfl rfl) ?_ | refine L_wv rfl rfl rfl rfl rfl rfl (V_pickF rfl rfl rfl) ?_
  first | refine L_v rfl rfl rfl (V_pickT rfl rfl rfl) ?_ | refine L_v rfl rfl rfl (V_pickF rfl rfl rfl) ?_
  refine L_v rfl rfl rfl (V_move rfl rfl) ?_
  refine L_wv rfl rfl rfl rfl rfl rfl (V_move rfl rfl) ?_
  refine L_wv rfl rfl rfl rfl rfl rfl (V_eql rfl rfl rfl (by first | exact decide_eq_true (by omega) | exact decide_eq_false (by omega) | rfl)) ?_
  refine L_wv rfl rfl rfl rfl rfl rfl (V_move rfl rfl) ?_
  refine L_skip rfl rfl rfl rfl rfl rfl rfl ?_
  refine L_skip rfl rfl rfl rfl rfl rfl rfl ?_
  refine L_skip rfl rfl rfl rfl rfl rfl rfl ?_
  first | refine L_wv rfl rfl rfl rfl rfl rfl (V_pickT rfl rfl rfl) ?_ | refine L_wv rfl rfl rfl rfl rfl rfl (V_pickF rfl rfl rfl) ?_
  first | refine L_v rfl rfl rfl (V_pickT rfl rfl rfl) ?_ | refine L_v rfl rfl rfl (V_pickF rfl rfl rfl) ?_
  refine L_v rfl rfl rfl (V_assign rfl rfl) ?_
  refine L_nil ?_
  change J _ _ _ _
  refine J_ret ?_
  change Kret _ _ _ Exit.ret _
  refine ret1 rfl rfl (RV_t rfl) ?_
  exact fun w' h => ⟨rfl, h.fr⟩

theorem HeadApart_B00 (eg eh at_ by_ : Int) (rg pg rh ph : List Int) (w : World) (hrg : rg.length = 32) (hpg : pg.length = 32) (hrh : rh.length = 32) (hph : ph.length = 32) (brg : Byt rg) (bpg : Byt pg) (brh : Byt rh) (bph : Byt ph) (hat : 32 ≤ at_ ∧ at_ < 64) (heg : ¬ (1 ≤ eg ∧ eg ≤ 200)) (heh : ¬ (1 ≤ eh ∧ eh ≤ 200)) :
    Calls Try.prog 3 #[.agg (hdL eg rg pg).toArray, .agg (hdL eh rh ph).toArray, .int .i64 at_, .int .u8 by_] w fun e w' => e = .returned (.bool true) ∧ Fr [] w w' := by
  have hR : rh.length = 32 := by exact hrh
  have hP : (ph.set (at_ - 32).toNat (bits2 .xor .u8 (ph.getD (at_ - 32).toNat 0) by_)).length = 32 := by rw [List.length_set]; exact hph
  refine calls_of (args := [.agg (hdL eg rg pg).toArray, .agg (hdL eh rh ph).toArray, .int .i64 at_, .int .u8 by_]) ([]) ([]) ([]) Try.func3 rfl rfl (okW0 _ _ _ _) ?_
  refine J_seq ?_
  refine J_region ?_
  refine L_box rfl rfl rfl rfl rfl (fun b0 => ?_)
  refine L_box rfl rfl rfl rfl rfl (fun b1 => ?_)
  refine L_v rfl rfl rfl (V_assign rfl rfl) ?_
  refine L_nil ?_
  change J _ _ _ _
  refine J_seq ?_
  refine J_seq ?_
  refine J_region ?_
  refine L_v rfl rfl rfl (V_move rfl rfl) ?_
  refine L_v rfl rfl rfl (V_geq rfl rfl rfl (by first | exact decide_eq_true (by omega) | exact decide_eq_false (by omega) | rfl)) ?_
  refine L_v rfl rfl rfl (V_move rfl rfl) ?_
  refine L_wv rfl rfl rfl rfl rfl rfl (V_move rfl rfl) ?_
  refine L_wv rfl rfl rfl rfl rfl rfl (V_lss rfl rfl rfl (by first | exact decide_eq_true (by omega) | exact decide_eq_false (by omega) | rfl)) ?_
  first | refine L_v rfl rfl rfl (V_pickT rfl rfl rfl) ?_ | refine L_v rfl rfl rfl (V_pickF rfl rfl rfl) ?_
  refine L_nil ?_
  change J _ _ _ _
  refine J_false rfl ?_
  refine J_skip ?_
  change J _ _ _ _
  refine J_seq ?_
  refine J_seq ?_
  refine J_region ?_
  refine L_v rfl rfl rfl (V_move rfl rfl) ?_
  refine L_v rfl rfl rfl (V_geq rfl rfl rfl (by first | exact decide_eq_true (by omega) | exact decide_eq_false (by omega) | rfl)) ?_
  refine L_v rfl rfl rfl (V_move rfl rfl) ?_
  refine L_wv rfl rfl rfl rfl rfl rfl (V_move rfl rfl) ?_
  refine L_wv rfl rfl rfl rfl rfl rfl (V_lss rfl rfl rfl (by first | exact decide_eq_true (by omega) | exact decide_eq_false (by omega) | rfl)) ?_
  first | refine L_v rfl rfl rfl (V_pickT rfl rfl rfl) ?_ | refine L_v rfl rfl rfl (V_pickF rfl rfl rfl) ?_
  refine L_nil ?_
  change J _ _ _ _
  refine J_true rfl ?_
  refine J_region ?_
  refine L_v rfl rfl rfl (V_move rfl rfl) ?_
  refine L_v rfl rfl rfl (V_sub rfl rfl rfl (by first | exact Go.IntWalk.i64_in _ (by omega) | rfl)) ?_
  refine L_v rfl rfl rfl (V_move rfl rfl) ?_
  refine L_v rfl rfl rfl (V_sub rfl rfl rfl (by first | exact Go.IntWalk.i64_in _ (by omega) | rfl)) ?_
  refine L_v rfl rfl rfl (V_fieldAddr rfl rfl Try.underlying25 rfl sz23q rfl) ?_
  refine L_v rfl rfl rfl (V_indexArr rfl rfl rfl Try.underlying23 sz5q (by omega) (by omega) (by first | exact ix0 _ | exact ix1 _ _ | rfl)) ?_
  refine L_v rfl rfl rfl (V_load1 1 rfl rfl rfl Try.underlying5 rfl (by first | exact hd_getR (by omega) | exact hd_getP hrh (by omega) | rfl)) ?_
  refine L_v rfl rfl rfl (V_move rfl rfl) ?_
  refine L_v rfl rfl rfl (V_xor rfl rfl rfl rfl) ?_
  refine L_v rfl rfl rfl (V_fieldAddr rfl rfl Try.underlying25 rfl sz23q rfl) ?_
  refine L_v rfl rfl rfl (V_indexArr rfl rfl rfl Try.underlying23 sz5q (by omega) (by omega) (by first | exact ix0 _ | exact ix1 _ _ | rfl)) ?_
  refine L_store1 1 rfl rfl rfl rfl rfl rfl rfl sz5q (by rw [hdL_len hrh hph]; first | (show 1 + at_.toNat < 65; omega) | (show 33 + (at_ - 32).toNat < 65; omega)) (by first | exact hd_setR (by omega) _ | exact hd_setP hrh _ | rfl) ?_
  refine L_nil ?_
  change J _ _ _ _
  refine J_seq ?_
  refine J_region ?_
  refine L_v rfl rfl rfl (V_loadW 0 rfl rfl rfl Try.underlying25 rfl (szd sz25q (by first | exact hdL_len (by first | assumption | rfl) (by first | assumption | rfl) | (simp [dg_length, zd_length, *]; done) | exact (hdL_len (by first | assumption | rfl) (by first | assumption | rfl)).symm))) ?_
  refine L_callV rfl rfl rfl rfl rfl rfl tx4q (fun w hw => hbytes_no eg rg pg w hrg hpg (by omega)) ?_
  refine L_v rfl rfl rfl (V_move rfl rfl) ?_
  refine L_v rfl rfl rfl (V_extract rfl rfl rfl) ?_
  refine L_v rfl rfl rfl (V_extract rfl rfl rfl) ?_
  refine L_v rfl rfl rfl (V_assign rfl rfl) ?_
  refine L_v rfl rfl rfl (V_assign rfl rfl) ?_
  refine L_nil ?_
  change J _ _ _ _
  refine J_seq ?_
  refine J_region ?_
  refine L_v rfl rfl rfl (V_loadW 1 rfl rfl rfl Try.underlying25 rfl (szd sz25q (by first | exact hdL_len (by first | assumption | rfl) (by first | assumption | rfl) | (simp [dg_length, zd_length, *]; done) | exact (hdL_len (by first | assumption | rfl) (by first | assumption | rfl)).symm))) ?_
  refine L_callV rfl rfl rfl rfl rfl rfl tx4q (fun w hw => hbytes_no eh rh (ph.set (at_ - 32).toNat (bits2 .xor .u8 (ph.getD (at_ - 32).toNat 0) by_)) w hR hP (by omega)) ?_
  refine L_v rfl rfl rfl (V_move rfl rfl) ?_
  refine L_v rfl rfl rfl (V_extract rfl rfl rfl) ?_
  refine L_v rfl rfl rfl (V_extract rfl rfl rfl) ?_
  refine L_v rfl rfl rfl (V_assign rfl rfl) ?_
  refine L_v rfl rfl rfl (V_assign rfl rfl) ?_
  refine L_nil ?_
  change J _ _ _ _
  refine J_seq ?_
  refine J_seq ?_
  refine J_region ?_
  refine L_v rfl rfl rfl (V_move rfl rfl) ?_
  refine L_v rfl rfl rfl (V_neq rfl rfl rfl (by first | exact decide_eq_true (by omega) | exact decide_eq_false (by omega) | rfl)) ?_
  refine L_v rfl rfl rfl (V_move rfl rfl) ?_
  refine L_skip rfl rfl rfl rfl rfl rfl rfl ?_
  refine L_skip rfl rfl rfl rfl rfl rfl rfl ?_
  first | refine L_v rfl rfl rfl (V_pickT rfl rfl rfl) ?_ | refine L_v rfl rfl rfl (V_pickF rfl rfl rfl) ?_
  refine L_nil ?_
  change J _ _ _ _
  refine J_true rfl ?_
  refine J_seq ?_
  refine J_region ?_
  refine L_callV rfl rfl rfl rfl rfl rfl tx5q (fun w _ => lays_w w) ?_
  refine L_v rfl rfl rfl (V_move rfl rfl) ?_
  refine L_wv rfl rfl rfl rfl rfl rfl (V_move rfl rfl) ?_
  refine L_wv rfl rfl rfl rfl rfl rfl (V_eql rfl rfl rfl (by first | exact decide_eq_true (by omega) | exact decide_eq_false (by omega) | rfl)) ?_
  refine L_wv rfl rfl rfl rfl rfl rfl (V_move rfl rfl) ?_
  refine L_wv rfl rfl rfl rfl rfl rfl (V_move rfl rfl) ?_
  refine L_wv rfl rfl rfl rfl rfl rfl (V_len rfl rfl Try.underlying26 rfl) ?_
  refine L_wv rfl rfl rfl rfl rfl rfl (V_eql rfl rfl rfl (by first | exact decide_eq_true (by omega) | exact decide_eq_false (by omega) | rfl)) ?_
  first | refine L_wv rfl rfl rfl rfl rfl rfl (V_pickT rfl rfl rfl) ?_ | refine L_wv rfl rfl rfl rfl rfl rfl (V_pickF rfl rfl rfl) ?_
  first | refine L_v rfl rfl rfl (V_pickT rfl rfl rfl) ?_ | refine L_v rfl rfl rfl (V_pickF rfl rfl rfl) ?_
  refine L_v rfl rfl rfl (V_move rfl rfl) ?_
  refine L_wv rfl rfl rfl rfl rfl rfl (V_move rfl rfl) ?_
  refine L_wv rfl rfl rfl rfl rfl rfl (V_eql rfl rfl rfl (by first | exact decide_eq_true (by omega) | exact decide_eq_false (by omega) | rfl)) ?_
  refine L_wv rfl rfl rfl rfl rfl rfl (V_move rfl rfl) ?_
  refine L_wv rfl rfl rfl rfl rfl rfl (V_move rfl rfl) ?_
  refine L_wv rfl rfl rfl rfl rfl rfl (V_len rfl rfl Try.underlying26 rfl) ?_
  refine L_wv rfl rfl rfl rfl rfl rfl (V_eql rfl rfl rfl (by first | exact decide_eq_true (by omega) | exact decide_eq_false (by omega) | rfl)) ?_
  first | refine L_wv rfl rfl rfl rfl rfl rfl (V_pickT rfl rfl rfl) ?_ | refine L_wv rfl rfl rfl rfl rfl rfl (V_pickF rfl rfl rfl) ?_
  first | refine L_v rfl rfl rfl (V_pickT rfl rfl rfl) ?_ | refine L_v rfl rfl rfl (V_pickF rfl rfl rfl) ?_
  refine L_v rfl rfl rfl (V_assign rfl rfl) ?_
  refine L_nil ?_
  change J _ _ _ _
  refine J_ret ?_
  change Kret _ _ _ Exit.ret _
  refine ret1 rfl rfl (RV_t rfl) ?_
  exact fun w' h => ⟨rfl, h.fr⟩

theorem HeadApart_C11 (eg eh at_ by_ : Int) (rg pg rh ph : List Int) (w : World) (hrg : rg.length = 32) (hpg : pg.length = 32) (hrh : rh.length = 32) (hph : ph.length = 32) (brg : Byt rg) (bpg : Byt pg) (brh : Byt rh) (bph : Byt ph) (hat : ¬ (0 ≤ at_ ∧ at_ < 64)) (heg : (1 ≤ eg ∧ eg ≤ 200)) (heh : (1 ≤ eh ∧ eh ≤ 200)) :
    Calls Try.prog 3 #[.agg (hdL eg rg pg).toArray, .agg (hdL eh rh ph).toArray, .int .i64 at_, .int .u8 by_] w fun e w' => e = .returned (.bool true) ∧ Fr [] w w' := by
  have hR : rh.length = 32 := by exact hrh
  have hP : ph.length = 32 := by exact hph
  have hfin := hd_same hrg hR hpg hP brg brh bpg bph heg heh
  refine calls_of (args := [.agg (hdL eg rg pg).toArray, .agg (hdL eh rh ph).toArray, .int .i64 at_, .int .u8 by_]) ([]) ([]) ([]) Try.func3 rfl rfl (okW0 _ _ _ _) ?_
  refine J_seq ?_
  refine J_region ?_
  refine L_box rfl rfl rfl rfl rfl (fun b0 => ?_)
  refine L_box rfl rfl rfl rfl rfl (fun b1 => ?_)
  refine L_v rfl rfl rfl (V_assign rfl rfl) ?_
  refine L_nil ?_
  change J _ _ _ _
  refine J_seq ?_
  refine J_seq ?_
  refine J_region ?_
  refine L_v rfl rfl rfl (V_move rfl rfl) ?_
  refine L_v rfl rfl rfl (V_geq rfl rfl rfl (by first | exact decide_eq_true (by omega) | exact decide_eq_false (by omega) | rfl)) ?_
  refine L_v rfl rfl rfl (V_move rfl rfl) ?_
  refine L_split 15 rfl (fun h1 => ?_) (fun h1 => ?_)
  ·
    first | (have h1 := of_decide_eq_true h1) | (have h1 := of_decide_eq_false h1) | skip
    refine L_wv rfl rfl rfl rfl rfl rfl (V_move rfl rfl) ?_
    refine L_wv rfl rfl rfl rfl rfl rfl (V_lss rfl rfl rfl (by first | exact decide_eq_true (by omega) | exact decide_eq_false (by omega) | rfl)) ?_
    first | refine L_v rfl rfl rfl (V_pickT rfl rfl rfl) ?_ | refine L_v rfl rfl rfl (V_pickF rfl rfl rfl) ?_
    refine L_nil ?_
    change J _ _ _ _
    refine J_false rfl ?_
    refine J_skip ?_
    change J _ _ _ _
    refine J_seq ?_
    refine J_seq ?_
    refine J_region ?_
    refine L_v rfl rfl rfl (V_move rfl rfl) ?_
    refine L_v rfl rfl rfl (V_geq rfl rfl rfl (by first | exact decide_eq_true (by omega) | exact decide_eq_false (by omega) | rfl)) ?_
    refine L_v rfl rfl rfl (V_move rfl rfl) ?_
    refine L_wv rfl rfl rfl rfl rfl rfl (V_move rfl rfl) ?_
    refine L_wv rfl rfl rfl rfl rfl rfl (V_lss rfl rfl rfl (by first | exact decide_eq_true (by omega) | exact decide_eq_false (by omega) | rfl)) ?_
    first | refine L_v rfl rfl rfl (V_pickT rfl rfl rfl) ?_ | refine L_v rfl rfl rfl (V_pickF rfl rfl rfl) ?_
    refine L_nil ?_
    change J _ _ _ _
    refine J_false rfl ?_
    refine J_skip ?_
    change J _ _ _ _
    refine J_seq ?_
    refine J_region ?_
    refine L_v rfl rfl rfl (V_loadW 0 rfl rfl rfl Try.underlying25 rfl (szd sz25q (by first | exact hdL_len (by first | assumption | rfl) (by first | assumption | rfl) | (simp [dg_length, zd_length, *]; done) | exact (hdL_len (by first | assumption | rfl) (by first | assumption | rfl)).symm))) ?_
    refine L_callB rfl rfl rfl rfl rfl rfl tx4q (fun w hw => hbytes_ok eg rg pg w hrg hpg (by omega) (by omega)) (fun g1 r1 c1 hl1 hc1 hr1 => ?_)
    refine L_v rfl rfl rfl (V_move rfl rfl) ?_
    refine L_v rfl rfl rfl (V_extract rfl rfl rfl) ?_
    refine L_v rfl rfl rfl (V_extract rfl rfl rfl) ?_
    refine L_v rfl rfl rfl (V_assign rfl rfl) ?_
    refine L_v rfl rfl rfl (V_assign rfl rfl) ?_
    refine L_nil ?_
    change J _ _ _ _
    refine J_seq ?_
    refine J_region ?_
    refine L_v rfl rfl rfl (V_loadW 1 rfl rfl rfl Try.underlying25 rfl (szd sz25q (by first | exact hdL_len (by first | assumption | rfl) (by first | assumption | rfl) | (simp [dg_length, zd_length, *]; done) | exact (hdL_len (by first | assumption | rfl) (by first | assumption | rfl)).symm))) ?_
    refine L_callB rfl rfl rfl rfl rfl rfl tx4q (fun w hw => hbytes_ok eh rh ph w hR hP (by omega) (by omega)) (fun g2 r2 c2 hl2 hc2 hr2 => ?_)
    refine L_v rfl rfl rfl (V_move rfl rfl) ?_
    refine L_v rfl rfl rfl (V_extract rfl rfl rfl) ?_
    refine L_v rfl rfl rfl (V_extract rfl rfl rfl) ?_
    refine L_v rfl rfl rfl (V_assign rfl rfl) ?_
    refine L_v rfl rfl rfl (V_assign rfl rfl) ?_
    refine L_nil ?_
    change J _ _ _ _
    refine J_seq ?_
    refine J_seq ?_
    refine J_region ?_
    refine L_v rfl rfl rfl (V_move rfl rfl) ?_
    refine L_v rfl rfl rfl (V_neq rfl rfl rfl (by first | exact decide_eq_true (by omega) | exact decide_eq_false (by omega) | rfl)) ?_
    refine L_v rfl rfl rfl (V_move rfl rfl) ?_
    refine L_wv rfl rfl rfl rfl rfl rfl (V_move rfl rfl) ?_
    refine L_wv rfl rfl rfl rfl rfl rfl (V_neq rfl rfl rfl (by first | exact decide_eq_true (by omega) | exact decide_eq_false (by omega) | rfl)) ?_
    first | refine L_v rfl rfl rfl (V_pickT rfl rfl rfl) ?_ | refine L_v rfl rfl rfl (V_pickF rfl rfl rfl) ?_
    refine L_nil ?_
    change J _ _ _ _
    refine J_false rfl ?_
    refine J_skip ?_
    change J _ _ _ _
    refine J_seq ?_
    refine J_regionO [(0, true), (1, false), (2, false), (3, false), (4, false), (5, false), (6, false), (7, false), (8, false), (9, false), (10, false), (11, false), (12, false)] _ _ (Pk.refl _) (fun f hf => hf) rfl rfl (by kernel_rfl) ?_
    refine LO_callV rfl rfl rfl rfl rfl rfl rfl rfl tx5q (fun w _ => lays_w w) (Pk.refl _) (fun f hf => hf) ?_
    refine LO_v rfl rfl rfl rfl (V_move rfl rfl) ?_
    refine LO_wv rfl rfl rfl rfl rfl rfl rfl (V_move rfl rfl) ?_
    refine LO_wv rfl rfl rfl rfl rfl rfl rfl (V_str rfl rfl Try.underlying26 Try.underlying5 Try.underlying9 (fun w hw => SlB.of_own hw (i := 2) rfl hl1 c1)) ?_
    refine LO_wv rfl rfl rfl rfl rfl rfl rfl (V_move rfl rfl) ?_
    refine LO_wv rfl rfl rfl rfl rfl rfl rfl (V_str rfl rfl Try.underlying26 Try.underlying5 Try.underlying9 (fun w hw => SlB.of_own hw (i := 3) rfl hl2 c2)) ?_
    refine LO_wv rfl rfl rfl rfl rfl rfl rfl (V_eqS rfl rfl rfl rfl) ?_
    refine LO_wv rfl rfl rfl rfl rfl rfl rfl (V_loadW 0 rfl rfl rfl Try.underlying25 rfl (szd sz25q (by first | exact hdL_len (by first | assumption | rfl) (by first | assumption | rfl) | (simp [dg_length, zd_length, *]; done) | exact (hdL_len (by first | assumption | rfl) (by first | assumption | rfl)).symm))) ?_
    refine LO_wv rfl rfl rfl rfl rfl rfl rfl (V_loadW 1 rfl rfl rfl Try.underlying25 rfl (szd sz25q (by first | exact hdL_len (by first | assumption | rfl) (by first | assumption | rfl) | (simp [dg_length, zd_length, *]; done) | exact (hdL_len (by first | assumption | rfl) (by first | assumption | rfl)).symm))) ?_
    refine LO_wv rfl rfl rfl rfl rfl rfl rfl (V_eqAgg rfl rfl rfl egH (fun w => eqH hrg hR hpg hP w) rfl) ?_
    refine LO_wv rfl rfl rfl rfl rfl rfl rfl (V_eqB rfl rfl rfl Try.underlying4 hfin) ?_
    first | refine LO_v rfl rfl rfl rfl (V_pickT rfl rfl rfl) ?_ | refine LO_v rfl rfl rfl rfl (V_pickF rfl rfl rfl) ?_
    refine LO_v rfl rfl rfl rfl (V_assign rfl rfl) ?_
    refine LO_nil ?_
    change J _ _ _ _
    refine J_ret ?_
    change Kret _ _ _ Exit.ret _
    refine ret1 rfl rfl (RV_t rfl) ?_
    exact fun w' h => ⟨rfl, h.fr⟩
  ·
    first | (have h1 := of_decide_eq_true h1) | (have h1 := of_decide_eq_false h1) | skip
    refine L_skip rfl rfl rfl rfl rfl rfl rfl ?_
    refine L_skip rfl rfl rfl rfl rfl rfl rfl ?_
    first | refine L_v rfl rfl rfl (V_pickT rfl rfl rfl) ?_ | refine L_v rfl rfl rfl (V_pickF rfl rfl rfl) ?_
    refine L_nil ?_
    change J _ _ _ _
    refine J_false rfl ?_
    refine J_skip ?_
    change J _ _ _ _
    refine J_seq ?_
    refine J_seq ?_
    refine J_region ?_
    refine L_v rfl rfl rfl (V_move rfl rfl) ?_
    refine L_v rfl rfl rfl (V_geq rfl rfl rfl (by first | exact decide_eq_true (by omega) | exact decide_eq_false (by omega) | rfl)) ?_
    refine L_v rfl rfl rfl (V_move rfl rfl) ?_
    refine L_skip rfl rfl rfl rfl rfl rfl rfl ?_
    refine L_skip rfl rfl rfl rfl rfl rfl rfl ?_
    first | refine L_v rfl rfl rfl (V_pickT rfl rfl rfl) ?_ | refine L_v rfl rfl rfl (V_pickF rfl rfl rfl) ?_
    refine L_nil ?_
    change J _ _ _ _
    refine J_false rfl ?_
    refine J_skip ?_
    change J _ _ _ _
    refine J_seq ?_
    refine J_region ?_
    refine L_v rfl rfl rfl (V_loadW 0 rfl rfl rfl Try.underlying25 rfl (szd sz25q (by first | exact hdL_len (by first | assumption | rfl) (by first | assumption | rfl) | (simp [dg_length, zd_length, *]; done) | exact (hdL_len (by first | assumption | rfl) (by first | assumption | rfl)).symm))) ?_
    refine L_callB rfl rfl rfl rfl rfl rfl tx4q (fun w hw => hbytes_ok eg rg pg w hrg hpg (by omega) (by omega)) (fun g1 r1 c1 hl1 hc1 hr1 => ?_)
    refine L_v rfl rfl rfl (V_move rfl rfl) ?_
    refine L_v rfl rfl rfl (V_extract rfl rfl rfl) ?_
    refine L_v rfl rfl rfl (V_extract rfl rfl rfl) ?_
    refine L_v rfl rfl rfl (V_assign rfl rfl) ?_
    refine L_v rfl rfl rfl (V_assign rfl rfl) ?_
    refine L_nil ?_
    change J _ _ _ _
    refine J_seq ?_
    refine J_region ?_
    refine L_v rfl rfl rfl (V_loadW 1 rfl rfl rfl Try.underlying25 rfl (szd sz25q (by first | exact hdL_len (by first | assumption | rfl) (by first | assumption | rfl) | (simp [dg_length, zd_length, *]; done) | exact (hdL_len (by first | assumption | rfl) (by first | assumption | rfl)).symm))) ?_
    refine L_callB rfl rfl rfl rfl rfl rfl tx4q (fun w hw => hbytes_ok eh rh ph w hR hP (by omega) (by omega)) (fun g2 r2 c2 hl2 hc2 hr2 => ?_)
    refine L_v rfl rfl rfl (V_move rfl rfl) ?_
    refine L_v rfl rfl rfl (V_extract rfl rfl rfl) ?_
    refine L_v rfl rfl rfl (V_extract rfl rfl rfl) ?_
    refine L_v rfl rfl rfl (V_assign rfl rfl) ?_
    refine L_v rfl rfl rfl (V_assign rfl rfl) ?_
    refine L_nil ?_
    change J _ _ _ _
    refine J_seq ?_
    refine J_seq ?_
    refine J_region ?_
    refine L_v rfl rfl rfl (V_move rfl rfl) ?_
    refine L_v rfl rfl rfl (V_neq rfl rfl rfl (by first | exact decide_eq_true (by omega) | exact decide_eq_false (by omega) | rfl)) ?_
    refine L_v rfl rfl rfl (V_move rfl rfl) ?_
    refine L_wv rfl rfl rfl rfl rfl rfl (V_move rfl rfl) ?_
    refine L_wv rfl rfl rfl rfl rfl rfl (V_neq rfl rfl rfl (by first | exact decide_eq_true (by omega) | exact decide_eq_false (by omega) | rfl)) ?_
    first | refine L_v rfl rfl rfl (V_pickT rfl rfl rfl) ?_ | refine L_v rfl rfl rfl (V_pickF rfl rfl rfl) ?_
    refine L_nil ?_
    change J _ _ _ _
    refine J_false rfl ?_
    refine J_skip ?_
    change J _ _ _ _
    refine J_seq ?_
    refine J_regionO [(0, true), (1, false), (2, false), (3, false), (4, false), (5, false), (6, false), (7, false), (8, false), (9, false), (10, false), (11, false), (12, false)] _ _ (Pk.refl _) (fun f hf => hf) rfl rfl (by kernel_rfl) ?_
    refine LO_callV rfl rfl rfl rfl rfl rfl rfl rfl tx5q (fun w _ => lays_w w) (Pk.refl _) (fun f hf => hf) ?_
    refine LO_v rfl rfl rfl rfl (V_move rfl rfl) ?_
    refine LO_wv rfl rfl rfl rfl rfl rfl rfl (V_move rfl rfl) ?_
    refine LO_wv rfl rfl rfl rfl rfl rfl rfl (V_str rfl rfl Try.underlying26 Try.underlying5 Try.underlying9 (fun w hw => SlB.of_own hw (i := 2) rfl hl1 c1)) ?_
    refine LO_wv rfl rfl rfl rfl rfl rfl rfl (V_move rfl rfl) ?_
    refine LO_wv rfl rfl rfl rfl rfl rfl rfl (V_str rfl rfl Try.underlying26 Try.underlying5 Try.underlying9 (fun w hw => SlB.of_own hw (i := 3) rfl hl2 c2)) ?_
    refine LO_wv rfl rfl rfl rfl rfl rfl rfl (V_eqS rfl rfl rfl rfl) ?_
    refine LO_wv rfl rfl rfl rfl rfl rfl rfl (V_loadW 0 rfl rfl rfl Try.underlying25 rfl (szd sz25q (by first | exact hdL_len (by first | assumption | rfl) (by first | assumption | rfl) | (simp [dg_length, zd_length, *]; done) | exact (hdL_len (by first | assumption | rfl) (by first | assumption | rfl)).symm))) ?_
    refine LO_wv rfl rfl rfl rfl rfl rfl rfl (V_loadW 1 rfl rfl rfl Try.underlying25 rfl (szd sz25q (by first | exact hdL_len (by first | assumption | rfl) (by first | assumption | rfl) | (simp [dg_length, zd_length, *]; done) | exact (hdL_len (by first | assumption | rfl) (by first | assumption | rfl)).symm))) ?_
    refine LO_wv rfl rfl rfl rfl rfl rfl rfl (V_eqAgg rfl rfl rfl egH (fun w => eqH hrg hR hpg hP w) rfl) ?_
    refine LO_wv rfl rfl rfl rfl rfl rfl rfl (V_eqB rfl rfl rfl Try.underlying4 hfin) ?_
    first | refine LO_v rfl rfl rfl rfl (V_pickT rfl rfl rfl) ?_ | refine LO_v rfl rfl rfl rfl (V_pickF rfl rfl rfl) ?_
    refine LO_v rfl rfl rfl rfl (V_assign rfl rfl) ?_
    refine LO_nil ?_
    change J _ _ _ _
    refine J_ret ?_
    change Kret _ _ _ Exit.ret _
    refine ret1 rfl rfl (RV_t rfl) ?_
    exact fun w' h => ⟨rfl, h.fr⟩

theorem HeadApart_C10 (eg eh at_ by_ : Int) (rg pg rh ph : List Int) (w : World) (hrg : rg.length = 32) (hpg : pg.length = 32) (hrh : rh.length = 32) (hph : ph.length = 32) (brg : Byt rg) (bpg : Byt pg) (brh : Byt rh) (bph : Byt ph) (hat : ¬ (0 ≤ at_ ∧ at_ < 64)) (heg : (1 ≤ eg ∧ eg ≤ 200)) (heh : ¬ (1 ≤ eh ∧ eh ≤ 200)) :
    Calls Try.prog 3 #[.agg (hdL eg rg pg).toArray, .agg (hdL eh rh ph).toArray, .int .i64 at_, .int .u8 by_] w fun e w' => e = .returned (.bool true) ∧ Fr [] w w' := by
  have hR : rh.length = 32 := by exact hrh
  have hP : ph.length = 32 := by exact hph
  refine calls_of (args := [.agg (hdL eg rg pg).toArray, .agg (hdL eh rh ph).toArray, .int .i64 at_, .int .u8 by_]) ([]) ([]) ([]) Try.func3 rfl rfl (okW0 _ _ _ _) ?_
  refine J_seq ?_
  refine J_region ?_
  refine L_box rfl rfl rfl rfl rfl (fun b0 => ?_)
  refine L_box rfl rfl rfl rfl rfl (fun b1 => ?_)
  refine L_v rfl rfl rfl (V_assign rfl rfl) ?_
  refine L_nil ?_
  change J _ _ _ _
  refine J_seq ?_
  refine J_seq ?_
  refine J_region ?_
  refine L_v rfl rfl rfl (V_move rfl rfl) ?_
  refine L_v rfl rfl rfl (V_geq rfl rfl rfl (by first | exact decide_eq_true (by omega) | exact decide_eq_false (by omega) | rfl)) ?_
  refine L_v rfl rfl rfl (V_move rfl rfl) ?_
  refine L_split 15 rfl (fun h1 => ?_) (fun h1 => ?_)
  ·
    first | (have h1 := of_decide_eq_true h1) | (have h1 := of_decide_eq_false h1) | skip
    refine L_wv rfl rfl rfl rfl rfl rfl (V_move rfl rfl) ?_
    refine L_wv rfl rfl rfl rfl rfl rfl (V_lss rfl rfl rfl (by first | exact decide_eq_true (by omega) | exact decide_eq_false (by omega) | rfl)) ?_
    first | refine L_v rfl rfl rfl (V_pickT rfl rfl rfl) ?_ | refine L_v rfl rfl rfl (V_pickF rfl rfl rfl) ?_
    refine L_nil ?_
    change J _ _ _ _
    refine J_false rfl ?_
    refine J_skip ?_
    change J _ _ _ _
    refine J_seq ?_
    refine J_seq ?_
    refine J_region ?_
    refine L_v rfl rfl rfl (V_move rfl rfl) ?_
    refine L_v rfl rfl rfl (V_geq rfl rfl rfl (by first | exact decide_eq_true (by omega) | exact decide_eq_false (by omega) | rfl)) ?_
    refine L_v rfl rfl rfl (V_move rfl rfl) ?_
    refine L_wv rfl rfl rfl rfl rfl rfl (V_move rfl rfl) ?_
    refine L_wv rfl rfl rfl rfl rfl rfl (V_lss rfl rfl rfl (by first | exact decide_eq_true (by omega) | exact decide_eq_false (by omega) | rfl)) ?_
    first | refine L_v rfl rfl rfl (V_pickT rfl rfl rfl) ?_ | refine L_v rfl rfl rfl (V_pickF rfl rfl rfl) ?_
    refine L_nil ?_
    change J _ _ _ _
    refine J_false rfl ?_
    refine J_skip ?_
    change J _ _ _ _
    refine J_seq ?_
    refine J_region ?_
    refine L_v rfl rfl rfl (V_loadW 0 rfl rfl rfl Try.underlying25 rfl (szd sz25q (by first | exact hdL_len (by first | assumption | rfl) (by first | assumption | rfl) | (simp [dg_length, zd_length, *]; done) | exact (hdL_len (by first | assumption | rfl) (by first | assumption | rfl)).symm))) ?_
    refine L_callB rfl rfl rfl rfl rfl rfl tx4q (fun w hw => hbytes_ok eg rg pg w hrg hpg (by omega) (by omega)) (fun g1 r1 c1 hl1 hc1 hr1 => ?_)
    refine L_v rfl rfl rfl (V_move rfl rfl) ?_
    refine L_v rfl rfl rfl (V_extract rfl rfl rfl) ?_
    refine L_v rfl rfl rfl (V_extract rfl rfl rfl) ?_
    refine L_v rfl rfl rfl (V_assign rfl rfl) ?_
    refine L_v rfl rfl rfl (V_assign rfl rfl) ?_
    refine L_nil ?_
    change J _ _ _ _
    refine J_seq ?_
    refine J_region ?_
    refine L_v rfl rfl rfl (V_loadW 1 rfl rfl rfl Try.underlying25 rfl (szd sz25q (by first | exact hdL_len (by first | assumption | rfl) (by first | assumption | rfl) | (simp [dg_length, zd_length, *]; done) | exact (hdL_len (by first | assumption | rfl) (by first | assumption | rfl)).symm))) ?_
    refine L_callV rfl rfl rfl rfl rfl rfl tx4q (fun w hw => hbytes_no eh rh ph w hR hP (by omega)) ?_
    refine L_v rfl rfl rfl (V_move rfl rfl) ?_
    refine L_v rfl rfl rfl (V_extract rfl rfl rfl) ?_
    refine L_v rfl rfl rfl (V_extract rfl rfl rfl) ?_
    refine L_v rfl rfl rfl (V_assign rfl rfl) ?_
    refine L_v rfl rfl rfl (V_assign rfl rfl) ?_
    refine L_nil ?_
    change J _ _ _ _
    refine J_seq ?_
    refine J_seq ?_
    refine J_region ?_
    refine L_v rfl rfl rfl (V_move rfl rfl) ?_
    refine L_v rfl rfl rfl (V_neq rfl rfl rfl (by first | exact decide_eq_true (by omega) | exact decide_eq_false (by omega) | rfl)) ?_
    refine L_v rfl rfl rfl (V_move rfl rfl) ?_
    refine L_wv rfl rfl rfl rfl rfl rfl (V_move rfl rfl) ?_
    refine L_wv rfl rfl rfl rfl rfl rfl (V_neq rfl rfl rfl (by first | exact decide_eq_true (by omega) | exact decide_eq_false (by omega) | rfl)) ?_
    first | refine L_v rfl rfl rfl (V_pickT rfl rfl rfl) ?_ | refine L_v rfl rfl rfl (V_pickF rfl rfl rfl) ?_
    refine L_nil ?_
    change J _ _ _ _
    refine J_true rfl ?_
    refine J_seq ?_
    refine J_region ?_
    refine L_callV rfl rfl rfl rfl rfl rfl tx5q (fun w _ => lays_w w) ?_
    refine L_v rfl rfl rfl (V_move rfl rfl) ?_
    refine L_wv rfl rfl rfl rfl rfl rfl (V_move rfl rfl) ?_
    refine L_wv rfl rfl rfl rfl rfl rfl (V_eql rfl rfl rfl (by first | exact decide_eq_true (by omega) | exact decide_eq_false (by omega) | rfl)) ?_
    refine L_wv rfl rfl rfl rfl rfl rfl (V_move rfl rfl) ?_
    refine L_skip rfl rfl rfl rfl rfl rfl rfl ?_
    refine L_skip rfl rfl rfl rfl rfl rfl rfl ?_
    refine L_skip rfl rfl rfl rfl rfl rfl rfl ?_
    first | refine L_wv rfl rfl rfl rfl rfl rfl (V_pickT rfl rfl rfl) ?_ | refine L_wv rfl rfl rfl rfl rfl rfl (V_pickF rfl rfl rfl) ?_
    first | refine L_v rfl rfl rfl (V_pickT rfl rfl rfl) ?_ | refine L_v rfl rfl rfl (V_pickF rfl rfl rfl) ?_
    refine L_v rfl rfl rfl (V_move rfl rfl) ?_
    refine L_wv rfl rfl rfl rfl rfl rfl (V_move rfl rfl) ?_
    refine L_wv rfl rfl rfl rfl rfl rfl (V_eql rfl rfl rfl (by first | exact decide_eq_true (by omega) | exact decide_eq_false (by omega) | rfl)) ?_
    refine L_wv rfl rfl rfl rfl rfl rfl (V_move rfl rfl) ?_
    refine L_wv rfl rfl rfl rfl rfl rfl (V_move rfl rfl) ?_
    refine L_wv rfl rfl rfl rfl rfl rfl (V_len rfl rfl Try.underlying26 rfl) ?_
    refine L_wv rfl rfl rfl rfl rfl rfl (V_eql rfl rfl rfl (by first | exact decide_eq_true (by omega) | exact decide_eq_false (by omega) | rfl)) ?_
    first | refine L_wv rfl rfl rfl rfl rfl rfl (V_pickT rfl rfl rfl) ?_ | refine L_wv rfl rfl rfl rfl rfl rfl (V_pickF rfl rfl rfl) ?_
    first | refine L_v rfl rfl rfl (V_pickT rfl rfl rfl) ?_ | refine L_v rfl rfl rfl (V_pickF rfl rfl rfl) ?_
    refine L_v rfl rfl rfl (V_assign rfl rfl) ?_
    refine L_nil ?_
    change J _ _ _ _
    refine J_ret ?_
    change Kret _ _ _ Exit.ret _
    refine ret1 rfl rfl (RV_t rfl) ?_
    exact fun w' h => ⟨rfl, h.fr⟩
  ·
    first | (have h1 := of_decide_eq_true h1) | (have h1 := of_decide_eq_false h1) | skip
    refine L_skip rfl rfl rfl rfl rfl rfl rfl ?_
    refine L_skip rfl rfl rfl rfl rfl rfl rfl ?_
    first | refine L_v rfl rfl rfl (V_pickT rfl rfl rfl) ?_ | refine L_v rfl rfl rfl (V_pickF rfl rfl rfl) ?_
    refine L_nil ?_
    change J _ _ _ _
    refine J_false rfl ?_
    refine J_skip ?_
    change J _ _ _ _
    refine J_seq ?_
    refine J_seq ?_
    refine J_region ?_
    refine L_v rfl rfl rfl (V_move rfl rfl) ?_
    refine L_v rfl rfl rfl (V_geq rfl rfl rfl (by first | exact decide_eq_true (by omega) | exact decide_eq_false (by omega) | rfl)) ?_
    refine L_v rfl rfl rfl (V_move rfl rfl) ?_
    refine L_skip rfl rfl rfl rfl rfl rfl rfl ?_
    refine L_skip rfl rfl rfl rfl rfl rfl rfl ?_
    first | refine L_v rfl rfl rfl (V_pickT rfl rfl rfl) ?_ | refine L_v rfl rfl rfl (V_pickF rfl rfl rfl) ?_
    refine L_nil ?_
    change J _ _ _ _
    refine J_false rfl ?_
    refine J_skip ?_
    change J _ _ _ _
    refine J_seq ?_
    refine J_region ?_
    refine L_v rfl rfl rfl (V_loadW 0 rfl rfl rfl Try.underlying25 rfl (szd sz25q (by first | exact hdL_len (by first | assumption | rfl) (by first | assumption | rfl) | (simp [dg_length, zd_length, *]; done) | exact (hdL_len (by first | assumption | rfl) (by first | assumption | rfl)).symm))) ?_
    refine L_callB rfl rfl rfl rfl rfl rfl tx4q (fun w hw => hbytes_ok eg rg pg w hrg hpg (by omega) (by omega)) (fun g1 r1 c1 hl1 hc1 hr1 => ?_)
    refine L_v rfl rfl rfl (V_move rfl rfl) ?_
    refine L_v rfl rfl rfl (V_extract rfl rfl rfl) ?_
    refine L_v rfl rfl rfl (V_extract rfl rfl rfl) ?_
    refine L_v rfl rfl rfl (V_assign rfl rfl) ?_
    refine L_v rfl rfl rfl (V_assign rfl rfl) ?_
    refine L_nil ?_
    change J _ _ _ _
    refine J_seq ?_
    refine J_region ?_
    refine L_v rfl rfl rfl (V_loadW 1 rfl rfl rfl Try.underlying25 rfl (szd sz25q (by first | exact hdL_len (by first | assumption | rfl) (by first | assumption | rfl) | (simp [dg_length, zd_length, *]; done) | exact (hdL_len (by first | assumption | rfl) (by first | assumption | rfl)).symm))) ?_
    refine L_callV rfl rfl rfl rfl rfl rfl tx4q (fun w hw => hbytes_no eh rh ph w hR hP (by omega)) ?_
    refine L_v rfl rfl rfl (V_move rfl rfl) ?_
    refine L_v rfl rfl rfl (V_extract rfl rfl rfl) ?_
    refine L_v rfl rfl rfl (V_extract rfl rfl rfl) ?_
    refine L_v rfl rfl rfl (V_assign rfl rfl) ?_
    refine L_v rfl rfl rfl (V_assign rfl rfl) ?_
    refine L_nil ?_
    change J _ _ _ _
    refine J_seq ?_
    refine J_seq ?_
    refine J_region ?_
    refine L_v rfl rfl rfl (V_move rfl rfl) ?_
    refine L_v rfl rfl rfl (V_neq rfl rfl rfl (by first | exact decide_eq_true (by omega) | exact decide_eq_false (by omega) | rfl)) ?_
    refine L_v rfl rfl rfl (V_move rfl rfl) ?_
    refine L_wv rfl rfl rfl rfl rfl rfl (V_move rfl rfl) ?_
    refine L_wv rfl rfl rfl rfl rfl rfl (V_neq rfl rfl rfl (by first | exact decide_eq_true (by omega) | exact decide_eq_false (by omega) | rfl)) ?_
    first | refine L_v rfl rfl rfl (V_pickT rfl rfl rfl) ?_ | refine L_v rfl rfl rfl (V_pickF rfl rfl rfl) ?_
    refine L_nil ?_
    change J _ _ _ _
    refine J_true rfl ?_
    refine J_seq ?_
    refine J_region ?_
    refine L_callV rfl rfl rfl rfl rfl rfl tx5q (fun w _ => lays_w w) ?_
    refine L_v rfl rfl rfl (V_move rfl rfl) ?_
    refine L_wv rfl rfl rfl rfl rfl rfl (V_move rfl rfl) ?_
    refine L_wv rfl rfl rfl rfl rfl rfl (V_eql rfl rfl rfl (by first | exact decide_eq_true (by omega) | exact decide_eq_false (by omega) | rfl)) ?_
    refine L_wv rfl rfl rfl rfl rfl rfl (V_move rfl rfl) ?_
    refine L_skip rfl rfl rfl rfl rfl rfl rfl ?_
    refine L_skip rfl rfl rfl rfl rfl rfl rfl ?_
    refine L_skip rfl rfl rfl rfl rfl rfl rfl ?_
    first | refine L_wv rfl rfl rfl rfl rfl rfl (V_pickT rfl rfl rfl) ?_ | refine L_wv rfl rfl rfl rfl rfl rfl (V_pickF rfl rfl rfl) ?_
    first | refine L_v rfl rfl rfl (V_pickT rfl rfl rfl) ?_ | refine L_v rfl rfl rfl (V_pickF rfl rfl rfl) ?_
    refine L_v rfl rfl rfl (V_move rfl rfl) ?_
    refine L_wv rfl rfl rfl rfl rfl rfl (V_move rfl rfl) ?_
    refine L_wv rfl rfl rfl rfl rfl rfl (V_eql rfl rfl rfl (by first | exact decide_eq_true (by omega) | exact decide_eq_false (by omega) | rfl)) ?_
    refine L_wv rfl rfl rfl rfl rfl rfl (V_move rfl rfl) ?_
    refine L_wv rfl rfl rfl rfl rfl rfl (V_move rfl rfl) ?_
    refine L_wv rfl rfl rfl rfl rfl rfl (V_len rfl rfl Try.underlying26 rfl) ?_
    refine L_wv rfl rfl rfl rfl rfl rfl (V_eql rfl rfl rfl (by first | exact decide_eq_true (by omega) | exact decide_eq_false (by omega) | rfl)) ?_
    first | refine L_wv rfl rfl rfl rfl rfl rfl (V_pickT rfl rfl rfl) ?_ | refine L_wv rfl rfl rfl rfl rfl rfl (V_pickF rfl rfl rfl) ?_
    first | refine L_v rfl rfl rfl (V_pickT rfl rfl rfl) ?_ | refine L_v rfl rfl rfl (V_pickF rfl rfl rfl) ?_
    refine L_v rfl rfl rfl (V_assign rfl rfl) ?_
    refine L_nil ?_
    change J _ _ _ _
    refine J_ret ?_
    change Kret _ _ _ Exit.ret _
    refine ret1 rfl rfl (RV_t rfl) ?_
    exact fun w' h => ⟨rfl, h.fr⟩

theorem HeadApart_C01 (eg eh at_ by_ : Int) (rg pg rh ph : List Int) (w : World) (hrg : rg.length = 32) (hpg : pg.length = 32) (hrh : rh.length = 32) (hph : ph.length = 32) (brg : Byt rg) (bpg : Byt pg) (brh : Byt rh) (bph : Byt ph) (hat : ¬ (0 ≤ at_ ∧ at_ < 64)) (heg : ¬ (1 ≤ eg ∧ eg ≤ 200)) (heh : (1 ≤ eh ∧ eh ≤ 200)) :
    Calls Try.prog 3 #[.agg (hdL eg rg pg).toArray, .agg (hdL eh rh ph).toArray, .int .i64 at_, .int .u8 by_] w fun e w' => e = .returned (.bool true) ∧ Fr [] w w' := by
  have hR : rh.length = 32 := by exact hrh
  have hP : ph.length = 32 := by exact hph
  refine calls_of (args := [.agg (hdL eg rg pg).toArray, .agg (hdL eh rh ph).toArray, .int .i64 at_, .int .u8 by_]) ([]) ([]) ([]) Try.func3 rfl rfl (okW0 _ _ _ _) ?_
  refine J_seq ?_
  refine J_region ?_
  refine L_box rfl rfl rfl rfl rfl (fun b0 => ?_)
  refine L_box rfl rfl rfl rfl rfl (fun b1 => ?_)
  refine L_v rfl rfl rfl (V_assign rfl rfl) ?_
  refine L_nil ?_
  change J _ _ _ _
  refine J_seq ?_
  refine J_seq ?_
  refine J_region ?_
  refine L_v rfl rfl rfl (V_move rfl rfl) ?_
  refine L_v rfl rfl rfl (V_geq rfl rfl rfl (by first | exact decide_eq_true (by omega) | exact decide_eq_false (by omega) | rfl)) ?_
  refine L_v rfl rfl rfl (V_move rfl rfl) ?_
  refine L_split 15 rfl (fun h1 => ?_) (fun h1 => ?_)
  ·
    first | (have h1 := of_decide_eq_true h1) | (have h1 := of_decide_eq_false h1) | skip
    refine L_wv rfl rfl rfl rfl rfl rfl (V_move rfl rfl) ?_
    refine L_wv rfl rfl rfl rfl rfl rfl (V_lss rfl rfl rfl (by first | exact decide_eq_true (by omega) | exact decide_eq_false (by omega) | rfl)) ?_
    first | refine L_v rfl rfl rfl (V_pickT rfl rfl rfl) ?_ | refine L_v rfl rfl rfl (V_pickF rfl rfl rfl) ?_
    refine L_nil ?_
    change J _ _ _ _
    refine J_false rfl ?_
    refine J_skip ?_
    change J _ _ _ _
    refine J_seq ?_
    refine J_seq ?_
    refine J_region ?_
    refine L_v rfl rfl rfl (V_move rfl rfl) ?_
    refine L_v rfl rfl rfl (V_geq rfl rfl rfl (by first | exact decide_eq_true (by omega) | exact decide_eq_false (by omega) | rfl)) ?_
    refine L_v rfl rfl rfl (V_move rfl rfl) ?_
    refine L_wv rfl rfl rfl rfl rfl rfl (V_move rfl rfl) ?_
    refine L_wv rfl rfl rfl rfl rfl rfl (V_lss rfl rfl rfl (by first | exact decide_eq_true (by omega) | exact decide_eq_false (by omega) | rfl)) ?_
    first | refine L_v rfl rfl rfl (V_pickT rfl rfl rfl) ?_ | refine L_v rfl rfl rfl (V_pickF rfl rfl rfl) ?_
    refine L_nil ?_
    change J _ _ _ _
    refine J_false rfl ?_
    refine J_skip ?_
    change J _ _ _ _
    refine J_seq ?_
    refine J_region ?_
    refine L_v rfl rfl rfl (V_loadW 0 rfl rfl rfl Try.underlying25 rfl (szd sz25q (by first | exact hdL_len (by first | assumption | rfl) (by first | assumption | rfl) | (simp [dg_length, zd_length, *]; done) | exact (hdL_len (by first | assumption | rfl) (by first | assumption | rfl)).symm))) ?_
    refine L_callV rfl rfl rfl rfl rfl rfl tx4q (fun w hw => hbytes_no eg rg pg w hrg hpg (by omega)) ?_
    refine L_v rfl rfl rfl (V_move rfl rfl) ?_
    refine L_v rfl rfl rfl (V_extract rfl rfl rfl) ?_
    refine L_v rfl rfl rfl (V_extract rfl rfl rfl) ?_
    refine L_v rfl rfl rfl (V_assign rfl rfl) ?_
    refine L_v rfl rfl rfl (V_assign rfl rfl) ?_
    refine L_nil ?_
    change J _ _ _ _
    refine J_seq ?_
    refine J_region ?_
    refine L_v rfl rfl rfl (V_loadW 1 rfl rfl rfl Try.underlying25 rfl (szd sz25q (by first | exact hdL_len (by first | assumption | rfl) (by first | assumption | rfl) | (simp [dg_length, zd_length, *]; done) | exact (hdL_len (by first | assumption | rfl) (by first | assumption | rfl)).symm))) ?_
    refine L_callB rfl rfl rfl rfl rfl rfl tx4q (fun w hw => hbytes_ok eh rh ph w hR hP (by omega) (by omega)) (fun g2 r2 c2 hl2 hc2 hr2 => ?_)
    refine L_v rfl rfl rfl (V_move rfl rfl) ?_
    refine L_v rfl rfl rfl (V_extract rfl rfl rfl) ?_
    refine L_v rfl rfl rfl (V_extract rfl rfl rfl) ?_
    refine L_v rfl rfl rfl (V_assign rfl rfl) ?_
    refine L_v rfl rfl rfl (V_assign rfl rfl) ?_
    refine L_nil ?_
    change J _ _ _ _
    refine J_seq ?_
    refine J_seq ?_
    refine J_region ?_
    refine L_v rfl rfl rfl (V_move rfl rfl) ?_
    refine L_v rfl rfl rfl (V_neq rfl rfl rfl (by first | exact decide_eq_true (by omega) | exact decide_eq_false (by omega) | rfl)) ?_
    refine L_v rfl rfl rfl (V_move rfl rfl) ?_
    refine L_skip rfl rfl rfl rfl rfl rfl rfl ?_
    refine L_skip rfl rfl rfl rfl rfl rfl rfl ?_
    first | refine L_v rfl rfl rfl (V_pickT rfl rfl rfl) ?_ | refine L_v rfl rfl rfl (V_pickF rfl rfl rfl) ?_
    refine L_nil ?_
    change J _ _ _ _
    refine J_true rfl ?_
    refine J_seq ?_
    refine J_region ?_
    refine L_callV rfl rfl rfl rfl rfl rfl tx5q (fun w _ => lays_w w) ?_
    refine L_v rfl rfl rfl (V_move rfl rfl) ?_
    refine L_wv rfl rfl rfl rfl rfl rfl (V_move rfl rfl) ?_
    refine L_wv rfl rfl rfl rfl rfl rfl (V_eql rfl rfl rfl (by first | exact decide_eq_true (by omega) | exact decide_eq_false (by omega) | rfl)) ?_
    refine L_wv rfl rfl rfl rfl rfl rfl (V_move rfl rfl) ?_
    refine L_wv rfl rfl rfl rfl rfl rfl (V_move rfl rfl) ?_
    refine L_wv rfl rfl rfl rfl rfl rfl (V_len rfl rfl Try.underlying26 rfl) ?_
    refine L_wv rfl rfl rfl rfl rfl rfl (V_eql rfl rfl rfl (by first | exact decide_eq_true (by omega) | exact decide_eq_false (by omega) | rfl)) ?_
    first | refine L_wv rfl rfl rfl rfl rfl rfl (V_pickT rfl rfl rfl) ?_ | refine L_wv rfl rfl rfl rfl rfl rfl (V_pickF rfl rfl rfl) ?_
    first | refine L_v rfl rfl rfl (V_pickT rfl rfl rfl) ?_ | refine L_v rfl rfl rfl (V_pickF rfl rfl rfl) ?_
    refine L_v rfl rfl rfl (V_move rfl rfl) ?_
    refine L_wv rfl rfl rfl rfl rfl rfl (V_move rfl rfl) ?_
    refine L_wv rfl rfl rfl rfl rfl rfl (V_eql rfl rfl rfl (by first | exact decide_eq_true (by omega) | exact decide_eq_false (by omega) | rfl)) ?_
    refine L_wv rfl rfl rfl rfl rfl rfl (V_move rfl rfl) ?_
    refine L_skip rfl rfl rfl rfl rfl rfl rfl ?_
    refine L_skip rfl rfl rfl rfl rfl rfl rfl ?_
    refine L_skip rfl rfl rfl rfl rfl rfl rfl ?_
    first | refine L_wv rfl rfl rfl rfl rfl rfl (V_pickT rfl rfl rfl) ?_ | refine L_wv rfl rfl rfl rfl rfl rfl (V_pickF rfl rfl rfl) ?_
    first | refine L_v rfl rfl rfl (V_pickT rfl rfl rfl) ?_ | refine L_v rfl rfl rfl (V_pickF rfl rfl rfl) ?_
    refine L_v rfl rfl rfl (V_assign rfl rfl) ?_
    refine L_nil ?_
    change J _ _ _ _
    refine J_ret ?_
    change Kret _ _ _ Exit.ret _
    refine ret1 rfl rfl (RV_t rfl) ?_
    exact fun w' h => ⟨rfl, h.fr⟩
  ·
    first | (have h1 := of_decide_eq_true h1) | (have h1 := of_decide_eq_false h1) | skip
    refine L_skip rfl rfl rfl rfl rfl rfl rfl ?_
    refine L_skip rfl rfl rfl rfl rfl rfl rfl ?_
    first | refine L_v rfl rfl rfl (V_pickT rfl rfl rfl) ?_ | refine L_v rfl rfl rfl (V_pickF rfl rfl rfl) ?_
    refine L_nil ?_
    change J _ _ _ _
    refine J_false rfl ?_
    refine J_skip ?_
    change J _ _ _ _
    refine J_seq ?_
    refine J_seq ?_
    refine J_region ?_
    refine L_v rfl rfl rfl (V_move rfl rfl) ?_
    refine L_v rfl rfl rfl (V_geq rfl rfl rfl (by first | exact decide_eq_true (by omega) | exact decide_eq_false (by omega) | rfl)) ?_
    refine L_v rfl rfl rfl (V_move rfl rfl) ?_
    refine L_skip rfl rfl rfl rfl rfl rfl rfl ?_
    refine L_skip rfl rfl rfl rfl rfl rfl rfl ?_
    first | refine L_v rfl rfl rfl (V_pickT rfl rfl rfl) ?_ | refine L_v rfl rfl rfl (V_pickF rfl rfl rfl) ?_
    refine L_nil ?_
    change J _ _ _ _
    refine J_false rfl ?_
    refine J_skip ?_
    change J _ _ _ _
    refine J_seq ?_
    refine J_region ?_
    refine L_v rfl rfl rfl (V_loadW 0 rfl rfl rfl Try.underlying25 rfl (szd sz25q (by first | exact hdL_len (by first | assumption | rfl) (by first | assumption | rfl) | (simp [dg_length, zd_length, *]; done) | exact (hdL_len (by first | assumption | rfl) (by first | assumption | rfl)).symm))) ?_
    refine L_callV rfl rfl rfl rfl rfl rfl tx4q (fun w hw => hbytes_no eg rg pg w hrg hpg (by omega)) ?_
    refine L_v rfl rfl rfl (V_move rfl rfl) ?_
    refine L_v rfl rfl rfl (V_extract rfl rfl rfl) ?_
    refine L_v rfl rfl rfl (V_extract rfl rfl rfl) ?_
    refine L_v rfl rfl rfl (V_assign rfl rfl) ?_
    refine L_v rfl rfl rfl (V_assign rfl rfl) ?_
    refine L_nil ?_
    change J _ _ _ _
    refine J_seq ?_
    refine J_region ?_
    refine L_v rfl rfl rfl (V_loadW 1 rfl rfl rfl Try.underlying25 rfl (szd sz25q (by first | exact hdL_len (by first | assumption | rfl) (by first | assumption | rfl) | (simp [dg_length, zd_length, *]; done) | exact (hdL_len (by first | assumption | rfl) (by first | assumption | rfl)).symm))) ?_
    refine L_callB rfl rfl rfl rfl rfl rfl tx4q (fun w hw => hbytes_ok eh rh ph w hR hP (by omega) (by omega)) (fun g2 r2 c2 hl2 hc2 hr2 => ?_)
    refine L_v rfl rfl rfl (V_move rfl rfl) ?_
    refine L_v rfl rfl rfl (V_extract rfl rfl rfl) ?_
    refine L_v rfl rfl rfl (V_extract rfl rfl rfl) ?_
    refine L_v rfl rfl rfl (V_assign rfl rfl) ?_
    refine L_v rfl rfl rfl (V_assign rfl rfl) ?_
    refine L_nil ?_
    change J _ _ _ _
    refine J_seq ?_
    refine J_seq ?_
    refine J_region ?_
    refine L_v rfl rfl rfl (V_move rfl rfl) ?_
    refine L_v rfl rfl rfl (V_neq rfl rfl rfl (by first | exact decide_eq_true (by omega) | exact decide_eq_false (by omega) | rfl)) ?_
    refine L_v rfl rfl rfl (V_move rfl rfl) ?_
    refine L_skip rfl rfl rfl rfl rfl rfl rfl ?_
    refine L_skip rfl rfl rfl rfl rfl rfl rfl ?_
    first | refine L_v rfl rfl rfl (V_pickT rfl rfl rfl) ?_ | refine L_v rfl rfl rfl (V_pickF rfl rfl rfl) ?_
    refine L_nil ?_
    change J _ _ _ _
    refine J_true rfl ?_
    refine J_seq ?_
    refine J_region ?_
    refine L_callV rfl rfl rfl rfl rfl rfl tx5q (fun w _ => lays_w w) ?_
    refine L_v rfl rfl rfl (V_move rfl rfl) ?_
    refine L_wv rfl rfl rfl rfl rfl rfl (V_move rfl rfl) ?_
    refine L_wv rfl rfl rfl rfl rfl rfl (V_eql rfl rfl rfl (by first | exact decide_eq_true (by omega) | exact decide_eq_false (by omega) | rfl)) ?_
    refine L_wv rfl rfl rfl rfl rfl rfl (V_move rfl rfl) ?_
    refine L_wv rfl rfl rfl rfl rfl rfl (V_move rfl rfl) ?_
    refine L_wv rfl rfl rfl rfl rfl rfl (V_len rfl rfl Try.underlying26 rfl) ?_
    refine L_wv rfl rfl rfl rfl rfl rfl (V_eql rfl rfl rfl (by first | exact decide_eq_true (by omega) | exact decide_eq_false (by omega) | rfl)) ?_
    first | refine L_wv rfl rfl rfl rfl rfl rfl (V_pickT rfl rfl rfl) ?_ | refine L_wv rfl rfl rfl rfl rfl rfl (V_pickF rfl rfl rfl) ?_
    first | refine L_v rfl rfl rfl (V_pickT rfl rfl rfl) ?_ | refine L_v rfl rfl rfl (V_pickF rfl rfl rfl) ?_
    refine L_v rfl rfl rfl (V_move rfl rfl) ?_
    refine L_wv rfl rfl rfl rfl rfl rfl (V_move rfl rfl) ?_
    refine L_wv rfl rfl rfl rfl rfl rfl (V_eql rfl rfl rfl (by first | exact decide_eq_true (by omega) | exact decide_eq_false (by omega) | rfl)) ?_
    refine L_wv rfl rfl rfl rfl rfl rfl (V_move rfl rfl) ?_
    refine L_skip rfl rfl rfl rfl rfl rfl rfl ?_
    refine L_skip rfl rfl rfl rfl rfl rfl rfl ?_
    refine L_skip rfl rfl rfl rfl rfl rfl rfl ?_
    first | refine L_wv rfl rfl rfl rfl rfl rfl (V_pickT rfl rfl rfl) ?_ | refine L_wv rfl rfl rfl rfl rfl rfl (V_pickF rfl rfl rfl) ?_
    first | refine L_v rfl rfl rfl (V_pickT rfl rfl rfl) ?_ | refine L_v rfl rfl rfl (V_pickF rfl rfl rfl) ?_
    refine L_v rfl rfl rfl (V_assign rfl rfl) ?_
    refine L_nil ?_
    change J _ _ _ _
    refine J_ret ?_
    change Kret _ _ _ Exit.ret _
    refine ret1 rfl rfl (RV_t rfl) ?_
    exact fun w' h => ⟨rfl, h.fr⟩

theorem HeadApart_C00 (eg eh at_ by_ : Int) (rg pg rh ph : List Int) (w : World) (hrg : rg.length = 32) (hpg : pg.length = 32) (hrh : rh.length = 32) (hph : ph.length = 32) (brg : Byt rg) (bpg : Byt pg) (brh : Byt rh) (bph : Byt ph) (hat : ¬ (0 ≤ at_ ∧ at_ < 64)) (heg : ¬ (1 ≤ eg ∧ eg ≤ 200)) (heh : ¬ (1 ≤ eh ∧ eh ≤ 200)) :
    Calls Try.prog 3 #[.agg (hdL eg rg pg).toArray, .agg (hdL eh rh ph).toArray, .int .i64 at_, .int .u8 by_] w fun e w' => e = .returned (.bool true) ∧ Fr [] w w' := by
  have hR : rh.length = 32 := by exact hrh
  have hP : ph.length = 32 := by exact hph
  refine calls_of (args := [.agg (hdL eg rg pg).toArray, .agg (hdL eh rh ph).toArray, .int .i64 at_, .int .u8 by_]) ([]) ([]) ([]) Try.func3 rfl rfl (okW0 _ _ _ _) ?_
  refine J_seq ?_
  refine J_region ?_
  refine L_box rfl rfl rfl rfl rfl (fun b0 => ?_)
  refine L_box rfl rfl rfl rfl rfl (fun b1 => ?_)
  refine L_v rfl rfl rfl (V_assign rfl rfl) ?_
  refine L_nil ?_
  change J _ _ _ _
  refine J_seq ?_
  refine J_seq ?_
  refine J_region ?_
  refine L_v rfl rfl rfl (V_move rfl rfl) ?_
  refine L_v rfl rfl rfl (V_geq rfl rfl rfl (by first | exact decide_eq_true (by omega) | exact decide_eq_false (by omega) | rfl)) ?_
  refine L_v rfl rfl rfl (V_move rfl rfl) ?_
  refine L_split 15 rfl (fun h1 => ?_) (fun h1 => ?_)
  ·
    first | (have h1 := of_decide_eq_true h1) | (have h1 := of_decide_eq_false h1) | skip
    refine L_wv rfl rfl rfl rfl rfl rfl (V_move rfl rfl) ?_
    refine L_wv rfl rfl rfl rfl rfl rfl (V_lss rfl rfl rfl (by first | exact decide_eq_true (by omega) | exact decide_eq_false (by omega) | rfl)) ?_
    first | refine L_v rfl rfl rfl (V_pickT rfl rfl rfl) ?_ | refine L_v rfl rfl rfl (V_pickF rfl rfl rfl) ?_
    refine L_nil ?_
    change J _ _ _ _
    refine J_false rfl ?_
    refine J_skip ?_
    change J _ _ _ _
    refine J_seq ?_
    refine J_seq ?_
    refine J_region ?_
    refine L_v rfl rfl rfl (V_move rfl rfl) ?_
    refine L_v rfl rfl rfl (V_geq rfl rfl rfl (by first | exact decide_eq_true (by omega) | exact decide_eq_false (by omega) | rfl)) ?_
    refine L_v rfl rfl rfl (V_move rfl rfl) ?_
    refine L_wv rfl rfl rfl rfl rfl rfl (V_move rfl rfl) ?_
    refine L_wv rfl rfl rfl rfl rfl rfl (V_lss rfl rfl rfl (by first | exact decide_eq_true (by omega) | exact decide_eq_false (by omega) | rfl)) ?_
    first | refine L_v rfl rfl rfl (V_pickT rfl rfl rfl) ?_ | refine L_v rfl rfl rfl (V_pickF rfl rfl rfl) ?_
    refine L_nil ?_
    change J _ _ _ _
    refine J_false rfl ?_
    refine J_skip ?_
    change J _ _ _ _
    refine J_seq ?_
    refine J_region ?_
    refine L_v rfl rfl rfl (V_loadW 0 rfl rfl rfl Try.underlying25 rfl (szd sz25q (by first | exact hdL_len (by first | assumption | rfl) (by first | assumption | rfl) | (simp [dg_length, zd_length, *]; done) | exact (hdL_len (by first | assumption | rfl) (by first | assumption | rfl)).symm))) ?_
    refine L_callV rfl rfl rfl rfl rfl rfl tx4q (fun w hw => hbytes_no eg rg pg w hrg hpg (by omega)) ?_
    refine L_v rfl rfl rfl (V_move rfl rfl) ?_
    refine L_v rfl rfl rfl (V_extract rfl rfl rfl) ?_
    refine L_v rfl rfl rfl (V_extract rfl rfl rfl) ?_
    refine L_v rfl rfl rfl (V_assign rfl rfl) ?_
    refine L_v rfl rfl rfl (V_assign rfl rfl) ?_
    refine L_nil ?_
    change J _ _ _ _
    refine J_seq ?_
    refine J_region ?_
    refine L_v rfl rfl rfl (V_loadW 1 rfl rfl rfl Try.underlying25 rfl (szd sz25q (by first | exact hdL_len (by first | assumption | rfl) (by first | assumption | rfl) | (simp [dg_length, zd_length, *]; done) | exact (hdL_len (by first | assumption | rfl) (by first | assumption | rfl)).symm))) ?_
    refine L_callV rfl rfl rfl rfl rfl rfl tx4q (fun w hw => hbytes_no eh rh ph w hR hP (by omega)) ?_
    refine L_v rfl rfl rfl (V_move rfl rfl) ?_
    refine L_v rfl rfl rfl (V_extract rfl rfl rfl) ?_
    refine L_v rfl rfl rfl (V_extract rfl rfl rfl) ?_
    refine L_v rfl rfl rfl (V_assign rfl rfl) ?_
    refine L_v rfl rfl rfl (V_assign rfl rfl) ?_
    refine L_nil ?_
    change J _ _ _ _
    refine J_seq ?_
    refine J_seq ?_
    refine J_region ?_
    refine L_v rfl rfl rfl (V_move rfl rfl) ?_
    refine L_v rfl rfl rfl (V_neq rfl rfl rfl (by first | exact decide_eq_true (by omega) | exact decide_eq_false (by omega) | rfl)) ?_
    refine L_v rfl rfl rfl (V_move rfl rfl) ?_
    refine L_skip rfl rfl rfl rfl rfl rfl rfl ?_
    refine L_skip rfl rfl rfl rfl rfl rfl rfl ?_
    first | refine L_v rfl rfl rfl (V_pickT rfl rfl rfl) ?_ | refine L_v rfl rfl rfl (V_pickF rfl rfl rfl) ?_
    refine L_nil ?_
    change J _ _ _ _
    refine J_true rfl ?_
    refine J_seq ?_
    refine J_region ?_
    refine L_callV rfl rfl rfl rfl rfl rfl tx5q (fun w _ => lays_w w) ?_
    refine L_v rfl rfl rfl (V_move rfl rfl) ?_
    refine L_wv rfl rfl rfl rfl rfl rfl (V_move rfl rfl) ?_
    refine L_wv rfl rfl rfl rfl rfl rfl (V_eql rfl rfl rfl (by first | exact decide_eq_true (by omega) | exact decide_eq_false (by omega) | rfl)) ?_
    refine L_wv rfl rfl rfl rfl rfl rfl (V_move rfl rfl) ?_
    refine L_wv rfl rfl rfl rfl rfl rfl (V_move rfl rfl) ?_
    refine L_wv rfl rfl rfl rfl rfl rfl (V_len rfl rfl Try.underlying26 rfl) ?_
    refine L_wv rfl rfl rfl rfl rfl rfl (V_eql rfl rfl rfl (by first | exact decide_eq_true (by omega) | exact decide_eq_false (by omega) | rfl)) ?_
    first | refine L_wv rfl rfl rfl rfl rfl rfl (V_pickT rfl rfl rfl) ?_ | refine L_wv rfl rfl rfl rfl rfl rfl (V_pickF rfl rfl rfl) ?_
    first | refine L_v rfl rfl rfl (V_pickT rfl rfl rfl) ?_ | refine L_v rfl rfl rfl (V_pickF rfl rfl rfl) ?_
    refine L_v rfl rfl rfl (V_move rfl rfl) ?_
    refine L_wv rfl rfl rfl rfl rfl rfl (V_move rfl rfl) ?_
    refine L_wv rfl rfl rfl rfl rfl rfl (V_eql rfl rfl rfl (by first | exact decide_eq_true (by omega) | exact decide_eq_false (by omega) | rfl)) ?_
    refine L_wv rfl rfl rfl rfl rfl rfl (V_move rfl rfl) ?_
    refine L_wv rfl rfl rfl rfl rfl rfl (V_move rfl rfl) ?_
    refine L_wv rfl rfl rfl rfl rfl rfl (V_len rfl rfl Try.underlying26 rfl) ?_
    refine L_wv rfl rfl rfl rfl rfl rfl (V_eql rfl rfl rfl (by first | exact decide_eq_true (by omega) | exact decide_eq_false (by omega) | rfl)) ?_
    first | refine L_wv rfl rfl rfl rfl rfl rfl (V_pickT rfl rfl rfl) ?_ | refine L_wv rfl rfl rfl rfl rfl rfl (V_pickF rfl rfl rfl) ?_
    first | refine L_v rfl rfl rfl (V_pickT rfl rfl rfl) ?_ | refine L_v rfl rfl rfl (V_pickF rfl rfl rfl) ?_
    refine L_v rfl rfl rfl (V_assign rfl rfl) ?_
    refine L_nil ?_
    change J _ _ _ _
    refine J_ret ?_
    change Kret _ _ _ Exit.ret _
    refine ret1 rfl rfl (RV_t rfl) ?_
    exact fun w' h => ⟨rfl, h.fr⟩
  ·
    first | (have h1 := of_decide_eq_true h1) | (have h1 := of_decide_eq_false h1) | skip
    refine L_skip rfl rfl rfl rfl rfl rfl rfl ?_
    refine L_skip rfl rfl rfl rfl rfl rfl rfl ?_
    first | refine L_v rfl rfl rfl (V_pickT rfl rfl rfl) ?_ | refine L_v rfl rfl rfl (V_pickF rfl rfl rfl) ?_
    refine L_nil ?_
    change J _ _ _ _
    refine J_false rfl ?_
    refine J_skip ?_
    change J _ _ _ _
    refine J_seq ?_
    refine J_seq ?_
    refine J_region ?_
    refine L_v rfl rfl rfl (V_move rfl rfl) ?_
    refine L_v rfl rfl rfl (V_geq rfl rfl rfl (by first | exact decide_eq_true (by omega) | exact decide_eq_false (by omega) | rfl)) ?_
    refine L_v rfl rfl rfl (V_move rfl rfl) ?_
    refine L_skip rfl rfl rfl rfl rfl rfl rfl ?_
    refine L_skip rfl rfl rfl rfl rfl rfl rfl ?_
    first | refine L_v rfl rfl rfl (V_pickT rfl rfl rfl) ?_ | refine L_v rfl rfl rfl (V_pickF rfl rfl rfl) ?_
    refine L_nil ?_
    change J _ _ _ _
    refine J_false rfl ?_
    refine J_skip ?_
    change J _ _ _ _
    refine J_seq ?_
    refine J_region ?_
    refine L_v rfl rfl rfl (V_loadW 0 rfl rfl rfl Try.underlying25 rfl (szd sz25q (by first | exact hdL_len (by first | assumption | rfl) (by first | assumption | rfl) | (simp [dg_length, zd_length, *]; done) | exact (hdL_len (by first | assumption | rfl) (by first | assumption | rfl)).symm))) ?_
    refine L_callV rfl rfl rfl rfl rfl rfl tx4q (fun w hw => hbytes_no eg rg pg w hrg hpg (by omega)) ?_
    refine L_v rfl rfl rfl (V_move rfl rfl) ?_
    refine L_v rfl rfl rfl (V_extract rfl rfl rfl) ?_
    refine L_v rfl rfl rfl (V_extract rfl rfl rfl) ?_
    refine L_v rfl rfl rfl (V_assign rfl rfl) ?_
    refine L_v rfl rfl rfl (V_assign rfl rfl) ?_
    refine L_nil ?_
    change J _ _ _ _
    refine J_seq ?_
    refine J_region ?_
    refine L_v rfl rfl rfl (V_loadW 1 rfl rfl rfl Try.underlying25 rfl (szd sz25q (by first | exact hdL_len (by first | assumption | rfl) (by first | assumption | rfl) | (simp [dg_length, zd_length, *]; done) | exact (hdL_len (by first | assumption | rfl) (by first | assumption | rfl)).symm))) ?_
    refine L_callV rfl rfl rfl rfl rfl rfl tx4q (fun w hw => hbytes_no eh rh ph w hR hP (by omega)) ?_
    refine L_v rfl rfl rfl (V_move rfl rfl) ?_
    refine L_v rfl rfl rfl (V_extract rfl rfl rfl) ?_
    refine L_v rfl rfl rfl (V_extract rfl rfl rfl) ?_
    refine L_v rfl rfl rfl (V_assign rfl rfl) ?_
    refine L_v rfl rfl rfl (V_assign rfl rfl) ?_
    refine L_nil ?_
    change J _ _ _ _
    refine J_seq ?_
    refine J_seq ?_
    refine J_region ?_
    refine L_v rfl rfl rfl (V_move rfl rfl) ?_
    refine L_v rfl rfl rfl (V_neq rfl rfl rfl (by first | exact decide_eq_true (by omega) | exact decide_eq_false (by omega) | rfl)) ?_
    refine L_v rfl rfl rfl (V_move rfl rfl) ?_
    refine L_skip rfl rfl rfl rfl rfl rfl rfl ?_
    refine L_skip rfl rfl rfl rfl rfl rfl rfl ?_
    first | refine L_v rfl rfl rfl (V_pickT rfl rfl rfl) ?_ | refine L_v rfl rfl rfl (V_pickF rfl rfl rfl) ?_
    refine L_nil ?_
    change J _ _ _ _
    refine J_true rfl ?_
    refine J_seq ?_
    refine J_region ?_
    refine L_callV rfl rfl rfl rfl rfl rfl tx5q (fun w _ => lays_w w) ?_
    refine L_v rfl rfl rfl (V_move rfl rfl) ?_
    refine L_wv rfl rfl rfl rfl rfl rfl (V_move rfl rfl) ?_
    refine L_wv rfl rfl rfl rfl rfl rfl (V_eql rfl rfl rfl (by first | exact decide_eq_true (by omega) | exact decide_eq_false (by omega) | rfl)) ?_
    refine L_wv rfl rfl rfl rfl rfl rfl (V_move rfl rfl) ?_
    refine L_wv rfl rfl rfl rfl rfl rfl (V_move rfl rfl) ?_
    refine L_wv rfl rfl rfl rfl rfl rfl (V_len rfl rfl Try.underlying26 rfl) ?_
    refine L_wv rfl rfl rfl rfl rfl rfl (V_eql rfl rfl rfl (by first | exact decide_eq_true (by omega) | exact decide_eq_false (by omega) | rfl)) ?_
    first | refine L_wv rfl rfl rfl rfl rfl rfl (V_pickT rfl rfl rfl) ?_ | refine L_wv rfl rfl rfl rfl rfl rfl (V_pickF rfl rfl rfl) ?_
    first | refine L_v rfl rfl rfl (V_pickT rfl rfl rfl) ?_ | refine L_v rfl rfl rfl (V_pickF rfl rfl rfl) ?_
    refine L_v rfl rfl rfl (V_move rfl rfl) ?_
    refine L_wv rfl rfl rfl rfl rfl rfl (V_move rfl rfl) ?_
    refine L_wv rfl rfl rfl rfl rfl rfl (V_eql rfl rfl rfl (by first | exact decide_eq_true (by omega) | exact decide_eq_false (by omega) | rfl)) ?_
    refine L_wv rfl rfl rfl rfl rfl rfl (V_move rfl rfl) ?_
    refine L_wv rfl rfl rfl rfl rfl rfl (V_move rfl rfl) ?_
    refine L_wv rfl rfl rfl rfl rfl rfl (V_len rfl rfl Try.underlying26 rfl) ?_
    refine L_wv rfl rfl rfl rfl rfl rfl (V_eql rfl rfl rfl (by first | exact decide_eq_true (by omega) | exact decide_eq_false (by omega) | rfl)) ?_
    first | refine L_wv rfl rfl rfl rfl rfl rfl (V_pickT rfl rfl rfl) ?_ | refine L_wv rfl rfl rfl rfl rfl rfl (V_pickF rfl rfl rfl) ?_
    first | refine L_v rfl rfl rfl (V_pickT rfl rfl rfl) ?_ | refine L_v rfl rfl rfl (V_pickF rfl rfl rfl) ?_
    refine L_v rfl rfl rfl (V_assign rfl rfl) ?_
    refine L_nil ?_
    change J _ _ _ _
    refine J_ret ?_
    change Kret _ _ _ Exit.ret _
    refine ret1 rfl rfl (RV_t rfl) ?_
    exact fun w' h => ⟨rfl, h.fr⟩

theorem HeadApart_w (eg eh at_ by_ : Int) (rg pg rh ph : List Int) (w : World) (hrg : rg.length = 32) (hpg : pg.length = 32) (hrh : rh.length = 32) (hph : ph.length = 32) (brg : Byt rg) (bpg : Byt pg) (brh : Byt rh) (bph : Byt ph) :
    Calls Try.prog 3 #[.agg (hdL eg rg pg).toArray, .agg (hdL eh rh ph).toArray, .int .i64 at_, .int .u8 by_] w fun e w' => e = .returned (.bool true) ∧ Fr [] w w' := by
  by_cases hA : 0 ≤ at_ ∧ at_ < 32
  · by_cases h1 : 1 ≤ eg ∧ eg ≤ 200 <;> by_cases h2 : 1 ≤ eh ∧ eh ≤ 200
    · exact HeadApart_A11 eg eh at_ by_ rg pg rh ph w hrg hpg hrh hph brg bpg brh bph hA h1 h2
    · exact HeadApart_A10 eg eh at_ by_ rg pg rh ph w hrg hpg hrh hph brg bpg brh bph hA h1 h2
    · exact HeadApart_A01 eg eh at_ by_ rg pg rh ph w hrg hpg hrh hph brg bpg brh bph hA h1 h2
    · exact HeadApart_A00 eg eh at_ by_ rg pg rh ph w hrg hpg hrh hph brg bpg brh bph hA h1 h2
  · by_cases hB : 32 ≤ at_ ∧ at_ < 64
    · by_cases h1 : 1 ≤ eg ∧ eg ≤ 200 <;> by_cases h2 : 1 ≤ eh ∧ eh ≤ 200
      · exact HeadApart_B11 eg eh at_ by_ rg pg rh ph w hrg hpg hrh hph brg bpg brh bph hB h1 h2
      · exact HeadApart_B10 eg eh at_ by_ rg pg rh ph w hrg hpg hrh hph brg bpg brh bph hB h1 h2
      · exact HeadApart_B01 eg eh at_ by_ rg pg rh ph w hrg hpg hrh hph brg bpg brh bph hB h1 h2
      · exact HeadApart_B00 eg eh at_ by_ rg pg rh ph w hrg hpg hrh hph brg bpg brh bph hB h1 h2
    · have hC : ¬ (0 ≤ at_ ∧ at_ < 64) := by omega
      by_cases h1 : 1 ≤ eg ∧ eg ≤ 200 <;> by_cases h2 : 1 ≤ eh ∧ eh ≤ 200
      · exact HeadApart_C11 eg eh at_ by_ rg pg rh ph w hrg hpg hrh hph brg bpg brh bph hC h1 h2
      · exact HeadApart_C10 eg eh at_ by_ rg pg rh ph w hrg hpg hrh hph brg bpg brh bph hC h1 h2
      · exact HeadApart_C01 eg eh at_ by_ rg pg rh ph w hrg hpg hrh hph brg bpg brh bph hC h1 h2
      · exact HeadApart_C00 eg eh at_ by_ rg pg rh ph w hrg hpg hrh hph brg bpg brh bph hC h1 h2

end Go.Proofs.Ytbckeoidnpfbnaa
