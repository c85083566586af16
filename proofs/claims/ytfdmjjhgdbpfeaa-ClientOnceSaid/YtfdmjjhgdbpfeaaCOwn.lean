/- A message in memory of its own. -/
import Derived.Test.YtfdmjjhgdbpfeaaCEq
set_option linter.unusedVariables false
set_option linter.unusedSimpArgs false
set_option maxRecDepth 100000
namespace Go.Proofs.Ytfdmjjhgdbpfeaa
open Go.Sx
theorem elI : ElemOf Try.prog 3 1 8 (.int .i64 0) := elem_of (by kernel_rfl) rfl
theorem elV : ElemOf Try.prog 116 3 32 (.agg (vrM (0, 0, ⟨#[]⟩)).toArray) := elem_of (by kernel_rfl) (by kernel_rfl)
theorem elD : ElemOf Try.prog 29 32 32 (.agg (dgM dz).toArray) := elem_of (by kernel_rfl) (by kernel_rfl)
theorem elE : ElemOf Try.prog 102 43 168 (.agg (enM (0, 0, 0, cmd0, ([], [])) slN slN).toArray) := elem_of (by kernel_rfl) (by kernel_rfl)
theorem elS : ElemOf Try.prog 41 97 104 (.agg (sgM sg0).toArray) := elem_of (by kernel_rfl) (by kernel_rfl)
def snM (x : Sn) (a b : Sl) : List Value := [mi x.1, mi x.2.1] ++ (clM x.2.2.1 a b ++ [.string x.2.2.2])
/-- What is saved, its lists as given. -/
def svC (t v : Int) (sn : Sn) (a b : Sl) (e s : Value) : List Value := [mi t, mi v] ++ (snM sn a b ++ [e, s])
def sgF (l : List Sg) (s : Sl) : Fact := factC 97 (.slice s.1 l.length s.2) l.length (l.map sgM).flatten
def svF (sn : Sn) (es : List EnV) (sg : List Sg) (a b e s : Sl) : Fact := andF (clF sn.2.2.1 a b) (andF (esF es e) (sgF sg s))
abbrev SzC (x : Cl) : Prop := x.1.length ≤ 1099511627776 ∧ x.2.length ≤ 1099511627776
theorem facts_app {f0 : List Fact} {acc : List EnV} {p : EnV} : ∀ f ∈ f0 ++ (acc ++ [p]).map enF, f ∈ (f0 ++ acc.map enF) ++ [enF p] := by
  intro f hf
  simp only [List.map_append, List.mem_append, List.map_cons, List.map_nil] at hf ⊢
  rcases hf with h | h | h
  · exact .inl (.inl h)
  · exact .inl (.inr h)
  · exact .inr h
theorem enW_app (acc : List EnV) (p : EnV) : (acc.map enW).flatten ++ enW p = ((acc ++ [p]).map enW).flatten := by simp
theorem acc_fst {acc es : List EnV} {i : Nat} {a b : Sl} (h : i < es.length) (ha : acc.map Prod.fst = (es.take i).map Prod.fst) : (acc ++ [((es.getD i env0).1, a, b)]).map Prod.fst = (es.take (i + 1)).map Prod.fst := by
  rw [take_s env0 h, List.map_append, List.map_append, ha]
  rfl
theorem bsE (p : EnV) (w : World) : (Instr.buildSlice 23 1 [(0, .agg (enW p).toArray)].toArray).run Try.prog w = .ok (.slice (some ⟨w.heap.size, 0, none⟩) 1 1) (w.alloc (row 102 (enW p))) := by kernel_rfl
def sn00 : Sn := (0, 0, ([], []), ⟨#[]⟩)
theorem fa_nil1 {w : World} {sz : Nat} {v : Value} {cs : List Value} (hv : v = .slice none 0 0) (hc : cs = []) : FA w (factC sz v 0 cs) := by subst hv; subst hc; exact FA.slc (.inl ⟨rfl, rfl, none, 0, rfl⟩)
theorem fa_clN {w : World} : FA w (clF ([], []) slN slN) := .and (fa_nil1 rfl rfl) (fa_nil1 rfl rfl)
/-- A message's lists are not too long. -/
structure Sz (x : Ms) (es : List EnV) : Prop where
  e : es.length ≤ 549755813888
  c : ∀ p ∈ es, SzC p.1.2.2.2.2
  l : SzC x.council
  v : x.reply.vers.length ≤ 549755813888
  s : x.reply.pf.sib.length ≤ 549755813888
theorem sz3n : (Try.prog.info? 3).map (·.size) = some 1 := by kernel_rfl
theorem sz23n : (Try.prog.info? 23).map (·.size) = some 1 := by kernel_rfl
theorem sz24n : (Try.prog.info? 24).map (·.size) = some 1 := by kernel_rfl
theorem sz26n : (Try.prog.info? 26).map (·.size) = some 2 := by kernel_rfl
theorem sz34n : (Try.prog.info? 34).map (·.size) = some 1 := by kernel_rfl
theorem sz35n : (Try.prog.info? 35).map (·.size) = some 1 := by kernel_rfl
theorem sz37n : (Try.prog.info? 37).map (·.size) = some 66 := by kernel_rfl
theorem sz43n : (Try.prog.info? 43).map (·.size) = some 169 := by kernel_rfl
theorem sz45n : (Try.prog.info? 45).map (·.size) = some 225 := by kernel_rfl
theorem sz66n : (Try.prog.info? 66).map (·.size) = some 5 := by kernel_rfl
theorem sz67n : (Try.prog.info? 67).map (·.size) = some 1 := by kernel_rfl
theorem sz69n : (Try.prog.info? 69).map (·.size) = some 9 := by kernel_rfl
theorem sz102n : (Try.prog.info? 102).map (·.size) = some 43 := by kernel_rfl
theorem tx21n : Txt Try.prog 21 := txt_of Try.func21 rfl (by kernel_rfl)
theorem tx22n : Txt Try.prog 22 := txt_of Try.func22 rfl (by kernel_rfl)
theorem tx44n : Txt Try.prog 44 := txt_of Try.func44 rfl (by kernel_rfl)
theorem tx45n : Txt Try.prog 45 := txt_of Try.func45 rfl (by kernel_rfl)
theorem tx46n : Txt Try.prog 46 := txt_of Try.func46 rfl (by kernel_rfl)
theorem z26n : (Try.prog.info? 26).bind (·.zero) = some (.agg [.slice none 0 0, .slice none 0 0].toArray) := by kernel_rfl
theorem z45n : (Try.prog.info? 45).bind (·.zero) = some (.agg [.int .i64 0, .int .i64 0, .int .i64 0, .int .i64 0, .int .i64 0, .int .i64 0, .int .i64 0, .int .i64 0, .bool false, .slice none 0 0, .slice none 0 0, .slice none 0 0, .int .i64 0, .int .i64 0, .string ByteArray.empty, .int .i64 0, .int .i64 0, .int .i64 0, .string ByteArray.empty, .string ByteArray.empty, .int .i64 0, .int .u8 0, .int .u8 0, .int .u8 0, .int .u8 0, .int .u8 0, .int .u8 0, .int .u8 0, .int .u8 0, .int .u8 0, .int .u8 0, .int .u8 0, .int .u8 0, .int .u8 0, .int .u8 0, .int .u8 0, .int .u8 0, .int .u8 0, .int .u8 0, .int .u8 0, .int .u8 0, .int .u8 0, .int .u8 0, .int .u8 0, .int .u8 0, .int .u8 0, .int .u8 0, .int .u8 0, .int .u8 0, .int .u8 0, .int .u8 0, .int .u8 0, .int .u8 0, .int .i64 0, .int .i64 0, .string ByteArray.empty, .int .i64 0, .int .i64 0, .int .i64 0, .int .i64 0, .int .i64 0, .slice none 0 0, .slice none 0 0, .bool false, .int .u8 0, .int .u8 0, .int .u8 0, .int .u8 0, .int .u8 0, .int .u8 0, .int .u8 0, .int .u8 0, .int .u8 0, .int .u8 0, .int .u8 0, .int .u8 0, .int .u8 0, .int .u8 0, .int .u8 0, .int .u8 0, .int .u8 0, .int .u8 0, .int .u8 0, .int .u8 0, .int .u8 0, .int .u8 0, .int .u8 0, .int .u8 0, .int .u8 0, .int .u8 0, .int .u8 0, .int .u8 0, .int .u8 0, .int .u8 0, .int .u8 0, .int .u8 0, .int .u8 0, .int .u8 0, .int .u8 0, .int .u8 0, .int .u8 0, .int .u8 0, .int .u8 0, .int .u8 0, .int .u8 0, .int .u8 0, .int .u8 0, .int .u8 0, .int .u8 0, .int .u8 0, .int .u8 0, .int .u8 0, .int .u8 0, .int .u8 0, .int .u8 0, .int .u8 0, .int .u8 0, .int .u8 0, .int .u8 0, .int .u8 0, .int .u8 0, .int .u8 0, .int .u8 0, .int .u8 0, .int .u8 0, .int .u8 0, .int .u8 0, .int .u8 0, .int .i64 0, .int .u8 0, .int .u8 0, .int .u8 0, .int .u8 0, .int .u8 0, .int .u8 0, .int .u8 0, .int .u8 0, .int .u8 0, .int .u8 0, .int .u8 0, .int .u8 0, .int .u8 0, .int .u8 0, .int .u8 0, .int .u8 0, .int .u8 0, .int .u8 0, .int .u8 0, .int .u8 0, .int .u8 0, .int .u8 0, .int .u8 0, .int .u8 0, .int .u8 0, .int .u8 0, .int .u8 0, .int .u8 0, .int .u8 0, .int .u8 0, .int .u8 0, .int .u8 0, .int .u8 0, .int .u8 0, .int .u8 0, .int .u8 0, .int .u8 0, .int .u8 0, .int .u8 0, .int .u8 0, .int .u8 0, .int .u8 0, .int .u8 0, .int .u8 0, .int .u8 0, .int .u8 0, .int .u8 0, .int .u8 0, .int .u8 0, .int .u8 0, .int .u8 0, .int .u8 0, .int .u8 0, .int .u8 0, .int .u8 0, .int .u8 0, .int .u8 0, .int .u8 0, .int .u8 0, .int .u8 0, .int .u8 0, .int .u8 0, .int .u8 0, .int .u8 0, .int .u8 0, .int .u8 0, .int .u8 0, .int .u8 0, .int .u8 0, .int .u8 0, .int .u8 0, .int .u8 0, .int .u8 0, .int .u8 0, .int .u8 0, .int .u8 0, .int .u8 0, .int .u8 0, .int .u8 0, .int .u8 0, .int .u8 0, .int .u8 0, .int .u8 0, .int .u8 0, .int .u8 0, .int .u8 0, .int .u8 0, .int .u8 0, .int .u8 0, .int .u8 0, .int .u8 0, .int .u8 0, .int .u8 0, .int .u8 0, .int .u8 0, .int .u8 0].toArray) := by kernel_rfl
theorem z66n : (Try.prog.info? 66).bind (·.zero) = some (.agg [.int .i64 0, .int .i64 0, .slice none 0 0, .slice none 0 0, .string ByteArray.empty].toArray) := by kernel_rfl
theorem z69n : (Try.prog.info? 69).bind (·.zero) = some (.agg [.int .i64 0, .int .i64 0, .int .i64 0, .int .i64 0, .slice none 0 0, .slice none 0 0, .string ByteArray.empty, .slice none 0 0, .slice none 0 0].toArray) := by kernel_rfl
theorem z102n : (Try.prog.info? 102).bind (·.zero) = some (.agg [.int .i64 0, .int .i64 0, .int .i64 0, .int .i64 0, .int .i64 0, .int .i64 0, .string ByteArray.empty, .string ByteArray.empty, .int .i64 0, .int .u8 0, .int .u8 0, .int .u8 0, .int .u8 0, .int .u8 0, .int .u8 0, .int .u8 0, .int .u8 0, .int .u8 0, .int .u8 0, .int .u8 0, .int .u8 0, .int .u8 0, .int .u8 0, .int .u8 0, .int .u8 0, .int .u8 0, .int .u8 0, .int .u8 0, .int .u8 0, .int .u8 0, .int .u8 0, .int .u8 0, .int .u8 0, .int .u8 0, .int .u8 0, .int .u8 0, .int .u8 0, .int .u8 0, .int .u8 0, .int .u8 0, .int .u8 0, .slice none 0 0, .slice none 0 0].toArray) := by kernel_rfl

theorem numbers_w (s : Sl) (l : List Int) (w : World) (f1 : FA w (factC 1 (.slice s.1 l.length s.2) l.length (mints l))) (hB : l.length ≤ 1099511627776) :
    Calls Try.prog 46 #[.slice s.1 l.length s.2] w fun e w' => ∃ s' : Sl, e = .returned (.slice s'.1 l.length s'.2) ∧ Fr [] w w' ∧ NewF w w' (factC 1 (.slice s'.1 l.length s'.2) l.length (mints l)) := by
  refine calls_of (args := [.slice s.1 l.length s.2]) ([]) ([]) ([factC 1 (.slice s.1 l.length s.2) l.length (mints l)]) Try.func46 rfl rfl (okFW (.cons f1 .nil)) ?_
  refine J_seq ?_
  refine J_region ?_
  refine L_v rfl rfl rfl (V_assign rfl rfl) ?_
  refine L_nil ?_
  change J _ _ _ _
  refine J_seq ?_
  refine J_region ?_
  refine L_v rfl rfl rfl (V_assign rfl rfl) ?_
  refine L_nil ?_
  change J _ _ _ _
  refine J_seq ?_
  refine J_region ?_
  refine L_v rfl rfl rfl (V_move rfl rfl) ?_
  refine L_v rfl rfl rfl (V_move rfl rfl) ?_
  refine L_appL ([]) none [] (m := l.length) (n' := l.length) (news := mints l) (ks' := mints l) rfl rfl rfl rfl rfl Try.underlying24 elI (List.append_nil _).symm ⟨rfl, rfl⟩ (fun w1 hw => src_C Try.underlying24 (hw.fa 0 rfl).1 (one_ints l)) (Nat.zero_add _) (List.nil_append _) (by omega) (by omega) (fun q1 hq1 => ?_)
  refine L_v rfl rfl rfl (V_assign rfl rfl) ?_
  refine L_nil ?_
  change J _ _ _ _
  refine J_seq ?_
  refine J_region ?_
  refine L_v rfl rfl rfl (V_move rfl rfl) ?_
  refine L_v rfl rfl rfl (V_assign rfl rfl) ?_
  refine L_nil ?_
  change J _ _ _ _
  refine J_ret ?_
  change Kret _ _ _ Exit.ret _
  refine ret1 rfl rfl (RV_t rfl) ?_
  exact fun w' h => ⟨(oA q1, oC q1), rfl, h.fr, NewF.own h rfl (fun x hx => hx) hq1⟩

theorem ownCouncil_w (x : Cl) (a1 a2 : Sl) (w : World) (f1 : FA w (clF x a1 a2)) (hB : SzC x) :
    Calls Try.prog 22 #[.agg (clM x a1 a2).toArray] w fun e w' => ∃ s1 s2 : Sl, e = .returned (.agg (clM x s1 s2).toArray) ∧ Fr [] w w' ∧ NewF w w' (clF x s1 s2) := by
  refine calls_of (args := [.agg (clM x a1 a2).toArray]) ([]) ([]) ([clF x a1 a2]) Try.func22 rfl rfl (okFW (.cons f1 .nil)) ?_
  refine J_seq ?_
  refine J_region ?_
  refine L_box rfl rfl rfl rfl rfl (fun b0 => ?_)
  refine L_alloc rfl rfl rfl rfl z26n (fun b1 => ?_)
  refine L_nil ?_
  change J _ _ _ _
  refine J_seq ?_
  refine J_regionO (.pure 0 (.pure 1 (.pure 3 (.pure 4 (.one 2 (.one 5 (.pure 6 (.one 7 (.nil))))))))) ([(b0, row 26 (clM x a1 a2))]) _ (Pk.of_sub (List.Sublist.cons_cons _ (List.nil_sublist _))) (fun f hf => hf) rfl rfl (by kernel_rfl) ?_
  refine LO_v rfl rfl rfl rfl (V_fieldAddr rfl rfl Try.underlying26 rfl sz24n rfl) ?_
  refine LO_v rfl rfl rfl rfl (V_load1 0 rfl rfl rfl Try.underlying24 rfl (by rfl)) ?_
  refine LO_v rfl rfl rfl rfl (V_fieldAddr rfl rfl Try.underlying26 rfl sz24n rfl) ?_
  refine LO_v rfl rfl rfl rfl (V_load1 0 rfl rfl rfl Try.underlying24 rfl (by rfl)) ?_
  refine LO_s rfl rfl rfl (S_call rfl rfl rfl tx46n (fun w1 hw => (numbers_w a1 x.1 w1 (hw.fa 0 rfl).l hB.1).mono ?_))
  rintro e w' ⟨s1, rfl, hfr, hn1⟩
  have n1 : ∀ k, (_ : Fact).fp k → w.heap.size ≤ k := fun k hk => Nat.le_trans hw.fr.size (hn1.new k hk)
  refine ⟨_, _, _, rfl, hw.newN hfr hn1, rfl, (Pk.of_sub (List.Sublist.cons_cons _ (List.nil_sublist _))), (fun f hf => List.mem_append_left _ (hf)), ?_⟩
  refine LO_s rfl rfl rfl (S_call rfl rfl rfl tx46n (fun w1 hw => (numbers_w a2 x.2 w1 (hw.fa 0 rfl).r hB.2).mono ?_))
  rintro e w' ⟨s2, rfl, hfr, hn2⟩
  have n2 : ∀ k, (_ : Fact).fp k → w.heap.size ≤ k := fun k hk => Nat.le_trans hw.fr.size (hn2.new k hk)
  refine ⟨_, _, _, rfl, hw.newN hfr hn2, rfl, (Pk.of_sub (List.Sublist.cons_cons _ (List.nil_sublist _))), (fun f hf => List.mem_append_left _ (List.mem_append_left _ (hf))), ?_⟩
  refine LO_v rfl rfl rfl rfl (V_buildE (v := .agg (clM x s1 s2).toArray) rfl rfl (fun w => by kernel_rfl)) ?_
  refine LO_s rfl rfl rfl (S_storeW 1 rfl rfl rfl rfl rfl (szd sz26n (by kernel_rfl)) (all_one (by kernel_rfl)) (by kernel_rfl) ⟨(Pk.of_sub (List.Sublist.cons_cons _ (List.nil_sublist _))), (fun f hf => List.mem_append_left _ (List.mem_append_left _ (hf))), ?_⟩)
  refine LO_nil ?_
  change J _ _ _ _
  refine J_ret ?_
  change Kret _ _ _ Exit.ret _
  refine ret1 rfl rfl (RV_c 1 rfl rfl Try.underlying26 rfl (szd sz26n (by kernel_rfl))) ?_
  exact fun w' h => ⟨s1, s2, rfl, h.fr, (NewF.at h 1 rfl n1).and (NewF.at h 2 rfl n2)⟩

theorem ownSnap_w (x : Sn) (a1 a2 : Sl) (w : World) (f1 : FA w (clF x.2.2.1 a1 a2)) (hB : SzC x.2.2.1) :
    Calls Try.prog 44 #[.agg (snM x a1 a2).toArray] w fun e w' => ∃ s1 s2 : Sl, e = .returned (.agg (snM x s1 s2).toArray) ∧ Fr [] w w' ∧ NewF w w' (clF x.2.2.1 s1 s2) := by
  refine calls_of (args := [.agg (snM x a1 a2).toArray]) ([]) ([]) ([clF x.2.2.1 a1 a2]) Try.func44 rfl rfl (okFW (.cons f1 .nil)) ?_
  refine J_seq ?_
  refine J_region ?_
  refine L_box rfl rfl rfl rfl rfl (fun b0 => ?_)
  refine L_alloc rfl rfl rfl rfl z66n (fun b1 => ?_)
  refine L_nil ?_
  change J _ _ _ _
  refine J_seq ?_
  refine J_region ?_
  refine L_v rfl rfl rfl (V_fieldAddr rfl rfl Try.underlying66 rfl sz26n rfl) ?_
  refine L_v rfl rfl rfl (V_loadT 0 (vs := clM x.2.2.1 a1 a2) rfl rfl rfl Try.underlying26 rfl sz26n (by kernel_rfl) (by kernel_rfl)) ?_
  refine L_call rfl rfl rfl rfl tx22n (fun w1 hw => (ownCouncil_w x.2.2.1 a1 a2 w1 (hw.fa 0 rfl) hB).mono ?_)
  rintro e w' ⟨s1, s2, rfl, hfr, hn1⟩
  have n1 : ∀ k, (_ : Fact).fp k → w.heap.size ≤ k := fun k hk => Nat.le_trans hw.fr.size (hn1.new k hk)
  refine ⟨_, _, _, rfl, hw.newN hfr hn1, rfl, ?_⟩
  refine L_v rfl rfl rfl (V_fieldAddr rfl rfl Try.underlying66 rfl sz26n rfl) ?_
  refine L_storeT 0 (l' := snM x s1 s2) rfl rfl rfl rfl rfl rfl (szd sz26n (by kernel_rfl)) (all_one (by kernel_rfl)) (Nat.le_of_ble_eq_true (by kernel_rfl)) (by kernel_rfl) ?_
  refine L_nil ?_
  change J _ _ _ _
  refine J_seq ?_
  refine J_region ?_
  refine L_v rfl rfl rfl (V_loadT 0 (vs := snM x s1 s2) rfl rfl rfl Try.underlying66 rfl sz66n (by kernel_rfl) (by kernel_rfl)) ?_
  refine L_storeW 1 rfl rfl rfl rfl rfl rfl (szd sz66n (by kernel_rfl)) (all_one (by kernel_rfl)) (by kernel_rfl) ?_
  refine L_nil ?_
  change J _ _ _ _
  refine J_ret ?_
  change Kret _ _ _ Exit.ret _
  refine ret1 rfl rfl (RV_c 1 rfl rfl Try.underlying66 rfl (szd sz66n (by kernel_rfl))) ?_
  exact fun w' h => ⟨s1, s2, rfl, h.fr, NewF.at h 1 rfl n1⟩

theorem ownEntry_w (x : En) (a1 a2 : Sl) (w : World) (f1 : FA w (clF x.2.2.2.2 a1 a2)) (hB : SzC x.2.2.2.2) :
    Calls Try.prog 45 #[.agg (enM x a1 a2).toArray] w fun e w' => ∃ s1 s2 : Sl, e = .returned (.agg (enM x s1 s2).toArray) ∧ Fr [] w w' ∧ NewF w w' (clF x.2.2.2.2 s1 s2) := by
  refine calls_of (args := [.agg (enM x a1 a2).toArray]) ([]) ([]) ([clF x.2.2.2.2 a1 a2]) Try.func45 rfl rfl (okFW (.cons f1 .nil)) ?_
  refine J_seq ?_
  refine J_region ?_
  refine L_box rfl rfl rfl rfl rfl (fun b0 => ?_)
  refine L_alloc rfl rfl rfl rfl z102n (fun b1 => ?_)
  refine L_nil ?_
  change J _ _ _ _
  refine J_seq ?_
  refine J_region ?_
  refine L_v rfl rfl rfl (V_fieldAddr rfl rfl Try.underlying102 rfl sz26n rfl) ?_
  refine L_v rfl rfl rfl (V_loadT 0 (vs := clM x.2.2.2.2 a1 a2) rfl rfl rfl Try.underlying26 rfl sz26n (by kernel_rfl) (by kernel_rfl)) ?_
  refine L_call rfl rfl rfl rfl tx22n (fun w1 hw => (ownCouncil_w x.2.2.2.2 a1 a2 w1 (hw.fa 0 rfl) hB).mono ?_)
  rintro e w' ⟨s1, s2, rfl, hfr, hn1⟩
  have n1 : ∀ k, (_ : Fact).fp k → w.heap.size ≤ k := fun k hk => Nat.le_trans hw.fr.size (hn1.new k hk)
  refine ⟨_, _, _, rfl, hw.newN hfr hn1, rfl, ?_⟩
  refine L_v rfl rfl rfl (V_fieldAddr rfl rfl Try.underlying102 rfl sz26n rfl) ?_
  refine L_storeT 0 (l' := enM x s1 s2) rfl rfl rfl rfl rfl rfl (szd sz26n (by kernel_rfl)) (all_one (by kernel_rfl)) (Nat.le_of_ble_eq_true (by kernel_rfl)) (by kernel_rfl) ?_
  refine L_nil ?_
  change J _ _ _ _
  refine J_seq ?_
  refine J_region ?_
  refine L_v rfl rfl rfl (V_loadT 0 (vs := enM x s1 s2) rfl rfl rfl Try.underlying102 rfl sz102n (by kernel_rfl) (by kernel_rfl)) ?_
  refine L_storeW 1 rfl rfl rfl rfl rfl rfl (szd sz102n (by kernel_rfl)) (all_one (by kernel_rfl)) (by kernel_rfl) ?_
  refine L_nil ?_
  change J _ _ _ _
  refine J_ret ?_
  change Kret _ _ _ Exit.ret _
  refine ret1 rfl rfl (RV_c 1 rfl rfl Try.underlying102 rfl (szd sz102n (by kernel_rfl))) ?_
  exact fun w' h => ⟨s1, s2, rfl, h.fr, NewF.at h 1 rfl n1⟩

set_option maxHeartbeats 4000000 in
theorem own_w (t v : Int) (sn : Sn) (es : List EnV) (sg : List Sg) (a1 a2 e0 g0 : Sl) (w : World) (f1 : FA w (svF sn es sg a1 a2 e0 g0)) (hC : SzC sn.2.2.1) (hE : ∀ p ∈ es, SzC p.1.2.2.2.2) (hB : es.length ≤ 549755813888) (hG : sg.length ≤ 549755813888) :
    Calls Try.prog 21 #[.agg (svC t v sn a1 a2 (.slice e0.1 es.length e0.2) (.slice g0.1 sg.length g0.2)).toArray] w fun e w' => ∃ (c1 c2 c3 c4 : Sl) (gs : List EnV), e = .returned (.agg (svC t v sn c1 c2 (.slice c3.1 es.length c3.2) (.slice c4.1 sg.length c4.2)).toArray) ∧ gs.map Prod.fst = es.map Prod.fst ∧ Fr [] w w' ∧ NewF w w' (svF sn gs sg c1 c2 c3 c4) := by
  refine calls_of (args := [.agg (svC t v sn a1 a2 (.slice e0.1 es.length e0.2) (.slice g0.1 sg.length g0.2)).toArray]) ([]) ([]) ([svF sn es sg a1 a2 e0 g0]) Try.func21 rfl rfl (okFW (.cons f1 .nil)) ?_
  refine J_seq ?_
  refine J_region ?_
  refine L_box rfl rfl rfl rfl rfl (fun b0 => ?_)
  refine L_alloc rfl rfl rfl rfl z69n (fun b1 => ?_)
  refine L_nil ?_
  change J _ _ _ _
  refine J_seq ?_
  refine J_regionO (.pure 0 (.pure 1 (.pure 2 (.pure 3 (.pure 4 (.pure 5 (.two 6 (.pure 7 (.one 8 (.one 9 (.nil)))) 8 (.one 6 (.pure 7 (.one 9 (.nil))))))))))) ([(b0, row 69 (svC t v sn a1 a2 (.slice e0.1 es.length e0.2) (.slice g0.1 sg.length g0.2)))]) _ (Pk.of_sub (List.Sublist.cons_cons _ (List.nil_sublist _))) (fun f hf => hf) rfl rfl (by kernel_rfl) ?_
  refine LO_v rfl rfl rfl rfl (V_fieldAddr rfl rfl Try.underlying69 rfl sz3n rfl) ?_
  refine LO_v rfl rfl rfl rfl (V_load1 0 rfl rfl rfl Try.underlying3 rfl (by rfl)) ?_
  refine LO_v rfl rfl rfl rfl (V_fieldAddr rfl rfl Try.underlying69 rfl sz3n rfl) ?_
  refine LO_v rfl rfl rfl rfl (V_load1 0 rfl rfl rfl Try.underlying3 rfl (by rfl)) ?_
  refine LO_v rfl rfl rfl rfl (V_fieldAddr rfl rfl Try.underlying69 rfl sz66n rfl) ?_
  refine LO_v rfl rfl rfl rfl (V_loadT 0 (vs := snM sn a1 a2) rfl rfl rfl Try.underlying66 rfl sz66n (by kernel_rfl) (by kernel_rfl)) ?_
  refine LO_both ?_ ?_
  ·
    refine LO_s rfl rfl rfl (S_call rfl rfl rfl tx44n (fun w1 hw => (ownSnap_w sn a1 a2 w1 (hw.fa 0 rfl).l hC).mono ?_))
    rintro e w' ⟨s1, s2, rfl, hfr, hn1⟩
    have n1 : ∀ k, (_ : Fact).fp k → w.heap.size ≤ k := fun k hk => Nat.le_trans hw.fr.size (hn1.new k hk)
    refine ⟨_, _, _, rfl, hw.newN hfr hn1, rfl, (Pk.of_sub (List.Sublist.cons_cons _ (List.nil_sublist _))), (fun f hf => List.mem_append_left _ (hf)), ?_⟩
    refine LO_v rfl rfl rfl rfl (V_buildE (v := .agg (svC t v sn s1 s2 (.slice none 0 0) (.slice none 0 0)).toArray) rfl rfl (fun w => by kernel_rfl)) ?_
    refine LO_s rfl rfl rfl (S_alloc rfl rfl rfl z69n (fun b2 => ⟨(Pk.of_sub (List.Sublist.cons_cons _ (List.nil_sublist _))), (fun f hf => List.mem_append_left _ (hf)), ?_⟩)) 
    refine LO_s rfl rfl rfl (S_storeW 2 rfl rfl rfl rfl rfl (szd sz69n (by kernel_rfl)) (all_one (by kernel_rfl)) (by kernel_rfl) ⟨(Pk.of_sub (List.Sublist.cons_cons _ (List.nil_sublist _))), (fun f hf => List.mem_append_left _ (hf)), ?_⟩)
    refine LO_nil ?_
    change J _ _ _ _
    refine J_seq ?_
    refine J_seq ?_
    refine J_region ?_
    refine L_v rfl rfl rfl (V_assign rfl rfl) ?_
    refine L_nil ?_
    change J _ _ _ _
    refine J_block ?_
    refine J_loop (X := Nat × OwnR × List EnV) (fun x => { env := [(1, .pointer (some ⟨b0, 0, none⟩)), (2, .pointer (some ⟨b1, 0, none⟩)), (3, .pointer (some ⟨b2, 0, none⟩)), (4, .int .i64 (x.1 : Int))], mem := [(b0, row 69 (svC t v sn a1 a2 (.slice e0.1 es.length e0.2) (.slice g0.1 sg.length g0.2))), (b1, row 69 ([.int .i64 0, .int .i64 0, .int .i64 0, .int .i64 0, .slice none 0 0, .slice none 0 0, .string ByteArray.empty, .slice none 0 0, .slice none 0 0])), (b2, row 69 (svC t v sn s1 s2 (ownV x.2.1 x.1) (.slice none 0 0)))] ++ ownM 102 x.2.1 (x.2.2.map enW).flatten, facts := [svF sn es sg a1 a2 e0 g0, clF sn.2.2.1 s1 s2] ++ x.2.2.map enF }) (fun x => x.1 ≤ es.length ∧ OwnC 43 x.2.1 x.1 (x.2.2.map enW).flatten ∧ x.2.2.map Prod.fst = (es.take x.1).map Prod.fst ∧ ∀ f ∈ x.2.2.map enF, ∀ k, f.fp k → w.heap.size ≤ k) (fun x => es.length - x.1) (0, none, []) ⟨Nat.zero_le _, ⟨rfl, rfl⟩, rfl, fun f hf => by cases hf⟩ ⟨⟨rfl, rfl, rfl, rfl, trivial⟩, List.Sublist.refl _, (fun f hf => hf), rfl⟩ ?_
    rintro ⟨i, q, acc⟩ ⟨hin, hq, hac, hfE⟩
    simp only at hin hq hac hfE ⊢
    refine J_seq ?_
    refine J_seq ?_
    refine J_region ?_
    refine L_v rfl rfl rfl (V_move rfl rfl) ?_
    refine L_v rfl rfl rfl (V_fieldAddr rfl rfl Try.underlying69 rfl sz23n rfl) ?_
    refine L_v rfl rfl rfl (V_load1 0 rfl rfl rfl Try.underlying23 rfl (by rfl)) ?_
    refine L_v rfl rfl rfl (V_len rfl rfl Try.underlying23 rfl) ?_
    refine L_v rfl rfl rfl (V_lss rfl rfl rfl (by first | exact decide_eq_true (by omega) | exact decide_eq_false (by omega) | rfl)) ?_
    refine L_nil ?_
    change J _ _ _ _
    refine J_cond rfl (fun h1 => ?_) (fun h1 => ?_)
    ·
      first | (have h1 := of_decide_eq_true h1) | (have h1 := of_decide_eq_false h1) | skip
      have hi : i < es.length := by omega
      refine J_skip ?_
      change J _ _ _ _
      refine J_seq ?_
      refine J_block ?_
      refine J_regionO (.pure 0 (.pure 2 (.pure 3 (.pure 4 (.pure 5 (.pure 6 (.two 1 (.one 7 (.one 8 (.one 9 (.pure 10 (.one 11 (.nil)))))) 7 (.two 1 (.one 8 (.one 9 (.pure 10 (.one 11 (.nil))))) 8 (.one 1 (.one 9 (.pure 10 (.one 11 (.nil))))))))))))) ([(b0, row 69 (svC t v sn a1 a2 (.slice e0.1 es.length e0.2) (.slice g0.1 sg.length g0.2)))]) _ (Pk.of_sub (List.Sublist.cons_cons _ (List.nil_sublist _))) (fun f hf => hf) rfl rfl (by kernel_rfl) ?_
      refine LO_v rfl rfl rfl rfl (V_fieldAddr rfl rfl Try.underlying69 rfl sz23n rfl) ?_
      refine LO_v rfl rfl rfl rfl (V_fieldAddr rfl rfl Try.underlying69 rfl sz23n rfl) ?_
      refine LO_v rfl rfl rfl rfl (V_load1 0 rfl rfl rfl Try.underlying23 rfl (by rfl)) ?_
      refine LO_v rfl rfl rfl rfl (V_move rfl rfl) ?_
      refine LO_v rfl rfl rfl rfl (V_indexC rfl rfl rfl Try.underlying23 sz102n (fun w hw => (hw.fa 0 rfl).r.l.l.1) (by omega) (by omega)) ?_
      refine LO_v rfl rfl rfl rfl (V_loadCN (vs := enM ((es.getD i env0).1) ((es.getD i env0).2.1) ((es.getD i env0).2.2)) rfl rfl Try.underlying102 rfl (szd sz102n (by kernel_rfl)) (fun w hw => (hw.fa 0 rfl).r.l.l.1) (by exact Nat.zero_lt_succ _) (rows_v (f := enW) env0 (sz := 42) (fun _ => rfl) (by omega))) ?_
      refine LO_both ?_ ?_
      ·
        refine LO_s rfl rfl rfl (S_v rfl rfl (V_load1 2 rfl rfl rfl Try.underlying23 rfl rfl) ⟨(Pk.of_sub (List.Sublist.cons_cons _ (List.nil_sublist _))), (fun f hf => hf), ?_⟩) 
        refine LO_s rfl rfl rfl (S_call rfl rfl rfl tx45n (fun w1 hw => (ownEntry_w (es.getD i env0).1 _ _ w1 ((hw.fa 0 rfl).r.l.r.of (List.mem_map.2 ⟨_, getD_mem hi, rfl⟩)) (hE _ (getD_mem hi))).mono ?_))
        rintro e w' ⟨s3, s4, rfl, hfr, hn3⟩
        have n3 : ∀ k, (_ : Fact).fp k → w.heap.size ≤ k := fun k hk => Nat.le_trans hw.fr.size (hn3.new k hk)
        refine ⟨_, _, _, rfl, hw.newN hfr hn3, rfl, (Pk.of_sub (List.Sublist.cons_cons _ (List.nil_sublist _))), (fun f hf => List.mem_append_left _ (hf)), ?_⟩
        refine LO_s rfl rfl rfl (S_buildSlice (vs := [(0, .agg (enW ((es.getD i env0).1, s3, s4)).toArray)]) (l := enW ((es.getD i env0).1, s3, s4)) rfl rfl rfl rfl (bsE _) (fun b9 => ⟨(Pk.of_sub (List.Sublist.cons_cons _ (List.nil_sublist _))), (fun f hf => List.mem_append_left _ (hf)), ?_⟩)) 
        refine LO_s rfl rfl rfl (S_appendN ([(b0, row 69 (svC t v sn a1 a2 (.slice e0.1 es.length e0.2) (.slice g0.1 sg.length g0.2))), (b1, row 69 ([.int .i64 0, .int .i64 0, .int .i64 0, .int .i64 0, .slice none 0 0, .slice none 0 0, .string ByteArray.empty, .slice none 0 0, .slice none 0 0])), (b2, row 69 (svC t v sn s1 s2 (ownV q i) (.slice none 0 0)))]) [(b9, row 102 (enW ((es.getD i env0).1, s3, s4)))] q (acc.map enW).flatten (m := 1) (news := enW ((es.getD i env0).1, s3, s4)) rfl rfl rfl rfl Try.underlying23 elE (List.append_assoc _ _ _) hq (fun w1 hw => src_C Try.underlying23 (SlC.in hw (ks := enW ((es.getD i env0).1, s3, s4)) (r := []) (fz := (0, 0)) (List.mem_append_right _ (by rw [List.append_nil]; exact List.mem_singleton.2 rfl)) rfl 1) (all_one (by kernel_rfl))) (by omega) (by omega) (fun q4 hq4 => ⟨(Pk.of_sub (List.Sublist.cons_cons _ (List.nil_sublist _))), (fun f hf => List.mem_append_left _ (hf)), ?_⟩)) 
        refine LO_v rfl rfl rfl rfl (V_fieldAddr rfl rfl Try.underlying69 rfl sz23n rfl) ?_
        refine LO_s rfl rfl rfl (S_store1 2 rfl rfl rfl rfl rfl rfl sz23n (Nat.le_of_ble_eq_true (by kernel_rfl)) rfl ⟨(Pk.of_sub (List.Sublist.cons_cons _ (List.nil_sublist _))), (fun f hf => List.mem_append_left _ (hf)), ?_⟩)
        refine LO_nil ?_
        change J _ _ _ _
        refine J_region ?_
        refine L_v rfl rfl rfl (V_move rfl rfl) ?_
        refine L_v rfl rfl rfl (V_add rfl rfl rfl (by first | exact Go.IntWalk.i64_in _ (by omega) | rfl)) ?_
        refine L_v rfl rfl rfl (V_assign rfl rfl) ?_
        refine L_nil ?_
        exact ⟨(i + 1, q4, acc ++ [((es.getD i env0).1, s3, s4)]), ⟨by show i + 1 ≤ es.length; omega, by show OwnC 43 q4 (i + 1) ((acc ++ [_]).map enW).flatten; rw [← enW_app]; exact hq4, acc_fst hi hac, fun f hf => by
          rw [List.map_append] at hf
          rcases List.mem_append.1 hf with hf | hf
          · exact hfE f hf
          · obtain rfl := List.mem_singleton.1 hf
            exact n3⟩, by show es.length - (i + 1) < es.length - i; omega, ⟨rfl, rfl, rfl, rfl, trivial⟩, (by rw [← enW_app, ← List.append_assoc]; exact List.sublist_append_left _ _), facts_app (f0 := [svF sn es sg a1 a2 e0 g0, clF sn.2.2.1 s1 s2]), rfl⟩
      ·
        refine LO_s rfl rfl rfl (S_call rfl rfl rfl tx45n (fun w1 hw => (ownEntry_w (es.getD i env0).1 _ _ w1 ((hw.fa 0 rfl).r.l.r.of (List.mem_map.2 ⟨_, getD_mem hi, rfl⟩)) (hE _ (getD_mem hi))).mono ?_))
        rintro e w' ⟨s3, s4, rfl, hfr, hn3⟩
        have n3 : ∀ k, (_ : Fact).fp k → w.heap.size ≤ k := fun k hk => Nat.le_trans hw.fr.size (hn3.new k hk)
        refine ⟨_, _, _, rfl, hw.newN hfr hn3, rfl, (Pk.of_sub (List.Sublist.cons_cons _ (List.nil_sublist _))), (fun f hf => List.mem_append_left _ (hf)), ?_⟩
        refine LO_both ?_ ?_
        ·
          refine LO_s rfl rfl rfl (S_v rfl rfl (V_load1 2 rfl rfl rfl Try.underlying23 rfl rfl) ⟨(Pk.of_sub (List.Sublist.cons_cons _ (List.nil_sublist _))), (fun f hf => List.mem_append_left _ (hf)), ?_⟩) 
          refine LO_s rfl rfl rfl (S_buildSlice (vs := [(0, .agg (enW ((es.getD i env0).1, s3, s4)).toArray)]) (l := enW ((es.getD i env0).1, s3, s4)) rfl rfl rfl rfl (bsE _) (fun b9 => ⟨(Pk.of_sub (List.Sublist.cons_cons _ (List.nil_sublist _))), (fun f hf => List.mem_append_left _ (hf)), ?_⟩)) 
          refine LO_s rfl rfl rfl (S_appendN ([(b0, row 69 (svC t v sn a1 a2 (.slice e0.1 es.length e0.2) (.slice g0.1 sg.length g0.2))), (b1, row 69 ([.int .i64 0, .int .i64 0, .int .i64 0, .int .i64 0, .slice none 0 0, .slice none 0 0, .string ByteArray.empty, .slice none 0 0, .slice none 0 0])), (b2, row 69 (svC t v sn s1 s2 (ownV q i) (.slice none 0 0)))]) [(b9, row 102 (enW ((es.getD i env0).1, s3, s4)))] q (acc.map enW).flatten (m := 1) (news := enW ((es.getD i env0).1, s3, s4)) rfl rfl rfl rfl Try.underlying23 elE (List.append_assoc _ _ _) hq (fun w1 hw => src_C Try.underlying23 (SlC.in hw (ks := enW ((es.getD i env0).1, s3, s4)) (r := []) (fz := (0, 0)) (List.mem_append_right _ (by rw [List.append_nil]; exact List.mem_singleton.2 rfl)) rfl 1) (all_one (by kernel_rfl))) (by omega) (by omega) (fun q4 hq4 => ⟨(Pk.of_sub (List.Sublist.cons_cons _ (List.nil_sublist _))), (fun f hf => List.mem_append_left _ (hf)), ?_⟩)) 
          refine LO_v rfl rfl rfl rfl (V_fieldAddr rfl rfl Try.underlying69 rfl sz23n rfl) ?_
          refine LO_s rfl rfl rfl (S_store1 2 rfl rfl rfl rfl rfl rfl sz23n (Nat.le_of_ble_eq_true (by kernel_rfl)) rfl ⟨(Pk.of_sub (List.Sublist.cons_cons _ (List.nil_sublist _))), (fun f hf => List.mem_append_left _ (hf)), ?_⟩)
          refine LO_nil ?_
          change J _ _ _ _
          refine J_region ?_
          refine L_v rfl rfl rfl (V_move rfl rfl) ?_
          refine L_v rfl rfl rfl (V_add rfl rfl rfl (by first | exact Go.IntWalk.i64_in _ (by omega) | rfl)) ?_
          refine L_v rfl rfl rfl (V_assign rfl rfl) ?_
          refine L_nil ?_
          exact ⟨(i + 1, q4, acc ++ [((es.getD i env0).1, s3, s4)]), ⟨by show i + 1 ≤ es.length; omega, by show OwnC 43 q4 (i + 1) ((acc ++ [_]).map enW).flatten; rw [← enW_app]; exact hq4, acc_fst hi hac, fun f hf => by
            rw [List.map_append] at hf
            rcases List.mem_append.1 hf with hf | hf
            · exact hfE f hf
            · obtain rfl := List.mem_singleton.1 hf
              exact n3⟩, by show es.length - (i + 1) < es.length - i; omega, ⟨rfl, rfl, rfl, rfl, trivial⟩, (by rw [← enW_app, ← List.append_assoc]; exact List.sublist_append_left _ _), facts_app (f0 := [svF sn es sg a1 a2 e0 g0, clF sn.2.2.1 s1 s2]), rfl⟩
        ·
          refine LO_s rfl rfl rfl (S_buildSlice (vs := [(0, .agg (enW ((es.getD i env0).1, s3, s4)).toArray)]) (l := enW ((es.getD i env0).1, s3, s4)) rfl rfl rfl rfl (bsE _) (fun b9 => ⟨(Pk.of_sub (List.Sublist.cons_cons _ (List.nil_sublist _))), (fun f hf => List.mem_append_left _ (hf)), ?_⟩)) 
          refine LO_s rfl rfl rfl (S_v rfl rfl (V_load1 2 rfl rfl rfl Try.underlying23 rfl rfl) ⟨(Pk.of_sub (List.Sublist.cons_cons _ (List.nil_sublist _))), (fun f hf => List.mem_append_left _ (hf)), ?_⟩) 
          refine LO_s rfl rfl rfl (S_appendN ([(b0, row 69 (svC t v sn a1 a2 (.slice e0.1 es.length e0.2) (.slice g0.1 sg.length g0.2))), (b1, row 69 ([.int .i64 0, .int .i64 0, .int .i64 0, .int .i64 0, .slice none 0 0, .slice none 0 0, .string ByteArray.empty, .slice none 0 0, .slice none 0 0])), (b2, row 69 (svC t v sn s1 s2 (ownV q i) (.slice none 0 0)))]) [(b9, row 102 (enW ((es.getD i env0).1, s3, s4)))] q (acc.map enW).flatten (m := 1) (news := enW ((es.getD i env0).1, s3, s4)) rfl rfl rfl rfl Try.underlying23 elE (List.append_assoc _ _ _) hq (fun w1 hw => src_C Try.underlying23 (SlC.in hw (ks := enW ((es.getD i env0).1, s3, s4)) (r := []) (fz := (0, 0)) (List.mem_append_right _ (by rw [List.append_nil]; exact List.mem_singleton.2 rfl)) rfl 1) (all_one (by kernel_rfl))) (by omega) (by omega) (fun q4 hq4 => ⟨(Pk.of_sub (List.Sublist.cons_cons _ (List.nil_sublist _))), (fun f hf => List.mem_append_left _ (hf)), ?_⟩)) 
          refine LO_v rfl rfl rfl rfl (V_fieldAddr rfl rfl Try.underlying69 rfl sz23n rfl) ?_
          refine LO_s rfl rfl rfl (S_store1 2 rfl rfl rfl rfl rfl rfl sz23n (Nat.le_of_ble_eq_true (by kernel_rfl)) rfl ⟨(Pk.of_sub (List.Sublist.cons_cons _ (List.nil_sublist _))), (fun f hf => List.mem_append_left _ (hf)), ?_⟩)
          refine LO_nil ?_
          change J _ _ _ _
          refine J_region ?_
          refine L_v rfl rfl rfl (V_move rfl rfl) ?_
          refine L_v rfl rfl rfl (V_add rfl rfl rfl (by first | exact Go.IntWalk.i64_in _ (by omega) | rfl)) ?_
          refine L_v rfl rfl rfl (V_assign rfl rfl) ?_
          refine L_nil ?_
          exact ⟨(i + 1, q4, acc ++ [((es.getD i env0).1, s3, s4)]), ⟨by show i + 1 ≤ es.length; omega, by show OwnC 43 q4 (i + 1) ((acc ++ [_]).map enW).flatten; rw [← enW_app]; exact hq4, acc_fst hi hac, fun f hf => by
            rw [List.map_append] at hf
            rcases List.mem_append.1 hf with hf | hf
            · exact hfE f hf
            · obtain rfl := List.mem_singleton.1 hf
              exact n3⟩, by show es.length - (i + 1) < es.length - i; omega, ⟨rfl, rfl, rfl, rfl, trivial⟩, (by rw [← enW_app, ← List.append_assoc]; exact List.sublist_append_left _ _), facts_app (f0 := [svF sn es sg a1 a2 e0 g0, clF sn.2.2.1 s1 s2]), rfl⟩
    ·
      first | (have h1 := of_decide_eq_true h1) | (have h1 := of_decide_eq_false h1) | skip
      obtain rfl : i = es.length := by omega
      refine J_exit ?_
      change J _ _ _ _
      refine J_seq ?_
      refine J_region ?_
      refine L_v rfl rfl rfl (V_fieldAddr rfl rfl Try.underlying69 rfl sz67n rfl) ?_
      refine L_v rfl rfl rfl (V_load1 2 rfl rfl rfl Try.underlying67 rfl (by rfl)) ?_
      refine L_v rfl rfl rfl (V_fieldAddr rfl rfl Try.underlying69 rfl sz67n rfl) ?_
      refine L_v rfl rfl rfl (V_load1 0 rfl rfl rfl Try.underlying67 rfl (by rfl)) ?_
      refine L_appL ([(b0, row 69 (svC t v sn a1 a2 (.slice e0.1 es.length e0.2) (.slice g0.1 sg.length g0.2))), (b1, row 69 ([.int .i64 0, .int .i64 0, .int .i64 0, .int .i64 0, .slice none 0 0, .slice none 0 0, .string ByteArray.empty, .slice none 0 0, .slice none 0 0])), (b2, row 69 (svC t v sn s1 s2 (ownV q es.length) (.slice none 0 0)))] ++ ownM 102 q (acc.map enW).flatten) none [] (m := sg.length) (n' := sg.length) (news := (sg.map sgM).flatten) (ks' := (sg.map sgM).flatten) rfl rfl rfl rfl rfl Try.underlying67 elS (List.append_nil _).symm ⟨rfl, rfl⟩ (fun w1 hw => src_C Try.underlying67 (hw.fa 0 rfl).r.r.1 (one_map (fun _ => by kernel_rfl) sg)) (Nat.zero_add _) (List.nil_append _) (by omega) (by omega) (fun q2 hq2 => ?_)
      refine L_v rfl rfl rfl (V_fieldAddr rfl rfl Try.underlying69 rfl sz67n rfl) ?_
      refine L_store1 2 rfl rfl rfl rfl rfl rfl rfl sz67n (Nat.le_of_ble_eq_true (by kernel_rfl)) rfl ?_
      refine L_nil ?_
      change J _ _ _ _
      refine J_seq ?_
      refine J_region ?_
      refine L_v rfl rfl rfl (V_loadT 2 (vs := svC t v sn s1 s2 (ownV q es.length) (ownV q2 sg.length)) rfl rfl rfl Try.underlying69 rfl sz69n (by kernel_rfl) (by kernel_rfl)) ?_
      refine L_storeW 1 rfl rfl rfl rfl rfl rfl (szd sz69n (by kernel_rfl)) (all_one (by kernel_rfl)) (by kernel_rfl) ?_
      refine L_nil ?_
      change J _ _ _ _
      refine J_ret ?_
      change Kret _ _ _ Exit.ret _
      refine ret1 rfl rfl (RV_c 1 rfl rfl Try.underlying69 rfl (szd sz69n (by kernel_rfl))) ?_
      rw [List.take_length] at hac
      have hal : acc.length = es.length := by simpa using congrArg List.length hac
      have hal2 := hal
      exact fun w' h => ⟨s1, s2, (oA q, oC q), (oA q2, oC q2), acc, rfl, hac, h.fr, by
        have h' : OkW _ (([(b0, row 69 (svC t v sn a1 a2 (.slice e0.1 es.length e0.2) (.slice g0.1 sg.length g0.2))), (b1, row 69 (svC t v sn s1 s2 (ownV q es.length) (ownV q2 sg.length))), (b2, row 69 (svC t v sn s1 s2 (ownV q es.length) (ownV q2 sg.length)))] ++ ownM 102 q (acc.map enW).flatten) ++ ownM 41 q2 (sg.map sgM).flatten) _ w' := h
        exact (NewF.at h' 1 rfl n1).and (NewF.and (NewF.and (by rw [hal]; exact NewF.own h' rfl (fun x hx => List.mem_append_left _ (List.mem_append_right _ hx)) hq) (.all fun f hf => ⟨⟨(h'.facts f (List.mem_append_right _ hf)).1, fun k hk => ((h'.facts f (List.mem_append_right _ hf)).2 k hk).1⟩, hfE f hf⟩)) (NewF.own h' rfl (fun x hx => List.mem_append_right _ hx) hq2))⟩
  ·
    refine LO_s rfl rfl rfl (S_alloc rfl rfl rfl z69n (fun b2 => ⟨(Pk.of_sub (List.Sublist.cons_cons _ (List.nil_sublist _))), (fun f hf => hf), ?_⟩)) 
    refine LO_s rfl rfl rfl (S_call rfl rfl rfl tx44n (fun w1 hw => (ownSnap_w sn a1 a2 w1 (hw.fa 0 rfl).l hC).mono ?_))
    rintro e w' ⟨s1, s2, rfl, hfr, hn1⟩
    have n1 : ∀ k, (_ : Fact).fp k → w.heap.size ≤ k := fun k hk => Nat.le_trans hw.fr.size (hn1.new k hk)
    refine ⟨_, _, _, rfl, hw.newN hfr hn1, rfl, (Pk.of_sub (List.Sublist.cons_cons _ (List.nil_sublist _))), (fun f hf => List.mem_append_left _ (hf)), ?_⟩
    refine LO_v rfl rfl rfl rfl (V_buildE (v := .agg (svC t v sn s1 s2 (.slice none 0 0) (.slice none 0 0)).toArray) rfl rfl (fun w => by kernel_rfl)) ?_
    refine LO_s rfl rfl rfl (S_storeW 2 rfl rfl rfl rfl rfl (szd sz69n (by kernel_rfl)) (all_one (by kernel_rfl)) (by kernel_rfl) ⟨(Pk.of_sub (List.Sublist.cons_cons _ (List.nil_sublist _))), (fun f hf => List.mem_append_left _ (hf)), ?_⟩)
    refine LO_nil ?_
    change J _ _ _ _
    refine J_seq ?_
    refine J_seq ?_
    refine J_region ?_
    refine L_v rfl rfl rfl (V_assign rfl rfl) ?_
    refine L_nil ?_
    change J _ _ _ _
    refine J_block ?_
    refine J_loop (X := Nat × OwnR × List EnV) (fun x => { env := [(1, .pointer (some ⟨b0, 0, none⟩)), (2, .pointer (some ⟨b1, 0, none⟩)), (3, .pointer (some ⟨b2, 0, none⟩)), (4, .int .i64 (x.1 : Int))], mem := [(b0, row 69 (svC t v sn a1 a2 (.slice e0.1 es.length e0.2) (.slice g0.1 sg.length g0.2))), (b1, row 69 ([.int .i64 0, .int .i64 0, .int .i64 0, .int .i64 0, .slice none 0 0, .slice none 0 0, .string ByteArray.empty, .slice none 0 0, .slice none 0 0])), (b2, row 69 (svC t v sn s1 s2 (ownV x.2.1 x.1) (.slice none 0 0)))] ++ ownM 102 x.2.1 (x.2.2.map enW).flatten, facts := [svF sn es sg a1 a2 e0 g0, clF sn.2.2.1 s1 s2] ++ x.2.2.map enF }) (fun x => x.1 ≤ es.length ∧ OwnC 43 x.2.1 x.1 (x.2.2.map enW).flatten ∧ x.2.2.map Prod.fst = (es.take x.1).map Prod.fst ∧ ∀ f ∈ x.2.2.map enF, ∀ k, f.fp k → w.heap.size ≤ k) (fun x => es.length - x.1) (0, none, []) ⟨Nat.zero_le _, ⟨rfl, rfl⟩, rfl, fun f hf => by cases hf⟩ ⟨⟨rfl, rfl, rfl, rfl, trivial⟩, List.Sublist.refl _, (fun f hf => hf), rfl⟩ ?_
    rintro ⟨i, q, acc⟩ ⟨hin, hq, hac, hfE⟩
    simp only at hin hq hac hfE ⊢
    refine J_seq ?_
    refine J_seq ?_
    refine J_region ?_
    refine L_v rfl rfl rfl (V_move rfl rfl) ?_
    refine L_v rfl rfl rfl (V_fieldAddr rfl rfl Try.underlying69 rfl sz23n rfl) ?_
    refine L_v rfl rfl rfl (V_load1 0 rfl rfl rfl Try.underlying23 rfl (by rfl)) ?_
    refine L_v rfl rfl rfl (V_len rfl rfl Try.underlying23 rfl) ?_
    refine L_v rfl rfl rfl (V_lss rfl rfl rfl (by first | exact decide_eq_true (by omega) | exact decide_eq_false (by omega) | rfl)) ?_
    refine L_nil ?_
    change J _ _ _ _
    refine J_cond rfl (fun h1 => ?_) (fun h1 => ?_)
    ·
      first | (have h1 := of_decide_eq_true h1) | (have h1 := of_decide_eq_false h1) | skip
      have hi : i < es.length := by omega
      refine J_skip ?_
      change J _ _ _ _
      refine J_seq ?_
      refine J_block ?_
      refine J_regionO (.pure 0 (.pure 2 (.pure 3 (.pure 4 (.pure 5 (.pure 6 (.two 1 (.one 7 (.one 8 (.one 9 (.pure 10 (.one 11 (.nil)))))) 7 (.two 1 (.one 8 (.one 9 (.pure 10 (.one 11 (.nil))))) 8 (.one 1 (.one 9 (.pure 10 (.one 11 (.nil))))))))))))) ([(b0, row 69 (svC t v sn a1 a2 (.slice e0.1 es.length e0.2) (.slice g0.1 sg.length g0.2)))]) _ (Pk.of_sub (List.Sublist.cons_cons _ (List.nil_sublist _))) (fun f hf => hf) rfl rfl (by kernel_rfl) ?_
      refine LO_v rfl rfl rfl rfl (V_fieldAddr rfl rfl Try.underlying69 rfl sz23n rfl) ?_
      refine LO_v rfl rfl rfl rfl (V_fieldAddr rfl rfl Try.underlying69 rfl sz23n rfl) ?_
      refine LO_v rfl rfl rfl rfl (V_load1 0 rfl rfl rfl Try.underlying23 rfl (by rfl)) ?_
      refine LO_v rfl rfl rfl rfl (V_move rfl rfl) ?_
      refine LO_v rfl rfl rfl rfl (V_indexC rfl rfl rfl Try.underlying23 sz102n (fun w hw => (hw.fa 0 rfl).r.l.l.1) (by omega) (by omega)) ?_
      refine LO_v rfl rfl rfl rfl (V_loadCN (vs := enM ((es.getD i env0).1) ((es.getD i env0).2.1) ((es.getD i env0).2.2)) rfl rfl Try.underlying102 rfl (szd sz102n (by kernel_rfl)) (fun w hw => (hw.fa 0 rfl).r.l.l.1) (by exact Nat.zero_lt_succ _) (rows_v (f := enW) env0 (sz := 42) (fun _ => rfl) (by omega))) ?_
      refine LO_both ?_ ?_
      ·
        refine LO_s rfl rfl rfl (S_v rfl rfl (V_load1 2 rfl rfl rfl Try.underlying23 rfl rfl) ⟨(Pk.of_sub (List.Sublist.cons_cons _ (List.nil_sublist _))), (fun f hf => hf), ?_⟩) 
        refine LO_s rfl rfl rfl (S_call rfl rfl rfl tx45n (fun w1 hw => (ownEntry_w (es.getD i env0).1 _ _ w1 ((hw.fa 0 rfl).r.l.r.of (List.mem_map.2 ⟨_, getD_mem hi, rfl⟩)) (hE _ (getD_mem hi))).mono ?_))
        rintro e w' ⟨s3, s4, rfl, hfr, hn3⟩
        have n3 : ∀ k, (_ : Fact).fp k → w.heap.size ≤ k := fun k hk => Nat.le_trans hw.fr.size (hn3.new k hk)
        refine ⟨_, _, _, rfl, hw.newN hfr hn3, rfl, (Pk.of_sub (List.Sublist.cons_cons _ (List.nil_sublist _))), (fun f hf => List.mem_append_left _ (hf)), ?_⟩
        refine LO_s rfl rfl rfl (S_buildSlice (vs := [(0, .agg (enW ((es.getD i env0).1, s3, s4)).toArray)]) (l := enW ((es.getD i env0).1, s3, s4)) rfl rfl rfl rfl (bsE _) (fun b9 => ⟨(Pk.of_sub (List.Sublist.cons_cons _ (List.nil_sublist _))), (fun f hf => List.mem_append_left _ (hf)), ?_⟩)) 
        refine LO_s rfl rfl rfl (S_appendN ([(b0, row 69 (svC t v sn a1 a2 (.slice e0.1 es.length e0.2) (.slice g0.1 sg.length g0.2))), (b1, row 69 ([.int .i64 0, .int .i64 0, .int .i64 0, .int .i64 0, .slice none 0 0, .slice none 0 0, .string ByteArray.empty, .slice none 0 0, .slice none 0 0])), (b2, row 69 (svC t v sn s1 s2 (ownV q i) (.slice none 0 0)))]) [(b9, row 102 (enW ((es.getD i env0).1, s3, s4)))] q (acc.map enW).flatten (m := 1) (news := enW ((es.getD i env0).1, s3, s4)) rfl rfl rfl rfl Try.underlying23 elE (List.append_assoc _ _ _) hq (fun w1 hw => src_C Try.underlying23 (SlC.in hw (ks := enW ((es.getD i env0).1, s3, s4)) (r := []) (fz := (0, 0)) (List.mem_append_right _ (by rw [List.append_nil]; exact List.mem_singleton.2 rfl)) rfl 1) (all_one (by kernel_rfl))) (by omega) (by omega) (fun q4 hq4 => ⟨(Pk.of_sub (List.Sublist.cons_cons _ (List.nil_sublist _))), (fun f hf => List.mem_append_left _ (hf)), ?_⟩)) 
        refine LO_v rfl rfl rfl rfl (V_fieldAddr rfl rfl Try.underlying69 rfl sz23n rfl) ?_
        refine LO_s rfl rfl rfl (S_store1 2 rfl rfl rfl rfl rfl rfl sz23n (Nat.le_of_ble_eq_true (by kernel_rfl)) rfl ⟨(Pk.of_sub (List.Sublist.cons_cons _ (List.nil_sublist _))), (fun f hf => List.mem_append_left _ (hf)), ?_⟩)
        refine LO_nil ?_
        change J _ _ _ _
        refine J_region ?_
        refine L_v rfl rfl rfl (V_move rfl rfl) ?_
        refine L_v rfl rfl rfl (V_add rfl rfl rfl (by first | exact Go.IntWalk.i64_in _ (by omega) | rfl)) ?_
        refine L_v rfl rfl rfl (V_assign rfl rfl) ?_
        refine L_nil ?_
        exact ⟨(i + 1, q4, acc ++ [((es.getD i env0).1, s3, s4)]), ⟨by show i + 1 ≤ es.length; omega, by show OwnC 43 q4 (i + 1) ((acc ++ [_]).map enW).flatten; rw [← enW_app]; exact hq4, acc_fst hi hac, fun f hf => by
          rw [List.map_append] at hf
          rcases List.mem_append.1 hf with hf | hf
          · exact hfE f hf
          · obtain rfl := List.mem_singleton.1 hf
            exact n3⟩, by show es.length - (i + 1) < es.length - i; omega, ⟨rfl, rfl, rfl, rfl, trivial⟩, (by rw [← enW_app, ← List.append_assoc]; exact List.sublist_append_left _ _), facts_app (f0 := [svF sn es sg a1 a2 e0 g0, clF sn.2.2.1 s1 s2]), rfl⟩
      ·
        refine LO_s rfl rfl rfl (S_call rfl rfl rfl tx45n (fun w1 hw => (ownEntry_w (es.getD i env0).1 _ _ w1 ((hw.fa 0 rfl).r.l.r.of (List.mem_map.2 ⟨_, getD_mem hi, rfl⟩)) (hE _ (getD_mem hi))).mono ?_))
        rintro e w' ⟨s3, s4, rfl, hfr, hn3⟩
        have n3 : ∀ k, (_ : Fact).fp k → w.heap.size ≤ k := fun k hk => Nat.le_trans hw.fr.size (hn3.new k hk)
        refine ⟨_, _, _, rfl, hw.newN hfr hn3, rfl, (Pk.of_sub (List.Sublist.cons_cons _ (List.nil_sublist _))), (fun f hf => List.mem_append_left _ (hf)), ?_⟩
        refine LO_both ?_ ?_
        ·
          refine LO_s rfl rfl rfl (S_v rfl rfl (V_load1 2 rfl rfl rfl Try.underlying23 rfl rfl) ⟨(Pk.of_sub (List.Sublist.cons_cons _ (List.nil_sublist _))), (fun f hf => List.mem_append_left _ (hf)), ?_⟩) 
          refine LO_s rfl rfl rfl (S_buildSlice (vs := [(0, .agg (enW ((es.getD i env0).1, s3, s4)).toArray)]) (l := enW ((es.getD i env0).1, s3, s4)) rfl rfl rfl rfl (bsE _) (fun b9 => ⟨(Pk.of_sub (List.Sublist.cons_cons _ (List.nil_sublist _))), (fun f hf => List.mem_append_left _ (hf)), ?_⟩)) 
          refine LO_s rfl rfl rfl (S_appendN ([(b0, row 69 (svC t v sn a1 a2 (.slice e0.1 es.length e0.2) (.slice g0.1 sg.length g0.2))), (b1, row 69 ([.int .i64 0, .int .i64 0, .int .i64 0, .int .i64 0, .slice none 0 0, .slice none 0 0, .string ByteArray.empty, .slice none 0 0, .slice none 0 0])), (b2, row 69 (svC t v sn s1 s2 (ownV q i) (.slice none 0 0)))]) [(b9, row 102 (enW ((es.getD i env0).1, s3, s4)))] q (acc.map enW).flatten (m := 1) (news := enW ((es.getD i env0).1, s3, s4)) rfl rfl rfl rfl Try.underlying23 elE (List.append_assoc _ _ _) hq (fun w1 hw => src_C Try.underlying23 (SlC.in hw (ks := enW ((es.getD i env0).1, s3, s4)) (r := []) (fz := (0, 0)) (List.mem_append_right _ (by rw [List.append_nil]; exact List.mem_singleton.2 rfl)) rfl 1) (all_one (by kernel_rfl))) (by omega) (by omega) (fun q4 hq4 => ⟨(Pk.of_sub (List.Sublist.cons_cons _ (List.nil_sublist _))), (fun f hf => List.mem_append_left _ (hf)), ?_⟩)) 
          refine LO_v rfl rfl rfl rfl (V_fieldAddr rfl rfl Try.underlying69 rfl sz23n rfl) ?_
          refine LO_s rfl rfl rfl (S_store1 2 rfl rfl rfl rfl rfl rfl sz23n (Nat.le_of_ble_eq_true (by kernel_rfl)) rfl ⟨(Pk.of_sub (List.Sublist.cons_cons _ (List.nil_sublist _))), (fun f hf => List.mem_append_left _ (hf)), ?_⟩)
          refine LO_nil ?_
          change J _ _ _ _
          refine J_region ?_
          refine L_v rfl rfl rfl (V_move rfl rfl) ?_
          refine L_v rfl rfl rfl (V_add rfl rfl rfl (by first | exact Go.IntWalk.i64_in _ (by omega) | rfl)) ?_
          refine L_v rfl rfl rfl (V_assign rfl rfl) ?_
          refine L_nil ?_
          exact ⟨(i + 1, q4, acc ++ [((es.getD i env0).1, s3, s4)]), ⟨by show i + 1 ≤ es.length; omega, by show OwnC 43 q4 (i + 1) ((acc ++ [_]).map enW).flatten; rw [← enW_app]; exact hq4, acc_fst hi hac, fun f hf => by
            rw [List.map_append] at hf
            rcases List.mem_append.1 hf with hf | hf
            · exact hfE f hf
            · obtain rfl := List.mem_singleton.1 hf
              exact n3⟩, by show es.length - (i + 1) < es.length - i; omega, ⟨rfl, rfl, rfl, rfl, trivial⟩, (by rw [← enW_app, ← List.append_assoc]; exact List.sublist_append_left _ _), facts_app (f0 := [svF sn es sg a1 a2 e0 g0, clF sn.2.2.1 s1 s2]), rfl⟩
        ·
          refine LO_s rfl rfl rfl (S_buildSlice (vs := [(0, .agg (enW ((es.getD i env0).1, s3, s4)).toArray)]) (l := enW ((es.getD i env0).1, s3, s4)) rfl rfl rfl rfl (bsE _) (fun b9 => ⟨(Pk.of_sub (List.Sublist.cons_cons _ (List.nil_sublist _))), (fun f hf => List.mem_append_left _ (hf)), ?_⟩)) 
          refine LO_s rfl rfl rfl (S_v rfl rfl (V_load1 2 rfl rfl rfl Try.underlying23 rfl rfl) ⟨(Pk.of_sub (List.Sublist.cons_cons _ (List.nil_sublist _))), (fun f hf => List.mem_append_left _ (hf)), ?_⟩) 
          refine LO_s rfl rfl rfl (S_appendN ([(b0, row 69 (svC t v sn a1 a2 (.slice e0.1 es.length e0.2) (.slice g0.1 sg.length g0.2))), (b1, row 69 ([.int .i64 0, .int .i64 0, .int .i64 0, .int .i64 0, .slice none 0 0, .slice none 0 0, .string ByteArray.empty, .slice none 0 0, .slice none 0 0])), (b2, row 69 (svC t v sn s1 s2 (ownV q i) (.slice none 0 0)))]) [(b9, row 102 (enW ((es.getD i env0).1, s3, s4)))] q (acc.map enW).flatten (m := 1) (news := enW ((es.getD i env0).1, s3, s4)) rfl rfl rfl rfl Try.underlying23 elE (List.append_assoc _ _ _) hq (fun w1 hw => src_C Try.underlying23 (SlC.in hw (ks := enW ((es.getD i env0).1, s3, s4)) (r := []) (fz := (0, 0)) (List.mem_append_right _ (by rw [List.append_nil]; exact List.mem_singleton.2 rfl)) rfl 1) (all_one (by kernel_rfl))) (by omega) (by omega) (fun q4 hq4 => ⟨(Pk.of_sub (List.Sublist.cons_cons _ (List.nil_sublist _))), (fun f hf => List.mem_append_left _ (hf)), ?_⟩)) 
          refine LO_v rfl rfl rfl rfl (V_fieldAddr rfl rfl Try.underlying69 rfl sz23n rfl) ?_
          refine LO_s rfl rfl rfl (S_store1 2 rfl rfl rfl rfl rfl rfl sz23n (Nat.le_of_ble_eq_true (by kernel_rfl)) rfl ⟨(Pk.of_sub (List.Sublist.cons_cons _ (List.nil_sublist _))), (fun f hf => List.mem_append_left _ (hf)), ?_⟩)
          refine LO_nil ?_
          change J _ _ _ _
          refine J_region ?_
          refine L_v rfl rfl rfl (V_move rfl rfl) ?_
          refine L_v rfl rfl rfl (V_add rfl rfl rfl (by first | exact Go.IntWalk.i64_in _ (by omega) | rfl)) ?_
          refine L_v rfl rfl rfl (V_assign rfl rfl) ?_
          refine L_nil ?_
          exact ⟨(i + 1, q4, acc ++ [((es.getD i env0).1, s3, s4)]), ⟨by show i + 1 ≤ es.length; omega, by show OwnC 43 q4 (i + 1) ((acc ++ [_]).map enW).flatten; rw [← enW_app]; exact hq4, acc_fst hi hac, fun f hf => by
            rw [List.map_append] at hf
            rcases List.mem_append.1 hf with hf | hf
            · exact hfE f hf
            · obtain rfl := List.mem_singleton.1 hf
              exact n3⟩, by show es.length - (i + 1) < es.length - i; omega, ⟨rfl, rfl, rfl, rfl, trivial⟩, (by rw [← enW_app, ← List.append_assoc]; exact List.sublist_append_left _ _), facts_app (f0 := [svF sn es sg a1 a2 e0 g0, clF sn.2.2.1 s1 s2]), rfl⟩
    ·
      first | (have h1 := of_decide_eq_true h1) | (have h1 := of_decide_eq_false h1) | skip
      obtain rfl : i = es.length := by omega
      refine J_exit ?_
      change J _ _ _ _
      refine J_seq ?_
      refine J_region ?_
      refine L_v rfl rfl rfl (V_fieldAddr rfl rfl Try.underlying69 rfl sz67n rfl) ?_
      refine L_v rfl rfl rfl (V_load1 2 rfl rfl rfl Try.underlying67 rfl (by rfl)) ?_
      refine L_v rfl rfl rfl (V_fieldAddr rfl rfl Try.underlying69 rfl sz67n rfl) ?_
      refine L_v rfl rfl rfl (V_load1 0 rfl rfl rfl Try.underlying67 rfl (by rfl)) ?_
      refine L_appL ([(b0, row 69 (svC t v sn a1 a2 (.slice e0.1 es.length e0.2) (.slice g0.1 sg.length g0.2))), (b1, row 69 ([.int .i64 0, .int .i64 0, .int .i64 0, .int .i64 0, .slice none 0 0, .slice none 0 0, .string ByteArray.empty, .slice none 0 0, .slice none 0 0])), (b2, row 69 (svC t v sn s1 s2 (ownV q es.length) (.slice none 0 0)))] ++ ownM 102 q (acc.map enW).flatten) none [] (m := sg.length) (n' := sg.length) (news := (sg.map sgM).flatten) (ks' := (sg.map sgM).flatten) rfl rfl rfl rfl rfl Try.underlying67 elS (List.append_nil _).symm ⟨rfl, rfl⟩ (fun w1 hw => src_C Try.underlying67 (hw.fa 0 rfl).r.r.1 (one_map (fun _ => by kernel_rfl) sg)) (Nat.zero_add _) (List.nil_append _) (by omega) (by omega) (fun q2 hq2 => ?_)
      refine L_v rfl rfl rfl (V_fieldAddr rfl rfl Try.underlying69 rfl sz67n rfl) ?_
      refine L_store1 2 rfl rfl rfl rfl rfl rfl rfl sz67n (Nat.le_of_ble_eq_true (by kernel_rfl)) rfl ?_
      refine L_nil ?_
      change J _ _ _ _
      refine J_seq ?_
      refine J_region ?_
      refine L_v rfl rfl rfl (V_loadT 2 (vs := svC t v sn s1 s2 (ownV q es.length) (ownV q2 sg.length)) rfl rfl rfl Try.underlying69 rfl sz69n (by kernel_rfl) (by kernel_rfl)) ?_
      refine L_storeW 1 rfl rfl rfl rfl rfl rfl (szd sz69n (by kernel_rfl)) (all_one (by kernel_rfl)) (by kernel_rfl) ?_
      refine L_nil ?_
      change J _ _ _ _
      refine J_ret ?_
      change Kret _ _ _ Exit.ret _
      refine ret1 rfl rfl (RV_c 1 rfl rfl Try.underlying69 rfl (szd sz69n (by kernel_rfl))) ?_
      rw [List.take_length] at hac
      have hal : acc.length = es.length := by simpa using congrArg List.length hac
      have hal2 := hal
      exact fun w' h => ⟨s1, s2, (oA q, oC q), (oA q2, oC q2), acc, rfl, hac, h.fr, by
        have h' : OkW _ (([(b0, row 69 (svC t v sn a1 a2 (.slice e0.1 es.length e0.2) (.slice g0.1 sg.length g0.2))), (b1, row 69 (svC t v sn s1 s2 (ownV q es.length) (ownV q2 sg.length))), (b2, row 69 (svC t v sn s1 s2 (ownV q es.length) (ownV q2 sg.length)))] ++ ownM 102 q (acc.map enW).flatten) ++ ownM 41 q2 (sg.map sgM).flatten) _ w' := h
        exact (NewF.at h' 1 rfl n1).and (NewF.and (NewF.and (by rw [hal]; exact NewF.own h' rfl (fun x hx => List.mem_append_left _ (List.mem_append_right _ hx)) hq) (.all fun f hf => ⟨⟨(h'.facts f (List.mem_append_right _ hf)).1, fun k hk => ((h'.facts f (List.mem_append_right _ hf)).2 k hk).1⟩, hfE f hf⟩)) (NewF.own h' rfl (fun x hx => List.mem_append_right _ hx) hq2))⟩

theorem own_n (t v : Int) (sn : Sn) (es : List EnV) (sg : List Sg) (a1 a2 e0 g0 : Sl) (w : World) (f1 : FA w (svF sn es sg a1 a2 e0 g0)) (hC : SzC sn.2.2.1) (hE : ∀ p ∈ es, SzC p.1.2.2.2.2) (hB : es.length ≤ 549755813888) (hG : sg.length ≤ 549755813888) (n : Nat) (hn : n = es.length) :
    Calls Try.prog 21 #[.agg (svC t v sn a1 a2 (.slice e0.1 n e0.2) (.slice g0.1 sg.length g0.2)).toArray] w fun e w' => ∃ (c1 c2 c3 c4 : Sl) (gs : List EnV), e = .returned (.agg (svC t v sn c1 c2 (.slice c3.1 n c3.2) (.slice c4.1 sg.length c4.2)).toArray) ∧ gs.map Prod.fst = es.map Prod.fst ∧ Fr [] w w' ∧ NewF w w' (svF sn gs sg c1 c2 c3 c4) := by
  subst hn
  exact own_w t v sn es sg a1 a2 e0 g0 w f1 hC hE hB hG

set_option maxHeartbeats 4000000 in
theorem ownMessage_w (x : Ms) (m : M5) (es : List EnV) (w : World) (hx : x.entries = es.map Prod.fst) (f1 : FA w (msF x m es)) (hB : Sz x es) :
    Calls Try.prog 7 #[.agg (msM x m).toArray] w fun e w' => ∃ (n : M5) (gs : List EnV), e = .returned (.agg (msM x n).toArray) ∧ x.entries = gs.map Prod.fst ∧ Fr [] w w' ∧ NewF w w' (msF x n gs) := by
  have lx : x.entries.length = es.length := by rw [hx, List.length_map]
  refine calls_of (args := [.agg (msM x m).toArray]) ([]) ([]) ([msF x m es]) Try.func7 rfl rfl (okFW (.cons f1 .nil)) ?_
  refine J_seq ?_
  refine J_region ?_
  refine L_box rfl rfl rfl rfl rfl (fun b0 => ?_)
  refine L_alloc rfl rfl rfl rfl z45n (fun b1 => ?_)
  refine L_nil ?_
  change J _ _ _ _
  refine J_seq ?_
  refine J_region ?_
  refine L_v rfl rfl rfl (V_fieldAddr rfl rfl Try.underlying45 rfl sz23n rfl) ?_
  refine L_v rfl rfl rfl (V_load1 0 rfl rfl rfl Try.underlying23 rfl (by rfl)) ?_
  refine L_v rfl rfl rfl (V_buildE (v := .agg (svC 0 0 sn00 slN slN (.slice m.e.1 x.entries.length m.e.2) (.slice none 0 0)).toArray) rfl rfl (fun w => by kernel_rfl)) ?_
  refine L_call rfl rfl rfl rfl tx21n (fun w1 hw => (own_n 0 0 sn00 es [] slN slN m.e slN w1 (.and fa_clN (.and (hw.fa 0 rfl).l (fa_nil1 rfl rfl))) ⟨Nat.zero_le _, Nat.zero_le _⟩ hB.c hB.e (Nat.zero_le _) _ lx).mono ?_)
  rintro e w' ⟨c1, c2, c3, c4, gs, rfl, hgs, hfr, hn1⟩
  have n1 : ∀ k, (_ : Fact).fp k → w.heap.size ≤ k := fun k hk => Nat.le_trans hw.fr.size (hn1.new k hk)
  refine ⟨_, _, _, rfl, hw.newN hfr hn1, rfl, ?_⟩
  refine L_v rfl rfl rfl (V_field1 rfl rfl Try.underlying69 rfl Try.underlying23 rfl rfl) ?_
  refine L_v rfl rfl rfl (V_fieldAddr rfl rfl Try.underlying45 rfl sz23n rfl) ?_
  refine L_store1 0 (l' := msM x (M5.mk c3 m.a m.b m.v m.s)) rfl rfl rfl rfl rfl rfl rfl sz23n (Nat.le_of_ble_eq_true (by kernel_rfl)) (by kernel_rfl) ?_
  refine L_nil ?_
  change J _ _ _ _
  refine J_seq ?_
  refine J_region ?_
  refine L_v rfl rfl rfl (V_fieldAddr rfl rfl Try.underlying45 rfl sz26n rfl) ?_
  refine L_v rfl rfl rfl (V_loadT 0 (vs := clM x.council ((M5.mk c3 m.a m.b m.v m.s).a) ((M5.mk c3 m.a m.b m.v m.s).b)) rfl rfl rfl Try.underlying26 rfl sz26n (by kernel_rfl) (by kernel_rfl)) ?_
  refine L_call rfl rfl rfl rfl tx22n (fun w1 hw => (ownCouncil_w x.council m.a m.b w1 (hw.fa 0 rfl).r.l hB.l).mono ?_)
  rintro e w' ⟨s1, s2, rfl, hfr, hn2⟩
  have n2 : ∀ k, (_ : Fact).fp k → w.heap.size ≤ k := fun k hk => Nat.le_trans hw.fr.size (hn2.new k hk)
  refine ⟨_, _, _, rfl, hw.newN hfr hn2, rfl, ?_⟩
  refine L_v rfl rfl rfl (V_fieldAddr rfl rfl Try.underlying45 rfl sz26n rfl) ?_
  refine L_storeT 0 (l' := msM x (M5.mk c3 s1 s2 m.v m.s)) rfl rfl rfl rfl rfl rfl (szd sz26n (by kernel_rfl)) (all_one (by kernel_rfl)) (Nat.le_of_ble_eq_true (by kernel_rfl)) (by kernel_rfl) ?_
  refine L_nil ?_
  change J _ _ _ _
  refine J_seq ?_
  refine J_region ?_
  refine L_v rfl rfl rfl (V_assign rfl rfl) ?_
  refine L_nil ?_
  change J _ _ _ _
  refine J_seq ?_
  refine J_region ?_
  refine L_v rfl rfl rfl (V_move rfl rfl) ?_
  refine L_v rfl rfl rfl (V_fieldAddr rfl rfl Try.underlying45 rfl sz43n rfl) ?_
  refine L_v rfl rfl rfl (V_fieldAddr rfl rfl Try.underlying43 rfl sz34n rfl) ?_
  refine L_v rfl rfl rfl (V_load1 0 rfl rfl rfl Try.underlying34 rfl (by rfl)) ?_
  refine L_appL ([(b0, row 45 (msM x (M5.mk c3 s1 s2 m.v m.s))), (b1, row 45 ([.int .i64 0, .int .i64 0, .int .i64 0, .int .i64 0, .int .i64 0, .int .i64 0, .int .i64 0, .int .i64 0, .bool false, .slice none 0 0, .slice none 0 0, .slice none 0 0, .int .i64 0, .int .i64 0, .string ByteArray.empty, .int .i64 0, .int .i64 0, .int .i64 0, .string ByteArray.empty, .string ByteArray.empty, .int .i64 0, .int .u8 0, .int .u8 0, .int .u8 0, .int .u8 0, .int .u8 0, .int .u8 0, .int .u8 0, .int .u8 0, .int .u8 0, .int .u8 0, .int .u8 0, .int .u8 0, .int .u8 0, .int .u8 0, .int .u8 0, .int .u8 0, .int .u8 0, .int .u8 0, .int .u8 0, .int .u8 0, .int .u8 0, .int .u8 0, .int .u8 0, .int .u8 0, .int .u8 0, .int .u8 0, .int .u8 0, .int .u8 0, .int .u8 0, .int .u8 0, .int .u8 0, .int .u8 0, .int .i64 0, .int .i64 0, .string ByteArray.empty, .int .i64 0, .int .i64 0, .int .i64 0, .int .i64 0, .int .i64 0, .slice none 0 0, .slice none 0 0, .bool false, .int .u8 0, .int .u8 0, .int .u8 0, .int .u8 0, .int .u8 0, .int .u8 0, .int .u8 0, .int .u8 0, .int .u8 0, .int .u8 0, .int .u8 0, .int .u8 0, .int .u8 0, .int .u8 0, .int .u8 0, .int .u8 0, .int .u8 0, .int .u8 0, .int .u8 0, .int .u8 0, .int .u8 0, .int .u8 0, .int .u8 0, .int .u8 0, .int .u8 0, .int .u8 0, .int .u8 0, .int .u8 0, .int .u8 0, .int .u8 0, .int .u8 0, .int .u8 0, .int .u8 0, .int .u8 0, .int .u8 0, .int .u8 0, .int .u8 0, .int .u8 0, .int .u8 0, .int .u8 0, .int .u8 0, .int .u8 0, .int .u8 0, .int .u8 0, .int .u8 0, .int .u8 0, .int .u8 0, .int .u8 0, .int .u8 0, .int .u8 0, .int .u8 0, .int .u8 0, .int .u8 0, .int .u8 0, .int .u8 0, .int .u8 0, .int .u8 0, .int .u8 0, .int .u8 0, .int .u8 0, .int .u8 0, .int .u8 0, .int .u8 0, .int .u8 0, .int .i64 0, .int .u8 0, .int .u8 0, .int .u8 0, .int .u8 0, .int .u8 0, .int .u8 0, .int .u8 0, .int .u8 0, .int .u8 0, .int .u8 0, .int .u8 0, .int .u8 0, .int .u8 0, .int .u8 0, .int .u8 0, .int .u8 0, .int .u8 0, .int .u8 0, .int .u8 0, .int .u8 0, .int .u8 0, .int .u8 0, .int .u8 0, .int .u8 0, .int .u8 0, .int .u8 0, .int .u8 0, .int .u8 0, .int .u8 0, .int .u8 0, .int .u8 0, .int .u8 0, .int .u8 0, .int .u8 0, .int .u8 0, .int .u8 0, .int .u8 0, .int .u8 0, .int .u8 0, .int .u8 0, .int .u8 0, .int .u8 0, .int .u8 0, .int .u8 0, .int .u8 0, .int .u8 0, .int .u8 0, .int .u8 0, .int .u8 0, .int .u8 0, .int .u8 0, .int .u8 0, .int .u8 0, .int .u8 0, .int .u8 0, .int .u8 0, .int .u8 0, .int .u8 0, .int .u8 0, .int .u8 0, .int .u8 0, .int .u8 0, .int .u8 0, .int .u8 0, .int .u8 0, .int .u8 0, .int .u8 0, .int .u8 0, .int .u8 0, .int .u8 0, .int .u8 0, .int .u8 0, .int .u8 0, .int .u8 0, .int .u8 0, .int .u8 0, .int .u8 0, .int .u8 0, .int .u8 0, .int .u8 0, .int .u8 0, .int .u8 0, .int .u8 0, .int .u8 0, .int .u8 0, .int .u8 0, .int .u8 0, .int .u8 0, .int .u8 0, .int .u8 0, .int .u8 0, .int .u8 0, .int .u8 0, .int .u8 0, .int .u8 0, .int .u8 0]))]) none [] (m := x.reply.vers.length) (n' := x.reply.vers.length) (news := (x.reply.vers.map vrM).flatten) (ks' := (x.reply.vers.map vrM).flatten) rfl rfl rfl rfl rfl Try.underlying34 elV (List.append_nil _).symm ⟨rfl, rfl⟩ (fun w1 hw => src_C Try.underlying34 (hw.fa 0 rfl).r.r.l.1 (one_map (fun _ => rfl) _)) (Nat.zero_add _) (List.nil_append _) (by have := hB.v; omega) (by have := hB.v; omega) (fun q1 hq1 => ?_)
  refine L_v rfl rfl rfl (V_assign rfl rfl) ?_
  refine L_nil ?_
  change J _ _ _ _
  refine J_seq ?_
  refine J_region ?_
  refine L_v rfl rfl rfl (V_move rfl rfl) ?_
  refine L_v rfl rfl rfl (V_fieldAddr rfl rfl Try.underlying45 rfl sz43n rfl) ?_
  refine L_v rfl rfl rfl (V_fieldAddr rfl rfl Try.underlying43 rfl sz34n rfl) ?_
  refine L_store1 0 (l' := msM x (M5.mk c3 s1 s2 (oA q1, oC q1) m.s)) rfl rfl rfl rfl rfl rfl rfl sz34n (Nat.le_of_ble_eq_true (by kernel_rfl)) (by kernel_rfl) ?_
  refine L_nil ?_
  change J _ _ _ _
  refine J_seq ?_
  refine J_region ?_
  refine L_v rfl rfl rfl (V_assign rfl rfl) ?_
  refine L_nil ?_
  change J _ _ _ _
  refine J_seq ?_
  refine J_region ?_
  refine L_v rfl rfl rfl (V_move rfl rfl) ?_
  refine L_v rfl rfl rfl (V_fieldAddr rfl rfl Try.underlying45 rfl sz43n rfl) ?_
  refine L_v rfl rfl rfl (V_fieldAddr rfl rfl Try.underlying43 rfl sz37n rfl) ?_
  refine L_v rfl rfl rfl (V_fieldAddr rfl rfl Try.underlying37 rfl sz35n rfl) ?_
  refine L_v rfl rfl rfl (V_load1 0 rfl rfl rfl Try.underlying35 rfl (by rfl)) ?_
  refine L_appL (([(b0, row 45 (msM x (M5.mk c3 s1 s2 (oA q1, oC q1) m.s))), (b1, row 45 ([.int .i64 0, .int .i64 0, .int .i64 0, .int .i64 0, .int .i64 0, .int .i64 0, .int .i64 0, .int .i64 0, .bool false, .slice none 0 0, .slice none 0 0, .slice none 0 0, .int .i64 0, .int .i64 0, .string ByteArray.empty, .int .i64 0, .int .i64 0, .int .i64 0, .string ByteArray.empty, .string ByteArray.empty, .int .i64 0, .int .u8 0, .int .u8 0, .int .u8 0, .int .u8 0, .int .u8 0, .int .u8 0, .int .u8 0, .int .u8 0, .int .u8 0, .int .u8 0, .int .u8 0, .int .u8 0, .int .u8 0, .int .u8 0, .int .u8 0, .int .u8 0, .int .u8 0, .int .u8 0, .int .u8 0, .int .u8 0, .int .u8 0, .int .u8 0, .int .u8 0, .int .u8 0, .int .u8 0, .int .u8 0, .int .u8 0, .int .u8 0, .int .u8 0, .int .u8 0, .int .u8 0, .int .u8 0, .int .i64 0, .int .i64 0, .string ByteArray.empty, .int .i64 0, .int .i64 0, .int .i64 0, .int .i64 0, .int .i64 0, .slice none 0 0, .slice none 0 0, .bool false, .int .u8 0, .int .u8 0, .int .u8 0, .int .u8 0, .int .u8 0, .int .u8 0, .int .u8 0, .int .u8 0, .int .u8 0, .int .u8 0, .int .u8 0, .int .u8 0, .int .u8 0, .int .u8 0, .int .u8 0, .int .u8 0, .int .u8 0, .int .u8 0, .int .u8 0, .int .u8 0, .int .u8 0, .int .u8 0, .int .u8 0, .int .u8 0, .int .u8 0, .int .u8 0, .int .u8 0, .int .u8 0, .int .u8 0, .int .u8 0, .int .u8 0, .int .u8 0, .int .u8 0, .int .u8 0, .int .u8 0, .int .u8 0, .int .u8 0, .int .u8 0, .int .u8 0, .int .u8 0, .int .u8 0, .int .u8 0, .int .u8 0, .int .u8 0, .int .u8 0, .int .u8 0, .int .u8 0, .int .u8 0, .int .u8 0, .int .u8 0, .int .u8 0, .int .u8 0, .int .u8 0, .int .u8 0, .int .u8 0, .int .u8 0, .int .u8 0, .int .u8 0, .int .u8 0, .int .u8 0, .int .u8 0, .int .u8 0, .int .u8 0, .int .u8 0, .int .i64 0, .int .u8 0, .int .u8 0, .int .u8 0, .int .u8 0, .int .u8 0, .int .u8 0, .int .u8 0, .int .u8 0, .int .u8 0, .int .u8 0, .int .u8 0, .int .u8 0, .int .u8 0, .int .u8 0, .int .u8 0, .int .u8 0, .int .u8 0, .int .u8 0, .int .u8 0, .int .u8 0, .int .u8 0, .int .u8 0, .int .u8 0, .int .u8 0, .int .u8 0, .int .u8 0, .int .u8 0, .int .u8 0, .int .u8 0, .int .u8 0, .int .u8 0, .int .u8 0, .int .u8 0, .int .u8 0, .int .u8 0, .int .u8 0, .int .u8 0, .int .u8 0, .int .u8 0, .int .u8 0, .int .u8 0, .int .u8 0, .int .u8 0, .int .u8 0, .int .u8 0, .int .u8 0, .int .u8 0, .int .u8 0, .int .u8 0, .int .u8 0, .int .u8 0, .int .u8 0, .int .u8 0, .int .u8 0, .int .u8 0, .int .u8 0, .int .u8 0, .int .u8 0, .int .u8 0, .int .u8 0, .int .u8 0, .int .u8 0, .int .u8 0, .int .u8 0, .int .u8 0, .int .u8 0, .int .u8 0, .int .u8 0, .int .u8 0, .int .u8 0, .int .u8 0, .int .u8 0, .int .u8 0, .int .u8 0, .int .u8 0, .int .u8 0, .int .u8 0, .int .u8 0, .int .u8 0, .int .u8 0, .int .u8 0, .int .u8 0, .int .u8 0, .int .u8 0, .int .u8 0, .int .u8 0, .int .u8 0, .int .u8 0, .int .u8 0, .int .u8 0, .int .u8 0, .int .u8 0, .int .u8 0, .int .u8 0, .int .u8 0, .int .u8 0]))] ++ ownM 116 q1 (x.reply.vers.map vrM).flatten)) none [] (m := x.reply.pf.sib.length) (n' := x.reply.pf.sib.length) (news := (x.reply.pf.sib.map dgM).flatten) (ks' := (x.reply.pf.sib.map dgM).flatten) rfl rfl rfl rfl rfl Try.underlying35 elD (List.append_nil _).symm ⟨rfl, rfl⟩ (fun w1 hw => src_C Try.underlying35 (hw.fa 0 rfl).r.r.r.1 (one_map (fun _ => by kernel_rfl) _)) (Nat.zero_add _) (List.nil_append _) (by have := hB.s; omega) (by have := hB.s; omega) (fun q2 hq2 => ?_)
  refine L_v rfl rfl rfl (V_assign rfl rfl) ?_
  refine L_nil ?_
  change J _ _ _ _
  refine J_seq ?_
  refine J_region ?_
  refine L_v rfl rfl rfl (V_move rfl rfl) ?_
  refine L_v rfl rfl rfl (V_fieldAddr rfl rfl Try.underlying45 rfl sz43n rfl) ?_
  refine L_v rfl rfl rfl (V_fieldAddr rfl rfl Try.underlying43 rfl sz37n rfl) ?_
  refine L_v rfl rfl rfl (V_fieldAddr rfl rfl Try.underlying37 rfl sz35n rfl) ?_
  refine L_store1 0 (l' := msM x (M5.mk c3 s1 s2 (oA q1, oC q1) (oA q2, oC q2))) rfl rfl rfl rfl rfl rfl rfl sz35n (Nat.le_of_ble_eq_true (by kernel_rfl)) (by kernel_rfl) ?_
  refine L_nil ?_
  change J _ _ _ _
  refine J_seq ?_
  refine J_region ?_
  refine L_v rfl rfl rfl (V_loadT 0 (vs := msM x (M5.mk c3 s1 s2 (oA q1, oC q1) (oA q2, oC q2))) rfl rfl rfl Try.underlying45 rfl sz45n (by kernel_rfl) (by kernel_rfl)) ?_
  refine L_storeW 1 rfl rfl rfl rfl rfl rfl (szd sz45n (by kernel_rfl)) (all_one (by kernel_rfl)) (by kernel_rfl) ?_
  refine L_nil ?_
  change J _ _ _ _
  refine J_ret ?_
  change Kret _ _ _ Exit.ret _
  refine ret1 rfl rfl (RV_c 1 rfl rfl Try.underlying45 rfl (szd sz45n (by kernel_rfl))) ?_
  exact fun w' h => ⟨M5.mk c3 s1 s2 (oA q1, oC q1) (oA q2, oC q2), gs, rfl, hx.trans hgs.symm, h.fr, by
    have h' : OkW _ (([(b0, row 45 (msM x (M5.mk c3 s1 s2 (oA q1, oC q1) (oA q2, oC q2)))), (b1, row 45 (msM x (M5.mk c3 s1 s2 (oA q1, oC q1) (oA q2, oC q2))))] ++ ownM 116 q1 (x.reply.vers.map vrM).flatten) ++ ownM 29 q2 (x.reply.pf.sib.map dgM).flatten) _ w' := h
    exact NewF.and (NewF.at h' 1 rfl n1).r.l (NewF.and (NewF.at h' 2 rfl n2) (NewF.and (NewF.own h' rfl (fun x hx => List.mem_append_left _ (List.mem_append_right _ hx)) hq1) (NewF.own h' rfl (fun x hx => List.mem_append_right _ hx) hq2)))⟩

end Go.Proofs.Ytfdmjjhgdbpfeaa
