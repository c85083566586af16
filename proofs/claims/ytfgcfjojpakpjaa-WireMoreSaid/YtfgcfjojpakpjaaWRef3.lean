/- What the reference of layer 8 lays: users, a directory. -/
import Derived.Test.YtfgcfjojpakpjaaWRPuts
import Derived.Test.YtfgcfjojpakpjaaWIn2
set_option linter.unusedVariables false
set_option linter.unusedSimpArgs false
set_option maxRecDepth 100000
namespace Go.Proofs.Ytfgcfjojpakpjaa
open Go.Sx
abbrev UD : Us × Value := ((v0'', []), .nilFunc)
theorem us_2 {us : List (Us × Value)} : ∀ e ∈ us.map usW, e.length = 2 := by
  intro e he
  obtain ⟨p, _, rfl⟩ := List.mem_map.1 he
  rfl
theorem us_s {us : List (Us × Value)} {i : Nat} (h : i < us.length) : (us.map usW).flatten[((i : Nat) : Int).toNat * (1 + 1)]? = some (.string (us.getD i UD).1.1) := by
  have := flat_get (sz := 2) (es := us.map usW) (i := i) 0 us_2 (by simpa using h) (by decide)
  rw [Int.toNat_natCast]
  refine this.trans ?_
  rw [us_getV h]
  rfl
theorem us_v {us : List (Us × Value)} {i : Nat} {v : Value} (h : i < us.length) (hy : (us.getD i UD).2 = v) : (us.map usW).flatten[((i : Nat) : Int).toNat * (1 + 1) + 1]? = some v := by
  have := flat_get (sz := 2) (es := us.map usW) (i := i) 1 us_2 (by simpa using h) (by decide)
  rw [Int.toNat_natCast]
  refine this.trans ?_
  rw [us_getV h, ← hy]
  rfl
theorem vs_3 {vs : List Vr} : ∀ e ∈ vs.map vrV, e.length = 3 := by
  intro e he
  obtain ⟨p, _, rfl⟩ := List.mem_map.1 he
  rfl
theorem vs_k {vs : List Vr} {j : Nat} (k : Nat) (h : j < vs.length) (hk : k < 3) : (vs.map vrV).flatten[((j : Nat) : Int).toNat * (2 + 1) + k]? = (vrV (vs.getD j v0'))[k]? := by
  have := flat_get (sz := 3) (es := vs.map vrV) (i := j) k vs_3 (by simpa using h) hk
  rw [Int.toNat_natCast]
  refine this.trans ?_
  rw [map_getV vrV v0' h]
theorem us_f {us : List (Us × Value)} {i : Nat} (h : i < us.length) : usF (us.getD i UD) ∈ us.map usF := List.mem_map.2 ⟨_, getD_mem h, rfl⟩
theorem us_sl {cx : Cx} {m : Mem} {f0 : Fact} {us : List (Us × Value)} {w : World} {i : Nat} {ya : Option Addr} {yc : Nat} (hw : OkW cx m (f0 :: us.map usF) w) (h : i < us.length) (hy : (us.getD i UD).2 = .slice ya (us.getD i UD).1.2.length yc) :
    SlC 3 w (.slice ya (us.getD i UD).1.2.length yc) (us.getD i UD).1.2.length ((us.getD i UD).1.2.map vrV).flatten := by
  have := (hw.facts _ (List.mem_cons_of_mem _ (us_f h))).1
  rw [← hy]
  exact this
def tkU (us : List (Us × Value)) (i : Nat) : List Tok := .ln us.length :: (((us.map Prod.fst).map usC.tk).take i).flatten
def tkI (x : Us) (j : Nat) : List Tok := [.s x.1] ++ (.ln x.2.length :: ((x.2.map vrC.tk).take j).flatten)
theorem tkI_len {x : Us} {j : Nat} (h : j ≤ x.2.length) : (tkI x j).length = 2 + 3 * j := by
  have : ((x.2.map vrC.tk).take j).flatten.length = 3 * j := by
    rw [← List.map_take, fm_len, vrT_len, List.length_take]
    omega
  unfold tkI
  simp only [List.length_append, List.length_cons, List.length_nil, this]
  omega
theorem tkI_all (x : Us) : tkI x x.2.length = usC.tk x := by
  unfold tkI
  rw [List.take_of_length_le (by rw [List.length_map]; exact Nat.le_refl _)]
  rfl
theorem tkI_0 (A : List Tok) (x : Us) : (A ++ [.s x.1]) ++ [.ln x.2.length] = A ++ tkI x 0 := by rw [List.append_assoc]; rfl
theorem tkI_step (A : List Tok) {x : Us} {j : Nat} (h : j < x.2.length) : (((A ++ tkI x j) ++ [.c (x.2.getD j v0').1]) ++ [.c (x.2.getD j v0').2.1]) ++ [.s (x.2.getD j v0').2.2] = A ++ tkI x (j + 1) := by
  have : tkI x (j + 1) = tkI x j ++ vrC.tk (x.2.getD j v0') := by
    unfold tkI
    rw [take_s [] (by rw [List.length_map]; exact h), List.flatten_append, map_getD vrC.tk v0' h]
    simp
  rw [this]
  simp only [List.append_assoc]
  rfl
theorem tkU_step {us : List (Us × Value)} {i : Nat} (h : i < us.length) : tkU us i ++ tkI (us.getD i UD).1 (us.getD i UD).1.2.length = tkU us (i + 1) := by
  unfold tkU
  rw [tkI_all, take_s [] (by simpa using h), List.flatten_append, map_getD usC.tk (v0'', []) (by simpa using h), us_get h]
  simp
theorem tkU_len {us : List (Us × Value)} {i : Nat} (h : i < us.length) : (tkU us i).length + (2 + 3 * (us.getD i UD).1.2.length) ≤ 1 + ((us.map Prod.fst).map usC.tk).flatten.length := by
  have := sumT (ts := (us.map Prod.fst).map usC.tk) (i := i) (by simpa using h)
  rw [map_getD usC.tk (v0'', []) (by simpa using h), us_get h, usT1_len] at this
  show (tkU us i).length + (2 + 3 * (us.getD i ((v0'', []), .nilFunc)).1.2.length) ≤ _
  unfold tkU
  rw [List.length_cons]
  omega
theorem tkU_all (us : List (Us × Value)) : tkU us us.length = .ln us.length :: ((us.map Prod.fst).map usC.tk).flatten := by
  unfold tkU
  rw [List.take_of_length_le (by simp)]
theorem tkU_rest {us : List (Us × Value)} (i : Nat) : tkU us us.length = tkU us i ++ (((us.map Prod.fst).map usC.tk).drop i).flatten := by
  rw [tkU_all]
  unfold tkU
  rw [List.cons_append, ← List.flatten_append, List.take_append_drop]
theorem tkU_err {us : List (Us × Value)} {i : Nat} {r : Except Int (List Int)} {k : Int} (h : then2 r (encTs (tkU us i)) = .error k) : then2 r (encTs (.ln us.length :: ((us.map Prod.fst).map usC.tk).flatten)) = .error k := by
  rw [← tkU_all, tkU_rest i, ← then2_step, h]
  rfl
theorem lnl_no {m : Nat} (h : ¬ m ≤ 4096) (rest : List Tok) : encTs (.ln m :: rest) = encTs [.ln m] := by rw [lnI_no (r := rest) h, lnI_no (r := []) h]
theorem tkU_big {us : List (Us × Value)} {i : Nat} {r : Except Int (List Int)} (h : i < us.length) (hm : ¬ (us.getD i UD).1.2.length ≤ 4096) : then2 r (encTs (tkU us i ++ tkI (us.getD i UD).1 0)) = then2 r (encTs (.ln us.length :: ((us.map Prod.fst).map usC.tk).flatten)) := by
  have e1 : encTs (tkI (us.getD i UD).1 0) = then2 (encTs [.s (us.getD i UD).1.1]) (.error 2) := by
    unfold tkI
    rw [encTs_app, List.take_zero, List.flatten_nil, lnI_no hm]
  have e2 : encTs (tkI (us.getD i UD).1 (us.getD i UD).1.2.length) = then2 (encTs [.s (us.getD i UD).1.1]) (.error 2) := by
    unfold tkI
    rw [encTs_app, lnI_no hm]
  rw [← tkU_all, tkU_rest (i + 1), ← tkU_step h, encTs_app, e1, encTs_app, encTs_app, e2]
  have e3 : ∀ a b c : Except Int (List Int), then2 (then2 a (then2 b (.error 2))) c = then2 a (then2 b (.error 2)) := by
    intro a b c
    cases a <;> cases b <;> rfl
  rw [e3]
abbrev hD0 : Hd := (0, dz, dz)
abbrev sD0 : Se := (0, 0, 0, 0)
theorem rows_v {α : Type} {f : α → List Value} {sz : Nat} {l : List α} {i : Nat} (d : α) (hf : ∀ x, (f x).length = sz + 1) (h : i < l.length) : ∀ (k : Nat) (u : Value), (f (l.getD i d))[k]? = some u → (l.map f).flatten[((i : Nat) : Int).toNat * (sz + 1) + k]? = some u := by
  intro k u hu
  have hk : k < sz + 1 := by rw [← hf (l.getD i d)]; exact (List.getElem?_eq_some_iff.1 hu).1
  have := flat_get (sz := sz + 1) (es := l.map f) (i := i) k (fun e he => by obtain ⟨p, _, rfl⟩ := List.mem_map.1 he; exact hf p) (by simpa using h) hk
  rw [Int.toNat_natCast, this, map_getV f d h]
  exact hu
def tkL {α : Type} (A : List Tok) (f : α → List Tok) (l : List α) (i : Nat) : List Tok := A ++ (.ln l.length :: ((l.map f).take i).flatten)
theorem tkL_0 {α : Type} (A : List Tok) (f : α → List Tok) (l : List α) : A ++ [.ln l.length] = tkL A f l 0 := rfl
theorem tkL_step {α : Type} {A : List Tok} {f : α → List Tok} {l : List α} {i : Nat} (d : α) (h : i < l.length) : tkL A f l i ++ f (l.getD i d) = tkL A f l (i + 1) := by
  unfold tkL
  rw [take_s [] (by rw [List.length_map]; exact h), List.flatten_append, map_getD f d h]
  simp
theorem tkL_len {α : Type} {A : List Tok} {f : α → List Tok} {l : List α} {i c : Nat} (hf : ∀ x, (f x).length = c) (h : i ≤ l.length) : (tkL A f l i).length = A.length + 1 + c * i := by
  have : ((l.map f).take i).flatten.length = c * i := by
    rw [← List.map_take, List.length_flatten, List.map_map]
    have e : (List.length ∘ f) = fun _ => c := funext hf
    rw [e, List.map_const', List.sum_replicate_nat, List.length_take, Nat.min_eq_left h, Nat.mul_comm]
  unfold tkL
  simp only [List.length_append, List.length_cons, this]
  omega
theorem tkL_all {α : Type} (A : List Tok) (cd : Cdc α) (l : List α) : tkL A cd.tk l l.length = A ++ (ls cd).tk l := by
  unfold tkL
  rw [List.take_of_length_le (by simp)]
  rfl
def tkD1 (e : Int) (us : List (Us × Value)) : List Tok := [.c e] ++ (.ln us.length :: ((us.map Prod.fst).map usC.tk).flatten)
theorem tkD1_len (e : Int) (us : List (Us × Value)) : (tkD1 e us).length = 2 + ((us.map Prod.fst).flatMap usC.tk).length := by
  unfold tkD1
  simp only [List.length_append, List.length_cons, List.length_nil, fm_len]
  omega
theorem tkD_all (e : Int) (us : List (Us × Value)) (hs : List Hd) (ss : List Se) : tkL (tkL (tkD1 e us) hdC.tk hs hs.length) seC.tk ss ss.length = drC.tk (e, us.map Prod.fst, hs, ss) := by
  rw [tkL_all, tkL_all, dir_toks]
  unfold tkD1
  simp [toksI]
theorem tkD_no1 {e : Int} {us : List (Us × Value)} {hs : List Hd} {ss : List Se} {r : Except Int (List Int)} (h : ¬ hs.length ≤ 4096) : then2 r (encTs (tkD1 e us ++ [.ln hs.length])) = then2 r (encTs (drC.tk (e, us.map Prod.fst, hs, ss))) := by
  rw [← tkD_all e us hs ss, tkL_all, tkL_all, List.append_assoc, encTs_app, encTs_app (tkD1 e us)]
  exact congrArg (fun q => then2 r (then2 _ q)) (lnl_no h _).symm
theorem tkD_no2 {e : Int} {us : List (Us × Value)} {hs : List Hd} {ss : List Se} {r : Except Int (List Int)} (h : ¬ ss.length ≤ 4096) : then2 r (encTs (tkL (tkD1 e us) hdC.tk hs hs.length ++ [.ln ss.length])) = then2 r (encTs (drC.tk (e, us.map Prod.fst, hs, ss))) := by
  rw [← tkD_all e us hs ss, tkL_all _ seC, encTs_app, encTs_app (tkL (tkD1 e us) hdC.tk hs hs.length)]
  exact congrArg (fun q => then2 r (then2 _ q)) (lnl_no h _).symm
theorem sz3a : (Try.prog.info? 3).map (·.size) = some 1 := by kernel_rfl
theorem sz9a : (Try.prog.info? 9).map (·.size) = some 1 := by kernel_rfl
theorem sz25a : (Try.prog.info? 25).map (·.size) = some 65 := by kernel_rfl
theorem sz29a : (Try.prog.info? 29).map (·.size) = some 1 := by kernel_rfl
theorem sz56a : (Try.prog.info? 56).map (·.size) = some 1 := by kernel_rfl
theorem sz57a : (Try.prog.info? 57).map (·.size) = some 1 := by kernel_rfl
theorem sz58a : (Try.prog.info? 58).map (·.size) = some 1 := by kernel_rfl
theorem sz101a : (Try.prog.info? 101).map (·.size) = some 1 := by kernel_rfl
theorem sz103a : (Try.prog.info? 103).map (·.size) = some 2 := by kernel_rfl
theorem sz107a : (Try.prog.info? 107).map (·.size) = some 4 := by kernel_rfl
theorem sz111a : (Try.prog.info? 111).map (·.size) = some 1 := by kernel_rfl
theorem sz113a : (Try.prog.info? 113).map (·.size) = some 3 := by kernel_rfl
theorem tx70a : Txt Try.prog 70 := txt_of Try.func70 rfl (by kernel_rfl)
theorem tx79a : Txt Try.prog 79 := txt_of Try.func79 rfl (by kernel_rfl)
theorem tx80a : Txt Try.prog 80 := txt_of Try.func80 rfl (by kernel_rfl)
theorem tx94a : Txt Try.prog 94 := txt_of Try.func94 rfl (by kernel_rfl)
theorem tx95a : Txt Try.prog 95 := txt_of Try.func95 rfl (by kernel_rfl)
theorem z107a : (Try.prog.info? 107).bind (·.zero) = some (.agg [.int .i64 0, .int .i64 0, .int .i64 0, .int .i64 0].toArray) := by kernel_rfl

set_option maxHeartbeats 1000000 in
theorem rusers_0 (b : Nat) (r : Except Int (List Int)) (z : OwnR × Value) (va : Option Addr) (vc : Nat) (us : List (Us × Value)) (w : World) (hM : MemAt w (RM b r z)) (hC : RC r z) (hfs : Fm (factC 2 (.slice va us.length vc) us.length (us.map usW).flatten :: us.map usF) w (RM b r z)) (hsz : RZ r (65545 * (1 + ((us.map Prod.fst).map usC.tk).flatten.length))) :
    Calls Try.prog 94 #[.pointer (some ⟨b, 0, none⟩), .slice va us.length vc] w fun e w' => RP w b r z (then2 r (encTs (.ln us.length :: ((us.map Prod.fst).map usC.tk).flatten))) (.tuple #[]) e w' := by
  refine calls_of (args := [.pointer (some ⟨b, 0, none⟩), .slice va us.length vc]) ((RM b r z).map (·.1)) (RM b r z) (factC 2 (.slice va us.length vc) us.length (us.map usW).flatten :: us.map usF) Try.func94 rfl rfl (okMem hM hfs) ?_
  by_cases hx : us.length ≤ 4096
  ·
    refine J_seq ?_
    refine J_seq ?_
    refine J_region ?_
    refine L_v rfl rfl rfl (V_move rfl rfl) ?_
    refine L_v rfl rfl rfl (V_move rfl rfl) ?_
    refine L_v rfl rfl rfl (V_len rfl rfl Try.underlying56 rfl) ?_
    refine L_callRef (m1 := []) (m := RM b (r) z) (Ms := RM b (then2 r (encTs [.ln us.length]))) (C := RC (then2 r (encTs [.ln us.length]))) (val := .bool true) rfl rfl rfl rfl rfl rfl tx95a rfl (fun w1 hw => (by have h9 := rmany_w b r z us.length w1 hw.memM hC (RZ.le hsz (by omega)); rw [decide_eq_true hx] at h9; exact h9)) (fun z1 hC1 => ?_)
    refine L_v rfl rfl rfl (V_not rfl rfl rfl) ?_
    refine L_nil ?_
    change J _ _ _ _
    refine J_false rfl ?_
    refine J_skip ?_
    change J _ _ _ _
    refine J_seq ?_
    refine J_region ?_
    refine L_v rfl rfl rfl (V_assign rfl rfl) ?_
    refine L_nil ?_
    change J _ _ _ _
    refine J_block ?_
    refine J_loop (X := Nat × OwnR × Value) (fun x => { env := [(0, .pointer (some ⟨b, 0, none⟩)), (1, .slice va us.length vc), (4, .int .i64 (x.1 : Int))], mem := RM b (then2 r (encTs (tkU us x.1))) x.2, facts := factC 2 (.slice va us.length vc) us.length (us.map usW).flatten :: us.map usF }) (fun x => x.1 ≤ us.length ∧ RC (then2 r (encTs (tkU us x.1))) x.2) (fun x => us.length - x.1) (0, z1) ⟨Nat.zero_le _, hC1⟩ ⟨⟨rfl, rfl, rfl, trivial⟩, List.Sublist.refl _, fun f hf => hf, rfl⟩ ?_
    rintro ⟨i, zi⟩ ⟨hin, hCi⟩
    simp only at hin hCi ⊢
    have hCi0 := hCi
    rcases hR : then2 r (encTs (tkU us i)) with k | L <;> rw [hR] at hCi
    ·
      have hk0 : k ≠ 0 := hCi
      refine J_seq ?_
      refine J_seq ?_
      refine J_region ?_
      refine L_v rfl rfl rfl (V_move rfl rfl) ?_
      refine L_v rfl rfl rfl (V_move rfl rfl) ?_
      refine L_v rfl rfl rfl (V_len rfl rfl Try.underlying56 rfl) ?_
      refine L_v rfl rfl rfl (V_lss rfl rfl rfl (by first | exact decide_eq_true (by omega) | exact decide_eq_false (by omega) | rfl)) ?_
      refine L_v rfl rfl rfl (V_move rfl rfl) ?_
      refine L_split 16 rfl (fun h1 => ?_) (fun h1 => ?_)
      ·
        first | (have h1 := of_decide_eq_true h1) | (have h1 := of_decide_eq_false h1) | skip
        refine L_wv rfl rfl rfl rfl rfl rfl (V_move rfl rfl) ?_
        refine L_wv rfl rfl rfl rfl rfl rfl (V_nilCheck rfl rfl) ?_
        refine L_wv rfl rfl rfl rfl rfl rfl (V_fieldAddr rfl rfl Try.underlying86 rfl sz29a rfl) ?_
        refine L_wv rfl rfl rfl rfl rfl rfl (V_load1 0 rfl rfl rfl Try.underlying29 rfl (by first | rfl | exact dg_get (by omega) (by omega))) ?_
        refine L_wv rfl rfl rfl rfl rfl rfl (V_eql rfl rfl rfl (by first | exact decide_eq_true (by omega) | exact decide_eq_false (by omega) | rfl)) ?_
        first | refine L_v rfl rfl rfl (V_pickT rfl rfl rfl) ?_ | refine L_v rfl rfl rfl (V_pickF rfl rfl rfl) ?_
        refine L_nil ?_
        change J _ _ _ _
        refine J_false rfl ?_
        refine J_exit ?_
        change Kret _ _ _ Exit.normal _
        refine Kret_normal ?_
        refine ret0 rfl rfl  ?_
        exact fun w' h => by rw [tkU_err hR]; exact RefP.of zi h rfl hCi (List.Sublist.refl _)
      ·
        first | (have h1 := of_decide_eq_true h1) | (have h1 := of_decide_eq_false h1) | skip
        refine L_skip rfl rfl rfl rfl rfl rfl rfl ?_
        refine L_skip rfl rfl rfl rfl rfl rfl rfl ?_
        refine L_skip rfl rfl rfl rfl rfl rfl rfl ?_
        refine L_skip rfl rfl rfl rfl rfl rfl rfl ?_
        refine L_skip rfl rfl rfl rfl rfl rfl rfl ?_
        first | refine L_v rfl rfl rfl (V_pickT rfl rfl rfl) ?_ | refine L_v rfl rfl rfl (V_pickF rfl rfl rfl) ?_
        refine L_nil ?_
        change J _ _ _ _
        refine J_false rfl ?_
        refine J_exit ?_
        change Kret _ _ _ Exit.normal _
        refine Kret_normal ?_
        refine ret0 rfl rfl  ?_
        exact fun w' h => by rw [tkU_err hR]; exact RefP.of zi h rfl hCi (List.Sublist.refl _)
    ·
      refine J_seq ?_
      refine J_seq ?_
      refine J_region ?_
      refine L_v rfl rfl rfl (V_move rfl rfl) ?_
      refine L_v rfl rfl rfl (V_move rfl rfl) ?_
      refine L_v rfl rfl rfl (V_len rfl rfl Try.underlying56 rfl) ?_
      refine L_v rfl rfl rfl (V_lss rfl rfl rfl (by first | exact decide_eq_true (by omega) | exact decide_eq_false (by omega) | rfl)) ?_
      refine L_v rfl rfl rfl (V_move rfl rfl) ?_
      refine L_split 16 rfl (fun h1 => ?_) (fun h1 => ?_)
      ·
        first | (have h1 := of_decide_eq_true h1) | (have h1 := of_decide_eq_false h1) | skip
        have hi : i < us.length := by omega
        obtain ⟨ya, yc, hy⟩ : ∃ a c, (us.getD i UD).2 = .slice a (us.getD i UD).1.2.length c := SlC.form (hfs _ (List.mem_cons_of_mem _ (us_f hi))).1
        refine L_wv rfl rfl rfl rfl rfl rfl (V_move rfl rfl) ?_
        refine L_wv rfl rfl rfl rfl rfl rfl (V_nilCheck rfl rfl) ?_
        refine L_wv rfl rfl rfl rfl rfl rfl (V_fieldAddr rfl rfl Try.underlying86 rfl sz29a rfl) ?_
        refine L_wv rfl rfl rfl rfl rfl rfl (V_load1 0 rfl rfl rfl Try.underlying29 rfl (by first | rfl | exact dg_get (by omega) (by omega))) ?_
        refine L_wv rfl rfl rfl rfl rfl rfl (V_eql rfl rfl rfl (by first | exact decide_eq_true (by omega) | exact decide_eq_false (by omega) | rfl)) ?_
        first | refine L_v rfl rfl rfl (V_pickT rfl rfl rfl) ?_ | refine L_v rfl rfl rfl (V_pickF rfl rfl rfl) ?_
        refine L_nil ?_
        change J _ _ _ _
        refine J_true rfl ?_
        by_cases hm : (us.getD i UD).1.2.length ≤ 4096
        ·
          refine J_skip ?_
          change J _ _ _ _
          refine J_seq ?_
          refine J_block ?_
          refine J_seq ?_
          refine J_le (st' := { env := [(0, .pointer (some ⟨b, 0, none⟩)), (1, .slice va us.length vc), (4, .int .i64 (i : Int))], mem := RM b (then2 r (encTs (tkU us i))) zi, facts := factC 2 (.slice va us.length vc) us.length (us.map usW).flatten :: us.map usF }) ⟨⟨rfl, rfl, rfl, trivial⟩, (by rw [hR]; exact List.Sublist.refl _), fun f hf => hf, rfl⟩ ?_
          refine J_region ?_
          refine L_v rfl rfl rfl (V_move rfl rfl) ?_
          refine L_v rfl rfl rfl (V_move rfl rfl) ?_
          refine L_v rfl rfl rfl (V_move rfl rfl) ?_
          refine L_v rfl rfl rfl (V_indexC rfl rfl rfl Try.underlying56 sz103a (fun w hw => fC hw 0 rfl) (by omega) (by omega)) ?_
          refine L_v rfl rfl rfl (V_fieldC rfl rfl (fun w hw => (let ⟨b, o, e, _⟩ := SlC.cell (fC hw 0 rfl) (us_s hi); ⟨b, o, e⟩)) Try.underlying103 rfl sz9a rfl) ?_
          refine L_v rfl rfl rfl (V_loadC rfl rfl Try.underlying9 rfl (fun w hw => fC hw 0 rfl) (us_s hi)) ?_
          refine L_callRef (m1 := []) (m := RM b (then2 r (encTs (tkU us i))) zi) (Ms := RM b (then2 r (encTs (tkU us i ++ [.s (us.getD i UD).1.1])))) (C := RC (then2 r (encTs (tkU us i ++ [.s (us.getD i UD).1.1])))) (val := .tuple #[]) rfl rfl rfl rfl rfl rfl tx80a rfl (fun w1 hw => (by have h9 := rs_w b (then2 r (encTs (tkU us i))) zi (us.getD i UD).1.1 w1 hw.memM hCi0 (RZ.step (RZ.le hsz (by have h7 := tkU_len hi; (try simp only [List.length_append, List.length_singleton]); omega))); rw [then2_step] at h9; exact h9)) (fun z2 hC2 => ?_)
          refine L_nil ?_
          change J _ _ _ _
          refine J_seq ?_
          refine J_region ?_
          refine L_v rfl rfl rfl (V_move rfl rfl) ?_
          refine L_v rfl rfl rfl (V_move rfl rfl) ?_
          refine L_v rfl rfl rfl (V_indexC rfl rfl rfl Try.underlying56 sz103a (fun w hw => fC hw 0 rfl) (by omega) (by omega)) ?_
          refine L_v rfl rfl rfl (V_fieldC rfl rfl (fun w hw => (let ⟨b, o, e, _⟩ := SlC.cell (fC hw 0 rfl) (us_s hi); ⟨b, o, e⟩)) Try.underlying103 rfl sz101a rfl) ?_
          refine L_v rfl rfl rfl (V_loadC rfl rfl Try.underlying101 rfl (fun w hw => fC hw 0 rfl) (us_v hi hy)) ?_
          refine L_v rfl rfl rfl (V_assign rfl rfl) ?_
          refine L_nil ?_
          change J _ _ _ _
          refine J_seq ?_
          refine J_seq ?_
          refine J_region ?_
          refine L_v rfl rfl rfl (V_move rfl rfl) ?_
          refine L_v rfl rfl rfl (V_move rfl rfl) ?_
          refine L_v rfl rfl rfl (V_len rfl rfl Try.underlying101 rfl) ?_
          refine L_callRef (m1 := []) (m := RM b (then2 r (encTs (tkU us i ++ [.s (us.getD i UD).1.1]))) z2) (Ms := RM b (then2 r (encTs (tkU us i ++ tkI (us.getD i UD).1 0)))) (C := RC (then2 r (encTs (tkU us i ++ tkI (us.getD i UD).1 0)))) (val := .bool true) rfl rfl rfl rfl rfl rfl tx95a rfl (fun w1 hw => (by have h9 := rmany_w b (then2 r (encTs (tkU us i ++ [.s (us.getD i UD).1.1]))) z2 (us.getD i UD).1.2.length w1 hw.memM hC2 (RZ.step (RZ.le hsz (by have h7 := tkU_len hi; (try simp only [List.length_append, List.length_singleton]); omega))); rw [decide_eq_true hm, then2_step, tkI_0] at h9; exact h9)) (fun z3 hC3 => ?_)
          refine L_v rfl rfl rfl (V_not rfl rfl rfl) ?_
          refine L_nil ?_
          change J _ _ _ _
          refine J_false rfl ?_
          refine J_skip ?_
          change J _ _ _ _
          refine J_seq ?_
          refine J_region ?_
          refine L_v rfl rfl rfl (V_assign rfl rfl) ?_
          refine L_nil ?_
          change J _ _ _ _
          refine J_block ?_
          refine J_loop (X := Nat × OwnR × Value) (fun x => { env := [(0, .pointer (some ⟨b, 0, none⟩)), (1, .slice va us.length vc), (4, .int .i64 (i : Int)), (5, .slice ya (us.getD i UD).1.2.length yc), (6, .int .i64 (x.1 : Int))], mem := RM b (then2 r (encTs (tkU us i ++ tkI (us.getD i UD).1 x.1))) x.2, facts := factC 2 (.slice va us.length vc) us.length (us.map usW).flatten :: us.map usF }) (fun x => x.1 ≤ (us.getD i UD).1.2.length ∧ RC (then2 r (encTs (tkU us i ++ tkI (us.getD i UD).1 x.1))) x.2) (fun x => (us.getD i UD).1.2.length - x.1) (0, z3) ⟨Nat.zero_le _, hC3⟩ ⟨⟨rfl, rfl, rfl, rfl, rfl, trivial⟩, List.Sublist.refl _, fun f hf => hf, rfl⟩ ?_
          rintro ⟨j, zj⟩ ⟨hjn, hCj⟩
          simp only at hjn hCj ⊢
          refine J_seq ?_
          refine J_seq ?_
          refine J_region ?_
          refine L_v rfl rfl rfl (V_move rfl rfl) ?_
          refine L_v rfl rfl rfl (V_move rfl rfl) ?_
          refine L_v rfl rfl rfl (V_len rfl rfl Try.underlying101 rfl) ?_
          refine L_v rfl rfl rfl (V_lss rfl rfl rfl (by first | exact decide_eq_true (by omega) | exact decide_eq_false (by omega) | rfl)) ?_
          refine L_nil ?_
          change J _ _ _ _
          refine J_cond rfl (fun h2 => ?_) (fun h2 => ?_)
          ·
            first | (have h2 := of_decide_eq_true h2) | (have h2 := of_decide_eq_false h2) | skip
            have hj : j < (us.getD i UD).1.2.length := by omega
            refine J_skip ?_
            change J _ _ _ _
            refine J_seq ?_
            refine J_block ?_
            refine J_seq ?_
            refine J_region ?_
            refine L_v rfl rfl rfl (V_move rfl rfl) ?_
            refine L_v rfl rfl rfl (V_move rfl rfl) ?_
            refine L_v rfl rfl rfl (V_move rfl rfl) ?_
            refine L_v rfl rfl rfl (V_indexC rfl rfl rfl Try.underlying101 sz113a (fun w hw => us_sl hw hi hy) (by omega) (by omega)) ?_
            refine L_v rfl rfl rfl (V_fieldC rfl rfl (fun w hw => (let ⟨b, o, e, _⟩ := SlC.cell (us_sl hw hi hy) ((vs_k 0 hj (by decide)).trans rfl); ⟨b, o, e⟩)) Try.underlying113 rfl sz3a rfl) ?_
            refine L_v rfl rfl rfl (V_loadC rfl rfl Try.underlying3 rfl (fun w hw => us_sl hw hi hy) ((vs_k 0 hj (by decide)).trans rfl)) ?_
            refine L_callRef (m1 := []) (m := RM b (then2 r (encTs (tkU us i ++ tkI (us.getD i UD).1 j))) zj) (Ms := RM b (then2 r (encTs ((tkU us i ++ tkI (us.getD i UD).1 j) ++ [.c ((us.getD i UD).1.2.getD j v0').1])))) (C := RC (then2 r (encTs ((tkU us i ++ tkI (us.getD i UD).1 j) ++ [.c ((us.getD i UD).1.2.getD j v0').1])))) (val := .tuple #[]) rfl rfl rfl rfl rfl rfl tx79a rfl (fun w1 hw => (by have h9 := rn_w b (then2 r (encTs (tkU us i ++ tkI (us.getD i UD).1 j))) zj ((us.getD i UD).1.2.getD j v0').1 w1 hw.memM hCj (RZ.step (RZ.le hsz (by have h7 := tkU_len hi; have h8 := tkI_len (x := (us.getD i UD).1) (j := j) (by omega); simp only [List.length_append, List.length_singleton, h8]; omega))); rw [then2_step] at h9; exact h9)) (fun z4 hC4 => ?_)
            refine L_nil ?_
            change J _ _ _ _
            refine J_seq ?_
            refine J_region ?_
            refine L_v rfl rfl rfl (V_move rfl rfl) ?_
            refine L_v rfl rfl rfl (V_move rfl rfl) ?_
            refine L_v rfl rfl rfl (V_move rfl rfl) ?_
            refine L_v rfl rfl rfl (V_indexC rfl rfl rfl Try.underlying101 sz113a (fun w hw => us_sl hw hi hy) (by omega) (by omega)) ?_
            refine L_v rfl rfl rfl (V_fieldC rfl rfl (fun w hw => (let ⟨b, o, e, _⟩ := SlC.cell (us_sl hw hi hy) ((vs_k 0 hj (by decide)).trans rfl); ⟨b, o, e⟩)) Try.underlying113 rfl sz111a rfl) ?_
            refine L_v rfl rfl rfl (V_loadC rfl rfl Try.underlying111 rfl (fun w hw => us_sl hw hi hy) ((vs_k 1 hj (by decide)).trans rfl)) ?_
            refine L_callRef (m1 := []) (m := RM b (then2 r (encTs ((tkU us i ++ tkI (us.getD i UD).1 j) ++ [.c ((us.getD i UD).1.2.getD j v0').1]))) z4) (Ms := RM b (then2 r (encTs (((tkU us i ++ tkI (us.getD i UD).1 j) ++ [.c ((us.getD i UD).1.2.getD j v0').1]) ++ [.c ((us.getD i UD).1.2.getD j v0').2.1])))) (C := RC (then2 r (encTs (((tkU us i ++ tkI (us.getD i UD).1 j) ++ [.c ((us.getD i UD).1.2.getD j v0').1]) ++ [.c ((us.getD i UD).1.2.getD j v0').2.1])))) (val := .tuple #[]) rfl rfl rfl rfl rfl rfl tx79a rfl (fun w1 hw => (by have h9 := rn_w b (then2 r (encTs ((tkU us i ++ tkI (us.getD i UD).1 j) ++ [.c ((us.getD i UD).1.2.getD j v0').1]))) z4 ((us.getD i UD).1.2.getD j v0').2.1 w1 hw.memM hC4 (RZ.step (RZ.le hsz (by have h7 := tkU_len hi; have h8 := tkI_len (x := (us.getD i UD).1) (j := j) (by omega); simp only [List.length_append, List.length_singleton, h8]; omega))); rw [then2_step] at h9; exact h9)) (fun z5 hC5 => ?_)
            refine L_nil ?_
            change J _ _ _ _
            refine J_region ?_
            refine L_v rfl rfl rfl (V_move rfl rfl) ?_
            refine L_v rfl rfl rfl (V_move rfl rfl) ?_
            refine L_v rfl rfl rfl (V_move rfl rfl) ?_
            refine L_v rfl rfl rfl (V_indexC rfl rfl rfl Try.underlying101 sz113a (fun w hw => us_sl hw hi hy) (by omega) (by omega)) ?_
            refine L_v rfl rfl rfl (V_fieldC rfl rfl (fun w hw => (let ⟨b, o, e, _⟩ := SlC.cell (us_sl hw hi hy) ((vs_k 0 hj (by decide)).trans rfl); ⟨b, o, e⟩)) Try.underlying113 rfl sz9a rfl) ?_
            refine L_v rfl rfl rfl (V_loadC rfl rfl Try.underlying9 rfl (fun w hw => us_sl hw hi hy) ((vs_k 2 hj (by decide)).trans rfl)) ?_
            refine L_callRef (m1 := []) (m := RM b (then2 r (encTs (((tkU us i ++ tkI (us.getD i UD).1 j) ++ [.c ((us.getD i UD).1.2.getD j v0').1]) ++ [.c ((us.getD i UD).1.2.getD j v0').2.1]))) z5) (Ms := RM b (then2 r (encTs (tkU us i ++ tkI (us.getD i UD).1 (j + 1))))) (C := RC (then2 r (encTs (tkU us i ++ tkI (us.getD i UD).1 (j + 1))))) (val := .tuple #[]) rfl rfl rfl rfl rfl rfl tx80a rfl (fun w1 hw => (by have h9 := rs_w b (then2 r (encTs (((tkU us i ++ tkI (us.getD i UD).1 j) ++ [.c ((us.getD i UD).1.2.getD j v0').1]) ++ [.c ((us.getD i UD).1.2.getD j v0').2.1]))) z5 ((us.getD i UD).1.2.getD j v0').2.2 w1 hw.memM hC5 (RZ.step (RZ.le hsz (by have h7 := tkU_len hi; have h8 := tkI_len (x := (us.getD i UD).1) (j := j) (by omega); simp only [List.length_append, List.length_singleton, h8]; omega))); rw [then2_step, tkI_step _ hj] at h9; exact h9)) (fun z6 hC6 => ?_)
            refine L_nil ?_
            change J _ _ _ _
            refine J_region ?_
            refine L_v rfl rfl rfl (V_move rfl rfl) ?_
            refine L_v rfl rfl rfl (V_add rfl rfl rfl (by first | exact Go.IntWalk.i64_in _ (by omega) | rfl)) ?_
            refine L_v rfl rfl rfl (V_assign rfl rfl) ?_
            refine L_nil ?_
            exact ⟨(j + 1, z6), ⟨by show j + 1 ≤ (us.getD i UD).1.2.length; omega, hC6⟩, by show (us.getD i UD).1.2.length - (j + 1) < (us.getD i UD).1.2.length - j; omega, ⟨rfl, rfl, rfl, rfl, rfl, trivial⟩, List.Sublist.refl _, fun f hf => hf, rfl⟩
          ·
            first | (have h2 := of_decide_eq_true h2) | (have h2 := of_decide_eq_false h2) | skip
            obtain rfl : j = (us.getD i UD).1.2.length := by omega
            refine J_exit ?_
            change J _ _ _ _
            refine J_region ?_
            refine L_v rfl rfl rfl (V_move rfl rfl) ?_
            refine L_v rfl rfl rfl (V_add rfl rfl rfl (by first | exact Go.IntWalk.i64_in _ (by omega) | rfl)) ?_
            refine L_v rfl rfl rfl (V_assign rfl rfl) ?_
            refine L_nil ?_
            exact ⟨(i + 1, zj), ⟨by show i + 1 ≤ us.length; omega, by show RC (then2 r (encTs (tkU us (i + 1)))) zj; rw [← tkU_step hi]; exact hCj⟩, by show us.length - (i + 1) < us.length - i; omega, ⟨rfl, rfl, rfl, trivial⟩, (by show List.Sublist (RM b (then2 r (encTs (tkU us (i + 1)))) zj) _; rw [← tkU_step hi]; exact List.Sublist.refl _), fun f hf => hf, rfl⟩
        ·
          refine J_skip ?_
          change J _ _ _ _
          refine J_seq ?_
          refine J_block ?_
          refine J_seq ?_
          refine J_le (st' := { env := [(0, .pointer (some ⟨b, 0, none⟩)), (1, .slice va us.length vc), (4, .int .i64 (i : Int))], mem := RM b (then2 r (encTs (tkU us i))) zi, facts := factC 2 (.slice va us.length vc) us.length (us.map usW).flatten :: us.map usF }) ⟨⟨rfl, rfl, rfl, trivial⟩, (by rw [hR]; exact List.Sublist.refl _), fun f hf => hf, rfl⟩ ?_
          refine J_region ?_
          refine L_v rfl rfl rfl (V_move rfl rfl) ?_
          refine L_v rfl rfl rfl (V_move rfl rfl) ?_
          refine L_v rfl rfl rfl (V_move rfl rfl) ?_
          refine L_v rfl rfl rfl (V_indexC rfl rfl rfl Try.underlying56 sz103a (fun w hw => fC hw 0 rfl) (by omega) (by omega)) ?_
          refine L_v rfl rfl rfl (V_fieldC rfl rfl (fun w hw => (let ⟨b, o, e, _⟩ := SlC.cell (fC hw 0 rfl) (us_s hi); ⟨b, o, e⟩)) Try.underlying103 rfl sz9a rfl) ?_
          refine L_v rfl rfl rfl (V_loadC rfl rfl Try.underlying9 rfl (fun w hw => fC hw 0 rfl) (us_s hi)) ?_
          refine L_callRef (m1 := []) (m := RM b (then2 r (encTs (tkU us i))) zi) (Ms := RM b (then2 r (encTs (tkU us i ++ [.s (us.getD i UD).1.1])))) (C := RC (then2 r (encTs (tkU us i ++ [.s (us.getD i UD).1.1])))) (val := .tuple #[]) rfl rfl rfl rfl rfl rfl tx80a rfl (fun w1 hw => (by have h9 := rs_w b (then2 r (encTs (tkU us i))) zi (us.getD i UD).1.1 w1 hw.memM hCi0 (RZ.step (RZ.le hsz (by have h7 := tkU_len hi; (try simp only [List.length_append, List.length_singleton]); omega))); rw [then2_step] at h9; exact h9)) (fun z2 hC2 => ?_)
          refine L_nil ?_
          change J _ _ _ _
          refine J_seq ?_
          refine J_region ?_
          refine L_v rfl rfl rfl (V_move rfl rfl) ?_
          refine L_v rfl rfl rfl (V_move rfl rfl) ?_
          refine L_v rfl rfl rfl (V_indexC rfl rfl rfl Try.underlying56 sz103a (fun w hw => fC hw 0 rfl) (by omega) (by omega)) ?_
          refine L_v rfl rfl rfl (V_fieldC rfl rfl (fun w hw => (let ⟨b, o, e, _⟩ := SlC.cell (fC hw 0 rfl) (us_s hi); ⟨b, o, e⟩)) Try.underlying103 rfl sz101a rfl) ?_
          refine L_v rfl rfl rfl (V_loadC rfl rfl Try.underlying101 rfl (fun w hw => fC hw 0 rfl) (us_v hi hy)) ?_
          refine L_v rfl rfl rfl (V_assign rfl rfl) ?_
          refine L_nil ?_
          change J _ _ _ _
          refine J_seq ?_
          refine J_seq ?_
          refine J_region ?_
          refine L_v rfl rfl rfl (V_move rfl rfl) ?_
          refine L_v rfl rfl rfl (V_move rfl rfl) ?_
          refine L_v rfl rfl rfl (V_len rfl rfl Try.underlying101 rfl) ?_
          refine L_callRef (m1 := []) (m := RM b (then2 r (encTs (tkU us i ++ [.s (us.getD i UD).1.1]))) z2) (Ms := RM b (then2 r (encTs (tkU us i ++ tkI (us.getD i UD).1 0)))) (C := RC (then2 r (encTs (tkU us i ++ tkI (us.getD i UD).1 0)))) (val := .bool false) rfl rfl rfl rfl rfl rfl tx95a rfl (fun w1 hw => (by have h9 := rmany_w b (then2 r (encTs (tkU us i ++ [.s (us.getD i UD).1.1]))) z2 (us.getD i UD).1.2.length w1 hw.memM hC2 (RZ.step (RZ.le hsz (by have h7 := tkU_len hi; (try simp only [List.length_append, List.length_singleton]); omega))); rw [decide_eq_false hm, then2_step, tkI_0] at h9; exact h9)) (fun z3 hC3 => ?_)
          refine L_v rfl rfl rfl (V_not rfl rfl rfl) ?_
          refine L_nil ?_
          change J _ _ _ _
          refine J_true rfl ?_
          refine J_ret ?_
          change Kret _ _ _ Exit.ret _
          refine ret0 rfl rfl  ?_
          rw [tkU_big hi hm] at hC3
          exact fun w' h => RefP.of z3 h rfl hC3 (by rw [tkU_big hi hm]; exact List.Sublist.refl _)
      ·
        first | (have h1 := of_decide_eq_true h1) | (have h1 := of_decide_eq_false h1) | skip
        refine L_skip rfl rfl rfl rfl rfl rfl rfl ?_
        refine L_skip rfl rfl rfl rfl rfl rfl rfl ?_
        refine L_skip rfl rfl rfl rfl rfl rfl rfl ?_
        refine L_skip rfl rfl rfl rfl rfl rfl rfl ?_
        refine L_skip rfl rfl rfl rfl rfl rfl rfl ?_
        first | refine L_v rfl rfl rfl (V_pickT rfl rfl rfl) ?_ | refine L_v rfl rfl rfl (V_pickF rfl rfl rfl) ?_
        refine L_nil ?_
        change J _ _ _ _
        refine J_false rfl ?_
        refine J_exit ?_
        change Kret _ _ _ Exit.normal _
        refine Kret_normal ?_
        refine ret0 rfl rfl  ?_
        obtain rfl : i = us.length := by omega
        rw [tkU_all] at hR
        exact fun w' h => by rw [hR]; exact RefP.of zi h rfl hCi (List.Sublist.refl _)
  ·
    refine J_seq ?_
    refine J_seq ?_
    refine J_region ?_
    refine L_v rfl rfl rfl (V_move rfl rfl) ?_
    refine L_v rfl rfl rfl (V_move rfl rfl) ?_
    refine L_v rfl rfl rfl (V_len rfl rfl Try.underlying56 rfl) ?_
    refine L_callRef (m1 := []) (m := RM b (r) z) (Ms := RM b (then2 r (encTs [.ln us.length]))) (C := RC (then2 r (encTs [.ln us.length]))) (val := .bool false) rfl rfl rfl rfl rfl rfl tx95a rfl (fun w1 hw => (by have h9 := rmany_w b r z us.length w1 hw.memM hC (RZ.le hsz (by omega)); rw [decide_eq_false hx] at h9; exact h9)) (fun z1 hC1 => ?_)
    refine L_v rfl rfl rfl (V_not rfl rfl rfl) ?_
    refine L_nil ?_
    change J _ _ _ _
    refine J_true rfl ?_
    refine J_ret ?_
    change Kret _ _ _ Exit.ret _
    refine ret0 rfl rfl  ?_
    have e8 : encTs (.ln us.length :: ((us.map Prod.fst).map usC.tk).flatten) = encTs [.ln us.length] := lnl_no hx _
    rw [e8]
    exact fun w' h => RefP.of z1 h rfl hC1 (List.Sublist.refl _)

theorem tkS_step {A : List Tok} {ss : List Se} {j : Nat} (h : j < ss.length) : (((tkL A seC.tk ss j ++ [.c (ss.getD j sD0).1]) ++ [.c (ss.getD j sD0).2.1]) ++ [.c (ss.getD j sD0).2.2.1]) ++ [.c (ss.getD j sD0).2.2.2] = tkL A seC.tk ss (j + 1) := by
  rw [← tkL_step sD0 h]
  simp only [List.append_assoc]
  rfl
theorem DPERM {α : Type} {a b : α} {m : List α} : List.Perm (([a] ++ m) ++ [b]) ([a, b] ++ m) := by
  show List.Perm (a :: (m ++ [b])) (a :: b :: m)
  exact List.Perm.cons _ (List.perm_append_comm (l₁ := m) (l₂ := [b]))
set_option maxHeartbeats 2000000 in
theorem rdir_w0 (b : Nat) (r : Except Int (List Int)) (z : OwnR × Value) (va1 va2 va3 : Option Addr) (vc1 vc2 vc3 : Nat) (e0 : Int) (us : List (Us × Value)) (hs : List Hd) (ss : List Se) (w : World) (hM : MemAt w (RM b r z)) (hC : RC r z) (hfs : Fm (factC 2 (.slice va1 us.length vc1) us.length (us.map usW).flatten :: factC 65 (.slice va2 hs.length vc2) hs.length (hs.map hdV).flatten :: factC 4 (.slice va3 ss.length vc3) ss.length (ss.map seV).flatten :: us.map usF) w (RM b r z)) (hsz : RZ r (65545 * (4 + ((us.map Prod.fst).flatMap usC.tk).length + 3 * hs.length + 4 * ss.length))) :
    Calls Try.prog 57 #[.pointer (some ⟨b, 0, none⟩), .agg (drV e0 (.slice va1 us.length vc1) (.slice va2 hs.length vc2) (.slice va3 ss.length vc3)).toArray] w fun e w' => RP w b r z (then2 r (encTs (drC.tk (e0, us.map Prod.fst, hs, ss)))) (.tuple #[]) e w' := by
  refine calls_of (args := [.pointer (some ⟨b, 0, none⟩), .agg (drV e0 (.slice va1 us.length vc1) (.slice va2 hs.length vc2) (.slice va3 ss.length vc3)).toArray]) ((RM b r z).map (·.1)) (RM b r z) (factC 2 (.slice va1 us.length vc1) us.length (us.map usW).flatten :: factC 65 (.slice va2 hs.length vc2) hs.length (hs.map hdV).flatten :: factC 4 (.slice va3 ss.length vc3) ss.length (ss.map seV).flatten :: us.map usF) Try.func57 rfl rfl (okMem hM hfs) ?_
  by_cases hh : hs.length ≤ 4096
  ·
    refine J_seq ?_
    refine J_region ?_
    refine L_box rfl rfl rfl rfl rfl (fun b0 => ?_)
    refine L_pk ([(b0, row 60 (drV e0 (.slice va1 us.length vc1) (.slice va2 hs.length vc2) (.slice va3 ss.length vc3)))] ++ RM b r z) (Pk.of_perm List.perm_append_comm (List.Sublist.refl _)) ?_
    refine L_nil ?_
    change J _ _ _ _
    refine J_seq ?_
    refine J_region ?_
    refine L_v rfl rfl rfl (V_move rfl rfl) ?_
    refine L_v rfl rfl rfl (V_fieldAddr rfl rfl Try.underlying60 rfl sz3a rfl) ?_
    refine L_v rfl rfl rfl (V_load1 0 rfl rfl rfl Try.underlying3 rfl (by first | rfl | exact dg_get (by omega) (by omega))) ?_
    refine L_callRef (m1 := [(b0, row 60 (drV e0 (.slice va1 us.length vc1) (.slice va2 hs.length vc2) (.slice va3 ss.length vc3)))]) (m := RM b (r) z) (Ms := RM b (then2 r (encTs [.c e0]))) (C := RC (then2 r (encTs [.c e0]))) (val := .tuple #[]) rfl rfl rfl rfl rfl rfl tx79a rfl (fun w1 hw => rn_w b r z e0 w1 hw.memM hC (RZ.le hsz (by omega))) (fun z1 hC1 => ?_)
    refine L_nil ?_
    change J _ _ _ _
    refine J_seq ?_
    refine J_region ?_
    refine L_v rfl rfl rfl (V_move rfl rfl) ?_
    refine L_v rfl rfl rfl (V_fieldAddr rfl rfl Try.underlying60 rfl sz56a rfl) ?_
    refine L_v rfl rfl rfl (V_load1 0 rfl rfl rfl Try.underlying56 rfl (by first | rfl | exact dg_get (by omega) (by omega))) ?_
    refine L_callRef (m1 := [(b0, row 60 (drV e0 (.slice va1 us.length vc1) (.slice va2 hs.length vc2) (.slice va3 ss.length vc3)))]) (m := RM b (then2 r (encTs [.c e0])) z1) (Ms := RM b (then2 r (encTs (tkD1 e0 us)))) (C := RC (then2 r (encTs (tkD1 e0 us)))) (val := .tuple #[]) rfl rfl rfl rfl rfl rfl tx94a rfl (fun w1 hw => (by have h9 := rusers_0 b (then2 r (encTs [.c e0])) z1 va1 vc1 us w1 hw.memM hC1 (fun f hf => hw.factsM f (by rcases List.mem_cons.1 hf with rfl | hf; exact List.mem_cons_self ..; exact List.mem_cons_of_mem _ (List.mem_cons_of_mem _ (List.mem_cons_of_mem _ hf)))) (RZ.step (RZ.le hsz (by rw [fm_len, List.length_singleton]; omega))); rw [then2_step] at h9; exact h9)) (fun z2 hC2 => ?_)
    refine L_nil ?_
    change J _ _ _ _
    refine J_seq ?_
    refine J_seq ?_
    refine J_region ?_
    refine L_v rfl rfl rfl (V_move rfl rfl) ?_
    refine L_v rfl rfl rfl (V_fieldAddr rfl rfl Try.underlying60 rfl sz57a rfl) ?_
    refine L_v rfl rfl rfl (V_load1 0 rfl rfl rfl Try.underlying57 rfl (by first | rfl | exact dg_get (by omega) (by omega))) ?_
    refine L_v rfl rfl rfl (V_len rfl rfl Try.underlying57 rfl) ?_
    refine L_callRef (m1 := [(b0, row 60 (drV e0 (.slice va1 us.length vc1) (.slice va2 hs.length vc2) (.slice va3 ss.length vc3)))]) (m := RM b (then2 r (encTs (tkD1 e0 us))) z2) (Ms := RM b (then2 r (encTs (tkL (tkD1 e0 us) hdC.tk hs 0)))) (C := RC (then2 r (encTs (tkL (tkD1 e0 us) hdC.tk hs 0)))) (val := .bool true) rfl rfl rfl rfl rfl rfl tx95a rfl (fun w1 hw => (by have h9 := rmany_w b (then2 r (encTs (tkD1 e0 us))) z2 hs.length w1 hw.memM hC2 (RZ.step (RZ.le hsz (by have h7 := tkD1_len e0 us; (try simp only [List.length_append, List.length_singleton]); omega))); rw [decide_eq_true hh, then2_step, tkL_0 _ hdC.tk] at h9; exact h9)) (fun z3 hC3 => ?_)
    refine L_v rfl rfl rfl (V_not rfl rfl rfl) ?_
    refine L_nil ?_
    change J _ _ _ _
    refine J_false rfl ?_
    refine J_skip ?_
    change J _ _ _ _
    refine J_seq ?_
    refine J_seq ?_
    refine J_region ?_
    refine L_v rfl rfl rfl (V_assign rfl rfl) ?_
    refine L_nil ?_
    change J _ _ _ _
    refine J_block ?_
    refine J_loop (X := Nat × OwnR × Value) (fun x => { env := [(0, .pointer (some ⟨b, 0, none⟩)), (3, .pointer (some ⟨b0, 0, none⟩)), (4, .int .i64 (x.1 : Int))], mem := [(b0, row 60 (drV e0 (.slice va1 us.length vc1) (.slice va2 hs.length vc2) (.slice va3 ss.length vc3)))] ++ RM b (then2 r (encTs (tkL (tkD1 e0 us) hdC.tk hs x.1))) x.2, facts := factC 2 (.slice va1 us.length vc1) us.length (us.map usW).flatten :: factC 65 (.slice va2 hs.length vc2) hs.length (hs.map hdV).flatten :: factC 4 (.slice va3 ss.length vc3) ss.length (ss.map seV).flatten :: us.map usF }) (fun x => x.1 ≤ hs.length ∧ RC (then2 r (encTs (tkL (tkD1 e0 us) hdC.tk hs x.1))) x.2) (fun x => hs.length - x.1) (0, z3) ⟨Nat.zero_le _, hC3⟩ ⟨⟨rfl, rfl, rfl, trivial⟩, List.Sublist.refl _, fun f hf => hf, rfl⟩ ?_
    rintro ⟨i, zi⟩ ⟨hin, hCi⟩
    simp only at hin hCi ⊢
    refine J_seq ?_
    refine J_seq ?_
    refine J_region ?_
    refine L_v rfl rfl rfl (V_move rfl rfl) ?_
    refine L_v rfl rfl rfl (V_fieldAddr rfl rfl Try.underlying60 rfl sz57a rfl) ?_
    refine L_v rfl rfl rfl (V_load1 0 rfl rfl rfl Try.underlying57 rfl (by first | rfl | exact dg_get (by omega) (by omega))) ?_
    refine L_v rfl rfl rfl (V_len rfl rfl Try.underlying57 rfl) ?_
    refine L_v rfl rfl rfl (V_lss rfl rfl rfl (by first | exact decide_eq_true (by omega) | exact decide_eq_false (by omega) | rfl)) ?_
    refine L_nil ?_
    change J _ _ _ _
    refine J_cond rfl (fun h1 => ?_) (fun h1 => ?_)
    ·
      first | (have h1 := of_decide_eq_true h1) | (have h1 := of_decide_eq_false h1) | skip
      have hi : i < hs.length := by omega
      refine J_skip ?_
      change J _ _ _ _
      refine J_seq ?_
      refine J_block ?_
      refine J_region ?_
      refine L_v rfl rfl rfl (V_move rfl rfl) ?_
      refine L_v rfl rfl rfl (V_fieldAddr rfl rfl Try.underlying60 rfl sz57a rfl) ?_
      refine L_v rfl rfl rfl (V_load1 0 rfl rfl rfl Try.underlying57 rfl (by first | rfl | exact dg_get (by omega) (by omega))) ?_
      refine L_v rfl rfl rfl (V_move rfl rfl) ?_
      refine L_v rfl rfl rfl (V_indexC rfl rfl rfl Try.underlying57 sz25a (fun w hw => fC hw 1 rfl) (by omega) (by omega)) ?_
      refine L_v rfl rfl rfl (V_loadCN (vs := hdV (hs.getD i hD0)) rfl rfl Try.underlying25 rfl sz25a (fun w hw => fC hw 1 rfl) (by exact Nat.zero_lt_succ _) (rows_v hD0 (sz := 64) (fun _ => rfl) hi)) ?_
      refine L_callRef (m1 := [(b0, row 60 (drV e0 (.slice va1 us.length vc1) (.slice va2 hs.length vc2) (.slice va3 ss.length vc3)))]) (m := RM b (then2 r (encTs (tkL (tkD1 e0 us) hdC.tk hs i))) zi) (Ms := RM b (then2 r (encTs (tkL (tkD1 e0 us) hdC.tk hs (i + 1))))) (C := RC (then2 r (encTs (tkL (tkD1 e0 us) hdC.tk hs (i + 1))))) (val := .tuple #[]) rfl rfl rfl rfl rfl rfl tx70a rfl (fun w1 hw => (by have h9 := rhead_w b (then2 r (encTs (tkL (tkD1 e0 us) hdC.tk hs i))) zi (hs.getD i hD0) w1 hw.memM hCi (RZ.step (RZ.le hsz (by have h7 := tkD1_len e0 us; have h8 := tkL_len (A := tkD1 e0 us) (f := hdC.tk) (l := hs) (i := i) (c := 3) (fun _ => rfl) (by omega); (try simp only [List.length_append, List.length_singleton]); omega))); rw [then2_step, tkL_step hD0 hi] at h9; exact h9)) (fun z4 hC4 => ?_)
      refine L_nil ?_
      change J _ _ _ _
      refine J_region ?_
      refine L_v rfl rfl rfl (V_move rfl rfl) ?_
      refine L_v rfl rfl rfl (V_add rfl rfl rfl (by first | exact Go.IntWalk.i64_in _ (by omega) | rfl)) ?_
      refine L_v rfl rfl rfl (V_assign rfl rfl) ?_
      refine L_nil ?_
      exact ⟨(i + 1, z4), ⟨by show i + 1 ≤ hs.length; omega, hC4⟩, by show hs.length - (i + 1) < hs.length - i; omega, ⟨rfl, rfl, rfl, trivial⟩, List.Sublist.refl _, fun f hf => hf, rfl⟩
    ·
      first | (have h1 := of_decide_eq_true h1) | (have h1 := of_decide_eq_false h1) | skip
      obtain rfl : i = hs.length := by omega
      by_cases hs9 : ss.length ≤ 4096
      ·
        refine J_exit ?_
        change J _ _ _ _
        refine J_seq ?_
        refine J_seq ?_
        refine J_region ?_
        refine L_v rfl rfl rfl (V_move rfl rfl) ?_
        refine L_v rfl rfl rfl (V_fieldAddr rfl rfl Try.underlying60 rfl sz58a rfl) ?_
        refine L_v rfl rfl rfl (V_load1 0 rfl rfl rfl Try.underlying58 rfl (by first | rfl | exact dg_get (by omega) (by omega))) ?_
        refine L_v rfl rfl rfl (V_len rfl rfl Try.underlying58 rfl) ?_
        refine L_callRef (m1 := [(b0, row 60 (drV e0 (.slice va1 us.length vc1) (.slice va2 hs.length vc2) (.slice va3 ss.length vc3)))]) (m := RM b (then2 r (encTs (tkL (tkD1 e0 us) hdC.tk hs hs.length))) zi) (Ms := RM b (then2 r (encTs (tkL (tkL (tkD1 e0 us) hdC.tk hs hs.length) seC.tk ss 0)))) (C := RC (then2 r (encTs (tkL (tkL (tkD1 e0 us) hdC.tk hs hs.length) seC.tk ss 0)))) (val := .bool true) rfl rfl rfl rfl rfl rfl tx95a rfl (fun w1 hw => (by have h9 := rmany_w b (then2 r (encTs (tkL (tkD1 e0 us) hdC.tk hs hs.length))) zi ss.length w1 hw.memM hCi (RZ.step (RZ.le hsz (by have h7 := tkD1_len e0 us; have h8 := tkL_len (A := tkD1 e0 us) (f := hdC.tk) (l := hs) (i := hs.length) (c := 3) (fun _ => rfl) (Nat.le_refl _); (try simp only [List.length_append, List.length_singleton]); omega))); rw [decide_eq_true hs9, then2_step, tkL_0 _ seC.tk] at h9; exact h9)) (fun z5 hC5 => ?_)
        refine L_v rfl rfl rfl (V_not rfl rfl rfl) ?_
        refine L_nil ?_
        change J _ _ _ _
        refine J_false rfl ?_
        refine J_skip ?_
        change J _ _ _ _
        refine J_seq ?_
        refine J_region ?_
        refine L_v rfl rfl rfl (V_assign rfl rfl) ?_
        refine L_nil ?_
        change J _ _ _ _
        refine J_block ?_
        refine J_loop (X := Nat × OwnR × Value) (fun x => { env := [(0, .pointer (some ⟨b, 0, none⟩)), (3, .pointer (some ⟨b0, 0, none⟩)), (5, .int .i64 (x.1 : Int))], mem := [(b0, row 60 (drV e0 (.slice va1 us.length vc1) (.slice va2 hs.length vc2) (.slice va3 ss.length vc3)))] ++ RM b (then2 r (encTs (tkL (tkL (tkD1 e0 us) hdC.tk hs hs.length) seC.tk ss x.1))) x.2, facts := factC 2 (.slice va1 us.length vc1) us.length (us.map usW).flatten :: factC 65 (.slice va2 hs.length vc2) hs.length (hs.map hdV).flatten :: factC 4 (.slice va3 ss.length vc3) ss.length (ss.map seV).flatten :: us.map usF }) (fun x => x.1 ≤ ss.length ∧ RC (then2 r (encTs (tkL (tkL (tkD1 e0 us) hdC.tk hs hs.length) seC.tk ss x.1))) x.2) (fun x => ss.length - x.1) (0, z5) ⟨Nat.zero_le _, hC5⟩ ⟨⟨rfl, rfl, rfl, trivial⟩, List.Sublist.refl _, fun f hf => hf, rfl⟩ ?_
        rintro ⟨j, zj⟩ ⟨hjn, hCj⟩
        simp only at hjn hCj ⊢
        refine J_seq ?_
        refine J_seq ?_
        refine J_region ?_
        refine L_v rfl rfl rfl (V_move rfl rfl) ?_
        refine L_v rfl rfl rfl (V_fieldAddr rfl rfl Try.underlying60 rfl sz58a rfl) ?_
        refine L_v rfl rfl rfl (V_load1 0 rfl rfl rfl Try.underlying58 rfl (by first | rfl | exact dg_get (by omega) (by omega))) ?_
        refine L_v rfl rfl rfl (V_len rfl rfl Try.underlying58 rfl) ?_
        refine L_v rfl rfl rfl (V_lss rfl rfl rfl (by first | exact decide_eq_true (by omega) | exact decide_eq_false (by omega) | rfl)) ?_
        refine L_nil ?_
        change J _ _ _ _
        refine J_cond rfl (fun h2 => ?_) (fun h2 => ?_)
        ·
          first | (have h2 := of_decide_eq_true h2) | (have h2 := of_decide_eq_false h2) | skip
          have hj : j < ss.length := by omega
          refine J_skip ?_
          change J _ _ _ _
          refine J_seq ?_
          refine J_block ?_
          refine J_seq ?_
          refine J_region ?_
          refine L_v rfl rfl rfl (V_fieldAddr rfl rfl Try.underlying60 rfl sz58a rfl) ?_
          refine L_v rfl rfl rfl (V_load1 0 rfl rfl rfl Try.underlying58 rfl (by first | rfl | exact dg_get (by omega) (by omega))) ?_
          refine L_v rfl rfl rfl (V_move rfl rfl) ?_
          refine L_v rfl rfl rfl (V_indexC rfl rfl rfl Try.underlying58 sz107a (fun w hw => fC hw 2 rfl) (by omega) (by omega)) ?_
          refine L_v rfl rfl rfl (V_loadCN (vs := seV (ss.getD j sD0)) rfl rfl Try.underlying107 rfl sz107a (fun w hw => fC hw 2 rfl) (by exact Nat.zero_lt_succ _) (rows_v sD0 (sz := 3) (fun _ => rfl) hj)) ?_
          refine L_alloc rfl rfl rfl rfl z107a (fun b9 => ?_)
          refine L_pk ([(b0, row 60 (drV e0 (.slice va1 us.length vc1) (.slice va2 hs.length vc2) (.slice va3 ss.length vc3))), (b9, row 107 (seV sD0))] ++ RM b (then2 r (encTs (tkL (tkL (tkD1 e0 us) hdC.tk hs hs.length) seC.tk ss j))) zj) (Pk.of_perm (l := ([(b0, row 60 (drV e0 (.slice va1 us.length vc1) (.slice va2 hs.length vc2) (.slice va3 ss.length vc3)))] ++ RM b (then2 r (encTs (tkL (tkL (tkD1 e0 us) hdC.tk hs hs.length) seC.tk ss j))) zj) ++ [(b9, row 107 (seV sD0))]) DPERM (List.Sublist.refl _)) ?_
          refine L_storeW 1 rfl rfl rfl rfl rfl rfl sz107a (all_one (by kernel_rfl)) rfl ?_
          refine L_nil ?_
          change J _ _ _ _
          refine J_seq ?_
          refine J_region ?_
          refine L_v rfl rfl rfl (V_move rfl rfl) ?_
          refine L_v rfl rfl rfl (V_fieldAddr rfl rfl Try.underlying107 rfl sz3a rfl) ?_
          refine L_v rfl rfl rfl (V_load1 1 rfl rfl rfl Try.underlying3 rfl (by first | rfl | exact dg_get (by omega) (by omega))) ?_
          refine L_callRef (m1 := [(b0, row 60 (drV e0 (.slice va1 us.length vc1) (.slice va2 hs.length vc2) (.slice va3 ss.length vc3))), (b9, row 107 (seV (ss.getD j sD0)))]) (m := RM b (then2 r (encTs (tkL (tkL (tkD1 e0 us) hdC.tk hs hs.length) seC.tk ss j))) zj) (Ms := RM b (then2 r (encTs ((tkL (tkL (tkD1 e0 us) hdC.tk hs hs.length) seC.tk ss j) ++ [.c (ss.getD j sD0).1])))) (C := RC (then2 r (encTs ((tkL (tkL (tkD1 e0 us) hdC.tk hs hs.length) seC.tk ss j) ++ [.c (ss.getD j sD0).1])))) (val := .tuple #[]) rfl rfl rfl rfl rfl rfl tx79a rfl (fun w1 hw => (by have h9 := rn_w b (then2 r (encTs (tkL (tkL (tkD1 e0 us) hdC.tk hs hs.length) seC.tk ss j))) zj (ss.getD j sD0).1 w1 hw.memM hCj (RZ.step (RZ.le hsz (by have h7 := tkD1_len e0 us; have h8 := tkL_len (A := tkD1 e0 us) (f := hdC.tk) (l := hs) (i := hs.length) (c := 3) (fun _ => rfl) (Nat.le_refl _); have h10 := tkL_len (A := (tkL (tkD1 e0 us) hdC.tk hs hs.length)) (f := seC.tk) (l := ss) (i := j) (c := 4) (fun _ => rfl) (by omega); (try simp only [List.length_append, List.length_singleton]); omega))); rw [then2_step] at h9; exact h9)) (fun z6 hC6 => ?_)
          refine L_nil ?_
          change J _ _ _ _
          refine J_seq ?_
          refine J_region ?_
          refine L_v rfl rfl rfl (V_move rfl rfl) ?_
          refine L_v rfl rfl rfl (V_fieldAddr rfl rfl Try.underlying107 rfl sz3a rfl) ?_
          refine L_v rfl rfl rfl (V_load1 1 rfl rfl rfl Try.underlying3 rfl (by first | rfl | exact dg_get (by omega) (by omega))) ?_
          refine L_callRef (m1 := [(b0, row 60 (drV e0 (.slice va1 us.length vc1) (.slice va2 hs.length vc2) (.slice va3 ss.length vc3))), (b9, row 107 (seV (ss.getD j sD0)))]) (m := RM b (then2 r (encTs ((tkL (tkL (tkD1 e0 us) hdC.tk hs hs.length) seC.tk ss j) ++ [.c (ss.getD j sD0).1]))) z6) (Ms := RM b (then2 r (encTs (((tkL (tkL (tkD1 e0 us) hdC.tk hs hs.length) seC.tk ss j) ++ [.c (ss.getD j sD0).1]) ++ [.c (ss.getD j sD0).2.1])))) (C := RC (then2 r (encTs (((tkL (tkL (tkD1 e0 us) hdC.tk hs hs.length) seC.tk ss j) ++ [.c (ss.getD j sD0).1]) ++ [.c (ss.getD j sD0).2.1])))) (val := .tuple #[]) rfl rfl rfl rfl rfl rfl tx79a rfl (fun w1 hw => (by have h9 := rn_w b (then2 r (encTs ((tkL (tkL (tkD1 e0 us) hdC.tk hs hs.length) seC.tk ss j) ++ [.c (ss.getD j sD0).1]))) z6 (ss.getD j sD0).2.1 w1 hw.memM hC6 (RZ.step (RZ.le hsz (by have h7 := tkD1_len e0 us; have h8 := tkL_len (A := tkD1 e0 us) (f := hdC.tk) (l := hs) (i := hs.length) (c := 3) (fun _ => rfl) (Nat.le_refl _); have h10 := tkL_len (A := (tkL (tkD1 e0 us) hdC.tk hs hs.length)) (f := seC.tk) (l := ss) (i := j) (c := 4) (fun _ => rfl) (by omega); (try simp only [List.length_append, List.length_singleton]); omega))); rw [then2_step] at h9; exact h9)) (fun z7 hC7 => ?_)
          refine L_nil ?_
          change J _ _ _ _
          refine J_seq ?_
          refine J_region ?_
          refine L_v rfl rfl rfl (V_move rfl rfl) ?_
          refine L_v rfl rfl rfl (V_fieldAddr rfl rfl Try.underlying107 rfl sz29a rfl) ?_
          refine L_v rfl rfl rfl (V_load1 1 rfl rfl rfl Try.underlying29 rfl (by first | rfl | exact dg_get (by omega) (by omega))) ?_
          refine L_callRef (m1 := [(b0, row 60 (drV e0 (.slice va1 us.length vc1) (.slice va2 hs.length vc2) (.slice va3 ss.length vc3))), (b9, row 107 (seV (ss.getD j sD0)))]) (m := RM b (then2 r (encTs (((tkL (tkL (tkD1 e0 us) hdC.tk hs hs.length) seC.tk ss j) ++ [.c (ss.getD j sD0).1]) ++ [.c (ss.getD j sD0).2.1]))) z7) (Ms := RM b (then2 r (encTs ((((tkL (tkL (tkD1 e0 us) hdC.tk hs hs.length) seC.tk ss j) ++ [.c (ss.getD j sD0).1]) ++ [.c (ss.getD j sD0).2.1]) ++ [.c (ss.getD j sD0).2.2.1])))) (C := RC (then2 r (encTs ((((tkL (tkL (tkD1 e0 us) hdC.tk hs hs.length) seC.tk ss j) ++ [.c (ss.getD j sD0).1]) ++ [.c (ss.getD j sD0).2.1]) ++ [.c (ss.getD j sD0).2.2.1])))) (val := .tuple #[]) rfl rfl rfl rfl rfl rfl tx79a rfl (fun w1 hw => (by have h9 := rn_w b (then2 r (encTs (((tkL (tkL (tkD1 e0 us) hdC.tk hs hs.length) seC.tk ss j) ++ [.c (ss.getD j sD0).1]) ++ [.c (ss.getD j sD0).2.1]))) z7 (ss.getD j sD0).2.2.1 w1 hw.memM hC7 (RZ.step (RZ.le hsz (by have h7 := tkD1_len e0 us; have h8 := tkL_len (A := tkD1 e0 us) (f := hdC.tk) (l := hs) (i := hs.length) (c := 3) (fun _ => rfl) (Nat.le_refl _); have h10 := tkL_len (A := (tkL (tkD1 e0 us) hdC.tk hs hs.length)) (f := seC.tk) (l := ss) (i := j) (c := 4) (fun _ => rfl) (by omega); (try simp only [List.length_append, List.length_singleton]); omega))); rw [then2_step] at h9; exact h9)) (fun z8 hC8 => ?_)
          refine L_nil ?_
          change J _ _ _ _
          refine J_region ?_
          refine L_v rfl rfl rfl (V_move rfl rfl) ?_
          refine L_v rfl rfl rfl (V_fieldAddr rfl rfl Try.underlying107 rfl sz3a rfl) ?_
          refine L_v rfl rfl rfl (V_load1 1 rfl rfl rfl Try.underlying3 rfl (by first | rfl | exact dg_get (by omega) (by omega))) ?_
          refine L_callRef (m1 := [(b0, row 60 (drV e0 (.slice va1 us.length vc1) (.slice va2 hs.length vc2) (.slice va3 ss.length vc3))), (b9, row 107 (seV (ss.getD j sD0)))]) (m := RM b (then2 r (encTs ((((tkL (tkL (tkD1 e0 us) hdC.tk hs hs.length) seC.tk ss j) ++ [.c (ss.getD j sD0).1]) ++ [.c (ss.getD j sD0).2.1]) ++ [.c (ss.getD j sD0).2.2.1]))) z8) (Ms := RM b (then2 r (encTs (tkL (tkL (tkD1 e0 us) hdC.tk hs hs.length) seC.tk ss (j + 1))))) (C := RC (then2 r (encTs (tkL (tkL (tkD1 e0 us) hdC.tk hs hs.length) seC.tk ss (j + 1))))) (val := .tuple #[]) rfl rfl rfl rfl rfl rfl tx79a rfl (fun w1 hw => (by have h9 := rn_w b (then2 r (encTs ((((tkL (tkL (tkD1 e0 us) hdC.tk hs hs.length) seC.tk ss j) ++ [.c (ss.getD j sD0).1]) ++ [.c (ss.getD j sD0).2.1]) ++ [.c (ss.getD j sD0).2.2.1]))) z8 (ss.getD j sD0).2.2.2 w1 hw.memM hC8 (RZ.step (RZ.le hsz (by have h7 := tkD1_len e0 us; have h8 := tkL_len (A := tkD1 e0 us) (f := hdC.tk) (l := hs) (i := hs.length) (c := 3) (fun _ => rfl) (Nat.le_refl _); have h10 := tkL_len (A := (tkL (tkD1 e0 us) hdC.tk hs hs.length)) (f := seC.tk) (l := ss) (i := j) (c := 4) (fun _ => rfl) (by omega); (try simp only [List.length_append, List.length_singleton]); omega))); rw [then2_step, tkS_step hj] at h9; exact h9)) (fun z9 hC9 => ?_)
          refine L_nil ?_
          change J _ _ _ _
          refine J_region ?_
          refine L_v rfl rfl rfl (V_move rfl rfl) ?_
          refine L_v rfl rfl rfl (V_add rfl rfl rfl (by first | exact Go.IntWalk.i64_in _ (by omega) | rfl)) ?_
          refine L_v rfl rfl rfl (V_assign rfl rfl) ?_
          refine L_nil ?_
          exact ⟨(j + 1, z9), ⟨by show j + 1 ≤ ss.length; omega, hC9⟩, by show ss.length - (j + 1) < ss.length - j; omega, ⟨rfl, rfl, rfl, trivial⟩, List.Sublist.cons_cons _ (List.sublist_cons_self _ _), fun f hf => hf, rfl⟩
        ·
          first | (have h2 := of_decide_eq_true h2) | (have h2 := of_decide_eq_false h2) | skip
          refine J_exit ?_
          change Kret _ _ _ Exit.normal _
          refine Kret_normal ?_
          refine ret0 rfl rfl  ?_
          obtain rfl : j = ss.length := by omega
          have e9 : then2 r (encTs (tkL (tkL (tkD1 e0 us) hdC.tk hs hs.length) seC.tk ss ss.length)) = then2 r (encTs (drC.tk (e0, us.map Prod.fst, hs, ss))) := by rw [tkD_all]
          exact fun w' h => by rw [← e9]; exact RefP.of zj h rfl hCj (List.sublist_append_right _ _)
      ·
        refine J_exit ?_
        change J _ _ _ _
        refine J_seq ?_
        refine J_seq ?_
        refine J_region ?_
        refine L_v rfl rfl rfl (V_move rfl rfl) ?_
        refine L_v rfl rfl rfl (V_fieldAddr rfl rfl Try.underlying60 rfl sz58a rfl) ?_
        refine L_v rfl rfl rfl (V_load1 0 rfl rfl rfl Try.underlying58 rfl (by first | rfl | exact dg_get (by omega) (by omega))) ?_
        refine L_v rfl rfl rfl (V_len rfl rfl Try.underlying58 rfl) ?_
        refine L_callRef (m1 := [(b0, row 60 (drV e0 (.slice va1 us.length vc1) (.slice va2 hs.length vc2) (.slice va3 ss.length vc3)))]) (m := RM b (then2 r (encTs (tkL (tkD1 e0 us) hdC.tk hs hs.length))) zi) (Ms := RM b (then2 r (encTs (tkL (tkL (tkD1 e0 us) hdC.tk hs hs.length) seC.tk ss 0)))) (C := RC (then2 r (encTs (tkL (tkL (tkD1 e0 us) hdC.tk hs hs.length) seC.tk ss 0)))) (val := .bool false) rfl rfl rfl rfl rfl rfl tx95a rfl (fun w1 hw => (by have h9 := rmany_w b (then2 r (encTs (tkL (tkD1 e0 us) hdC.tk hs hs.length))) zi ss.length w1 hw.memM hCi (RZ.step (RZ.le hsz (by have h7 := tkD1_len e0 us; have h8 := tkL_len (A := tkD1 e0 us) (f := hdC.tk) (l := hs) (i := hs.length) (c := 3) (fun _ => rfl) (Nat.le_refl _); (try simp only [List.length_append, List.length_singleton]); omega))); rw [decide_eq_false hs9, then2_step, tkL_0 _ seC.tk] at h9; exact h9)) (fun z5 hC5 => ?_)
        refine L_v rfl rfl rfl (V_not rfl rfl rfl) ?_
        refine L_nil ?_
        change J _ _ _ _
        refine J_true rfl ?_
        refine J_ret ?_
        change Kret _ _ _ Exit.ret _
        refine ret0 rfl rfl  ?_
        have e9 : then2 r (encTs (tkL (tkL (tkD1 e0 us) hdC.tk hs hs.length) seC.tk ss 0)) = then2 r (encTs (drC.tk (e0, us.map Prod.fst, hs, ss))) := tkD_no2 hs9
        exact fun w' h => by rw [← e9]; exact RefP.of z5 h rfl hC5 (List.sublist_append_right _ _)
  ·
    refine J_seq ?_
    refine J_region ?_
    refine L_box rfl rfl rfl rfl rfl (fun b0 => ?_)
    refine L_pk ([(b0, row 60 (drV e0 (.slice va1 us.length vc1) (.slice va2 hs.length vc2) (.slice va3 ss.length vc3)))] ++ RM b r z) (Pk.of_perm List.perm_append_comm (List.Sublist.refl _)) ?_
    refine L_nil ?_
    change J _ _ _ _
    refine J_seq ?_
    refine J_region ?_
    refine L_v rfl rfl rfl (V_move rfl rfl) ?_
    refine L_v rfl rfl rfl (V_fieldAddr rfl rfl Try.underlying60 rfl sz3a rfl) ?_
    refine L_v rfl rfl rfl (V_load1 0 rfl rfl rfl Try.underlying3 rfl (by first | rfl | exact dg_get (by omega) (by omega))) ?_
    refine L_callRef (m1 := [(b0, row 60 (drV e0 (.slice va1 us.length vc1) (.slice va2 hs.length vc2) (.slice va3 ss.length vc3)))]) (m := RM b (r) z) (Ms := RM b (then2 r (encTs [.c e0]))) (C := RC (then2 r (encTs [.c e0]))) (val := .tuple #[]) rfl rfl rfl rfl rfl rfl tx79a rfl (fun w1 hw => rn_w b r z e0 w1 hw.memM hC (RZ.le hsz (by omega))) (fun z1 hC1 => ?_)
    refine L_nil ?_
    change J _ _ _ _
    refine J_seq ?_
    refine J_region ?_
    refine L_v rfl rfl rfl (V_move rfl rfl) ?_
    refine L_v rfl rfl rfl (V_fieldAddr rfl rfl Try.underlying60 rfl sz56a rfl) ?_
    refine L_v rfl rfl rfl (V_load1 0 rfl rfl rfl Try.underlying56 rfl (by first | rfl | exact dg_get (by omega) (by omega))) ?_
    refine L_callRef (m1 := [(b0, row 60 (drV e0 (.slice va1 us.length vc1) (.slice va2 hs.length vc2) (.slice va3 ss.length vc3)))]) (m := RM b (then2 r (encTs [.c e0])) z1) (Ms := RM b (then2 r (encTs (tkD1 e0 us)))) (C := RC (then2 r (encTs (tkD1 e0 us)))) (val := .tuple #[]) rfl rfl rfl rfl rfl rfl tx94a rfl (fun w1 hw => (by have h9 := rusers_0 b (then2 r (encTs [.c e0])) z1 va1 vc1 us w1 hw.memM hC1 (fun f hf => hw.factsM f (by rcases List.mem_cons.1 hf with rfl | hf; exact List.mem_cons_self ..; exact List.mem_cons_of_mem _ (List.mem_cons_of_mem _ (List.mem_cons_of_mem _ hf)))) (RZ.step (RZ.le hsz (by rw [fm_len, List.length_singleton]; omega))); rw [then2_step] at h9; exact h9)) (fun z2 hC2 => ?_)
    refine L_nil ?_
    change J _ _ _ _
    refine J_seq ?_
    refine J_seq ?_
    refine J_region ?_
    refine L_v rfl rfl rfl (V_move rfl rfl) ?_
    refine L_v rfl rfl rfl (V_fieldAddr rfl rfl Try.underlying60 rfl sz57a rfl) ?_
    refine L_v rfl rfl rfl (V_load1 0 rfl rfl rfl Try.underlying57 rfl (by first | rfl | exact dg_get (by omega) (by omega))) ?_
    refine L_v rfl rfl rfl (V_len rfl rfl Try.underlying57 rfl) ?_
    refine L_callRef (m1 := [(b0, row 60 (drV e0 (.slice va1 us.length vc1) (.slice va2 hs.length vc2) (.slice va3 ss.length vc3)))]) (m := RM b (then2 r (encTs (tkD1 e0 us))) z2) (Ms := RM b (then2 r (encTs (tkL (tkD1 e0 us) hdC.tk hs 0)))) (C := RC (then2 r (encTs (tkL (tkD1 e0 us) hdC.tk hs 0)))) (val := .bool false) rfl rfl rfl rfl rfl rfl tx95a rfl (fun w1 hw => (by have h9 := rmany_w b (then2 r (encTs (tkD1 e0 us))) z2 hs.length w1 hw.memM hC2 (RZ.step (RZ.le hsz (by have h7 := tkD1_len e0 us; (try simp only [List.length_append, List.length_singleton]); omega))); rw [decide_eq_false hh, then2_step, tkL_0 _ hdC.tk] at h9; exact h9)) (fun z3 hC3 => ?_)
    refine L_v rfl rfl rfl (V_not rfl rfl rfl) ?_
    refine L_nil ?_
    change J _ _ _ _
    refine J_true rfl ?_
    refine J_ret ?_
    change Kret _ _ _ Exit.ret _
    refine ret0 rfl rfl  ?_
    have e9 : then2 r (encTs (tkL (tkD1 e0 us) hdC.tk hs 0)) = then2 r (encTs (drC.tk (e0, us.map Prod.fst, hs, ss))) := tkD_no1 hh
    exact fun w' h => by rw [← e9]; exact RefP.of z3 h rfl hC3 (List.sublist_append_right _ _)

end Go.Proofs.Ytfgcfjojpakpjaa
