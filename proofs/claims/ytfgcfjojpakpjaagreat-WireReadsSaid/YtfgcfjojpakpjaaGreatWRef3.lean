/- What the reference of layer 8 lays: users, a directory. -/
import Derived.Test.YtfgcfjojpakpjaaGreatWRPuts
import Derived.Test.YtfgcfjojpakpjaaGreatWIn2
set_option linter.unusedVariables false
set_option linter.unusedSimpArgs false
set_option maxRecDepth 100000
namespace Go.Proofs.YtfgcfjojpakpjaaGreat
open Go.Sx
abbrev UD : Us × Value := ((v0'', []), .nilFunc)
theorem us_2 {us : List (Us × Value)} : ∀ e ∈ us.map usW, e.length = 2 := by
  intro e he
  obtain ⟨p, _, rfl⟩ := List.mem_map.1 he
  rfl
theorem us_s {us : List (Us × Value)} {i : Nat} (h : i < us.length) : (us.map usW).flatten[((i : Nat) : Int).toNat * (1 + 1)]? = some (.string (us.getD i UD).1.1) := by
  have := flat_get (sz := 2) (es := us.map usW) (i := i) 0 us_2 (by simpa using h) (by decide)
  rw [Int.toNat_natCast]
  refine this.trans ?_
  rw [us_getV h]
  rfl
theorem us_v {us : List (Us × Value)} {i : Nat} {v : Value} (h : i < us.length) (hy : (us.getD i UD).2 = v) : (us.map usW).flatten[((i : Nat) : Int).toNat * (1 + 1) + 1]? = some v := by
  have := flat_get (sz := 2) (es := us.map usW) (i := i) 1 us_2 (by simpa using h) (by decide)
  rw [Int.toNat_natCast]
  refine this.trans ?_
  rw [us_getV h, ← hy]
  rfl
theorem vs_3 {vs : List Vr} : ∀ e ∈ vs.map vrV, e.length = 3 := by
  intro e he
  obtain ⟨p, _, rfl⟩ := List.mem_map.1 he
  rfl
theorem vs_k {vs : List Vr} {j : Nat} (k : Nat) (h : j < vs.length) (hk : k < 3) : (vs.map vrV).flatten[((j : Nat) : Int).toNat * (2 + 1) + k]? = (vrV (vs.getD j v0'))[k]? := by
  have := flat_get (sz := 3) (es := vs.map vrV) (i := j) k vs_3 (by simpa using h) hk
  rw [Int.toNat_natCast]
  refine this.trans ?_
  rw [map_getV vrV v0' h]
theorem us_f {us : List (Us × Value)} {i : Nat} (h : i < us.length) : usF (us.getD i UD) ∈ us.map usF := List.mem_map.2 ⟨_, getD_mem h, rfl⟩
theorem us_sl {cx : Cx} {m : Mem} {f0 : Fact} {us : List (Us × Value)} {w : World} {i : Nat} {ya : Option Addr} {yc : Nat} (hw : OkW cx m (f0 :: us.map usF) w) (h : i < us.length) (hy : (us.getD i UD).2 = .slice ya (us.getD i UD).1.2.length yc) :
    SlC 3 w (.slice ya (us.getD i UD).1.2.length yc) (us.getD i UD).1.2.length ((us.getD i UD).1.2.map vrV).flatten := by
  have := (hw.facts _ (List.mem_cons_of_mem _ (us_f h))).1
  rw [← hy]
  exact this
def tkU (us : List (Us × Value)) (i : Nat) : List Tok := .ln us.length :: (((us.map Prod.fst).map usC.tk).take i).flatten
def tkI (x : Us) (j : Nat) : List Tok := [.s x.1] ++ (.ln x.2.length :: ((x.2.map vrC.tk).take j).flatten)
theorem tkI_len {x : Us} {j : Nat} (h : j ≤ x.2.length) : (tkI x j).length = 2 + 3 * j := by
  have : ((x.2.map vrC.tk).take j).flatten.length = 3 * j := by
    rw [← List.map_take, fm_len, vrT_len, List.length_take]
    omega
  unfold tkI
  simp only [List.length_append, List.length_cons, List.length_nil, this]
  omega
theorem tkI_all (x : Us) : tkI x x.2.length = usC.tk x := by
  unfold tkI
  rw [List.take_of_length_le (by rw [List.length_map]; exact Nat.le_refl _)]
  rfl
theorem tkI_0 (A : List Tok) (x : Us) : (A ++ [.s x.1]) ++ [.ln x.2.length] = A ++ tkI x 0 := by rw [List.append_assoc]; rfl
theorem tkI_step (A : List Tok) {x : Us} {j : Nat} (h : j < x.2.length) : (((A ++ tkI x j) ++ [.c (x.2.getD j v0').1]) ++ [.c (x.2.getD j v0').2.1]) ++ [.s (x.2.getD j v0').2.2] = A ++ tkI x (j + 1) := by
  have : tkI x (j + 1) = tkI x j ++ vrC.tk (x.2.getD j v0') := by
    unfold tkI
    rw [take_s [] (by rw [List.length_map]; exact h), List.flatten_append, map_getD vrC.tk v0' h]
    simp
  rw [this]
  simp only [List.append_assoc]
  rfl
theorem tkU_step {us : List (Us × Value)} {i : Nat} (h : i < us.length) : tkU us i ++ tkI (us.getD i UD).1 (us.getD i UD).1.2.length = tkU us (i + 1) := by
  unfold tkU
  rw [tkI_all, take_s [] (by simpa using h), List.flatten_append, map_getD usC.tk (v0'', []) (by simpa using h), us_get h]
  simp
theorem tkU_len {us : List (Us × Value)} {i : Nat} (h : i < us.length) : (tkU us i).length + (2 + 3 * (us.getD i UD).1.2.length) ≤ 1 + ((us.map Prod.fst).map usC.tk).flatten.length := by
  have := sumT (ts := (us.map Prod.fst).map usC.tk) (i := i) (by simpa using h)
  rw [map_getD usC.tk (v0'', []) (by simpa using h), us_get h, usT1_len] at this
  show (tkU us i).length + (2 + 3 * (us.getD i ((v0'', []), .nilFunc)).1.2.length) ≤ _
  unfold tkU
  rw [List.length_cons]
  omega
theorem tkU_all (us : List (Us × Value)) : tkU us us.length = .ln us.length :: ((us.map Prod.fst).map usC.tk).flatten := by
  unfold tkU
  rw [List.take_of_length_le (by simp)]
theorem tkU_rest {us : List (Us × Value)} (i : Nat) : tkU us us.length = tkU us i ++ (((us.map Prod.fst).map usC.tk).drop i).flatten := by
  rw [tkU_all]
  unfold tkU
  rw [List.cons_append, ← List.flatten_append, List.take_append_drop]
theorem tkU_err {us : List (Us × Value)} {i : Nat} {r : Except Int (List Int)} {k : Int} (h : then2 r (encTs (tkU us i)) = .error k) : then2 r (encTs (.ln us.length :: ((us.map Prod.fst).map usC.tk).flatten)) = .error k := by
  rw [← tkU_all, tkU_rest i, ← then2_step, h]
  rfl
theorem lnl_no {m : Nat} (h : ¬ m ≤ 4096) (rest : List Tok) : encTs (.ln m :: rest) = encTs [.ln m] := by rw [lnI_no (r := rest) h, lnI_no (r := []) h]
theorem tkU_big {us : List (Us × Value)} {i : Nat} {r : Except Int (List Int)} (h : i < us.length) (hm : ¬ (us.getD i UD).1.2.length ≤ 4096) : then2 r (encTs (tkU us i ++ tkI (us.getD i UD).1 0)) = then2 r (encTs (.ln us.length :: ((us.map Prod.fst).map usC.tk).flatten)) := by
  have e1 : encTs (tkI (us.getD i UD).1 0) = then2 (encTs [.s (us.getD i UD).1.1]) (.error 2) := by
    unfold tkI
    rw [encTs_app, List.take_zero, List.flatten_nil, lnI_no hm]
  have e2 : encTs (tkI (us.getD i UD).1 (us.getD i UD).1.2.length) = then2 (encTs [.s (us.getD i UD).1.1]) (.error 2) := by
    unfold tkI
    rw [encTs_app, lnI_no hm]
  rw [← tkU_all, tkU_rest (i + 1), ← tkU_step h, encTs_app, e1, encTs_app, encTs_app, e2]
  have e3 : ∀ a b c : Except Int (List Int), then2 (then2 a (then2 b (.error 2))) c = then2 a (then2 b (.error 2)) := by
    intro a b c
    cases a <;> cases b <;> rfl
  rw [e3]
abbrev hD0 : Hd := (0, dz, dz)
abbrev sD0 : Se := (0, 0, 0, 0)
theorem rows_v {α : Type} {f : α → List Value} {sz : Nat} {l : List α} {i : Nat} (d : α) (hf : ∀ x, (f x).length = sz + 1) (h : i < l.length) : ∀ (k : Nat) (u : Value), (f (l.getD i d))[k]? = some u → (l.map f).flatten[((i : Nat) : Int).toNat * (sz + 1) + k]? = some u := by
  intro k u hu
  have hk : k < sz + 1 := by rw [← hf (l.getD i d)]; exact (List.getElem?_eq_some_iff.1 hu).1
  have := flat_get (sz := sz + 1) (es := l.map f) (i := i) k (fun e he => by obtain ⟨p, _, rfl⟩ := List.mem_map.1 he; exact hf p) (by simpa using h) hk
  rw [Int.toNat_natCast, this, map_getV f d h]
  exact hu
def tkL {α : Type} (A : List Tok) (f : α → List Tok) (l : List α) (i : Nat) : List Tok := A ++ (.ln l.length :: ((l.map f).take i).flatten)
theorem tkL_0 {α : Type} (A : List Tok) (f : α → List Tok) (l : List α) : A ++ [.ln l.length] = tkL A f l 0 := rfl
theorem tkL_step {α : Type} {A : List Tok} {f : α → List Tok} {l : List α} {i : Nat} (d : α) (h : i < l.length) : tkL A f l i ++ f (l.getD i d) = tkL A f l (i + 1) := by
  unfold tkL
  rw [take_s [] (by rw [List.length_map]; exact h), List.flatten_append, map_getD f d h]
  simp
theorem tkL_len {α : Type} {A : List Tok} {f : α → List Tok} {l : List α} {i c : Nat} (hf : ∀ x, (f x).length = c) (h : i ≤ l.length) : (tkL A f l i).length = A.length + 1 + c * i := by
  have : ((l.map f).take i).flatten.length = c * i := by
    rw [← List.map_take, List.length_flatten, List.map_map]
    have e : (List.length ∘ f) = fun _ => c := funext hf
    rw [e, List.map_const', List.sum_replicate_nat, List.length_take, Nat.min_eq_left h, Nat.mul_comm]
  unfold tkL
  simp only [List.length_append, List.length_cons, this]
  omega
theorem tkL_all {α : Type} (A : List Tok) (cd : Cdc α) (l : List α) : tkL A cd.tk l l.length = A ++ (ls cd).tk l := by
  unfold tkL
  rw [List.take_of_length_le (by simp)]
  rfl
def tkD1 (e : Int) (us : List (Us × Value)) : List Tok := [.c e] ++ (.ln us.length :: ((us.map Prod.fst).map usC.tk).flatten)
theorem tkD1_len (e : Int) (us : List (Us × Value)) : (tkD1 e us).length = 2 + ((us.map Prod.fst).flatMap usC.tk).length := by
  unfold tkD1
  simp only [List.length_append, List.length_cons, List.length_nil, fm_len]
  omega
theorem tkD_all (e : Int) (us : List (Us × Value)) (hs : List Hd) (ss : List Se) : tkL (tkL (tkD1 e us) hdC.tk hs hs.length) seC.tk ss ss.length = drC.tk (e, us.map Prod.fst, hs, ss) := by
  rw [tkL_all, tkL_all, dir_toks]
  unfold tkD1
  simp [toksI]
theorem tkD_no1 {e : Int} {us : List (Us × Value)} {hs : List Hd} {ss : List Se} {r : Except Int (List Int)} (h : ¬ hs.length ≤ 4096) : then2 r (encTs (tkD1 e us ++ [.ln hs.length])) = then2 r (encTs (drC.tk (e, us.map Prod.fst, hs, ss))) := by
  rw [← tkD_all e us hs ss, tkL_all, tkL_all, List.append_assoc, encTs_app, encTs_app (tkD1 e us)]
  exact congrArg (fun q => then2 r (then2 _ q)) (lnl_no h _).symm
theorem tkD_no2 {e : Int} {us : List (Us × Value)} {hs : List Hd} {ss : List Se} {r : Except Int (List Int)} (h : ¬ ss.length ≤ 4096) : then2 r (encTs (tkL (tkD1 e us) hdC.tk hs hs.length ++ [.ln ss.length])) = then2 r (encTs (drC.tk (e, us.map Prod.fst, hs, ss))) := by
  rw [← tkD_all e us hs ss, tkL_all _ seC, encTs_app, encTs_app (tkL (tkD1 e us) hdC.tk hs hs.length)]
  exact congrArg (fun q => then2 r (then2 _ q)) (lnl_no h _).symm



end Go.Proofs.YtfgcfjojpakpjaaGreat
