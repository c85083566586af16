/- Versions, and lists of them, that a law is handed. -/
import Derived.Test.YthafhiemecfjiaaDoorVersionPure
import Derived.Test.YthafhiemecfjiaaDoorSxOpen
import Derived.Test.YthafhiemecfjiaaDoorProg
set_option linter.unusedVariables false
namespace Go.Proofs.YthafhiemecfjiaaDoor
open Go.ChangeShapes Go.WideShapes Go.ChangeAt Go.RowKit Go.Sx
theorem trod_ver {H : Type} {enc : TypeId × Value → H} {W : World} {b0 : Nat} {sp : Nat → Bool} {hd : Bool} {m : Nat} {cs : List Value} {x : DataW H × List MemPlace} (hf : DataW.trod enc Tryd.prog W b0 sp hd m 44 cs = some x) :
    ∃ v : Ver, cs = vc v ∧ ((-9223372036854775808 ≤ v.1 ∧ v.1 ≤ 9223372036854775807) ∧ -9223372036854775808 ≤ v.2.1 ∧ v.2.1 ≤ 9223372036854775807) := by
  obtain ⟨xs, m, rfl, hx, hl, hxl, hi⟩ := DataW.trod_struct Tryd.underlying44 hf
  have z0 : Tryd.prog.cellsOf 3 = 1 := by kernel_rfl
  have z1 : Tryd.prog.cellsOf 42 = 1 := by kernel_rfl
  have z2 : Tryd.prog.cellsOf 9 = 1 := by kernel_rfl
  have z3 : Tryd.prog.cellsOf 44 = 3 := by kernel_rfl
  have hx3 : xs.length = 3 := hxl
  have h0 := hi 0 _ rfl
  have h1 := hi 1 _ rfl
  have h2 := hi 2 _ rfl
  rw [List.getElem?_eq_getElem (by omega)] at h0 h1 h2
  obtain ⟨e, he, _, we⟩ := DataW.trod_int Tryd.underlying3 h0
  obtain ⟨k, hk, _, wk⟩ := DataW.trod_int Tryd.underlying42 h1
  obtain ⟨s, hs, _⟩ := DataW.trod_string Tryd.underlying9 h2
  have he' : (cs.drop 0).take (Tryd.prog.cellsOf 3) = [.int .i64 e] := he
  have hk' : (cs.drop 1).take (Tryd.prog.cellsOf 42) = [.int .i64 k] := hk
  have hs' : (cs.drop 2).take (Tryd.prog.cellsOf 9) = [.string s] := hs
  rw [z0, List.drop_zero] at he'
  rw [z1] at hk'
  rw [z2] at hs'
  refine ⟨(e, k, s), ?_, bounds_i64 we, bounds_i64 wk⟩
  have hlen : cs.length = 3 := by rw [hl, z3]
  have e1 : cs = cs.take 1 ++ ((cs.drop 1).take 1 ++ (cs.drop 2).take 1) := by
    match cs, hlen with
    | [_, _, _], _ => rfl
  rw [e1, he', hk', hs']
  rfl
theorem open_ver {H : Type} {enc : TypeId × Value → H} {W : World} {base b0 : Nat} {sp : Nat → Bool} {hd : Bool} {v : Value} {d : DataW H} {q : List MemPlace}
    (hok : Value.okWide Tryd.prog W .any base 44 v) (h : DataW.Trod enc Tryd.prog W b0 sp hd 44 v d q) : ∃ x : Ver, v = .agg (vc x).toArray := by
  unfold Value.okWide at hok
  rw [Tryd.underlying44] at hok
  obtain ⟨cs, rfl, hcs, _⟩ := hok
  obtain ⟨fuel, hf⟩ := h
  obtain ⟨x, hx, _⟩ := trod_ver hf
  refine ⟨x, ?_⟩
  congr 1
  apply Array.ext'
  exact hx
theorem open_vers {H : Type} {enc : TypeId × Value → H} {W : World} {base b0 : Nat} {sp : Nat → Bool} {hd : Bool} {v : Value} {d : DataW H} {q : List MemPlace}
    (hok : Value.okWide Tryd.prog W .any base 22 v) (h : DataW.Trod enc Tryd.prog W b0 sp hd 22 v d q) :
    ∃ (n : Nat) (l : List Ver), l.length = n ∧ SlC 3 W v n (vcs l) ∧ ∀ a n c, v = .slice a n c → n ≤ c := by
  obtain ⟨n, l, hl, hs, _⟩ := open_list (f := vc) (sz := 2) (fun _ => rfl) (show Tryd.prog.cellsOf 44 = 3 by kernel_rfl) Tryd.underlying22 (fun m cs y hy => trod_ver hy) hok h
  exact ⟨n, l, hl, hs, open_capL Tryd.underlying22 hok h⟩
end Go.Proofs.YthafhiemecfjiaaDoor
