/- A head that a law is handed, as its three parts. -/
import Derived.Test.YtbckeoidnpfbnaaDoorHead
import Derived.Test.YtbckeoidnpfbnaaDoorSxOpen
set_option linter.unusedVariables false
namespace Go.Proofs.YtbckeoidnpfbnaaDoor
open Go.ChangeShapes Go.WideShapes Go.ChangeAt Go.RowKit Go.Sx
theorem open_head {H : Type} {enc : TypeId × Value → H} {W : World} {base b0 : Nat} {sp : Nat → Bool} {hd : Bool} {v : Value} {d : DataW H} {q : List MemPlace}
    (hok : Value.okWide Tryd.prog W .any base 25 v) (h : DataW.Trod enc Tryd.prog W b0 sp hd 25 v d q) :
    ∃ (e : Int) (r p : List Int), v = .agg (hdL e r p).toArray ∧ r.length = 32 ∧ p.length = 32 ∧ Byt r ∧ Byt p := by
  unfold Value.okWide at hok
  rw [Tryd.underlying25] at hok
  obtain ⟨cs, rfl, hcs, _⟩ := hok
  obtain ⟨fuel, hf⟩ := h
  obtain ⟨xs, m, rfl, hx, hl, hxl, hi⟩ := DataW.trod_struct Tryd.underlying25 hf
  have hc : (Value.agg cs).cells.toList = cs.toList := rfl
  rw [hc] at hl hi
  have z0 : Tryd.prog.cellsOf 3 = 1 := by kernel_rfl
  have z1 : Tryd.prog.cellsOf 23 = 32 := by kernel_rfl
  have z2 : Tryd.prog.cellsOf 25 = 65 := by kernel_rfl
  have z3 : Tryd.prog.cellsOf 5 = 1 := by kernel_rfl
  have hx3 : xs.length = 3 := hxl
  have h0 := hi 0 _ rfl
  have h1 := hi 1 _ rfl
  have h2 := hi 2 _ rfl
  rw [List.getElem?_eq_getElem (by omega)] at h0 h1 h2
  obtain ⟨e, he, _, _⟩ := DataW.trod_int Tryd.underlying3 h0
  obtain ⟨r, hr, hrl, hrb⟩ := trod_dg Tryd.underlying23 Tryd.underlying5 ⟨z3, z1⟩ h1
  obtain ⟨p, hp, hpl, hpb⟩ := trod_dg Tryd.underlying23 Tryd.underlying5 ⟨z3, z1⟩ h2
  refine ⟨e, r, p, ?_, hrl, hpl, hrb, hpb⟩
  congr 1
  apply Array.ext'
  have he' : cs.toList.take 1 = [.int .i64 e] := by
    have : (cs.toList.drop 0).take (Tryd.prog.cellsOf 3) = [.int .i64 e] := he
    rw [z0, List.drop_zero] at this
    exact this
  have hr' : (cs.toList.drop 1).take 32 = dg r := by
    have : (cs.toList.drop 1).take (Tryd.prog.cellsOf 23) = dg r := hr
    rw [z1] at this
    exact this
  have hp' : (cs.toList.drop 33).take 32 = dg p := by
    have : (cs.toList.drop 33).take (Tryd.prog.cellsOf 23) = dg p := hp
    rw [z1] at this
    exact this
  have hlen : cs.toList.length = 65 := by rw [hl, z2]
  have e1 : cs.toList = cs.toList.take 1 ++ ((cs.toList.drop 1).take 32 ++ (cs.toList.drop 33).take 32) := by
    conv => lhs; rw [← List.take_append_drop 1 cs.toList, ← List.take_append_drop 32 (cs.toList.drop 1), List.drop_drop]
    congr 2
    rw [List.take_of_length_le (by rw [List.length_drop]; omega)]
  rw [e1, he', hr', hp']
  rfl
end Go.Proofs.YtbckeoidnpfbnaaDoor
