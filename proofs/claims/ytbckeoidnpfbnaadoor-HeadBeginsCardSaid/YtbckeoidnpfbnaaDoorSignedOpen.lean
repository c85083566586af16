/- A signed head that a law is handed, as its four parts. -/
import Derived.Test.YtbckeoidnpfbnaaDoorHeadOpen
import Derived.Test.YtbckeoidnpfbnaaDoorHead2
set_option linter.unusedVariables false
namespace Go.Proofs.YtbckeoidnpfbnaaDoor
open Go.ChangeShapes Go.WideShapes Go.ChangeAt Go.RowKit Go.Sx
theorem trod_head {H : Type} {enc : TypeId × Value → H} {W : World} {b0 : Nat} {sp : Nat → Bool} {hd : Bool} {m : Nat} {cs : List Value} {x : DataW H × List MemPlace} (hf : DataW.trod enc Tryd.prog W b0 sp hd m 25 cs = some x) :
    ∃ (e : Int) (r p : List Int), cs = hdL e r p ∧ r.length = 32 ∧ p.length = 32 ∧ Byt r ∧ Byt p := by
  obtain ⟨xs, m, rfl, hx, hl, hxl, hi⟩ := DataW.trod_struct Tryd.underlying25 hf
  have z0 : Tryd.prog.cellsOf 3 = 1 := by kernel_rfl
  have z1 : Tryd.prog.cellsOf 23 = 32 := by kernel_rfl
  have z2 : Tryd.prog.cellsOf 25 = 65 := by kernel_rfl
  have z3 : Tryd.prog.cellsOf 5 = 1 := by kernel_rfl
  have hx3 : xs.length = 3 := hxl
  have h0 := hi 0 _ rfl
  have h1 := hi 1 _ rfl
  have h2 := hi 2 _ rfl
  rw [List.getElem?_eq_getElem (by omega)] at h0 h1 h2
  obtain ⟨e, he, _, _⟩ := DataW.trod_int Tryd.underlying3 h0
  obtain ⟨r, hr, hrl, hrb⟩ := trod_dg Tryd.underlying23 Tryd.underlying5 ⟨z3, z1⟩ h1
  obtain ⟨p, hp, hpl, hpb⟩ := trod_dg Tryd.underlying23 Tryd.underlying5 ⟨z3, z1⟩ h2
  refine ⟨e, r, p, ?_, hrl, hpl, hrb, hpb⟩
  have he' : cs.take 1 = [.int .i64 e] := by
    have : (cs.drop 0).take (Tryd.prog.cellsOf 3) = [.int .i64 e] := he
    rw [z0, List.drop_zero] at this
    exact this
  have hr' : (cs.drop 1).take 32 = dg r := by
    have : (cs.drop 1).take (Tryd.prog.cellsOf 23) = dg r := hr
    rw [z1] at this
    exact this
  have hp' : (cs.drop 33).take 32 = dg p := by
    have : (cs.drop 33).take (Tryd.prog.cellsOf 23) = dg p := hp
    rw [z1] at this
    exact this
  have hlen : cs.length = 65 := by rw [hl, z2]
  have e1 : cs = cs.take 1 ++ ((cs.drop 1).take 32 ++ (cs.drop 33).take 32) := by
    conv => lhs; rw [← List.take_append_drop 1 cs, ← List.take_append_drop 32 (cs.drop 1), List.drop_drop]
    congr 2
    rw [List.take_of_length_le (by rw [List.length_drop]; omega)]
  rw [e1, he', hr', hp']
  rfl
theorem trod_signed {H : Type} {enc : TypeId × Value → H} {W : World} {b0 : Nat} {sp : Nat → Bool} {hd : Bool} {m : Nat} {cs : List Value} {x : DataW H × List MemPlace} (hf : DataW.trod enc Tryd.prog W b0 sp hd m 36 cs = some x) :
    ∃ (e : Int) (r p g : List Int), cs = sgL e r p g ∧ r.length = 32 ∧ p.length = 32 ∧ g.length = 32 ∧ Byt r ∧ Byt p ∧ Byt g := by
  obtain ⟨xs, m, rfl, hx, hl, hxl, hi⟩ := DataW.trod_struct Tryd.underlying36 hf
  have z1 : Tryd.prog.cellsOf 23 = 32 := by kernel_rfl
  have z2 : Tryd.prog.cellsOf 25 = 65 := by kernel_rfl
  have z3 : Tryd.prog.cellsOf 5 = 1 := by kernel_rfl
  have z4 : Tryd.prog.cellsOf 36 = 97 := by kernel_rfl
  have hx2 : xs.length = 2 := hxl
  have h0 := hi 0 _ rfl
  have h1 := hi 1 _ rfl
  rw [List.getElem?_eq_getElem (by omega)] at h0 h1
  obtain ⟨e, r, p, he, hr, hp, hrb, hpb⟩ := trod_head h0
  obtain ⟨g, hg, hgl, hgb⟩ := trod_dg Tryd.underlying23 Tryd.underlying5 ⟨z3, z1⟩ h1
  refine ⟨e, r, p, g, ?_, hr, hp, hgl, hrb, hpb, hgb⟩
  have he' : cs.take 65 = hdL e r p := by
    have : (cs.drop 0).take (Tryd.prog.cellsOf 25) = hdL e r p := he
    rw [z2, List.drop_zero] at this
    exact this
  have hg' : (cs.drop 65).take 32 = dg g := by
    have : (cs.drop 65).take (Tryd.prog.cellsOf 23) = dg g := hg
    rw [z1] at this
    exact this
  have hlen : cs.length = 97 := by rw [hl, z4]
  have e1 : cs = cs.take 65 ++ (cs.drop 65).take 32 := by
    conv => lhs; rw [← List.take_append_drop 65 cs]
    rw [List.take_of_length_le (l := cs.drop 65) (by rw [List.length_drop]; omega)]
  rw [e1, he', hg']
  rfl
theorem open_signed {H : Type} {enc : TypeId × Value → H} {W : World} {base b0 : Nat} {sp : Nat → Bool} {hd : Bool} {v : Value} {d : DataW H} {q : List MemPlace}
    (hok : Value.okWide Tryd.prog W .any base 36 v) (h : DataW.Trod enc Tryd.prog W b0 sp hd 36 v d q) :
    ∃ (e : Int) (r p g : List Int), v = .agg (sgL e r p g).toArray ∧ r.length = 32 ∧ p.length = 32 ∧ g.length = 32 ∧ Byt r ∧ Byt p ∧ Byt g := by
  unfold Value.okWide at hok
  rw [Tryd.underlying36] at hok
  obtain ⟨cs, rfl, hcs, _⟩ := hok
  obtain ⟨fuel, hf⟩ := h
  obtain ⟨e, r, p, g, hx, h1⟩ := trod_signed hf
  refine ⟨e, r, p, g, ?_, h1⟩
  congr 1
  apply Array.ext'
  exact hx
end Go.Proofs.YtbckeoidnpfbnaaDoor
