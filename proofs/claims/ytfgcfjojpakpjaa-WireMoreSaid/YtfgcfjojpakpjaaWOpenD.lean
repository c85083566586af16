/- What a law is handed as a directory. -/
import Derived.Test.YtfgcfjojpakpjaaWLawD
set_option linter.unusedVariables false
set_option linter.unusedSimpArgs false
set_option maxRecDepth 100000
namespace Go.Proofs.Ytfgcfjojpakpjaa
open Go.ChangeShapes Go.WideShapes Go.ChangeAt Go.RowKit Go.Sx
theorem trod_dr {H : Type} {enc : TypeId × Value → H} {W : World} {b0 : Nat} {sp : Nat → Bool} {hd : Bool} {m : Nat} {cs : List Value} {y : DataW H × List MemPlace} (hf : DataW.trod enc Try.prog W b0 sp hd m 60 cs = some y) :
    ∃ (e0 : Int) (us : List (Us × Value)) (hs : List Hd) (ss : List Se) (v1 v2 v3 : Value), cs = drV e0 v1 v2 v3 ∧ TB drC (e0, us.map Prod.fst, hs, ss) ∧
      FW W (factC 2 v1 us.length (us.map usW).flatten :: factC 65 v2 hs.length (hs.map hdV).flatten :: factC 4 v3 ss.length (ss.map seV).flatten :: us.map usF) := by
  obtain ⟨xs, m, rfl, hx, hl, hxl, hi⟩ := DataW.trod_struct Try.underlying60 hf
  have z0 : Try.prog.cellsOf 3 = 1 := by kernel_rfl
  have z1 : Try.prog.cellsOf 56 = 1 := by kernel_rfl
  have z2 : Try.prog.cellsOf 57 = 1 := by kernel_rfl
  have z3 : Try.prog.cellsOf 58 = 1 := by kernel_rfl
  have zz : Try.prog.cellsOf 60 = 4 := by kernel_rfl
  have hxl2 : xs.length = 4 := hxl
  have h0 := hi 0 _ rfl
  rw [List.getElem?_eq_getElem (by omega)] at h0
  have h1 := hi 1 _ rfl
  rw [List.getElem?_eq_getElem (by omega)] at h1
  have h2 := hi 2 _ rfl
  rw [List.getElem?_eq_getElem (by omega)] at h2
  have h3 := hi 3 _ rfl
  rw [List.getElem?_eq_getElem (by omega)] at h3
  obtain ⟨e0, e0', _, _⟩ := DataW.trod_int Try.underlying3 h0
  obtain ⟨v1, us, e1, s1, _, g1⟩ := trod_rows (f := usW) (sz := 1) (good := fun p => TB usC p.1 ∧ FW W [usF p]) (fun _ => rfl) (by kernel_rfl) Try.underlying56 (fun m cs y hy => by
    obtain ⟨x, v, h1, h2, h3, _⟩ := trod_us hy
    exact ⟨(x, v), h1, h2, h3⟩) h1
  obtain ⟨v2, hs, e2, s2, _, g2⟩ := trod_rows (f := hdV) (sz := 64) (good := TB hdC) (fun _ => rfl) (by kernel_rfl) Try.underlying57 (fun m cs y hy => trod_hd hy) h2
  obtain ⟨v3, ss, e3, s3, _, g3⟩ := trod_rows (f := seV) (sz := 3) (good := TB seC) (fun _ => rfl) (by kernel_rfl) Try.underlying58 (fun m cs y hy => trod_se hy) h3
  refine ⟨e0, us, hs, ss, v1, v2, v3, ?_, TB.pr (TB.c _) (TB.pr (TB.ls fun y hy => by obtain ⟨p, hp, rfl⟩ := List.mem_map.1 hy; exact (g1 p hp).1) (TB.pr (TB.ls g2) (TB.ls g3))), .cons ⟨s1, factC_lt s1⟩ (.cons ⟨s2, factC_lt s2⟩ (.cons ⟨s3, factC_lt s3⟩ (fun f hf => ?_)))⟩
  · rw [zz] at hl
    have c0 : cs.drop 0 = [.int .i64 e0] ++ cs.drop 1 := cutS (off := 0) (n := 1) (by have h : (cs.drop 0).take (Try.prog.cellsOf 3) = [.int .i64 e0] := e0'; rw [z0] at h; exact h)
    have c1 : cs.drop 1 = [v1] ++ cs.drop 2 := cutS (off := 1) (n := 1) (by have h : (cs.drop 1).take (Try.prog.cellsOf 56) = [v1] := e1; rw [z1] at h; exact h)
    have c2 : cs.drop 2 = [v2] ++ cs.drop 3 := cutS (off := 2) (n := 1) (by have h : (cs.drop 2).take (Try.prog.cellsOf 57) = [v2] := e2; rw [z2] at h; exact h)
    have c3 : cs.drop 3 = [v3] ++ cs.drop 4 := cutS (off := 3) (n := 1) (by have h : (cs.drop 3).take (Try.prog.cellsOf 58) = [v3] := e3; rw [z3] at h; exact h)
    have c4 : cs.drop 4 = [] := List.drop_eq_nil_of_le (by omega)
    have hh : cs = [.int .i64 e0] ++ ([v1] ++ ([v2] ++ ([v3] ++ []))) := (c0.trans (congrArg (_ ++ ·) (c1.trans (congrArg (_ ++ ·) (c2.trans (congrArg (_ ++ ·) (c3.trans (congrArg (_ ++ ·) c4))))))))
    rw [hh]
    rfl
  · obtain ⟨p, hp, rfl⟩ := List.mem_map.1 hf
    exact (g1 p hp).2 _ (List.mem_singleton.2 rfl)
theorem open_dr {H : Type} {enc : TypeId × Value → H} {W : World} {b0 : Nat} {sp : Nat → Bool} {hd : Bool} {base : Nat} {v : Value} {d : DataW H} {q : List MemPlace}
    (hok : Value.okWide Try.prog W .any base 60 v) (h : DataW.Trod enc Try.prog W b0 sp hd 60 v d q) :
    ∃ (e0 : Int) (us : List (Us × Value)) (hs : List Hd) (ss : List Se) (v1 v2 v3 : Value), v = .agg (drV e0 v1 v2 v3).toArray ∧ TB drC (e0, us.map Prod.fst, hs, ss) ∧
      FW W (factC 2 v1 us.length (us.map usW).flatten :: factC 65 v2 hs.length (hs.map hdV).flatten :: factC 4 v3 ss.length (ss.map seV).flatten :: us.map usF) := by
  unfold Value.okWide at hok
  rw [Try.underlying60] at hok
  obtain ⟨cs, rfl, hcs, _⟩ := hok
  obtain ⟨fuel, hf⟩ := h
  obtain ⟨e0, us, hs, ss, v1, v2, v3, hx, h1⟩ := trod_dr hf
  refine ⟨e0, us, hs, ss, v1, v2, v3, ?_, h1⟩
  congr 1
  apply Array.ext'
  exact hx



end Go.Proofs.Ytfgcfjojpakpjaa
