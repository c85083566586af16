/- Two structs, field by field: is it the same? -/
import Derived.Test.YtcbpgnjlbbjieaaDoorSx
set_option linter.unusedVariables false
set_option linter.unusedSimpArgs false
namespace Go.Sx
variable {P : Program}
theorem eqF_and {d : Nat} {xs ys : Array Value} {t : TypeId} {off : Nat} {r : List (Bool × TypeId × Nat)} {a b : Value} {w : World} {p q : Prop} [Decidable p] [Decidable q] (hx : (part t xs off).run P w = .ok a w) (hy : (part t ys off).run P w = .ok b w) (hq : (Op.equalIn d t a b).run P w = .ok (decide p) w)
    (hr : (eqF d xs ys r).run P w = .ok (decide q) w) : (eqF d xs ys ((true, t, off) :: r)).run P w = .ok (decide (p ∧ q)) w := by
  rw [eqF_one hx hy hq, hr]
  by_cases hp : p <;> simp [hp]
theorem eqF_nil {d : Nat} {xs ys : Array Value} {w : World} : (eqF d xs ys []).run P w = .ok (decide True) w := rfl
theorem run_equalIn_strD {t : TypeId} (w : World) (d : Nat) (a b : ByteArray) (h : P.underlying t = some .string) : (Op.equalIn (d + 1) t (.string a) (.string b)).run P w = .ok (decide (a = b)) w := by
  rw [run_equalIn_string w d t a b h, Go.Sx.str_eq]
theorem run_equalIn_intD {t : TypeId} {k k' : IntKind} (w : World) (d : Nat) (a b : Int) (h : P.underlying t = some (.int k')) : (Op.equalIn (d + 1) t (.int k a) (.int k b)).run P w = .ok (decide (a = b)) w := by
  rw [run_equalIn_int w d t k k' a b h]
  by_cases h : a = b <;> simp [h]
theorem run_partSt' {t : TypeId} {fs : Array Field} {sz : Nat} {cs : Array Value} {off : Nat} {w : World} (hu : P.underlying t = some (.struct fs)) (hz : (P.info? t).map (·.size) = some sz) : (part t cs off).run P w = .ok (.agg (cs.extract off (off + sz))) w := by
  simp [part, isAgg, run_underlying hu, Go.Sx.run_sizeOf hz]
end Go.Sx
