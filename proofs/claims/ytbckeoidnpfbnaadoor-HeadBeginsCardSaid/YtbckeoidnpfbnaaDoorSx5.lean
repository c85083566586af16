/- More rules: a struct that is built of wide parts; bytes made of a text, in the form of one operation. -/
import Derived.Test.YtbckeoidnpfbnaaDoorSx4
set_option linter.unusedVariables false
set_option linter.unusedSimpArgs false
namespace Go.Sx
theorem foldl_sets (off : Nat) : ∀ (vl : List Value) (k : Nat) (arr : List Value), off + k + vl.length ≤ arr.length →
    (vl.zipIdx k).foldl (fun (a : Array Value) (p : Value × Nat) => a.setIfInBounds (off + p.2) p.1) arr.toArray = (arr.take (off + k) ++ vl ++ arr.drop (off + k + vl.length)).toArray
  | [], k, arr, h => by simp
  | v :: vl, k, arr, h => by
    simp only [List.length_cons] at h
    rw [List.zipIdx_cons, List.foldl_cons]
    have e1 : arr.toArray.setIfInBounds (off + k) v = (arr.set (off + k) v).toArray := by simp
    rw [e1, foldl_sets off vl (k + 1) (arr.set (off + k) v) (by simp; omega)]
    congr 1
    have h1 : off + k < arr.length := by omega
    have e2 : (arr.set (off + k) v).take (off + (k + 1)) = arr.take (off + k) ++ [v] := by
      rw [show off + (k + 1) = (off + k) + 1 by omega, List.take_add_one, List.take_set_of_le (Nat.le_refl _), List.getElem?_set_self h1]
      rfl
    have e3 : (arr.set (off + k) v).drop (off + (k + 1) + vl.length) = arr.drop (off + k + (v :: vl).length) := by
      rw [List.drop_set_of_lt (by omega), List.length_cons]
      congr 1
      omega
    rw [e2, e3]
    simp
theorem fill_set {place : Nat → Option (Nat × Nat)} {i off n : Nat} {v : Value} {arr vl : List Value} {rest : List (Nat × Value)} (hp : place i = some (off, n)) (hv : v.cells = vl.toArray) (hl : vl.length = n) (hf : off + n ≤ arr.length) :
    Instr.fill place arr.toArray ((i, v) :: rest) = Instr.fill place (arr.take off ++ vl ++ arr.drop (off + n)).toArray rest := by
  rw [Instr.fill, hp]
  simp only [hv, List.size_toArray, hl]
  rw [if_neg (by simp; omega)]
  congr 1
  have := foldl_sets off vl 0 arr (by omega)
  rw [Nat.add_zero, hl] at this
  rw [← this]
  simp
section
variable {cx : Cx} {o : Oper} {ops : Array Oper} {K : St → Prop} {st : St}
theorem S_toBytesC {src dst e : TypeId} {x : Operand} {s : ByteArray} {d : Nat} (ho : o.op = .convert src dst x) (hd : o.dst = some d) (hlt : Nat.blt d cx.nt = true) (hx : ev st.env x = some (.string s)) (hs : cx.P.underlying src = some .string) (hdt : cx.P.underlying dst = some (.slice e)) (he : cx.P.underlying e = some (.int .u8))
    (h : ∀ (g c : Nat) (r : List Value) (fz : Nat × Nat), s.size ≤ c → r.length = c - s.size → K { st with env := (d, .slice (some ⟨g, 0, none⟩) s.size c) :: st.env, mem := st.mem ++ [(g, .cells (dg (bs s) ++ r).toArray e fz)] }) : S cx o K st := by
  intro Q next a w hok hk
  have hr := run_bytes_of_string (P := cx.P) w src dst e s hs hdt he
  have hval : (execOp a.eval o).run cx.P w = .ok (.value (.slice (some ⟨w.heap.size, 0, none⟩) s.size (grownCap w s.size 0 e))) (w.drew.alloc (.cells (bytesRow s (grownCap w s.size 0 e)) e ((bytesRow s (grownCap w s.size 0 e)).size, (bytesRow s (grownCap w s.size 0 e)).size + 1))) := by
    unfold execOp; rw [ho]
    simp only [hok.a.ev hx, Sem.run_bind, hr, Result.andThen_ok, Sem.run_pure]
  refine wpIn_value (nd ho (fun c h => by cases h)) hval ?_
  rw [hd]
  have hal : Fr [] w (w.drew.alloc (.cells (bytesRow s (grownCap w s.size 0 e)) e ((bytesRow s (grownCap w s.size 0 e)).size, (bytesRow s (grownCap w s.size 0 e)).size + 1))) := (Fr.drew w).trans (Fr.alloc w.drew _)
  have hrow : bytesRow s (grownCap w s.size 0 e) = (dg (bs s) ++ List.replicate (grownCap w s.size 0 e - s.size) (Value.int .u8 0)).toArray := by
    apply Array.ext'
    simp [bytesRow, dg, bs, Function.comp_def]
  have hnew : (w.drew.alloc (.cells (bytesRow s (grownCap w s.size 0 e)) e ((bytesRow s (grownCap w s.size 0 e)).size, (bytesRow s (grownCap w s.size 0 e)).size + 1))).heap[w.heap.size]? = some (.cells (dg (bs s) ++ List.replicate (grownCap w s.size 0 e - s.size) (Value.int .u8 0)).toArray e ((bytesRow s (grownCap w s.size 0 e)).size, (bytesRow s (grownCap w s.size 0 e)).size + 1)) := by
    rw [show w.heap.size = w.drew.heap.size from rfl, heap_alloc_new]
    congr 1
    rw [hrow]
  exact hk _ _ _ ⟨hok.a.put hlt _, hok.w.add hal hnew (Nat.le_refl _)⟩ (h _ _ _ _ (grownCap_ge _ _ _ _) List.length_replicate)
/-- Bytes that lie somewhere in a block of the call's own. -/
theorem SlB.at_off {m : Mem} {fs : List Fact} {w : World} {i b off n : Nat} {l : List Int} {L : List Value} {T : TypeId} {fz : Nat × Nat} (h : OkW cx m fs w) (hi : m[i]? = some (b, .cells L.toArray T fz)) (hl : l.length = n) (hp : ∀ j, j < (dg l).length → L[off + j]? = (dg l)[j]?) (c : Nat) : SlB w (.slice (some ⟨b, off, none⟩) n c) l := by
  refine .inr ⟨b, off, c, by rw [hl], fun j y hj => cell_of (h.at hi) ?_⟩
  have hlt := (List.getElem?_eq_some_iff.1 hj).1
  rw [List.getElem?_toArray, hp j (by rw [dg_length]; exact hlt)]
  unfold dg
  rw [List.getElem?_map, hj]
  rfl
theorem sz0 {s : ByteArray} : s = ⟨#[]⟩ ↔ s.size = 0 := by
  constructor
  · rintro rfl; rfl
  · intro h
    apply ByteArray.ext
    exact Array.eq_empty_of_size_eq_zero h
theorem neE0 (s : ByteArray) : decide (s ≠ ⟨#[]⟩) = decide (s.size ≠ 0) := decide_eq_decide.2 (not_congr sz0)
theorem eqE0 (s : ByteArray) : decide (s = ⟨#[]⟩) = decide (s.size = 0) := decide_eq_decide.2 sz0
end
end Go.Sx
