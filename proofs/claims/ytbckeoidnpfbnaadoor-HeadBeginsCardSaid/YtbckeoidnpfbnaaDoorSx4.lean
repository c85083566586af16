/- One more rule: bytes made of a text. -/
import Derived.Test.YtbckeoidnpfbnaaDoorSx3
set_option linter.unusedVariables false
set_option linter.unusedSimpArgs false
namespace Go.Sx
section
variable {cx : Cx} {o : Oper} {ops : Array Oper} {K : St → Prop} {rest : List Oper} {st : St}
/-- []byte(s), and how much room it has. -/
theorem L_toBytesC {src dst e : TypeId} {x : Operand} {s : ByteArray} {d : Nat} (hg : o.guard = none) (ho : o.op = .convert src dst x) (hd : o.dst = some d) (hlt : Nat.blt d cx.nt = true) (hx : ev st.env x = some (.string s)) (hs : cx.P.underlying src = some .string) (hdt : cx.P.underlying dst = some (.slice e)) (he : cx.P.underlying e = some (.int .u8))
    (h : ∀ (g c : Nat) (r : List Value) (fz : Nat × Nat), s.size ≤ c → r.length = c - s.size → L cx ops K rest { st with env := (d, .slice (some ⟨g, 0, none⟩) s.size c) :: st.env, mem := st.mem ++ [(g, .cells (dg (bs s) ++ r).toArray e fz)] }) : L cx ops K (o :: rest) st := by
  refine L_cons hg fun Q next a w hok hk => ?_
  have hr := run_bytes_of_string (P := cx.P) w src dst e s hs hdt he
  have hval : (execOp a.eval o).run cx.P w = .ok (.value (.slice (some ⟨w.heap.size, 0, none⟩) s.size (grownCap w s.size 0 e))) (w.drew.alloc (.cells (bytesRow s (grownCap w s.size 0 e)) e ((bytesRow s (grownCap w s.size 0 e)).size, (bytesRow s (grownCap w s.size 0 e)).size + 1))) := by
    unfold execOp; rw [ho]
    simp only [hok.a.ev hx, Sem.run_bind, hr, Result.andThen_ok, Sem.run_pure]
  refine wpIn_value (nd ho (fun c h => by cases h)) hval ?_
  rw [hd]
  have hal : Fr [] w (w.drew.alloc (.cells (bytesRow s (grownCap w s.size 0 e)) e ((bytesRow s (grownCap w s.size 0 e)).size, (bytesRow s (grownCap w s.size 0 e)).size + 1))) := (Fr.drew w).trans (Fr.alloc w.drew _)
  have hrow : bytesRow s (grownCap w s.size 0 e) = (dg (bs s) ++ List.replicate (grownCap w s.size 0 e - s.size) (Value.int .u8 0)).toArray := by
    apply Array.ext'
    simp [bytesRow, dg, bs, Function.comp_def]
  have hnew : (w.drew.alloc (.cells (bytesRow s (grownCap w s.size 0 e)) e ((bytesRow s (grownCap w s.size 0 e)).size, (bytesRow s (grownCap w s.size 0 e)).size + 1))).heap[w.heap.size]? = some (.cells (dg (bs s) ++ List.replicate (grownCap w s.size 0 e - s.size) (Value.int .u8 0)).toArray e ((bytesRow s (grownCap w s.size 0 e)).size, (bytesRow s (grownCap w s.size 0 e)).size + 1)) := by
    rw [show w.heap.size = w.drew.heap.size from rfl, heap_alloc_new]
    congr 1
    rw [hrow]
  exact hk _ _ _ ⟨hok.a.put hlt _, hok.w.add hal hnew (Nat.le_refl _)⟩ (h _ _ _ _ (grownCap_ge _ _ _ _) List.length_replicate)
end
end Go.Sx
