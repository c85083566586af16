/- More rules: a function that is deferred and recovers; one that defers it. -/
import Derived.Test.YtcbpgnjlbbjieaaDoorSx9
set_option linter.unusedVariables false
set_option linter.unusedSimpArgs false
namespace Go.Sx
theorem recoverD_yes {c : Frame} {cs : List Frame} {v : Value} {older : List PanicEntry} (h : c.mode = .panicking ({ v := v, recovered := false } :: older)) : recoverD (c :: cs) = some (v, { c with mode := .panicking ({ v := v, recovered := true } :: older) } :: cs) := by
  simp [recoverD, h]
theorem recoverD_no {c : Frame} {cs : List Frame} (h : c.mode = .returning) : recoverD (c :: cs) = none := by
  simp [recoverD, h]
section
variable {F : Fence} {P : Program} {Q : Exit → Act → List Frame → World → Prop} {a : Act} {cs cs' : List Frame} {w : World} {o0 o1 : Oper} {d d' id : Nat}
theorem rec_region (hF : ∀ f, F.fn f) (h0 : o0.op = .call { callee := .builtin .recover, args := #[], argTypes := #[] }) (g0 : o0.guard = none) (d0 : o0.dst = some d) (h1 : o1.op = .assign (.tmp d)) (g1 : o1.guard = none) (d1 : o1.dst = some d') (hd : d < a.tmps.size) (v : Value)
    (hr : recoverD cs = some (v, cs') ∨ (recoverD cs = none ∧ v = .nilIface ∧ cs' = cs)) (h : Q .normal ((a.put (some d) v).put (some d') v) cs' w) : (Code.region id #[o0, o1] false).wpSIn F 0 P Q a cs w := by
  apply wpSIn_region
  have e0 : (execOp a.eval o0).run P w = .ok .recover w := by
    unfold execOp; rw [h0]
    rfl
  have ev : (a.put (some d) v).eval (.tmp d) = v := by simp [Act.put, Act.eval, hd]
  have e1 : (execOp (a.put (some d) v).eval o1).run P w = .ok (.value v) w := by
    unfold execOp; rw [h1]
    simp only [ev]
    rfl
  show wpOpsSIn F 0 P #[o0, o1] Q [0, 1] a cs w
  unfold wpOpsSIn
  simp only [List.getElem?_toArray, List.getElem?_cons_zero, Region.wanted, g0, if_true, e0]
  refine ⟨fun f _ => hF f, ?_⟩
  have fin : ∀ cs1, cs1 = cs' → wpOpsSIn F 0 P #[o0, o1] Q [1] (a.put (some d) v) cs1 w := by
    rintro _ rfl
    unfold wpOpsSIn
    simp only [List.getElem?_toArray, List.getElem?_cons_succ, List.getElem?_cons_zero, Region.wanted, g1, if_true, e1]
    refine ⟨fun f _ => hF f, ?_⟩
    unfold wpOpsSIn
    rw [d1]
    exact h
  rcases hr with hr | ⟨hr, rfl, rfl⟩
  · rw [hr]
    simp only [d0]
    exact fin _ rfl
  · rw [hr]
    simp only [d0]
    exact fin _ rfl
end
section
variable {cx : Cx}
/-- Behind what recovers: the rest of the function that is deferred. -/
def KretS (cx : Cx) (fn : Func) (c₀ : Frame) (cs cs' : List Frame) (R : Ending → FrameMode → World → Prop) : Exit → St → Prop
  | .normal, st => ∀ a w, Ok cx st a w → bodyPostS cx.P fn c₀ cs R .ret a cs' w
  | .ret, st => ∀ a w, Ok cx st a w → bodyPostS cx.P fn c₀ cs R .ret a cs' w
  | _, _ => False
theorem wpSIn_of_J {c : Code} {fn : Func} {c₀ : Frame} {cs cs' : List Frame} {R : Ending → FrameMode → World → Prop} {st : St} {a : Act} {w : World} (hro : cx.ro = none) (h : J cx c (KretS cx fn c₀ cs cs' R) st) (ho : Ok cx st a w) : c.wpSIn (fen none) 0 cx.P (bodyPostS cx.P fn c₀ cs R) a cs' w := by
  have h1 := h a w ho
  rw [hro] at h1
  refine wpSIn_of_wpIn rfl (Go.wpIn_mono h1 ?_)
  rintro e a w ⟨s, h2, h3⟩
  cases e with
  | normal => exact h3 a w h2
  | ret => exact h3 a w h2
  | exit id => exact h3.elim
  | goto l => exact h3.elim
  | panic c => exact h3.elim
  | outgrown => exact h3.elim
theorem KretS_normal {fn : Func} {c₀ : Frame} {cs : List Frame} {u : FrameMode} {R : Ending → FrameMode → World → Prop} {st : St} (hr : fn.results = #[]) (hd : st.ds = []) (h : ∀ w, OkW cx st.mem st.facts w → R (.returned (.tuple #[])) u w) : KretS cx fn c₀ cs ({ c₀ with mode := u } :: cs) R .normal st :=
  fun a w ho => ⟨ho.a.ds.trans hd, u, rfl, .tuple #[], by simp [results, hr], h w ho.w⟩
end
section
variable {cx : Cx} {o : Oper} {st : St}
theorem run_eqIN {P : Program} {t : TypeId} {ms : Array (String × TypeId)} (w : World) (d : Nat) (hu : P.underlying t = some (.interface ms)) (tv : TypeId) (v : Value) : (Op.equalIn (d + 1) t (.iface tv v) .nilIface).run P w = .ok false w := by simp [Op.equalIn, run_underlying hu]
theorem run_eqNN {P : Program} {t : TypeId} {ms : Array (String × TypeId)} (w : World) (d : Nat) (hu : P.underlying t = some (.interface ms)) : (Op.equalIn (d + 1) t .nilIface .nilIface).run P w = .ok true w := by simp [Op.equalIn, run_underlying hu]
theorem V_neIface {t yt : TypeId} {ms : Array (String × TypeId)} {x y : Operand} {tv : TypeId} {v : Value} (ho : o.op = .binOp .neq t x y yt) (hx : ev st.env x = some (.iface tv v)) (hy : ev st.env y = some .nilIface) (hu : cx.P.underlying t = some (.interface ms)) : V cx o st (.bool true) :=
  ⟨nd ho (fun c h => by cases h), fun a' w h => by
    unfold execOp; rw [ho]
    have hg : (eqGuard .neq t x y (.iface tv v) .nilIface).run cx.P w = .ok () w := rfl
    have he : (Op.equal t (.iface tv v) .nilIface).run cx.P w = .ok false w := run_eqIN w 9999 hu tv v
    simp only [h.a.ev hx, h.a.ev hy, Sem.run_bind, hg, Result.andThen_ok, binOp, he, Sem.run_pure]
    rfl⟩
theorem V_neNil {t yt : TypeId} {ms : Array (String × TypeId)} {x : Operand} (ho : o.op = .binOp .neq t x (.const .nilIface) yt) (hx : ev st.env x = some .nilIface) (hu : cx.P.underlying t = some (.interface ms)) : V cx o st (.bool false) :=
  ⟨nd ho (fun c h => by cases h), fun a' w h => by
    unfold execOp; rw [ho]
    have hg : (eqGuard .neq t x (.const .nilIface) .nilIface .nilIface).run cx.P w = .ok () w := by
      unfold eqGuard
      cases x <;> rfl
    have he : (Op.equal t .nilIface .nilIface).run cx.P w = .ok true w := run_eqNN w 9999 hu
    have e2 : a'.eval (.const .nilIface) = .nilIface := rfl
    simp only [h.a.ev hx, e2, Sem.run_bind, hg, Result.andThen_ok, binOp, he, Sem.run_pure]
    rfl⟩
end
end Go.Sx
namespace Go.Sx
section
variable {cx : Cx} {o : Oper} {st : St}
theorem V_loadWO {t : TypeId} {x : Operand} {d : TypeDesc} {b sz : Nat} {l : List Value} {T : TypeId} {fz : Nat × Nat} (ho : o.op = .load t x) (hx : ev st.env x = some (.pointer (some ⟨b, 0, none⟩))) (hu : cx.P.underlying t = some d) (hs : scalarB d = false)
    (hb : ∀ w, OkW cx st.mem st.facts w → w.heap[b]? = some (.cells l.toArray T fz)) (hz : (cx.P.info? t).map (·.size) = some sz) (hl : l.length = sz) : V cx o st (.agg l.toArray) :=
  V_loadN ho hx hu hs (by rw [hl]; exact hz) fun w hw j v hv => by
    rw [Nat.zero_add]
    exact cell_of (hb w hw) (by simpa using hv)
end
end Go.Sx
