/- The sorted keys of a map from texts to numbers, as a row of the caller's own. -/
import Derived.Test.YtcbpgnjlbbjieaaDoorDiskLib
import Derived.Test.YtcbpgnjlbbjieaaDoorSx21
import Derived.Test.YtcbpgnjlbbjieaaDoorDiskPure
set_option linter.unusedVariables false
set_option linter.unusedSimpArgs false
set_option maxRecDepth 100000
namespace Go.Proofs.YtcbpgnjlbbjieaaDoor
open Go.Sx Go.RowKit Go.Maps Go.Sort Go.Shelf
open Go.ChangeMaps Go.MapKept
open Go.WideElems (Fit rd rg pl rd_val elemAt)
/-- The map's entries, read. -/
theorem Fit_of {en : Array MapEntry} {ck : Nat} {l : List Nm} (h : MapIs en ck l) (hs : ∀ p ∈ l, p.1.size ≤ 16 ∧ p.2 ≤ 4611686018427387904) (hl : l.length ≤ 1099511627776) : Fit (H := Unit) Tryd.prog 9 (plainElem Tryd.prog 3) en ck ∧
    (en.toList.map (rg (H := Unit) Tryd.prog 9 (plainElem Tryd.prog 3))) = l.map fun p => (Lit.string p.1.data.toList, DataW.lit (.int .i64 p.2)) := by
  have hu : Tryd.prog.underlying 9 = some .string := Tryd.underlying9
  have hu3 : Tryd.prog.underlying 3 = some (.int .i64) := Tryd.underlying3
  have key : ∀ (es : List MapEntry) (l : List Nm), es.map (fun e => (e.key, e.val)) = l.map mE → (∀ p ∈ l, p.1.size ≤ 16 ∧ p.2 ≤ 4611686018427387904) →
      (∀ x ∈ es, ∃ y, rd (H := Unit) Tryd.prog 9 (plainElem Tryd.prog 3) x = some y) ∧ es.map (rg (H := Unit) Tryd.prog 9 (plainElem Tryd.prog 3)) = l.map fun p => (Lit.string p.1.data.toList, DataW.lit (.int .i64 p.2)) := by
    intro es
    induction es with
    | nil =>
      intro l h _
      have : l = [] := by simpa using h.symm
      subst this
      exact ⟨fun x hx => (by cases hx), rfl⟩
    | cons e es ih =>
      intro l h hb
      cases l with
      | nil => cases h
      | cons p l =>
        simp only [List.map_cons, List.cons.injEq, mE, Prod.mk.injEq] at h
        obtain ⟨⟨hk, hv⟩, hr⟩ := h
        obtain ⟨i1, i2⟩ := ih l hr fun q hq => hb q (List.mem_cons_of_mem _ hq)
        have hp := hb p (List.mem_cons_self ..)
        have hrd : rd (H := Unit) Tryd.prog 9 (plainElem Tryd.prog 3) e = some (Lit.string p.1.data.toList, DataW.lit (.int .i64 p.2)) := by
          have h1 : keyOf Tryd.prog 9 e.key = some (Lit.string p.1.data.toList) := by
            rw [hk]
            simp [keyOf, hu, mapKey]
            have := hp.1
            have : maxLen = 9223372036854775807 := rfl
            show p.1.size ≤ maxLen
            omega
          have h2 : plainElem (H := Unit) Tryd.prog 3 e.val = some (DataW.lit (.int .i64 p.2), []) := by
            rw [hv]
            refine plainElem_int hu3 ?_
            have := hp.2
            have hmn : IntKind.i64.min = -9223372036854775808 := by decide
            have hmx : IntKind.i64.max = 9223372036854775807 := by decide
            simp [Lit.wf, hmn, hmx]
            omega
          unfold WideElems.rd
          rw [h1, h2]
          rfl
        refine ⟨fun x hx => ?_, ?_⟩
        · rcases List.mem_cons.1 hx with rfl | hx
          · exact ⟨_, hrd⟩
          · exact i1 x hx
        · rw [List.map_cons, List.map_cons, i2, WideElems.rg_of hrd]
  obtain ⟨k1, k2⟩ := key en.toList l h.en hs
  refine ⟨⟨by rw [h.size]; have : maxLen = 9223372036854775807 := rfl; omega, ⟨h.lt, h.born, ?_⟩, k1⟩, k2⟩
  have e1 : en.toList.map (·.key) = (l.map Prod.fst).map Value.string := by
    have := congrArg (List.map Prod.fst) h.en
    rw [List.map_map, List.map_map] at this
    rw [List.map_map]
    exact this
  rw [e1]
  exact List.pairwise_map.2 (h.keys.imp fun hne e => hne (by injection e))
theorem sorted_keys {l s : List Nm} (hp : l.Perm s) (hs : Srt s) {ss : List (List UInt8)} (h : ss.Perm (l.map fun p => p.1.data.toList)) : ss.mergeSort (fun x y => decide (x ≤ y)) = s.map fun p => p.1.data.toList := by
  have h1 : ss.Perm (s.map fun p => p.1.data.toList) := h.trans (hp.map _)
  rw [mergeSort_of_perm h1]
  refine List.mergeSort_of_pairwise (List.pairwise_map.2 (hs.imp fun {a b} hab => ?_))
  have h2 : a.1.data.toList < b.1.data.toList := of_decide_eq_true hab
  exact decide_eq_true (List.le_of_lt h2)
theorem encStr_of (b : ByteArray) : encStr b.data.toList = .string b := by
  show Value.string ⟨b.data.toList.toArray⟩ = _
  simp
set_option maxHeartbeats 1000000 in
theorem sorted_w (g b : Nat) (en : Array MapEntry) (ck : Nat) (l s : List Nm) (W : World) (hg : W.heap[g]? = some (.cells #[.map (some b)] 57 (0, 0))) (hb : W.heap[b]? = some (.map en ck)) (hm : MapIs en ck l) (hs : ∀ p ∈ l, p.1.size ≤ 16 ∧ p.2 ≤ 4611686018427387904) (hl : l.length ≤ 1099511627776) (hp : l.Perm s) (hr : Srt s) :
    Calls Tryd.prog 36 #[.func (.func 55) #[] #[.pointer (some ⟨g, 0, none⟩)]] W fun e w' => ∃ q : OwnP, e = .returned (pV q s.length) ∧ Fr [] W w' ∧ PC 1 q s.length (s.map fun p => .string p.1) ∧ NewL W w' (pM 9 q (s.map fun p => .string p.1)) [] := by
  obtain ⟨hF, hmap⟩ := Fit_of hm hs hl
  have hgl : g < W.heap.size := (Array.getElem?_eq_some_iff.1 hg).1
  have hown : W.ownsMap Tryd.prog 9 (plainElem (H := Unit) Tryd.prog 3) b en.size (.map ((en.toList.map (WideElems.rg (H := Unit) Tryd.prog 9 (plainElem Tryd.prog 3))).foldr DataW.insert [])) := ⟨en, ck, hb, hF, Nat.le_refl _, rfl⟩
  have hsz : Maps.size (DataW.map ((en.toList.map (WideElems.rg (H := Unit) Tryd.prog 9 (plainElem Tryd.prog 3))).foldr DataW.insert [])) = l.length := by
    show List.length _ = _
    rw [length_sorted, List.length_map, Array.length_toList, hm.size]
  have hkeys : (strKeys (DataW.map ((en.toList.map (WideElems.rg (H := Unit) Tryd.prog 9 (plainElem Tryd.prog 3))).foldr DataW.insert []))).Perm (l.map fun p => p.1.data.toList) := by
    show (List.map (fun p : Lit × DataW Unit => strOf p.1) _).Perm _
    refine ((WideShapes.sorted_perm _).map _).trans ?_
    rw [hmap, List.map_map]
    exact List.Perm.refl _
  have hseq : SeqGives Fence.wide 2 Tryd.prog 55 #[.pointer (some ⟨g, 0, none⟩)] encStr (fun ss => ss.Perm (strKeys _)) (Maps.size _) W :=
    AnyZ.keys_gives (ρ := Tryd.keys37_ren) { Tryd.keys37 with } Fence.wide _ trivial rfl (by omega) g b en.size _ W hgl (by simp [World.cell?, hg]) hown
  have hmx : maxLen = 9223372036854775807 := rfl
  have h1 := AnyZ.sorted_in Tryd.sorted36 Fence.wide 5 trivial trivial trivial trivial rfl (by omega) (Tryd.sorts36 _) (enters_of Tryd.func54 (by kernel_rfl) rfl) 55 #[.pointer (some ⟨g, 0, none⟩)] trivial (enters_of Tryd.func55 (by kernel_rfl) rfl) _ _ (by rw [hsz]; omega) (by rw [hsz]; omega) _ hseq
  refine ((callsIn_wide (n := 5)).1 h1).mono ?_
  rintro e w' ⟨v, ss, rfl, hperm, ⟨hlen, hrow⟩, hnil, hbel⟩
  have hsl : ss.length = s.length := by rw [(hperm.trans hkeys).length_eq, List.length_map, hp.length_eq]
  have hks : (ss.mergeSort fun x y => decide (x ≤ y)).map encStr = s.map fun p => Value.string p.1 := by
    rw [sorted_keys hp hr (hperm.trans hkeys), List.map_map]
    exact List.map_congr_left fun p _ => encStr_of p.1
  rw [hks] at hlen hrow
  rw [hsl] at hlen hrow
  rcases hrow with ⟨rfl, h0⟩ | ⟨g', cap, cur, rfl, hge, hcur, hnc, hcm, hcs, htk⟩
  · refine ⟨none, by rw [h0]; rfl, Fr.of_below hbel, ⟨h0, by rw [h0] at hlen; exact List.length_eq_zero_iff.1 (by simpa using hlen)⟩, ⟨fun a o ho => (by cases ho), List.nodup_nil, fun f hf => (by cases hf), fun f hf => (by cases hf)⟩⟩
  · have hcur' : cur.toList = (s.map fun p => Value.string p.1) ++ cur.toList.drop s.length := by
      have := List.take_append_drop (s.length * 1) cur.toList
      rw [htk, Nat.mul_one] at this
      exact this.symm
    refine ⟨some (g', [], cap, cur.toList.drop s.length), rfl, Fr.of_below hbel, ⟨hlen, hnc, ?_⟩, ?_, ?_, fun f hf => (by cases hf), fun f hf => (by cases hf)⟩
    · have h9 : cur.toList.length = cap := by rw [Array.length_toList, hcs, Nat.mul_one]
      rw [List.length_drop, h9, Nat.mul_one]
      exact Nat.le_refl _
    · intro a o ho
      simp only [pM, List.mem_singleton, Prod.mk.injEq, List.nil_append] at ho
      obtain ⟨rfl, rfl⟩ := ho
      refine ⟨?_, hge⟩
      rw [hcur]
      show _ = some (Obj.cells (List.toArray _) 9 (0, 0))
      rw [← hcur', Array.toArray_toList]
      rfl
    · simp [pM]
end Go.Proofs.YtcbpgnjlbbjieaaDoor
