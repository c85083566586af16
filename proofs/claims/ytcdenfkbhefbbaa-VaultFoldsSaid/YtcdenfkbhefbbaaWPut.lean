/- What layer 8 lays: counts, texts, digests. -/
import Derived.Test.YtcdenfkbhefbbaaSx9
import Derived.Test.YtcdenfkbhefbbaaWirePure
import Derived.Test.YtcdenfkbhefbbaaOctetPut
set_option linter.unusedVariables false
set_option linter.unusedSimpArgs false
set_option maxRecDepth 100000
namespace Go.Proofs.Ytcdenfkbhefbbaa
open Go.Sx
def ints (l : List Int) : List Value := l.map (Value.int .i64)
theorem ints_get {l : List Int} {i : Nat} (h : i < l.length) : (ints l)[((i : Nat) : Int).toNat * (0 + 1)]? = some (.int .i64 (l.getD i 0)) := by
  rw [Int.toNat_natCast, Nat.mul_one]
  unfold ints
  rw [List.getElem?_map, List.getElem?_eq_getElem h, List.getD_eq_getElem?_getD, List.getElem?_eq_getElem h]
  rfl
theorem ints_len (l : List Int) : (ints l).length = l.length := by simp [ints]
def toksI (l : List Int) : List Tok := l.map Tok.c
theorem toksI_len (l : List Int) : (toksI l).length = l.length := by simp [toksI]
theorem take_s {α : Type} {l : List α} {i : Nat} (d : α) (h : i < l.length) : l.take (i + 1) = l.take i ++ [l.getD i d] := by
  rw [List.take_add_one, List.getD_eq_getElem?_getD, List.getElem?_eq_getElem h]
  rfl
theorem encI_step {l : List Int} {i : Nat} {M : List Int} (h : i < l.length) (hM : encTs (toksI (l.take i)) = .ok M) (hx : 0 ≤ l.getD i 0 ∧ l.getD i 0 ≤ 2147483647) : encTs (toksI (l.take (i + 1))) = .ok (M ++ grp (l.getD i 0)) := by
  rw [take_s 0 h]
  unfold toksI at hM ⊢
  rw [List.map_append, encTs_app, hM]
  show then2 (.ok M) (encTs [.c (l.getD i 0)]) = _
  rw [encTs_one]
  simp only [encT]
  rw [if_pos hx]
  rfl
theorem encI_bad {l : List Int} {i : Nat} {M : List Int} (h : i < l.length) (hM : encTs (toksI (l.take i)) = .ok M) (hx : ¬ (0 ≤ l.getD i 0 ∧ l.getD i 0 ≤ 2147483647)) : encTs (toksI l) = .error 1 := by
  have e : l = l.take i ++ (l.getD i 0 :: l.drop (i + 1)) := by
    conv => lhs; rw [← List.take_append_drop i l]
    congr 1
    rw [List.getD_eq_getElem?_getD, List.getElem?_eq_getElem h]
    exact List.drop_eq_getElem_cons h
  rw [e]
  unfold toksI at hM ⊢
  rw [List.map_append, encTs_app, hM, List.map_cons, encTs]
  simp only [encT]
  rw [if_neg hx]
  rfl
theorem encS_ok {x : ByteArray} (h : x.size ≤ 65536) : encTs [.s x] = .ok (grp x.size ++ bs x) := by
  rw [encTs_one]
  simp only [encT]
  rw [if_pos h]
theorem encS_no {x : ByteArray} (h : ¬ x.size ≤ 65536) : encTs [.s x] = .error 2 := by
  rw [encTs_one]
  simp only [encT]
  rw [if_neg h]
theorem bdStop (k : Int) (w : World) : (Instr.build 110 [(0, .int .i64 k)].toArray).run Try.prog w = .ok (.agg [.int .i64 k].toArray) w := by kernel_rfl
theorem sub_a {α : Type} {x y z : α} : ∀ f ∈ [x, z], f ∈ [x, y, z] := by
  intro f hf
  simp only [List.mem_cons, List.not_mem_nil, or_false] at hf ⊢
  rcases hf with h | h
  · exact .inl h
  · exact .inr (.inr h)
theorem Nw.new {w : World} {v0 : Value} {L0 : List Int} {g n c : Nat} {l : List Int} (h : w.heap.size ≤ g) : Nw w v0 L0 (.slice (some ⟨g, 0, none⟩) n c) l := by
  rintro k ⟨_, off, n', c', e⟩
  simp only [Value.slice.injEq, Option.some.injEq, Addr.mk.injEq] at e
  obtain ⟨⟨rfl, _⟩, _⟩ := e
  exact .inl h
theorem key_unique' {mem : Mem} (hd : (mem.map (·.1)).Nodup) {i j b : Nat} {o o' : Obj} (hi : mem[i]? = some (b, o)) (hj : mem[j]? = some (b, o')) : i = j := by
  have hli := (List.getElem?_eq_some_iff.1 hi).1
  have h1 : (mem.map (·.1))[i]? = some b := by simp [hi]
  have h2 : (mem.map (·.1))[j]? = some b := by simp [hj]
  exact (List.getElem?_inj (by simpa using hli) hd).1 (h1.trans h2.symm)
theorem newB {cx : Cx} {m : Mem} {fs : List Fact} {w : World} {b g i : Nat} {p q : Obj} (h : OkW cx m fs w) (hm : cx.mods = [b]) (h0 : m[0]? = some (b, q)) (hi : m[i]? = some (g, p)) (hne : i ≠ 0) : cx.w0.heap.size ≤ g := by
  have hg : g ∈ m.map (·.1) := List.mem_map.2 ⟨_, List.mem_of_getElem? hi, rfl⟩
  rcases h.may g hg with h1 | h1
  · exact h1
  · rw [hm, List.mem_singleton] at h1
    subst h1
    exact absurd (key_unique' h.dis hi h0) hne
theorem mayN {A g b : Nat} {m : List Nat} (h : A ≤ g ∨ g ∈ [b]) (hm : g ∉ b :: m) : A ≤ g := by
  rcases h with h | h
  · exact h
  · exact absurd (List.mem_cons.2 (.inl (List.mem_singleton.1 h))) hm
theorem neG (L M : List Int) (x : Int) : L ++ (M ++ grp x) ≠ [] := fun h => by have h1 := grp_len x; rw [(List.append_eq_nil_iff.1 (List.append_eq_nil_iff.1 h).2).2] at h1; exact absurd h1.1 (by decide)
theorem neS (L : List Int) (x : ByteArray) : L ++ (grp x.size ++ bs x) ≠ [] := fun h => by have h1 := grp_len x.size; rw [(List.append_eq_nil_iff.1 (List.append_eq_nil_iff.1 h).2).1] at h1; exact absurd h1.1 (by decide)
theorem neD (L : List Int) (x : Dg) : L ++ l32 x ≠ [] := fun h => by have := congrArg List.length h; rw [List.length_append, l32_len] at this; simp at this
theorem ok_bi {nt : Nat} {w : World} {b : Nat} {a va : Option Addr} {n c vn vc : Nat} {L xs : List Int} (hb : w.heap[b]? = some (row 83 [.slice a n c])) (hu : SlR w (.slice a n c) L) (hx : SlC 1 w (.slice va vn vc) vn (ints xs)) :
    OkW { P := Try.prog, w0 := w, nt := nt, mods := [b] } [(b, row 83 [.slice a n c])] [factR (.slice a n c) L, factC 1 (.slice va vn vc) vn (ints xs)] w :=
  okM1 hb fun f hf => by
    simp only [List.mem_cons, List.not_mem_nil, or_false] at hf
    rcases hf with rfl | rfl
    · exact ⟨hu, fun k hk => ⟨factB_lt hu.toB k hk, hu.toB.apart hb (fun x h => by cases h) k hk⟩⟩
    · exact ⟨hx, fun k hk => ⟨factC_lt hx k hk, hx.apartI hb (fun u hu x e => by simp only [List.mem_cons, List.not_mem_nil, or_false] at hu; subst hu; cases e) k hk⟩⟩
theorem ok_b {nt : Nat} {w : World} {b : Nat} {a : Option Addr} {n c : Nat} {L : List Int} (hb : w.heap[b]? = some (row 83 [.slice a n c])) (hu : SlR w (.slice a n c) L) :
    OkW { P := Try.prog, w0 := w, nt := nt, mods := [b] } [(b, row 83 [.slice a n c])] [factR (.slice a n c) L] w :=
  okM1 hb fun f hf => by
    simp only [List.mem_cons, List.not_mem_nil, or_false] at hf
    subst hf
    exact ⟨hu, fun k hk => ⟨factB_lt hu.toB k hk, hu.toB.apart hb (fun x h => by cases h) k hk⟩⟩
theorem sz3w : (Try.prog.info? 3).map (·.size) = some 1 := by kernel_rfl
theorem sz35w : (Try.prog.info? 35).map (·.size) = some 32 := by kernel_rfl
theorem sz65w : (Try.prog.info? 65).map (·.size) = some 1 := by kernel_rfl
theorem tx71w : Txt Try.prog 71 := txt_of Try.func71 rfl (by kernel_rfl)
theorem tx76w : Txt Try.prog 76 := txt_of Try.func76 rfl (by kernel_rfl)
theorem tx88w : Txt Try.prog 88 := txt_of Try.func88 rfl (by kernel_rfl)

theorem on_w (b : Nat) (a : Option Addr) (n c : Nat) (L : List Int) (va : Option Addr) (vn vc : Nat) (xs : List Int) (w : World) (hb : w.heap[b]? = some (row 83 [.slice a n c])) (hu : SlR w (.slice a n c) L) (hcn : n ≤ c) (hx : SlC 1 w (.slice va vn vc) vn (ints xs)) (hsz : L.length + 65545 * xs.length ≤ 1099511627776) :
    Calls Try.prog 55 #[.pointer (some ⟨b, 0, none⟩), .slice va vn vc] w fun e w' => OutP 83 110 w b (.slice a n c) L (encTs (toksI xs)) e w' := by
  have hul := hu.size
  have hxl := hx.len
  rw [ints_len, Nat.mul_one] at hxl
  refine calls_of_p (args := [.pointer (some ⟨b, 0, none⟩), .slice va vn vc]) ([b]) ([(b, row 83 [.slice a n c])]) ([factR (.slice a n c) L, factC 1 (.slice va vn vc) vn (ints xs)]) Try.func55 rfl rfl (ok_bi hb hu hx) ?_
  refine J_seq ?_
  refine J_region ?_
  refine L_v rfl rfl rfl (V_move rfl rfl) ?_
  refine L_v rfl rfl rfl (V_len rfl rfl Try.underlying22 rfl) ?_
  refine L_v rfl rfl rfl (V_move rfl rfl) ?_
  refine L_nil ?_
  change J _ _ _ _
  refine J_block ?_
  refine J_loop (X := Nat × List Int × Option Addr × Nat × Nat) (fun x => { env := [(0, .pointer (some ⟨b, 0, none⟩)), (8, .slice va vn vc), (9, .int .i64 (vn : Int)), (10, .int .i64 (x.1 : Int))], mem := [(b, row 83 [.slice x.2.2.1 x.2.2.2.1 x.2.2.2.2])], facts := [factR (.slice x.2.2.1 x.2.2.2.1 x.2.2.2.2) (L ++ x.2.1), factC 1 (.slice va vn vc) vn (ints xs)] }) (fun x => x.1 ≤ vn ∧ encTs (toksI (xs.take x.1)) = .ok x.2.1 ∧ x.2.2.2.1 ≤ x.2.2.2.2 ∧ x.2.2.2.1 = (L ++ x.2.1).length ∧ Nw w (.slice a n c) L (.slice x.2.2.1 x.2.2.2.1 x.2.2.2.2) (L ++ x.2.1)) (fun x => vn - x.1) (0, [], a, n, c) ⟨Nat.zero_le _, rfl, hcn, by show n = (L ++ []).length; rw [List.append_nil, hu.size], by show Nw _ _ _ _ (L ++ []); rw [List.append_nil]; exact Nw.refl _ _ _⟩ ⟨⟨rfl, rfl, rfl, rfl, trivial⟩, List.Sublist.refl _, (by show ∀ f ∈ [factR _ (L ++ []), _], f ∈ [factR _ L, _]; rw [List.append_nil]; exact fun f hf => hf), rfl⟩ ?_
  rintro ⟨i, M, a', n', c'⟩ ⟨hi, hM, hc', hn', hN⟩
  simp only at hi hM hc' hn' hN ⊢
  have hML := encTs_len hM
  rw [toksI_len, List.length_take] at hML
  rw [List.length_append] at hn'
  refine J_seq ?_
  refine J_region ?_
  refine L_v rfl rfl rfl (V_lss rfl rfl rfl (by first | exact decide_eq_true (by omega) | exact decide_eq_false (by omega) | rfl)) ?_
  refine L_nil ?_
  change J _ _ _ _
  refine J_seq ?_
  refine J_cond rfl (fun h1 => ?_) (fun h1 => ?_)
  ·
    first | (have h1 := of_decide_eq_true h1) | (have h1 := of_decide_eq_false h1) | skip
    by_cases hx : 0 ≤ xs.getD i 0 ∧ xs.getD i 0 ≤ 2147483647
    ·
      refine J_skip ?_
      change J _ _ _ _
      refine J_seq ?_
      refine J_block ?_
      refine J_seq ?_
      refine J_region ?_
      refine L_v rfl rfl rfl (V_indexC rfl rfl rfl Try.underlying22 sz3w (fun w hw => fC hw 1 rfl) (by omega) (by omega)) ?_
      refine L_v rfl rfl rfl (V_loadC rfl rfl Try.underlying3 rfl (fun w hw => fC hw 1 rfl) (ints_get (by omega))) ?_
      refine L_v rfl rfl rfl (V_assign rfl rfl) ?_
      refine L_nil ?_
      change J _ _ _ _
      refine J_seq ?_
      refine J_region ?_
      refine L_v rfl rfl rfl (V_move rfl rfl) ?_
      refine L_v rfl rfl rfl (V_nilCheck rfl rfl) ?_
      refine L_v rfl rfl rfl (V_fieldAddr rfl rfl Try.underlying83 rfl sz65w rfl) ?_
      refine L_v rfl rfl rfl (V_load1 0 rfl rfl rfl Try.underlying65 rfl (by first | rfl | exact dg_get (by omega) (by omega))) ?_
      refine L_v rfl rfl rfl (V_move rfl rfl) ?_
      refine L_callB rfl rfl rfl rfl rfl rfl tx71w (fun w1 hw => putCount_ok a' n' c' (L ++ M) (xs.getD i 0) w1 (fR hw 0 rfl).toB (by omega) hc' hx.1 hx.2) (fun g1 r1 c1 hl1 hc1 hr1 => ?_)
      refine L_v rfl rfl rfl (V_move rfl rfl) ?_
      refine L_v rfl rfl rfl (V_extract rfl rfl rfl) ?_
      refine L_v rfl rfl rfl (V_extract rfl rfl rfl) ?_
      refine L_v rfl rfl rfl (V_assign rfl rfl) ?_
      refine L_v rfl rfl rfl (V_assign rfl rfl) ?_
      refine L_nil ?_
      change J _ _ _ _
      refine J_seq ?_
      refine J_seq ?_
      refine J_region ?_
      refine L_v rfl rfl rfl (V_move rfl rfl) ?_
      refine L_v rfl rfl rfl (V_neq rfl rfl rfl (by first | exact decide_eq_true (by omega) | exact decide_eq_false (by omega) | rfl)) ?_
      refine L_nil ?_
      change J _ _ _ _
      refine J_false rfl ?_
      refine J_skip ?_
      change J _ _ _ _
      refine J_region ?_
      refine L_v rfl rfl rfl (V_move rfl rfl) ?_
      refine L_v rfl rfl rfl (V_move rfl rfl) ?_
      refine L_v rfl rfl rfl (V_nilCheck rfl rfl) ?_
      refine L_v rfl rfl rfl (V_fieldAddr rfl rfl Try.underlying83 rfl sz65w rfl) ?_
      refine L_store1 0 rfl rfl rfl rfl rfl rfl rfl sz65w (by simp) rfl ?_
      refine L_toFactR [(b, row 83 [(.slice (some ⟨g1, 0, none⟩) (n' + (grp (xs.getD i 0)).length) c1)])] (d := L ++ (M ++ grp (xs.getD i 0))) (g := g1) (r := r1) (n := n' + (grp (xs.getD i 0)).length) (c := c1) (by rw [← List.append_assoc L M (grp (xs.getD i 0))]; rfl) (by rw [← List.append_assoc]; exact hl1) (neG _ _ _) (by omega) (by omega) (fun hmay hgm => ?_)
      refine L_nil ?_
      change J _ _ _ _
      refine J_region ?_
      refine L_v rfl rfl rfl (V_add rfl rfl rfl (by first | exact Go.IntWalk.i64_in _ (by omega) | rfl)) ?_
      refine L_v rfl rfl rfl (V_move rfl rfl) ?_
      refine L_nil ?_
      exact ⟨(i + 1, M ++ grp (xs.getD i 0), some ⟨g1, 0, none⟩, n' + (grp (xs.getD i 0)).length, c1), ⟨by show i + 1 ≤ vn; omega, encI_step (by omega) hM hx, hc1, by rw [← List.append_assoc]; exact hl1.symm, Nw.new (mayN hmay hgm)⟩, by show vn - (i + 1) < vn - i; omega, ⟨rfl, rfl, rfl, rfl, trivial⟩, List.Sublist.refl _, (by show ∀ f ∈ [factR (.slice (some ⟨g1, 0, none⟩) (n' + (grp (xs.getD i 0)).length) c1) (L ++ (M ++ grp (xs.getD i 0))), factC 1 (.slice va vn vc) vn (ints xs)], f ∈ [_, _, _]; exact sub_a), rfl⟩
    ·
      refine J_skip ?_
      change J _ _ _ _
      refine J_seq ?_
      refine J_block ?_
      refine J_seq ?_
      refine J_region ?_
      refine L_v rfl rfl rfl (V_indexC rfl rfl rfl Try.underlying22 sz3w (fun w hw => fC hw 1 rfl) (by omega) (by omega)) ?_
      refine L_v rfl rfl rfl (V_loadC rfl rfl Try.underlying3 rfl (fun w hw => fC hw 1 rfl) (ints_get (by omega))) ?_
      refine L_v rfl rfl rfl (V_assign rfl rfl) ?_
      refine L_nil ?_
      change J _ _ _ _
      refine J_seq ?_
      refine J_region ?_
      refine L_v rfl rfl rfl (V_move rfl rfl) ?_
      refine L_v rfl rfl rfl (V_nilCheck rfl rfl) ?_
      refine L_v rfl rfl rfl (V_fieldAddr rfl rfl Try.underlying83 rfl sz65w rfl) ?_
      refine L_v rfl rfl rfl (V_load1 0 rfl rfl rfl Try.underlying65 rfl (by first | rfl | exact dg_get (by omega) (by omega))) ?_
      refine L_v rfl rfl rfl (V_move rfl rfl) ?_
      refine L_callV rfl rfl rfl rfl rfl rfl tx71w (fun w1 hw => putCount_no _ _ w1 hx) ?_
      refine L_v rfl rfl rfl (V_move rfl rfl) ?_
      refine L_v rfl rfl rfl (V_extract rfl rfl rfl) ?_
      refine L_v rfl rfl rfl (V_extract rfl rfl rfl) ?_
      refine L_v rfl rfl rfl (V_assign rfl rfl) ?_
      refine L_v rfl rfl rfl (V_assign rfl rfl) ?_
      refine L_nil ?_
      change J _ _ _ _
      refine J_seq ?_
      refine J_seq ?_
      refine J_region ?_
      refine L_v rfl rfl rfl (V_move rfl rfl) ?_
      refine L_v rfl rfl rfl (V_neq rfl rfl rfl (by first | exact decide_eq_true (by omega) | exact decide_eq_false (by omega) | rfl)) ?_
      refine L_nil ?_
      change J _ _ _ _
      refine J_true rfl ?_
      refine J_regionP ?_
      refine LP_one ?_
      refine L_v rfl rfl rfl (V_move rfl rfl) ?_
      refine L_nil ?_
      refine LP_one ?_
      refine L_v rfl rfl rfl (V_build (vs := [(0, .int .i64 1)]) rfl rfl (bdStop 1)) ?_
      refine L_nil ?_
      refine LP_one ?_
      refine L_v rfl rfl rfl (V_makeIface rfl rfl Try.underlying110 rfl) ?_
      refine L_nil ?_
      refine LP_panic rfl rfl rfl ?_
      change KretP _ _ _ (Exit.panic _) _
      refine KretP_panic rfl ?_
      exact fun w' h => OutP.err (encI_bad (by omega) hM hx) h.fr
  ·
    first | (have h1 := of_decide_eq_true h1) | (have h1 := of_decide_eq_false h1) | skip
    refine J_exit ?_
    change KretP _ _ _ Exit.normal _
    refine KretP_normal ?_
    refine KretP_plain ?_
    refine ret0 rfl rfl  ?_
    obtain rfl : i = vn := by omega
    rw [List.take_of_length_le (by omega)] at hM
    exact fun w' h => OutP.ok hM h.fr (h.at (i := 0) rfl) rfl (fR h 0 rfl) hc' hN

theorem os_w (b : Nat) (a : Option Addr) (n c : Nat) (L : List Int) (x : ByteArray) (w : World) (hb : w.heap[b]? = some (row 83 [.slice a n c])) (hu : SlR w (.slice a n c) L) (hcn : n ≤ c) (hsz : L.length + 65545 * 1 ≤ 1099511627776) :
    Calls Try.prog 58 #[.pointer (some ⟨b, 0, none⟩), .string x] w fun e w' => OutP 83 110 w b (.slice a n c) L (encTs ([.s x])) e w' := by
  have hul := hu.size
  refine calls_of_p (args := [.pointer (some ⟨b, 0, none⟩), .string x]) ([b]) ([(b, row 83 [.slice a n c])]) ([factR (.slice a n c) L]) Try.func58 rfl rfl (ok_b hb hu) ?_
  by_cases hx : x.size ≤ 65536
  ·
    refine J_seq ?_
    refine J_region ?_
    refine L_v rfl rfl rfl (V_move rfl rfl) ?_
    refine L_v rfl rfl rfl (V_nilCheck rfl rfl) ?_
    refine L_v rfl rfl rfl (V_fieldAddr rfl rfl Try.underlying83 rfl sz65w rfl) ?_
    refine L_v rfl rfl rfl (V_load1 0 rfl rfl rfl Try.underlying65 rfl (by first | rfl | exact dg_get (by omega) (by omega))) ?_
    refine L_v rfl rfl rfl (V_move rfl rfl) ?_
    refine L_callB rfl rfl rfl rfl rfl rfl tx76w (fun w1 hw => putBytes_ok a n c L x w1 (fR hw 0 rfl).toB (by omega) hcn hx) (fun g1 r1 c1 hl1 hc1 hr1 => ?_)
    refine L_v rfl rfl rfl (V_move rfl rfl) ?_
    refine L_v rfl rfl rfl (V_extract rfl rfl rfl) ?_
    refine L_v rfl rfl rfl (V_extract rfl rfl rfl) ?_
    refine L_v rfl rfl rfl (V_assign rfl rfl) ?_
    refine L_v rfl rfl rfl (V_assign rfl rfl) ?_
    refine L_nil ?_
    change J _ _ _ _
    refine J_seq ?_
    refine J_seq ?_
    refine J_region ?_
    refine L_v rfl rfl rfl (V_move rfl rfl) ?_
    refine L_v rfl rfl rfl (V_neq rfl rfl rfl (by first | exact decide_eq_true (by omega) | exact decide_eq_false (by omega) | rfl)) ?_
    refine L_nil ?_
    change J _ _ _ _
    refine J_false rfl ?_
    refine J_skip ?_
    change J _ _ _ _
    refine J_region ?_
    refine L_v rfl rfl rfl (V_move rfl rfl) ?_
    refine L_v rfl rfl rfl (V_move rfl rfl) ?_
    refine L_v rfl rfl rfl (V_nilCheck rfl rfl) ?_
    refine L_v rfl rfl rfl (V_fieldAddr rfl rfl Try.underlying83 rfl sz65w rfl) ?_
    refine L_store1 0 rfl rfl rfl rfl rfl rfl rfl sz65w (by simp) rfl ?_
    refine L_nil ?_
    change KretP _ _ _ Exit.normal _
    refine KretP_normal ?_
    refine KretP_plain ?_
    refine ret0 rfl rfl  ?_
    exact fun w' h => OutP.ok (encS_ok hx) h.fr (h.at (i := 0) rfl) rfl (SlR.of_own h (i := 1) (r := r1) rfl hl1 (neS _ _) hc1 hr1) hc1 (Nw.new (newB h rfl rfl (i := 1) rfl (by decide)))
  ·
    refine J_seq ?_
    refine J_region ?_
    refine L_v rfl rfl rfl (V_move rfl rfl) ?_
    refine L_v rfl rfl rfl (V_nilCheck rfl rfl) ?_
    refine L_v rfl rfl rfl (V_fieldAddr rfl rfl Try.underlying83 rfl sz65w rfl) ?_
    refine L_v rfl rfl rfl (V_load1 0 rfl rfl rfl Try.underlying65 rfl (by first | rfl | exact dg_get (by omega) (by omega))) ?_
    refine L_v rfl rfl rfl (V_move rfl rfl) ?_
    refine L_callV rfl rfl rfl rfl rfl rfl tx76w (fun w1 hw => putBytes_no _ _ w1 hx) ?_
    refine L_v rfl rfl rfl (V_move rfl rfl) ?_
    refine L_v rfl rfl rfl (V_extract rfl rfl rfl) ?_
    refine L_v rfl rfl rfl (V_extract rfl rfl rfl) ?_
    refine L_v rfl rfl rfl (V_assign rfl rfl) ?_
    refine L_v rfl rfl rfl (V_assign rfl rfl) ?_
    refine L_nil ?_
    change J _ _ _ _
    refine J_seq ?_
    refine J_seq ?_
    refine J_region ?_
    refine L_v rfl rfl rfl (V_move rfl rfl) ?_
    refine L_v rfl rfl rfl (V_neq rfl rfl rfl (by first | exact decide_eq_true (by omega) | exact decide_eq_false (by omega) | rfl)) ?_
    refine L_nil ?_
    change J _ _ _ _
    refine J_true rfl ?_
    refine J_regionP ?_
    refine LP_one ?_
    refine L_v rfl rfl rfl (V_move rfl rfl) ?_
    refine L_nil ?_
    refine LP_one ?_
    refine L_v rfl rfl rfl (V_build (vs := [(0, .int .i64 2)]) rfl rfl (bdStop 2)) ?_
    refine L_nil ?_
    refine LP_one ?_
    refine L_v rfl rfl rfl (V_makeIface rfl rfl Try.underlying110 rfl) ?_
    refine L_nil ?_
    refine LP_panic rfl rfl rfl ?_
    change KretP _ _ _ (Exit.panic _) _
    refine KretP_panic rfl ?_
    exact fun w' h => OutP.err (encS_no hx) h.fr

theorem od_w (b : Nat) (a : Option Addr) (n c : Nat) (L : List Int) (x : Dg) (w : World) (hb : w.heap[b]? = some (row 83 [.slice a n c])) (hu : SlR w (.slice a n c) L) (hcn : n ≤ c) (hsz : L.length + 65545 * 1 ≤ 1099511627776) :
    Calls Try.prog 78 #[.pointer (some ⟨b, 0, none⟩), .agg (dg (l32 x)).toArray] w fun e w' => OutP 83 110 w b (.slice a n c) L (encTs ([.d x])) e w' := by
  have hul := hu.size
  refine calls_of (args := [.pointer (some ⟨b, 0, none⟩), .agg (dg (l32 x)).toArray]) ([b]) ([(b, row 83 [.slice a n c])]) ([factR (.slice a n c) L]) Try.func78 rfl rfl (ok_b hb hu) ?_
  refine J_seq ?_
  refine J_region ?_
  refine L_box rfl rfl rfl rfl rfl (fun b1 => ?_)
  refine L_nil ?_
  change J _ _ _ _
  refine J_regionO (.pure 0 (.pure 1 (.pure 2 (.pure 3 (.pure 5 (.one 4 (.one 6 (.pure 7 (.pure 8 (.one 9 (.nil))))))))))) ([(b1, row 35 (dg (l32 x)))]) _ (Pk.of_sub (.cons _ (.cons_cons _ (List.nil_sublist _)))) (fun f hf => hf) rfl rfl (by kernel_rfl) ?_
  refine LO_v rfl rfl rfl rfl (V_move rfl rfl) ?_
  refine LO_v rfl rfl rfl rfl (V_move rfl rfl) ?_
  refine LO_v rfl rfl rfl rfl (V_nilCheck rfl rfl) ?_
  refine LO_v rfl rfl rfl rfl (V_fieldAddr rfl rfl Try.underlying83 rfl sz65w rfl) ?_
  refine LO_v rfl rfl rfl rfl (V_loadW 0 rfl rfl rfl Try.underlying35 rfl (szd sz35w rfl)) ?_
  refine LO_q rfl rfl rfl rfl rfl (V_load1 0 rfl rfl rfl Try.underlying65 rfl rfl) (Pk.of_sub (.cons _ (.cons_cons _ (List.nil_sublist _)))) (fun f hf => hf) ?_
  refine LO_callB rfl rfl rfl rfl rfl rfl rfl rfl tx88w (fun w1 hw => putDigest_w a n c L (l32 x) w1 (fR hw 0 rfl).toB (by omega) hcn rfl) (Pk.of_sub (.cons _ (.cons_cons _ (List.nil_sublist _)))) (fun f hf => hf) (fun g1 r1 c1 hl1 hc1 hr1 => ?_)
  refine LO_v rfl rfl rfl rfl (V_nilCheck rfl rfl) ?_
  refine LO_v rfl rfl rfl rfl (V_fieldAddr rfl rfl Try.underlying83 rfl sz65w rfl) ?_
  refine LO_s rfl rfl rfl (S_store1 0 rfl rfl rfl rfl rfl rfl sz65w (by simp) rfl ⟨(Pk.of_sub (.cons _ (.cons_cons _ (List.nil_sublist _)))), fun f hf => hf, ?_⟩)
  refine LO_nil ?_
  change Kret _ _ _ Exit.normal _
  refine Kret_normal ?_
  refine ret0 rfl rfl  ?_
  exact fun w' h => OutP.ok rfl h.fr (h.at (i := 0) rfl) rfl (SlR.of_own h (i := 2) (r := r1) rfl hl1 (neD _ _) hc1 hr1) hc1 (Nw.new (newB h rfl rfl (i := 2) rfl (by decide)))

end Go.Proofs.Ytcdenfkbhefbbaa
