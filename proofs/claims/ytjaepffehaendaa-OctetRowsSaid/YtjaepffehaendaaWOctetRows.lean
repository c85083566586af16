/- What the law comes to. -/
import Derived.Test.YtjaepffehaendaaOctetRead
set_option linter.unusedVariables false
set_option linter.unusedSimpArgs false
set_option maxRecDepth 100000
namespace Go.Proofs.Ytjaepffehaendaa
open Go.Sx
theorem sz9l : (Try.prog.info? 9).map (·.size) = some 1 := by kernel_rfl
theorem tx11l : Txt Try.prog 11 := txt_of Try.func11 rfl (by kernel_rfl)
theorem tx13l : Txt Try.prog 13 := txt_of Try.func13 rfl (by kernel_rfl)
theorem tx15l : Txt Try.prog 15 := txt_of Try.func15 rfl (by kernel_rfl)
theorem tx18l : Txt Try.prog 18 := txt_of Try.func18 rfl (by kernel_rfl)
theorem tx19l : Txt Try.prog 19 := txt_of Try.func19 rfl (by kernel_rfl)
theorem tx21l : Txt Try.prog 21 := txt_of Try.func21 rfl (by kernel_rfl)
theorem tx25l : Txt Try.prog 25 := txt_of Try.func25 rfl (by kernel_rfl)
theorem tx26l : Txt Try.prog 26 := txt_of Try.func26 rfl (by kernel_rfl)

def encs (l : List ByteArray) : List Int := l.flatMap fun x => grp x.size ++ bs x
theorem encs_take {xs : List ByteArray} {i : Nat} (h : i < xs.length) : encs (xs.take (i + 1)) = encs (xs.take i) ++ (grp (xs.getD i ByteArray.empty).size ++ bs (xs.getD i ByteArray.empty)) := by
  have hd : xs.take (i + 1) = xs.take i ++ [xs.getD i ByteArray.empty] := by
    rw [List.take_add_one, List.getD_eq_getElem?_getD, List.getElem?_eq_getElem h]
    rfl
  unfold encs
  rw [hd, List.flatMap_append, List.flatMap_cons, List.flatMap_nil, List.append_nil]
theorem encs_drop {xs : List ByteArray} {i : Nat} (h : i < xs.length) : encs (xs.drop i) = grp (xs.getD i ByteArray.empty).size ++ bs (xs.getD i ByteArray.empty) ++ encs (xs.drop (i + 1)) := by
  have hd : xs.drop i = xs.getD i ByteArray.empty :: xs.drop (i + 1) := by
    rw [List.getD_eq_getElem?_getD, List.getElem?_eq_getElem h]
    exact List.drop_eq_getElem_cons h
  unfold encs
  rw [hd, List.flatMap_cons]
theorem encs_byt (l : List ByteArray) (h : ∀ x ∈ l, x.size ≤ 65536) : Byt (encs l) := by
  intro y hy
  unfold encs at hy
  obtain ⟨x, hx, hy⟩ := List.mem_flatMap.1 hy
  have := h x hx
  rcases List.mem_append.1 hy with h1 | h1
  · exact grp_byt (by omega) (by omega) y h1
  · exact bs_byt x y h1
theorem OctetRows_a (a : Option Addr) (n c : Nat) (xs : List ByteArray) (w : World) (hxs : xs.length = n) (hx : SlC 1 w (.slice a n c) n (xs.map Value.string)) :
    Calls Try.prog 8 #[.slice a n c] w fun e w' => e = .returned (.bool true) ∧ Fr [] w w' := by
  have hgn := grp_len n
  refine calls_of (args := [.slice a n c]) ([]) ([]) ([]) Try.func8 rfl rfl (okW0 _ _ _ _) ?_
  refine J_seq ?_
  refine J_region ?_
  refine L_v rfl rfl rfl (V_assign rfl rfl) ?_
  refine L_nil ?_
  change J _ _ _ _
  refine J_seq ?_
  refine J_seq ?_
  refine J_region ?_
  refine L_v rfl rfl rfl (V_move rfl rfl) ?_
  refine L_v rfl rfl rfl (V_len rfl rfl Try.underlying56 rfl) ?_
  refine L_v rfl rfl rfl (V_gtr rfl rfl rfl (by first | exact decide_eq_true (by omega) | exact decide_eq_false (by omega) | rfl)) ?_
  refine L_nil ?_
  change J _ _ _ _
  refine J_cond rfl (fun h1 => ?_) (fun h1 => ?_)
  ·
    first | (have h1 := of_decide_eq_true h1) | (have h1 := of_decide_eq_false h1) | skip
    refine J_seq ?_
    refine J_region ?_
    refine L_v rfl rfl rfl (V_assign rfl rfl) ?_
    refine L_nil ?_
    change J _ _ _ _
    refine J_ret ?_
    change Kret _ _ _ Exit.ret _
    refine ret1 rfl rfl (RV_t rfl) ?_
    exact fun w' h => ⟨rfl, h.fr⟩
  ·
    first | (have h1 := of_decide_eq_true h1) | (have h1 := of_decide_eq_false h1) | skip
    refine J_skip ?_
    change J _ _ _ _
    refine J_seq ?_
    refine J_region ?_
    refine L_v rfl rfl rfl (V_assign rfl rfl) ?_
    refine L_nil ?_
    change J _ _ _ _
    refine J_seq ?_
    refine J_region ?_
    refine L_v rfl rfl rfl (V_move rfl rfl) ?_
    refine L_v rfl rfl rfl (V_len rfl rfl Try.underlying56 rfl) ?_
    refine L_callB rfl rfl rfl rfl rfl rfl tx11l (fun w hw => putCount_ok none 0 0 [] n w (SlB.nil _ _) (by omega) (Nat.le_refl _) (by omega) (by omega)) (fun g1 r1 c1 hl1 hc1 hr1 => ?_)
    refine L_v rfl rfl rfl (V_move rfl rfl) ?_
    refine L_v rfl rfl rfl (V_extract rfl rfl rfl) ?_
    refine L_v rfl rfl rfl (V_extract rfl rfl rfl) ?_
    refine L_v rfl rfl rfl (V_assign rfl rfl) ?_
    refine L_v rfl rfl rfl (V_assign rfl rfl) ?_
    refine L_nil ?_
    change J _ _ _ _
    refine J_seq ?_
    refine J_seq ?_
    refine J_region ?_
    refine L_v rfl rfl rfl (V_assign rfl rfl) ?_
    refine L_nil ?_
    change J _ _ _ _
    refine J_block ?_
    refine J_loop (X := Nat × Nat × Nat × Nat × Nat × List Value) (fun q => { env := [(0, .slice a n c), (3, .int .i64 (q.2.1 : Int)), (4, .slice (some ⟨q.2.2.2.1, 0, none⟩) q.2.2.1 q.2.2.2.2.1), (5, .int .i64 0), (6, .int .i64 (q.1 : Int))], mem := [(q.2.2.2.1, row 5 (dg ([] ++ grp (n : Int) ++ encs (xs.take q.1)) ++ q.2.2.2.2.2))] }) (fun q => q.1 ≤ n ∧ q.2.1 ≤ 262144 ∧ (([] ++ grp (n : Int) ++ encs (xs.take q.1)) : List Int).length = q.2.2.1 ∧ q.2.2.1 ≤ 9 + 9 * q.1 + q.2.1 ∧ q.2.2.1 ≤ q.2.2.2.2.1 ∧ q.2.2.2.2.2.length = q.2.2.2.2.1 - q.2.2.1 ∧ ∀ k < q.1, (xs.getD k ByteArray.empty).size ≤ 65536) (fun q => n - q.1) (0, 0, 0 + (grp (n : Int)).length, g1, c1, r1) ⟨Nat.zero_le _, by show 0 ≤ _; omega, by show ([] ++ grp (n : Int) ++ encs (xs.take 0)).length = _; rw [List.take_zero, show encs [] = [] from rfl, List.append_nil]; exact hl1, by show 0 + (grp (n : Int)).length ≤ 9 + 9 * 0 + 0; omega, hc1, hr1, fun k hk => absurd hk (Nat.not_lt_zero _)⟩ ⟨⟨rfl, rfl, rfl, rfl, rfl, trivial⟩, (by show List.Sublist [(g1, row 5 (dg ([] ++ grp (n : Int) ++ encs (xs.take 0)) ++ r1))] _; rw [List.take_zero, show encs [] = [] from rfl, List.append_nil]; exact List.Sublist.refl _), fun f hf => hf, rfl⟩ ?_
    rintro ⟨i, sm, nb, g, cb, rb_⟩ ⟨hi, hsm, hnb, hnb2, hcb, hrb, hsz⟩
    simp only at hi hsm hnb hnb2 hcb hrb hsz ⊢
    refine J_seq ?_
    refine J_seq ?_
    refine J_region ?_
    refine L_v rfl rfl rfl (V_move rfl rfl) ?_
    refine L_v rfl rfl rfl (V_move rfl rfl) ?_
    refine L_v rfl rfl rfl (V_len rfl rfl Try.underlying56 rfl) ?_
    refine L_v rfl rfl rfl (V_lss rfl rfl rfl (by first | exact decide_eq_true (by omega) | exact decide_eq_false (by omega) | rfl)) ?_
    refine L_nil ?_
    change J _ _ _ _
    refine J_cond rfl (fun h2 => ?_) (fun h2 => ?_)
    ·
      first | (have h2 := of_decide_eq_true h2) | (have h2 := of_decide_eq_false h2) | skip
      have hld : (xs.map Value.string)[((i : Nat) : Int).toNat * (0 + 1)]? = some (.string (xs.getD i ByteArray.empty)) := by
        rw [Int.toNat_natCast, Nat.mul_one, List.getElem?_map, List.getD_eq_getElem?_getD, List.getElem?_eq_getElem (by omega)]
        rfl
      refine J_skip ?_
      change J _ _ _ _
      refine J_seq ?_
      refine J_block ?_
      refine J_seq ?_
      refine J_seq ?_
      refine J_region ?_
      refine L_v rfl rfl rfl (V_move rfl rfl) ?_
      refine L_v rfl rfl rfl (V_neq rfl rfl rfl (by first | exact decide_eq_true (by omega) | exact decide_eq_false (by omega) | rfl)) ?_
      refine L_v rfl rfl rfl (V_move rfl rfl) ?_
      refine L_wv rfl rfl rfl rfl rfl rfl (V_move rfl rfl) ?_
      refine L_wv rfl rfl rfl rfl rfl rfl (V_move rfl rfl) ?_
      refine L_wv rfl rfl rfl rfl rfl rfl (V_indexC (size := 0) rfl rfl rfl Try.underlying56 sz9l (fun w hw => SlC.later hw rfl hx) (by omega) (by omega)) ?_
      refine L_wv rfl rfl rfl rfl rfl rfl (V_loadC (cap := c) rfl rfl Try.underlying9 rfl (fun w hw => SlC.later hw rfl hx) hld) ?_
      refine L_wv rfl rfl rfl rfl rfl rfl (V_lenS rfl rfl Try.underlying9 rfl) ?_
      refine L_wv rfl rfl rfl rfl rfl rfl (V_gtr rfl rfl rfl (by first | exact decide_eq_true (by omega) | exact decide_eq_false (by omega) | rfl)) ?_
      first | refine L_v rfl rfl rfl (V_pickT rfl rfl rfl) ?_ | refine L_v rfl rfl rfl (V_pickF rfl rfl rfl) ?_
      refine L_v rfl rfl rfl (V_move rfl rfl) ?_
      refine L_split 38 rfl (fun h3 => ?_) (fun h3 => ?_)
      ·
        first | (have h3 := of_decide_eq_true h3) | (have h3 := of_decide_eq_false h3) | skip
        refine L_skip rfl rfl rfl rfl rfl rfl rfl ?_
        refine L_skip rfl rfl rfl rfl rfl rfl rfl ?_
        refine L_skip rfl rfl rfl rfl rfl rfl rfl ?_
        refine L_skip rfl rfl rfl rfl rfl rfl rfl ?_
        refine L_skip rfl rfl rfl rfl rfl rfl rfl ?_
        refine L_skip rfl rfl rfl rfl rfl rfl rfl ?_
        refine L_skip rfl rfl rfl rfl rfl rfl rfl ?_
        refine L_skip rfl rfl rfl rfl rfl rfl rfl ?_
        first | refine L_v rfl rfl rfl (V_pickT rfl rfl rfl) ?_ | refine L_v rfl rfl rfl (V_pickF rfl rfl rfl) ?_
        refine L_nil ?_
        change J _ _ _ _
        refine J_true rfl ?_
        refine J_seq ?_
        refine J_region ?_
        refine L_callV rfl rfl rfl rfl rfl rfl tx13l (fun w _ => puts_w w) ?_
        refine L_v rfl rfl rfl (V_move rfl rfl) ?_
        refine L_wcallV rfl rfl rfl rfl rfl rfl rfl rfl rfl tx26l (fun w _ => reads_w w) ?_
        first | refine L_v rfl rfl rfl (V_pickT rfl rfl rfl) ?_ | refine L_v rfl rfl rfl (V_pickF rfl rfl rfl) ?_
        refine L_v rfl rfl rfl (V_assign rfl rfl) ?_
        refine L_nil ?_
        change J _ _ _ _
        refine J_ret ?_
        change Kret _ _ _ Exit.ret _
        refine ret1 rfl rfl (RV_t rfl) ?_
        exact fun w' h => ⟨rfl, h.fr⟩
      ·
        first | (have h3 := of_decide_eq_true h3) | (have h3 := of_decide_eq_false h3) | skip
        refine L_wv rfl rfl rfl rfl rfl rfl (V_move rfl rfl) ?_
        refine L_wv rfl rfl rfl rfl rfl rfl (V_move rfl rfl) ?_
        refine L_wv rfl rfl rfl rfl rfl rfl (V_indexC (size := 0) rfl rfl rfl Try.underlying56 sz9l (fun w hw => SlC.later hw rfl hx) (by omega) (by omega)) ?_
        refine L_wv rfl rfl rfl rfl rfl rfl (V_loadC (cap := c) rfl rfl Try.underlying9 rfl (fun w hw => SlC.later hw rfl hx) hld) ?_
        refine L_wv rfl rfl rfl rfl rfl rfl (V_lenS rfl rfl Try.underlying9 rfl) ?_
        refine L_wv rfl rfl rfl rfl rfl rfl (V_move rfl rfl) ?_
        refine L_wv rfl rfl rfl rfl rfl rfl (V_sub rfl rfl rfl (by first | exact Go.IntWalk.i64_in _ (by omega) | rfl)) ?_
        refine L_wv rfl rfl rfl rfl rfl rfl (V_gtr rfl rfl rfl (by first | exact decide_eq_true (by omega) | exact decide_eq_false (by omega) | rfl)) ?_
        first | refine L_v rfl rfl rfl (V_pickT rfl rfl rfl) ?_ | refine L_v rfl rfl rfl (V_pickF rfl rfl rfl) ?_
        refine L_nil ?_
        change J _ _ _ _
        refine J_cond rfl (fun h4 => ?_) (fun h4 => ?_)
        ·
          first | (have h4 := of_decide_eq_true h4) | (have h4 := of_decide_eq_false h4) | skip
          refine J_seq ?_
          refine J_region ?_
          refine L_callV rfl rfl rfl rfl rfl rfl tx13l (fun w _ => puts_w w) ?_
          refine L_v rfl rfl rfl (V_move rfl rfl) ?_
          refine L_wcallV rfl rfl rfl rfl rfl rfl rfl rfl rfl tx26l (fun w _ => reads_w w) ?_
          first | refine L_v rfl rfl rfl (V_pickT rfl rfl rfl) ?_ | refine L_v rfl rfl rfl (V_pickF rfl rfl rfl) ?_
          refine L_v rfl rfl rfl (V_assign rfl rfl) ?_
          refine L_nil ?_
          change J _ _ _ _
          refine J_ret ?_
          change Kret _ _ _ Exit.ret _
          refine ret1 rfl rfl (RV_t rfl) ?_
          exact fun w' h => ⟨rfl, h.fr⟩
        ·
          first | (have h4 := of_decide_eq_true h4) | (have h4 := of_decide_eq_false h4) | skip
          have hte := encs_take (xs := xs) (i := i) (by omega)
          refine J_skip ?_
          change J _ _ _ _
          refine J_seq ?_
          refine J_region ?_
          refine L_v rfl rfl rfl (V_move rfl rfl) ?_
          refine L_v rfl rfl rfl (V_move rfl rfl) ?_
          refine L_v rfl rfl rfl (V_move rfl rfl) ?_
          refine L_v rfl rfl rfl (V_indexC (size := 0) rfl rfl rfl Try.underlying56 sz9l (fun w hw => SlC.later hw rfl hx) (by omega) (by omega)) ?_
          refine L_v rfl rfl rfl (V_loadC (cap := c) rfl rfl Try.underlying9 rfl (fun w hw => SlC.later hw rfl hx) hld) ?_
          refine L_v rfl rfl rfl (V_lenS rfl rfl Try.underlying9 rfl) ?_
          refine L_v rfl rfl rfl (V_add rfl rfl rfl (by first | exact Go.IntWalk.i64_in _ (by omega) | rfl)) ?_
          refine L_v rfl rfl rfl (V_assign rfl rfl) ?_
          refine L_nil ?_
          change J _ _ _ _
          refine J_region ?_
          refine L_v rfl rfl rfl (V_move rfl rfl) ?_
          refine L_v rfl rfl rfl (V_move rfl rfl) ?_
          refine L_v rfl rfl rfl (V_move rfl rfl) ?_
          refine L_v rfl rfl rfl (V_indexC (size := 0) rfl rfl rfl Try.underlying56 sz9l (fun w hw => SlC.later hw rfl hx) (by omega) (by omega)) ?_
          refine L_v rfl rfl rfl (V_loadC (cap := c) rfl rfl Try.underlying9 rfl (fun w hw => SlC.later hw rfl hx) hld) ?_
          refine L_callB rfl rfl rfl rfl rfl rfl tx15l (fun w hw => putBytes_ok (some ⟨g, 0, none⟩) nb cb ([] ++ grp (n : Int) ++ encs (xs.take i)) (xs.getD i ByteArray.empty) w (SlB.of_own hw (i := 0) rfl hnb cb) (by omega) hcb (by omega)) (fun g2 r2 c2 hl2 hc2 hr2 => ?_)
          refine L_v rfl rfl rfl (V_move rfl rfl) ?_
          refine L_v rfl rfl rfl (V_extract rfl rfl rfl) ?_
          refine L_v rfl rfl rfl (V_extract rfl rfl rfl) ?_
          refine L_v rfl rfl rfl (V_assign rfl rfl) ?_
          refine L_v rfl rfl rfl (V_assign rfl rfl) ?_
          refine L_nil ?_
          change J _ _ _ _
          refine J_region ?_
          refine L_v rfl rfl rfl (V_move rfl rfl) ?_
          refine L_v rfl rfl rfl (V_add rfl rfl rfl (by first | exact Go.IntWalk.i64_in _ (by omega) | rfl)) ?_
          refine L_v rfl rfl rfl (V_assign rfl rfl) ?_
          refine L_nil ?_
          refine ⟨(i + 1, sm + (xs.getD i ByteArray.empty).size, nb + (grp (xs.getD i ByteArray.empty).size).length + (xs.getD i ByteArray.empty).size, g2, c2, r2), ⟨by show i + 1 ≤ n; omega, by show sm + _ ≤ 262144; omega, ?_, ?_, hc2, hr2, ?_⟩, by show n - (i + 1) < n - i; omega, ⟨rfl, rfl, rfl, rfl, rfl, trivial⟩, ?_, fun f hf => hf, rfl⟩
          · show ([] ++ grp (n : Int) ++ encs (xs.take (i + 1))).length = _
            rw [hte, ← List.append_assoc]; exact hl2
          · have := (grp_len (xs.getD i ByteArray.empty).size).2
            show nb + _ + _ ≤ 9 + 9 * (i + 1) + (sm + _)
            omega
          · intro k hk
            by_cases e : k = i
            · subst e; omega
            · exact hsz k (by show k < i; have : k < i + 1 := hk; omega)
          · show List.Sublist [(g2, row 5 (dg ([] ++ grp (n : Int) ++ encs (xs.take (i + 1))) ++ r2))] _
            rw [hte, ← List.append_assoc]
            exact List.Sublist.cons _ (List.Sublist.refl _)
    ·
      first | (have h2 := of_decide_eq_true h2) | (have h2 := of_decide_eq_false h2) | skip
      obtain rfl : n = i := by omega
      have hti : xs.take n = xs := List.take_of_length_le (by omega)
      have hall : ∀ x ∈ xs, x.size ≤ 65536 := by
        intro x hx'
        obtain ⟨k, hk⟩ := List.mem_iff_getElem?.1 hx'
        have hk2 := (List.getElem?_eq_some_iff.1 hk).1
        have := hsz k (by omega)
        rw [List.getD_eq_getElem?_getD, hk] at this
        exact this
      have hbB : Byt ([] ++ grp (n : Int) ++ encs (xs.take n)) := by
        rw [hti]
        exact (grp_byt (n := (n : Int)) (by omega) (by omega)).append (encs_byt xs hall)
      have hq1 : rc ([] ++ grp (n : Int) ++ encs (xs.take n)) = ((n : Int), ((grp (n : Int)).length : Int), 0) := rc_grp _ (by omega) (by omega)
      have hdr1 : ([] ++ grp (n : Int) ++ encs (xs.take n)).drop (grp (n : Int)).length = encs xs := by rw [List.nil_append, List.drop_left, hti]
      have hnx : (encs xs).length ≤ nb := by rw [← hnb, hti]; simp only [List.length_append]; omega
      refine J_exit ?_
      change J _ _ _ _
      refine J_seq ?_
      refine J_region ?_
      refine L_v rfl rfl rfl (V_move rfl rfl) ?_
      refine L_call rfl rfl rfl rfl tx18l (fun w hw => (new_w (some ⟨g, 0, none⟩) nb cb w).mono ?_)
      rintro e w' ⟨b6, rfl, hfr6, hsz6, hb6⟩
      refine ⟨_, _, _, rfl, hw.add hfr6 hb6 hsz6, rfl, ?_⟩
      refine L_v rfl rfl rfl (V_assign rfl rfl) ?_
      refine L_nil ?_
      change J _ _ _ _
      refine J_seq ?_
      refine J_seq ?_
      refine J_region ?_
      refine L_v rfl rfl rfl (V_move rfl rfl) ?_
      refine L_v rfl rfl rfl (V_eqP rfl rfl rfl Try.underlying38 rfl) ?_
      refine L_v rfl rfl rfl (V_move rfl rfl) ?_
      refine L_wv rfl rfl rfl rfl rfl rfl (V_move rfl rfl) ?_
      refine L_wv rfl rfl rfl rfl rfl rfl (V_neq rfl rfl rfl (by first | exact decide_eq_true (by omega) | exact decide_eq_false (by omega) | rfl)) ?_
      first | refine L_v rfl rfl rfl (V_pickT rfl rfl rfl) ?_ | refine L_v rfl rfl rfl (V_pickF rfl rfl rfl) ?_
      refine L_nil ?_
      change J _ _ _ _
      refine J_false rfl ?_
      refine J_skip ?_
      change J _ _ _ _
      refine J_seq ?_
      refine J_region ?_
      refine L_v rfl rfl rfl (V_move rfl rfl) ?_
      refine L_call rfl rfl rfl rfl tx19l (fun w hw => (rcount_w b6 (some ⟨g, 0, none⟩) nb cb ([] ++ grp (n : Int) ++ encs (xs.take n)) w (hw.at (i := 1) rfl) (SlB.of_own hw (i := 0) rfl hnb cb) hbB hcb (by omega)).mono ?_)
      rintro e w' ⟨a7, n7, c7, he, hfr7, hb7, hcn7, hsl7⟩
      simp only [hq1] at he hsl7
      rw [Int.toNat_natCast, hdr1] at hsl7
      subst he
      have hz7 := (hsl7 w (SlB.of_own hw (i := 0) rfl hnb cb)).size
      refine ⟨_, _, _, rfl, hw.set (i := 1) rfl hfr7 hb7, rfl, ?_⟩
      refine L_v rfl rfl rfl (V_move rfl rfl) ?_
      refine L_v rfl rfl rfl (V_extract rfl rfl rfl) ?_
      refine L_v rfl rfl rfl (V_extract rfl rfl rfl) ?_
      refine L_v rfl rfl rfl (V_assign rfl rfl) ?_
      refine L_v rfl rfl rfl (V_assign rfl rfl) ?_
      refine L_nil ?_
      change J _ _ _ _
      refine J_seq ?_
      refine J_seq ?_
      refine J_region ?_
      refine L_v rfl rfl rfl (V_move rfl rfl) ?_
      refine L_v rfl rfl rfl (V_neq rfl rfl rfl (by first | exact decide_eq_true (by omega) | exact decide_eq_false (by omega) | rfl)) ?_
      refine L_v rfl rfl rfl (V_move rfl rfl) ?_
      refine L_wv rfl rfl rfl rfl rfl rfl (V_move rfl rfl) ?_
      refine L_wv rfl rfl rfl rfl rfl rfl (V_move rfl rfl) ?_
      refine L_wv rfl rfl rfl rfl rfl rfl (V_len rfl rfl Try.underlying56 rfl) ?_
      refine L_wv rfl rfl rfl rfl rfl rfl (V_neq rfl rfl rfl (by first | exact decide_eq_true (by omega) | exact decide_eq_false (by omega) | rfl)) ?_
      first | refine L_v rfl rfl rfl (V_pickT rfl rfl rfl) ?_ | refine L_v rfl rfl rfl (V_pickF rfl rfl rfl) ?_
      refine L_nil ?_
      change J _ _ _ _
      refine J_false rfl ?_
      refine J_skip ?_
      change J _ _ _ _
      refine J_seq ?_
      refine J_seq ?_
      refine J_region ?_
      refine L_v rfl rfl rfl (V_assign rfl rfl) ?_
      refine L_nil ?_
      change J _ _ _ _
      refine J_block ?_
      refine J_loop (X := Nat × Option Addr × Nat × Nat) (fun q => { env := [(0, .slice a n c), (7, .pointer (some ⟨b6, 0, none⟩)), (10, .int .i64 (q.1 : Int))], mem := [(g, row 5 (dg ([] ++ grp (n : Int) ++ encs (xs.take n)) ++ rb_)), (b6, row 65 [.slice q.2.1 q.2.2.1 q.2.2.2])] }) (fun q => q.1 ≤ n ∧ q.2.2.1 ≤ q.2.2.2 ∧ (encs (xs.drop q.1)).length = q.2.2.1 ∧ q.2.2.1 ≤ nb ∧ ∀ W, SlB W (.slice (some ⟨g, 0, none⟩) nb cb) ([] ++ grp (n : Int) ++ encs (xs.take n)) → SlB W (.slice q.2.1 q.2.2.1 q.2.2.2) (encs (xs.drop q.1))) (fun q => n - q.1) (0, a7, n7, c7) ⟨Nat.zero_le _, hcn7, hz7, by show n7 ≤ nb; omega, hsl7⟩ ⟨⟨rfl, rfl, rfl, trivial⟩, List.Sublist.refl _, fun f hf => hf, rfl⟩ ?_
      rintro ⟨i, ar, nr, cr⟩ ⟨hi, hnr, hnz, hnn, hrd⟩
      simp only at hi hnr hnz hnn hrd ⊢
      refine J_seq ?_
      refine J_seq ?_
      refine J_region ?_
      refine L_v rfl rfl rfl (V_move rfl rfl) ?_
      refine L_v rfl rfl rfl (V_move rfl rfl) ?_
      refine L_v rfl rfl rfl (V_len rfl rfl Try.underlying56 rfl) ?_
      refine L_v rfl rfl rfl (V_lss rfl rfl rfl (by first | exact decide_eq_true (by omega) | exact decide_eq_false (by omega) | rfl)) ?_
      refine L_nil ?_
      change J _ _ _ _
      refine J_cond rfl (fun h3 => ?_) (fun h3 => ?_)
      ·
        first | (have h3 := of_decide_eq_true h3) | (have h3 := of_decide_eq_false h3) | skip
        have hld : (xs.map Value.string)[((i : Nat) : Int).toNat * (0 + 1)]? = some (.string (xs.getD i ByteArray.empty)) := by
          rw [Int.toNat_natCast, Nat.mul_one, List.getElem?_map, List.getD_eq_getElem?_getD, List.getElem?_eq_getElem (by omega)]
          rfl
        have hsd : ∀ x ∈ xs.drop i, x.size ≤ 65536 := fun x hx => hall x (List.mem_of_mem_drop hx)
        have hed := encs_drop (xs := xs) (i := i) (by omega)
        have hgs : (xs.getD i ByteArray.empty).size ≤ 65536 := hsz i (by omega)
        have hq2 : rb (encs (xs.drop i)) = (bs (xs.getD i ByteArray.empty), ((grp (xs.getD i ByteArray.empty).size).length : Int) + (xs.getD i ByteArray.empty).size, 0) := by
          have := rb_put (x := bs (xs.getD i ByteArray.empty)) (encs (xs.drop (i + 1))) (by rw [bs_length]; exact hgs)
          rw [bs_length] at this
          rw [hed]
          exact this
        have hdr2 : (encs (xs.drop i)).drop (((grp (xs.getD i ByteArray.empty).size).length : Int) + (xs.getD i ByteArray.empty).size).toNat = encs (xs.drop (i + 1)) := by
          rw [hed, show (((grp (xs.getD i ByteArray.empty).size).length : Int) + (xs.getD i ByteArray.empty).size).toNat = (grp (xs.getD i ByteArray.empty).size ++ bs (xs.getD i ByteArray.empty)).length by rw [List.length_append, bs_length]; omega, List.drop_left]
        refine J_skip ?_
        change J _ _ _ _
        refine J_seq ?_
        refine J_block ?_
        refine J_seq ?_
        refine J_region ?_
        refine L_v rfl rfl rfl (V_move rfl rfl) ?_
        refine L_call rfl rfl rfl rfl tx21l (fun w hw => (rbytes_w b6 ar nr cr (encs (xs.drop i)) w (hw.at (i := 1) rfl) (hrd w (SlB.of_own hw (i := 0) rfl hnb cb)) (encs_byt _ hsd) hnr (by omega)).mono ?_)
        rintro e w' ⟨a8, n8, c8, he, hfr8, hb8, hcn8, hsl8⟩
        simp only [hq2] at he hsl8
        rw [hdr2] at hsl8
        subst he
        have hz8 := (hsl8 w (hrd w (SlB.of_own hw (i := 0) rfl hnb cb))).size
        refine ⟨_, _, _, rfl, hw.set (i := 1) rfl hfr8 hb8, rfl, ?_⟩
        refine L_v rfl rfl rfl (V_move rfl rfl) ?_
        refine L_v rfl rfl rfl (V_extract rfl rfl rfl) ?_
        refine L_v rfl rfl rfl (V_extract rfl rfl rfl) ?_
        refine L_v rfl rfl rfl (V_assign rfl rfl) ?_
        refine L_v rfl rfl rfl (V_assign rfl rfl) ?_
        refine L_nil ?_
        change J _ _ _ _
        refine J_seq ?_
        refine J_region ?_
        refine L_v rfl rfl rfl (V_move rfl rfl) ?_
        refine L_v rfl rfl rfl (V_neq rfl rfl rfl (by first | exact decide_eq_true (by omega) | exact decide_eq_false (by omega) | rfl)) ?_
        refine L_v rfl rfl rfl (V_move rfl rfl) ?_
        refine L_wv rfl rfl rfl rfl rfl rfl (V_move rfl rfl) ?_
        refine L_wv rfl rfl rfl rfl rfl rfl (V_move rfl rfl) ?_
        refine L_wv rfl rfl rfl rfl rfl rfl (V_move rfl rfl) ?_
        refine L_wv rfl rfl rfl rfl rfl rfl (V_indexC (size := 0) rfl rfl rfl Try.underlying56 sz9l (fun w hw => SlC.later hw rfl hx) (by omega) (by omega)) ?_
        refine L_wv rfl rfl rfl rfl rfl rfl (V_loadC (cap := c) rfl rfl Try.underlying9 rfl (fun w hw => SlC.later hw rfl hx) hld) ?_
        refine L_wv rfl rfl rfl rfl rfl rfl (V_neS rfl rfl rfl (decide_eq_false (fun h => h (ba_bs _)))) ?_
        first | refine L_v rfl rfl rfl (V_pickT rfl rfl rfl) ?_ | refine L_v rfl rfl rfl (V_pickF rfl rfl rfl) ?_
        refine L_nil ?_
        change J _ _ _ _
        refine J_false rfl ?_
        refine J_skip ?_
        change J _ _ _ _
        refine J_region ?_
        refine L_v rfl rfl rfl (V_move rfl rfl) ?_
        refine L_v rfl rfl rfl (V_add rfl rfl rfl (by first | exact Go.IntWalk.i64_in _ (by omega) | rfl)) ?_
        refine L_v rfl rfl rfl (V_assign rfl rfl) ?_
        refine L_nil ?_
        have hln := congrArg List.length hed
        simp only [List.length_append] at hln
        exact ⟨(i + 1, a8, n8, c8), ⟨by show i + 1 ≤ n; omega, hcn8, hz8, by show n8 ≤ nb; omega, fun W hW => hsl8 W (hrd W hW)⟩, by show n - (i + 1) < n - i; omega, ⟨rfl, rfl, rfl, trivial⟩, List.Sublist.refl _, fun f hf => hf, rfl⟩
      ·
        first | (have h3 := of_decide_eq_true h3) | (have h3 := of_decide_eq_false h3) | skip
        obtain rfl : n = i := by omega
        have hz0 : nr = 0 := by rw [← hnz, List.drop_eq_nil_of_le (by omega)]; rfl
        refine J_exit ?_
        change J _ _ _ _
        refine J_seq ?_
        refine J_region ?_
        refine L_callV rfl rfl rfl rfl rfl rfl tx13l (fun w _ => puts_w w) ?_
        refine L_v rfl rfl rfl (V_move rfl rfl) ?_
        refine L_wcallV rfl rfl rfl rfl rfl rfl rfl rfl rfl tx26l (fun w _ => reads_w w) ?_
        first | refine L_v rfl rfl rfl (V_pickT rfl rfl rfl) ?_ | refine L_v rfl rfl rfl (V_pickF rfl rfl rfl) ?_
        refine L_v rfl rfl rfl (V_move rfl rfl) ?_
        refine L_wv rfl rfl rfl rfl rfl rfl (V_move rfl rfl) ?_
        refine L_wcallV rfl rfl rfl rfl rfl rfl rfl rfl rfl tx25l (fun w hw => left_w b6 ar nr cr w (hw.at (i := 1) rfl)) ?_
        refine L_wv rfl rfl rfl rfl rfl rfl (V_eql rfl rfl rfl (by first | exact decide_eq_true (by omega) | exact decide_eq_false (by omega) | rfl)) ?_
        first | refine L_v rfl rfl rfl (V_pickT rfl rfl rfl) ?_ | refine L_v rfl rfl rfl (V_pickF rfl rfl rfl) ?_
        refine L_v rfl rfl rfl (V_assign rfl rfl) ?_
        refine L_nil ?_
        change J _ _ _ _
        refine J_ret ?_
        change Kret _ _ _ Exit.ret _
        refine ret1 rfl rfl (RV_t rfl) ?_
        exact fun w' h => ⟨rfl, h.fr⟩

theorem OctetRows_w (v : Value) (n : Nat) (xs : List ByteArray) (w : World) (hxs : xs.length = n) (hx : SlC 1 w v n (xs.map Value.string)) :
    Calls Try.prog 8 #[v] w fun e w' => e = .returned (.bool true) ∧ Fr [] w w' := by
  obtain ⟨a, c, rfl⟩ := hx.form
  exact OctetRows_a a n c xs w hxs hx

end Go.Proofs.Ytjaepffehaendaa
