/- Lists of signed heads that a law is handed. -/
import Derived.Test.YtbckeoidnpfbnaaDoorSignedOpen
import Derived.Test.YtbckeoidnpfbnaaDoorChainPure
set_option linter.unusedVariables false
namespace Go.Proofs.YtbckeoidnpfbnaaDoor
open Go.ChangeShapes Go.WideShapes Go.ChangeAt Go.RowKit Go.Sx
theorem open_signeds {H : Type} {enc : TypeId × Value → H} {W : World} {base b0 : Nat} {sp : Nat → Bool} {hd : Bool} {v : Value} {d : DataW H} {q : List MemPlace}
    (hok : Value.okWide Tryd.prog W .any base 44 v) (h : DataW.Trod enc Tryd.prog W b0 sp hd 44 v d q) :
    ∃ (n : Nat) (l : List Sg), l.length = n ∧ SlC 97 W v n (sgs l) ∧ ∀ a n c, v = .slice a n c → n ≤ c := by
  obtain ⟨n, l, hl, hs, _⟩ := open_list (f := sgc) (sz := 96) (good := fun _ => True) sgc_len (show Tryd.prog.cellsOf 36 = 97 by kernel_rfl) Tryd.underlying44 (fun m cs y hy => by
    obtain ⟨e, r, p, g, h1, h2, h3, h4, h5, h6, h7⟩ := trod_signed hy
    exact ⟨⟨e, r, p, g, h2, h3, h4, h5, h6, h7⟩, h1, trivial⟩) hok h
  exact ⟨n, l, hl, hs, open_capL Tryd.underlying44 hok h⟩
end Go.Proofs.YtbckeoidnpfbnaaDoor
