/-
  DERIVED. GIVEN WITH THE SEED: THE CARDS: each row of YtokpnjbfbkphiaaDoorRows.lean that lists a variable, with what it lists TIED to the program's text (the seventh form; the later family's looks); each row that meets fmt, with fmt's text TOLD by the authors' own Lean function (tested against real Go, not proved from fmt's source: count such statements apart). THE CARD IS WHAT COUNTS. Prove the row's statement (the work); the ties are given (YtokpnjbfbkphiaaDoorTie.lean); close each card by the builder's one call (the guide's Derived/Test/ToyasCard.lean, 'card_holds'). Laid BY PROGRAM, IN A SANDBOX (cutbox-door.mjs). By AI agents, Wed Nov 11 2026. No macro, syntax, notation, axiom, sorry.
-/
import Derived.Test.YtokpnjbfbkphiaaDoorRows
import GoSem.ClaimSeven
namespace Go.Proofs.YtokpnjbfbkphiaaDoor
namespace Rows

/-- THE TIED CARD OF 'tabellionlaw04.PathWith'. -/
def pathWithCard : Claim7 := { stood := { row := pathWithRow, standIns := [], harness := (true, "59dc4ba44ab7e037b4d069eb232aeb18b03386be67efac692349e3d716d63ec7"), looks := false }, kinds := [], alts := [], laidByText := true, laidKinds := [.data, .data], laidTests := true, laidLooks := .later }
def PathWithCardSaid : Prop := Claim7.holds Tryd.pinned (.plain (OpenSpec.ofChange pathWithSpec)) pathWithCard

/-- THE SECOND FORM's CARD OF 'tabellionlaw04.PathWith'. -/
def pathWithUptoCard : Claim7 := { stood := { row := pathWithUptoRow, standIns := [], harness := (true, "59dc4ba44ab7e037b4d069eb232aeb18b03386be67efac692349e3d716d63ec7"), looks := false }, kinds := [], alts := [], laidByText := true, laidKinds := [.data, .data], laidTests := true, laidLooks := .later }
def PathWithUptoCardSaid : Prop := Claim7.holds Tryd.pinned (.plain (OpenSpec.upto pathWithSpec)) pathWithUptoCard
end Rows
end Go.Proofs.YtokpnjbfbkphiaaDoor
