/-
  DERIVED. GIVEN WITH THE SEED: THE CARDS: each row of YthafhiemecfjiaaDoorRows.lean that lists a variable, with what it lists TIED to the program's text (the seventh form; the later family's looks); each row that meets fmt, with fmt's text TOLD by the authors' own Lean function (tested against real Go, not proved from fmt's source: count such statements apart). THE CARD IS WHAT COUNTS. Prove the row's statement (the work); the ties are given (YthafhiemecfjiaaDoorTie.lean); close each card by the builder's one call (the guide's Derived/Test/ToyasCard.lean, 'card_holds'). Laid BY PROGRAM, IN A SANDBOX (cutbox-door.mjs). By AI agents, Wed Nov 11 2026. No macro, syntax, notation, axiom, sorry.
-/
import Derived.Test.YthafhiemecfjiaaDoorRows
import GoSem.ClaimSeven
namespace Go.Proofs.YthafhiemecfjiaaDoor
namespace Rows

/-- THE TIED CARD OF 'tabellionlaw07.VersionPuts'. -/
def versionPutsCard : Claim7 := { stood := { row := versionPutsRow, standIns := [], harness := (true, "80b2931cc56031ca8b6628897b30dc3e00f53518a04cd9087c24b660ca117c2a"), looks := false }, kinds := [], alts := [], laidByText := true, laidKinds := [.data], laidTests := true, laidLooks := .later }
def VersionPutsCardSaid : Prop := Claim7.holds Tryd.pinned (.plain (OpenSpec.ofChange versionPutsSpec)) versionPutsCard

/-- THE SECOND FORM's CARD OF 'tabellionlaw07.VersionPuts'. -/
def versionPutsUptoCard : Claim7 := { stood := { row := versionPutsUptoRow, standIns := [], harness := (true, "80b2931cc56031ca8b6628897b30dc3e00f53518a04cd9087c24b660ca117c2a"), looks := false }, kinds := [], alts := [], laidByText := true, laidKinds := [.data], laidTests := true, laidLooks := .later }
def VersionPutsUptoCardSaid : Prop := Claim7.holds Tryd.pinned (.plain (OpenSpec.upto versionPutsSpec)) versionPutsUptoCard
end Rows
end Go.Proofs.YthafhiemecfjiaaDoor
