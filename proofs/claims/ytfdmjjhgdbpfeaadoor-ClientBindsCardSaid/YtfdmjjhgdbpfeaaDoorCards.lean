/-
  DERIVED. GIVEN WITH THE SEED: THE CARDS: each row of YtfdmjjhgdbpfeaaDoorRows.lean that lists a variable, with what it lists TIED to the program's text (the seventh form; the later family's looks); each row that meets fmt, with fmt's text TOLD by the authors' own Lean function (tested against real Go, not proved from fmt's source: count such statements apart). THE CARD IS WHAT COUNTS. Prove the row's statement (the work); the ties are given (YtfdmjjhgdbpfeaaDoorTie.lean); close each card by the builder's one call (the guide's Derived/Test/ToyasCard.lean, 'card_holds'). Laid BY PROGRAM, IN A SANDBOX (cutbox-door.mjs). By AI agents, Wed Nov 11 2026. No macro, syntax, notation, axiom, sorry.
-/
import Derived.Test.YtfdmjjhgdbpfeaaDoorRows
import GoSem.ClaimSeven
namespace Go.Proofs.YtfdmjjhgdbpfeaaDoor
namespace Rows

/-- THE TIED CARD OF 'tabellionlaw21.ClientVerifies'. -/
def clientVerifiesCard : Claim7 := { stood := { row := clientVerifiesRow, standIns := [], harness := (true, "dbd3a7f7cfffc7ae6c113a9d8e6fa489341666760a00f2d4dbe421f7bd885983"), looks := false }, kinds := [], alts := [], laidByText := true, laidKinds := [.data, .data], laidTests := true, laidLooks := .later }
def ClientVerifiesCardSaid : Prop := Claim7.holds Tryd.pinned (.plain (OpenSpec.ofChange clientVerifiesSpec)) clientVerifiesCard

/-- THE TIED CARD OF 'tabellionlaw21.ClientBinds'. -/
def clientBindsCard : Claim7 := { stood := { row := clientBindsRow, standIns := [], harness := (true, "dbd3a7f7cfffc7ae6c113a9d8e6fa489341666760a00f2d4dbe421f7bd885983"), looks := false }, kinds := [], alts := [], laidByText := true, laidKinds := [.data], laidTests := true, laidLooks := .later }
def ClientBindsCardSaid : Prop := Claim7.holds Tryd.pinned (.plain (OpenSpec.ofChange clientBindsSpec)) clientBindsCard

/-- THE SECOND FORM's CARD OF 'tabellionlaw21.ClientVerifies'. -/
def clientVerifiesUptoCard : Claim7 := { stood := { row := clientVerifiesUptoRow, standIns := [], harness := (true, "dbd3a7f7cfffc7ae6c113a9d8e6fa489341666760a00f2d4dbe421f7bd885983"), looks := false }, kinds := [], alts := [], laidByText := true, laidKinds := [.data, .data], laidTests := true, laidLooks := .later }
def ClientVerifiesUptoCardSaid : Prop := Claim7.holds Tryd.pinned (.plain (OpenSpec.upto clientVerifiesSpec)) clientVerifiesUptoCard

/-- THE SECOND FORM's CARD OF 'tabellionlaw21.ClientBinds'. -/
def clientBindsUptoCard : Claim7 := { stood := { row := clientBindsUptoRow, standIns := [], harness := (true, "dbd3a7f7cfffc7ae6c113a9d8e6fa489341666760a00f2d4dbe421f7bd885983"), looks := false }, kinds := [], alts := [], laidByText := true, laidKinds := [.data], laidTests := true, laidLooks := .later }
def ClientBindsUptoCardSaid : Prop := Claim7.holds Tryd.pinned (.plain (OpenSpec.upto clientBindsSpec)) clientBindsUptoCard
end Rows
end Go.Proofs.YtfdmjjhgdbpfeaaDoor
