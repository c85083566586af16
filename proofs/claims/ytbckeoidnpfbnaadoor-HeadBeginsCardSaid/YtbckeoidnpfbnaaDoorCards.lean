/-
  DERIVED. GIVEN WITH THE SEED: THE CARDS: each row of YtbckeoidnpfbnaaDoorRows.lean that lists a variable, with what it lists TIED to the program's text (the seventh form; the later family's looks); each row that meets fmt, with fmt's text TOLD by the authors' own Lean function (tested against real Go, not proved from fmt's source: count such statements apart). THE CARD IS WHAT COUNTS. Prove the row's statement (the work); the ties are given (YtbckeoidnpfbnaaDoorTie.lean); close each card by the builder's one call (the guide's Derived/Test/ToyasCard.lean, 'card_holds'). Laid BY PROGRAM, IN A SANDBOX (cutbox-door.mjs). By AI agents, Wed Nov 11 2026. No macro, syntax, notation, axiom, sorry.
-/
import Derived.Test.YtbckeoidnpfbnaaDoorRows
import GoSem.ClaimSeven
namespace Go.Proofs.YtbckeoidnpfbnaaDoor
namespace Rows

/-- THE TIED CARD OF 'tabellionlaw09.HeadBytes'. -/
def headBytesCard : Claim7 := { stood := { row := headBytesRow, standIns := [], harness := (true, "bc219b121d9905f334278c4c447e7a84e5e78f44f5160505fb99f903bfe23596"), looks := false }, kinds := [], alts := [], laidByText := true, laidKinds := [.data], laidTests := true, laidLooks := .later }
def HeadBytesCardSaid : Prop := Claim7.holds Tryd.pinned (.plain (OpenSpec.ofChange headBytesSpec)) headBytesCard

/-- THE TIED CARD OF 'tabellionlaw09.HeadSigns'. -/
def headSignsCard : Claim7 := { stood := { row := headSignsRow, standIns := [], harness := (true, "bc219b121d9905f334278c4c447e7a84e5e78f44f5160505fb99f903bfe23596"), looks := false }, kinds := [], alts := [], laidByText := true, laidKinds := [.data, .data], laidTests := true, laidLooks := .later }
def HeadSignsCardSaid : Prop := Claim7.holds Tryd.pinned (.plain (OpenSpec.ofChange headSignsSpec)) headSignsCard

/-- THE TIED CARD OF 'tabellionlaw09.HeadChecks'. -/
def headChecksCard : Claim7 := { stood := { row := headChecksRow, standIns := [], harness := (true, "bc219b121d9905f334278c4c447e7a84e5e78f44f5160505fb99f903bfe23596"), looks := false }, kinds := [], alts := [], laidByText := true, laidKinds := [.data, .data], laidTests := true, laidLooks := .later }
def HeadChecksCardSaid : Prop := Claim7.holds Tryd.pinned (.plain (OpenSpec.ofChange headChecksSpec)) headChecksCard

/-- THE TIED CARD OF 'tabellionlaw09.HeadBack'. -/
def headBackCard : Claim7 := { stood := { row := headBackRow, standIns := [], harness := (true, "bc219b121d9905f334278c4c447e7a84e5e78f44f5160505fb99f903bfe23596"), looks := false }, kinds := [], alts := [], laidByText := true, laidKinds := [.data], laidTests := true, laidLooks := .later }
def HeadBackCardSaid : Prop := Claim7.holds Tryd.pinned (.plain (OpenSpec.ofChange headBackSpec)) headBackCard

/-- THE TIED CARD OF 'tabellionlaw09.HeadChains'. -/
def headChainsCard : Claim7 := { stood := { row := headChainsRow, standIns := [], harness := (true, "bc219b121d9905f334278c4c447e7a84e5e78f44f5160505fb99f903bfe23596"), looks := false }, kinds := [], alts := [], laidByText := true, laidKinds := [.data, .data], laidTests := true, laidLooks := .later }
def HeadChainsCardSaid : Prop := Claim7.holds Tryd.pinned (.plain (OpenSpec.ofChange headChainsSpec)) headChainsCard

/-- THE TIED CARD OF 'tabellionlaw09.HeadBegins'. -/
def headBeginsCard : Claim7 := { stood := { row := headBeginsRow, standIns := [], harness := (true, "bc219b121d9905f334278c4c447e7a84e5e78f44f5160505fb99f903bfe23596"), looks := false }, kinds := [], alts := [], laidByText := true, laidKinds := [.data], laidTests := true, laidLooks := .later }
def HeadBeginsCardSaid : Prop := Claim7.holds Tryd.pinned (.plain (OpenSpec.ofChange headBeginsSpec)) headBeginsCard

/-- THE SECOND FORM's CARD OF 'tabellionlaw09.HeadBytes'. -/
def headBytesUptoCard : Claim7 := { stood := { row := headBytesUptoRow, standIns := [], harness := (true, "bc219b121d9905f334278c4c447e7a84e5e78f44f5160505fb99f903bfe23596"), looks := false }, kinds := [], alts := [], laidByText := true, laidKinds := [.data], laidTests := true, laidLooks := .later }
def HeadBytesUptoCardSaid : Prop := Claim7.holds Tryd.pinned (.plain (OpenSpec.upto headBytesSpec)) headBytesUptoCard

/-- THE SECOND FORM's CARD OF 'tabellionlaw09.HeadSigns'. -/
def headSignsUptoCard : Claim7 := { stood := { row := headSignsUptoRow, standIns := [], harness := (true, "bc219b121d9905f334278c4c447e7a84e5e78f44f5160505fb99f903bfe23596"), looks := false }, kinds := [], alts := [], laidByText := true, laidKinds := [.data, .data], laidTests := true, laidLooks := .later }
def HeadSignsUptoCardSaid : Prop := Claim7.holds Tryd.pinned (.plain (OpenSpec.upto headSignsSpec)) headSignsUptoCard

/-- THE SECOND FORM's CARD OF 'tabellionlaw09.HeadChecks'. -/
def headChecksUptoCard : Claim7 := { stood := { row := headChecksUptoRow, standIns := [], harness := (true, "bc219b121d9905f334278c4c447e7a84e5e78f44f5160505fb99f903bfe23596"), looks := false }, kinds := [], alts := [], laidByText := true, laidKinds := [.data, .data], laidTests := true, laidLooks := .later }
def HeadChecksUptoCardSaid : Prop := Claim7.holds Tryd.pinned (.plain (OpenSpec.upto headChecksSpec)) headChecksUptoCard

/-- THE SECOND FORM's CARD OF 'tabellionlaw09.HeadBack'. -/
def headBackUptoCard : Claim7 := { stood := { row := headBackUptoRow, standIns := [], harness := (true, "bc219b121d9905f334278c4c447e7a84e5e78f44f5160505fb99f903bfe23596"), looks := false }, kinds := [], alts := [], laidByText := true, laidKinds := [.data], laidTests := true, laidLooks := .later }
def HeadBackUptoCardSaid : Prop := Claim7.holds Tryd.pinned (.plain (OpenSpec.upto headBackSpec)) headBackUptoCard

/-- THE SECOND FORM's CARD OF 'tabellionlaw09.HeadChains'. -/
def headChainsUptoCard : Claim7 := { stood := { row := headChainsUptoRow, standIns := [], harness := (true, "bc219b121d9905f334278c4c447e7a84e5e78f44f5160505fb99f903bfe23596"), looks := false }, kinds := [], alts := [], laidByText := true, laidKinds := [.data, .data], laidTests := true, laidLooks := .later }
def HeadChainsUptoCardSaid : Prop := Claim7.holds Tryd.pinned (.plain (OpenSpec.upto headChainsSpec)) headChainsUptoCard

/-- THE SECOND FORM's CARD OF 'tabellionlaw09.HeadBegins'. -/
def headBeginsUptoCard : Claim7 := { stood := { row := headBeginsUptoRow, standIns := [], harness := (true, "bc219b121d9905f334278c4c447e7a84e5e78f44f5160505fb99f903bfe23596"), looks := false }, kinds := [], alts := [], laidByText := true, laidKinds := [.data], laidTests := true, laidLooks := .later }
def HeadBeginsUptoCardSaid : Prop := Claim7.holds Tryd.pinned (.plain (OpenSpec.upto headBeginsSpec)) headBeginsUptoCard
end Rows
end Go.Proofs.YtbckeoidnpfbnaaDoor
