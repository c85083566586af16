/-
  DERIVED. GIVEN WITH THE SEED: THE CARDS: each row of YtcbpgnjlbbjieaaDoorRows.lean that lists a variable, with what it lists TIED to the program's text (the seventh form; the later family's looks); each row that meets fmt, with fmt's text TOLD by the authors' own Lean function (tested against real Go, not proved from fmt's source: count such statements apart). THE CARD IS WHAT COUNTS. Prove the row's statement (the work); the ties are given (YtcbpgnjlbbjieaaDoorTie.lean); close each card by the builder's one call (the guide's Derived/Test/ToyasCard.lean, 'card_holds'). Laid BY PROGRAM, IN A SANDBOX (cutbox-door.mjs). By AI agents, Wed Nov 11 2026. No macro, syntax, notation, axiom, sorry.
-/
import Derived.Test.YtcbpgnjlbbjieaaDoorRows
import GoSem.ClaimSeven
namespace Go.Proofs.YtcbpgnjlbbjieaaDoor
namespace Rows

/-- THE TIED CARD OF 'tabellionlaw11.DiskRenames'. -/
def diskRenamesCard : Claim7 := { stood := { row := diskRenamesRow, standIns := [], harness := (true, "0ebd4b91b9f883e10f9e5bbe9c3c8e759599859faf6f080c1e6854f177fbcca3"), looks := true }, kinds := [], alts := [], laidByText := true, laidKinds := [.data, .pinned], laidTests := true, laidLooks := .later }
def DiskRenamesCardSaid : Prop := Claim7.holds Tryd.pinned (.plain (OpenSpec.ofChange diskRenamesSpec)) diskRenamesCard

/-- THE TIED CARD OF 'tabellionlaw11.DiskApart'. -/
def diskApartCard : Claim7 := { stood := { row := diskApartRow, standIns := [], harness := (true, "0ebd4b91b9f883e10f9e5bbe9c3c8e759599859faf6f080c1e6854f177fbcca3"), looks := true }, kinds := [], alts := [], laidByText := true, laidKinds := [.data, .pinned], laidTests := true, laidLooks := .later }
def DiskApartCardSaid : Prop := Claim7.holds Tryd.pinned (.plain (OpenSpec.ofChange diskApartSpec)) diskApartCard

/-- THE TIED CARD OF 'tabellionlaw11.DiskRuns'. -/
def diskRunsCard : Claim7 := { stood := { row := diskRunsRow, standIns := [], harness := (true, "0ebd4b91b9f883e10f9e5bbe9c3c8e759599859faf6f080c1e6854f177fbcca3"), looks := true }, kinds := [], alts := [], laidByText := true, laidKinds := [.data, .pinned], laidTests := true, laidLooks := .later }
def DiskRunsCardSaid : Prop := Claim7.holds Tryd.pinned (.plain (OpenSpec.ofChange diskRunsSpec)) diskRunsCard

/-- THE TIED CARD OF 'tabellionlaw11.DiskSynced'. -/
def diskSyncedCard : Claim7 := { stood := { row := diskSyncedRow, standIns := [], harness := (true, "0ebd4b91b9f883e10f9e5bbe9c3c8e759599859faf6f080c1e6854f177fbcca3"), looks := true }, kinds := [], alts := [], laidByText := true, laidKinds := [.data, .pinned], laidTests := true, laidLooks := .later }
def DiskSyncedCardSaid : Prop := Claim7.holds Tryd.pinned (.plain (OpenSpec.ofChange diskSyncedSpec)) diskSyncedCard

/-- THE TIED CARD OF 'tabellionlaw11.DiskStops'. -/
def diskStopsCard : Claim7 := { stood := { row := diskStopsRow, standIns := [], harness := (true, "0ebd4b91b9f883e10f9e5bbe9c3c8e759599859faf6f080c1e6854f177fbcca3"), looks := true }, kinds := [], alts := [], laidByText := true, laidKinds := [.data, .pinned], laidTests := true, laidLooks := .later }
def DiskStopsCardSaid : Prop := Claim7.holds Tryd.pinned (.plain (OpenSpec.ofChange diskStopsSpec)) diskStopsCard

/-- THE TIED CARD OF 'tabellionlaw11.DiskNil'. -/
def diskNilCard : Claim7 := { stood := { row := diskNilRow, standIns := [], harness := (true, "0ebd4b91b9f883e10f9e5bbe9c3c8e759599859faf6f080c1e6854f177fbcca3"), looks := true }, kinds := [], alts := [], laidByText := true, laidKinds := [.data, .pinned], laidTests := true, laidLooks := .later }
def DiskNilCardSaid : Prop := Claim7.holds Tryd.pinned (.plain (OpenSpec.ofChange diskNilSpec)) diskNilCard

/-- THE SECOND FORM's CARD OF 'tabellionlaw11.DiskRenames'. -/
def diskRenamesUptoCard : Claim7 := { stood := { row := diskRenamesUptoRow, standIns := [], harness := (true, "0ebd4b91b9f883e10f9e5bbe9c3c8e759599859faf6f080c1e6854f177fbcca3"), looks := true }, kinds := [], alts := [], laidByText := true, laidKinds := [.data, .pinned], laidTests := true, laidLooks := .later }
def DiskRenamesUptoCardSaid : Prop := Claim7.holds Tryd.pinned (.plain (OpenSpec.upto diskRenamesSpec)) diskRenamesUptoCard

/-- THE SECOND FORM's CARD OF 'tabellionlaw11.DiskApart'. -/
def diskApartUptoCard : Claim7 := { stood := { row := diskApartUptoRow, standIns := [], harness := (true, "0ebd4b91b9f883e10f9e5bbe9c3c8e759599859faf6f080c1e6854f177fbcca3"), looks := true }, kinds := [], alts := [], laidByText := true, laidKinds := [.data, .pinned], laidTests := true, laidLooks := .later }
def DiskApartUptoCardSaid : Prop := Claim7.holds Tryd.pinned (.plain (OpenSpec.upto diskApartSpec)) diskApartUptoCard

/-- THE SECOND FORM's CARD OF 'tabellionlaw11.DiskRuns'. -/
def diskRunsUptoCard : Claim7 := { stood := { row := diskRunsUptoRow, standIns := [], harness := (true, "0ebd4b91b9f883e10f9e5bbe9c3c8e759599859faf6f080c1e6854f177fbcca3"), looks := true }, kinds := [], alts := [], laidByText := true, laidKinds := [.data, .pinned], laidTests := true, laidLooks := .later }
def DiskRunsUptoCardSaid : Prop := Claim7.holds Tryd.pinned (.plain (OpenSpec.upto diskRunsSpec)) diskRunsUptoCard

/-- THE SECOND FORM's CARD OF 'tabellionlaw11.DiskSynced'. -/
def diskSyncedUptoCard : Claim7 := { stood := { row := diskSyncedUptoRow, standIns := [], harness := (true, "0ebd4b91b9f883e10f9e5bbe9c3c8e759599859faf6f080c1e6854f177fbcca3"), looks := true }, kinds := [], alts := [], laidByText := true, laidKinds := [.data, .pinned], laidTests := true, laidLooks := .later }
def DiskSyncedUptoCardSaid : Prop := Claim7.holds Tryd.pinned (.plain (OpenSpec.upto diskSyncedSpec)) diskSyncedUptoCard

/-- THE SECOND FORM's CARD OF 'tabellionlaw11.DiskStops'. -/
def diskStopsUptoCard : Claim7 := { stood := { row := diskStopsUptoRow, standIns := [], harness := (true, "0ebd4b91b9f883e10f9e5bbe9c3c8e759599859faf6f080c1e6854f177fbcca3"), looks := true }, kinds := [], alts := [], laidByText := true, laidKinds := [.data, .pinned], laidTests := true, laidLooks := .later }
def DiskStopsUptoCardSaid : Prop := Claim7.holds Tryd.pinned (.plain (OpenSpec.upto diskStopsSpec)) diskStopsUptoCard

/-- THE SECOND FORM's CARD OF 'tabellionlaw11.DiskNil'. -/
def diskNilUptoCard : Claim7 := { stood := { row := diskNilUptoRow, standIns := [], harness := (true, "0ebd4b91b9f883e10f9e5bbe9c3c8e759599859faf6f080c1e6854f177fbcca3"), looks := true }, kinds := [], alts := [], laidByText := true, laidKinds := [.data, .pinned], laidTests := true, laidLooks := .later }
def DiskNilUptoCardSaid : Prop := Claim7.holds Tryd.pinned (.plain (OpenSpec.upto diskNilSpec)) diskNilUptoCard
end Rows
end Go.Proofs.YtcbpgnjlbbjieaaDoor
