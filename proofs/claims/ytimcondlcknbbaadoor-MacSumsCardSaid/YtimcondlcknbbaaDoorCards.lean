/-
  DERIVED. GIVEN WITH THE SEED: THE CARDS: each row of YtimcondlcknbbaaDoorRows.lean that lists a variable, with what it lists TIED to the program's text (the seventh form; the later family's looks); each row that meets fmt, with fmt's text TOLD by the authors' own Lean function (tested against real Go, not proved from fmt's source: count such statements apart). THE CARD IS WHAT COUNTS. Prove the row's statement (the work); the ties are given (YtimcondlcknbbaaDoorTie.lean); close each card by the builder's one call (the guide's Derived/Test/ToyasCard.lean, 'card_holds'). Laid BY PROGRAM, IN A SANDBOX (cutbox-door.mjs). By AI agents, Wed Nov 11 2026. No macro, syntax, notation, axiom, sorry.
-/
import Derived.Test.YtimcondlcknbbaaDoorRows
import GoSem.ClaimSeven
namespace Go.Proofs.YtimcondlcknbbaaDoor
namespace Rows

/-- THE TIED CARD OF 'tabellionlaw03.MacMacs'. -/
def macMacsCard : Claim7 := { stood := { row := macMacsRow, standIns := [], harness := (true, "3bc1c87d80548e33e528cf4d2c18bdb394a29618192d7c51ca7ee5ebd51fc848"), looks := false }, kinds := [], alts := [], laidByText := true, laidKinds := [.data, .data], laidTests := true, laidLooks := .later }
def MacMacsCardSaid : Prop := Claim7.holds Tryd.pinned (.plain (OpenSpec.ofChange macMacsSpec)) macMacsCard

/-- THE TIED CARD OF 'tabellionlaw03.MacKeys'. -/
def macKeysCard : Claim7 := { stood := { row := macKeysRow, standIns := [], harness := (true, "3bc1c87d80548e33e528cf4d2c18bdb394a29618192d7c51ca7ee5ebd51fc848"), looks := false }, kinds := [], alts := [], laidByText := true, laidKinds := [.data], laidTests := true, laidLooks := .later }
def MacKeysCardSaid : Prop := Claim7.holds Tryd.pinned (.plain (OpenSpec.ofChange macKeysSpec)) macKeysCard

/-- THE TIED CARD OF 'tabellionlaw03.MacSame'. -/
def macSameCard : Claim7 := { stood := { row := macSameRow, standIns := [], harness := (true, "3bc1c87d80548e33e528cf4d2c18bdb394a29618192d7c51ca7ee5ebd51fc848"), looks := false }, kinds := [], alts := [], laidByText := true, laidKinds := [.data], laidTests := true, laidLooks := .later }
def MacSameCardSaid : Prop := Claim7.holds Tryd.pinned (.plain (OpenSpec.ofChange macSameSpec)) macSameCard

/-- THE TIED CARD OF 'tabellionlaw03.MacSums'. -/
def macSumsCard : Claim7 := { stood := { row := macSumsRow, standIns := [], harness := (true, "3bc1c87d80548e33e528cf4d2c18bdb394a29618192d7c51ca7ee5ebd51fc848"), looks := false }, kinds := [], alts := [], laidByText := true, laidKinds := [.data], laidTests := true, laidLooks := .later }
def MacSumsCardSaid : Prop := Claim7.holds Tryd.pinned (.plain (OpenSpec.ofChange macSumsSpec)) macSumsCard

/-- THE SECOND FORM's CARD OF 'tabellionlaw03.MacMacs'. -/
def macMacsUptoCard : Claim7 := { stood := { row := macMacsUptoRow, standIns := [], harness := (true, "3bc1c87d80548e33e528cf4d2c18bdb394a29618192d7c51ca7ee5ebd51fc848"), looks := false }, kinds := [], alts := [], laidByText := true, laidKinds := [.data, .data], laidTests := true, laidLooks := .later }
def MacMacsUptoCardSaid : Prop := Claim7.holds Tryd.pinned (.plain (OpenSpec.upto macMacsSpec)) macMacsUptoCard

/-- THE SECOND FORM's CARD OF 'tabellionlaw03.MacKeys'. -/
def macKeysUptoCard : Claim7 := { stood := { row := macKeysUptoRow, standIns := [], harness := (true, "3bc1c87d80548e33e528cf4d2c18bdb394a29618192d7c51ca7ee5ebd51fc848"), looks := false }, kinds := [], alts := [], laidByText := true, laidKinds := [.data], laidTests := true, laidLooks := .later }
def MacKeysUptoCardSaid : Prop := Claim7.holds Tryd.pinned (.plain (OpenSpec.upto macKeysSpec)) macKeysUptoCard

/-- THE SECOND FORM's CARD OF 'tabellionlaw03.MacSame'. -/
def macSameUptoCard : Claim7 := { stood := { row := macSameUptoRow, standIns := [], harness := (true, "3bc1c87d80548e33e528cf4d2c18bdb394a29618192d7c51ca7ee5ebd51fc848"), looks := false }, kinds := [], alts := [], laidByText := true, laidKinds := [.data], laidTests := true, laidLooks := .later }
def MacSameUptoCardSaid : Prop := Claim7.holds Tryd.pinned (.plain (OpenSpec.upto macSameSpec)) macSameUptoCard

/-- THE SECOND FORM's CARD OF 'tabellionlaw03.MacSums'. -/
def macSumsUptoCard : Claim7 := { stood := { row := macSumsUptoRow, standIns := [], harness := (true, "3bc1c87d80548e33e528cf4d2c18bdb394a29618192d7c51ca7ee5ebd51fc848"), looks := false }, kinds := [], alts := [], laidByText := true, laidKinds := [.data], laidTests := true, laidLooks := .later }
def MacSumsUptoCardSaid : Prop := Claim7.holds Tryd.pinned (.plain (OpenSpec.upto macSumsSpec)) macSumsUptoCard
end Rows
end Go.Proofs.YtimcondlcknbbaaDoor
