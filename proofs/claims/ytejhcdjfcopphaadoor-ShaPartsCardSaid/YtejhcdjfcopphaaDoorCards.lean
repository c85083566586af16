/-
  DERIVED. GIVEN WITH THE SEED: THE CARDS: each row of YtejhcdjfcopphaaDoorRows.lean that lists a variable, with what it lists TIED to the program's text (the seventh form; the later family's looks); each row that meets fmt, with fmt's text TOLD by the authors' own Lean function (tested against real Go, not proved from fmt's source: count such statements apart). THE CARD IS WHAT COUNTS. Prove the row's statement (the work); the ties are given (YtejhcdjfcopphaaDoorTie.lean); close each card by the builder's one call (the guide's Derived/Test/ToyasCard.lean, 'card_holds'). Laid BY PROGRAM, IN A SANDBOX (cutbox-door.mjs). By AI agents, Wed Nov 11 2026. No macro, syntax, notation, axiom, sorry.
-/
import Derived.Test.YtejhcdjfcopphaaDoorRows
import GoSem.ClaimSeven
namespace Go.Proofs.YtejhcdjfcopphaaDoor
namespace Rows

/-- THE TIED CARD OF 'tabellionlaw02.ShaSums'. -/
def shaSumsCard : Claim7 := { stood := { row := shaSumsRow, standIns := [], harness := (true, "fcfdb48ef7eb5b7c60a37d73960b5bf7d67ecae7de3e1151fac52557b8c3497c"), looks := false }, kinds := [], alts := [], laidByText := true, laidKinds := [.data, .data], laidTests := true, laidLooks := .later }
def ShaSumsCardSaid : Prop := Claim7.holds Tryd.pinned (.plain (OpenSpec.ofChange shaSumsSpec)) shaSumsCard

/-- THE TIED CARD OF 'tabellionlaw02.ShaKeys'. -/
def shaKeysCard : Claim7 := { stood := { row := shaKeysRow, standIns := [], harness := (true, "fcfdb48ef7eb5b7c60a37d73960b5bf7d67ecae7de3e1151fac52557b8c3497c"), looks := false }, kinds := [], alts := [], laidByText := true, laidKinds := [.data, .data], laidTests := true, laidLooks := .later }
def ShaKeysCardSaid : Prop := Claim7.holds Tryd.pinned (.plain (OpenSpec.ofChange shaKeysSpec)) shaKeysCard

/-- THE TIED CARD OF 'tabellionlaw02.ShaTwo'. -/
def shaTwoCard : Claim7 := { stood := { row := shaTwoRow, standIns := [], harness := (true, "fcfdb48ef7eb5b7c60a37d73960b5bf7d67ecae7de3e1151fac52557b8c3497c"), looks := false }, kinds := [], alts := [], laidByText := true, laidKinds := [.data], laidTests := true, laidLooks := .later }
def ShaTwoCardSaid : Prop := Claim7.holds Tryd.pinned (.plain (OpenSpec.ofChange shaTwoSpec)) shaTwoCard

/-- THE TIED CARD OF 'tabellionlaw02.ShaParts'. -/
def shaPartsCard : Claim7 := { stood := { row := shaPartsRow, standIns := [], harness := (true, "fcfdb48ef7eb5b7c60a37d73960b5bf7d67ecae7de3e1151fac52557b8c3497c"), looks := false }, kinds := [], alts := [], laidByText := true, laidKinds := [.data, .data], laidTests := true, laidLooks := .later }
def ShaPartsCardSaid : Prop := Claim7.holds Tryd.pinned (.plain (OpenSpec.ofChange shaPartsSpec)) shaPartsCard

/-- THE TIED CARD OF 'tabellionlaw02.ShaNil'. -/
def shaNilCard : Claim7 := { stood := { row := shaNilRow, standIns := [], harness := (true, "fcfdb48ef7eb5b7c60a37d73960b5bf7d67ecae7de3e1151fac52557b8c3497c"), looks := false }, kinds := [], alts := [], laidByText := true, laidKinds := [.data], laidTests := true, laidLooks := .later }
def ShaNilCardSaid : Prop := Claim7.holds Tryd.pinned (.plain (OpenSpec.ofChange shaNilSpec)) shaNilCard

/-- THE SECOND FORM's CARD OF 'tabellionlaw02.ShaSums'. -/
def shaSumsUptoCard : Claim7 := { stood := { row := shaSumsUptoRow, standIns := [], harness := (true, "fcfdb48ef7eb5b7c60a37d73960b5bf7d67ecae7de3e1151fac52557b8c3497c"), looks := false }, kinds := [], alts := [], laidByText := true, laidKinds := [.data, .data], laidTests := true, laidLooks := .later }
def ShaSumsUptoCardSaid : Prop := Claim7.holds Tryd.pinned (.plain (OpenSpec.upto shaSumsSpec)) shaSumsUptoCard

/-- THE SECOND FORM's CARD OF 'tabellionlaw02.ShaKeys'. -/
def shaKeysUptoCard : Claim7 := { stood := { row := shaKeysUptoRow, standIns := [], harness := (true, "fcfdb48ef7eb5b7c60a37d73960b5bf7d67ecae7de3e1151fac52557b8c3497c"), looks := false }, kinds := [], alts := [], laidByText := true, laidKinds := [.data, .data], laidTests := true, laidLooks := .later }
def ShaKeysUptoCardSaid : Prop := Claim7.holds Tryd.pinned (.plain (OpenSpec.upto shaKeysSpec)) shaKeysUptoCard

/-- THE SECOND FORM's CARD OF 'tabellionlaw02.ShaTwo'. -/
def shaTwoUptoCard : Claim7 := { stood := { row := shaTwoUptoRow, standIns := [], harness := (true, "fcfdb48ef7eb5b7c60a37d73960b5bf7d67ecae7de3e1151fac52557b8c3497c"), looks := false }, kinds := [], alts := [], laidByText := true, laidKinds := [.data], laidTests := true, laidLooks := .later }
def ShaTwoUptoCardSaid : Prop := Claim7.holds Tryd.pinned (.plain (OpenSpec.upto shaTwoSpec)) shaTwoUptoCard

/-- THE SECOND FORM's CARD OF 'tabellionlaw02.ShaParts'. -/
def shaPartsUptoCard : Claim7 := { stood := { row := shaPartsUptoRow, standIns := [], harness := (true, "fcfdb48ef7eb5b7c60a37d73960b5bf7d67ecae7de3e1151fac52557b8c3497c"), looks := false }, kinds := [], alts := [], laidByText := true, laidKinds := [.data, .data], laidTests := true, laidLooks := .later }
def ShaPartsUptoCardSaid : Prop := Claim7.holds Tryd.pinned (.plain (OpenSpec.upto shaPartsSpec)) shaPartsUptoCard

/-- THE SECOND FORM's CARD OF 'tabellionlaw02.ShaNil'. -/
def shaNilUptoCard : Claim7 := { stood := { row := shaNilUptoRow, standIns := [], harness := (true, "fcfdb48ef7eb5b7c60a37d73960b5bf7d67ecae7de3e1151fac52557b8c3497c"), looks := false }, kinds := [], alts := [], laidByText := true, laidKinds := [.data], laidTests := true, laidLooks := .later }
def ShaNilUptoCardSaid : Prop := Claim7.holds Tryd.pinned (.plain (OpenSpec.upto shaNilSpec)) shaNilUptoCard
end Rows
end Go.Proofs.YtejhcdjfcopphaaDoor
