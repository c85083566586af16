/-
  No cell of these rows narrows 'for every input' (looked for: loops, veiled, ifaces, maps, wideKeys, modest, calm, conditions, laid).
  DERIVED. THE GIVEN ROWS OF THIS SEAT. 3 by the template 'for every input the law returns true; each argument reads behind the call as it read before'; 0 by the template 'total and deterministic' (their statements: YtcdenfkbhefbbaaTotals.lean).
  GIVEN WITH THE SEED: the statements are not yours to turn. If you find one false, say at which input.
  Laid BY PROGRAM, IN A SANDBOX (cutbox-rows.mjs): the forced cells as the released guide's own fill.sh prints them over the translation b91a864d44dab177… (all of the seat's roots in one cut). By AI agents, Wed Nov 11 2026. No macro, syntax, notation, axiom, sorry.
-/
import Derived.Test.YtcdenfkbhefbbaaChecked
import GoSem.Claim
import GoSem.ClaimJoined
import GoSem.ClaimMapViews
import Derived.JoinedTies
import Derived.KernelRfl
namespace Go.Proofs.Ytcdenfkbhefbbaa
/- THE CELL 'sum', in the pinned program and in every row, IS THE sha256 OF THE DUMP (.gsa) THAT YtcdenfkbhefbbaaProg.lean LOADS. Nothing in Lean hashes anything: it is a label: what it is worth is what the hold of that sum in a sandbox is worth. -/
noncomputable def Try.pinned : Pinned := { name := "ytcdenfkbhefbbaa", sum := "b91a864d44dab177cb9b50515bc9f87966821c4dd118fe2981a33935ba98ea27", checked := Try.checked }
namespace Rows
def none {H : Type} : Left H := { results := [], args := [] }

/-- 'tabellionlaw13.VaultFolds': WHATEVER THE INPUT: true; the input reads as it did. -/
def vaultFoldsSpec : ChangeSpec := { name := "vaultFolds", fn := fun _ => fun
  | [d1, d2] => { results := [.lit (.bool true)], args := [d1, d2] }
  | _ => none }
def vaultFoldsRow : OpenClaim := { program := "ytcdenfkbhefbbaa", sum := "b91a864d44dab177cb9b50515bc9f87966821c4dd118fe2981a33935ba98ea27", func := "tabellion/tabellionlaw13.VaultFolds", spec := "vaultFolds", unfollowed := true, recurses := true, apart := false }
def VaultFoldsSaid : Prop := vaultFoldsRow.holds Try.pinned (OpenSpec.ofChange vaultFoldsSpec)

/-- ITS FALSE NEIGHBOUR: 'it returns false'. Refute it at one input. -/
def vaultFoldsWrong : ChangeSpec := { name := "vaultFolds", fn := fun _ => fun
  | [d1, d2] => { results := [.lit (.bool false)], args := [d1, d2] }
  | _ => none }
def VaultFoldsWrongFalsely : Prop := vaultFoldsRow.holds Try.pinned (OpenSpec.ofChange vaultFoldsWrong)

/-- 'tabellionlaw13.VaultRight': WHATEVER THE INPUT: true; the input reads as it did. -/
def vaultRightSpec : ChangeSpec := { name := "vaultRight", fn := fun _ => fun
  | [d1, d2] => { results := [.lit (.bool true)], args := [d1, d2] }
  | _ => none }
def vaultRightRow : OpenClaim := { program := "ytcdenfkbhefbbaa", sum := "b91a864d44dab177cb9b50515bc9f87966821c4dd118fe2981a33935ba98ea27", func := "tabellion/tabellionlaw13.VaultRight", spec := "vaultRight", unfollowed := true, recurses := true, apart := false }
def VaultRightSaid : Prop := vaultRightRow.holds Try.pinned (OpenSpec.ofChange vaultRightSpec)

/-- ITS FALSE NEIGHBOUR: 'it returns false'. Refute it at one input. -/
def vaultRightWrong : ChangeSpec := { name := "vaultRight", fn := fun _ => fun
  | [d1, d2] => { results := [.lit (.bool false)], args := [d1, d2] }
  | _ => none }
def VaultRightWrongFalsely : Prop := vaultRightRow.holds Try.pinned (OpenSpec.ofChange vaultRightWrong)

/-- 'tabellionlaw13.VaultRoom': WHATEVER THE INPUT: true; the input reads as it did. -/
def vaultRoomSpec : ChangeSpec := { name := "vaultRoom", fn := fun _ => fun
  | [d] => { results := [.lit (.bool true)], args := [d] }
  | _ => none }
def vaultRoomRow : OpenClaim := { program := "ytcdenfkbhefbbaa", sum := "b91a864d44dab177cb9b50515bc9f87966821c4dd118fe2981a33935ba98ea27", func := "tabellion/tabellionlaw13.VaultRoom", spec := "vaultRoom", unfollowed := true, recurses := true, apart := false }
def VaultRoomSaid : Prop := vaultRoomRow.holds Try.pinned (OpenSpec.ofChange vaultRoomSpec)

/-- ITS FALSE NEIGHBOUR: 'it returns false'. Refute it at one input. -/
def vaultRoomWrong : ChangeSpec := { name := "vaultRoom", fn := fun _ => fun
  | [d] => { results := [.lit (.bool false)], args := [d] }
  | _ => none }
def VaultRoomWrongFalsely : Prop := vaultRoomRow.holds Try.pinned (OpenSpec.ofChange vaultRoomWrong)

/- THE SECOND FORM. 'bulk': how many values and letters a reading holds, each counted each time it is reached (what is shared counts as often as it is met; a slice's spare places count too). A statement '..UptoSaid' is the law's where the arguments, and the package variables that the reading takes, are together of bulk at most 1048576: NARROWER than '..Said'. Prove '..Said' where nothing that the law and all that it calls make is longer than what came in: it says more and counts as full. Else prove '..UptoSaid'. A law counts once. -/
mutual
def uptoBulk {H : Type} : DataW H → Nat
  | .lit (.string bytes) => bytes.length + 1
  | .lit _ => 1
  | .nil => 1
  | .ptr d => uptoBulk d + 1
  | .slice elems spare => uptoBulkAll elems + uptoBulkAll spare + 1
  | .agg parts => uptoBulkAll parts + 1
  | .iface _ d => uptoBulk d + 1
  | .map entries => uptoBulkEntries entries + 1
  | .held _ => 1
def uptoBulkAll {H : Type} : List (DataW H) → Nat
  | [] => 0
  | d :: r => uptoBulk d + uptoBulkAll r
def uptoBulkEntries {H : Type} : List (Lit × DataW H) → Nat
  | [] => 0
  | x :: r => uptoBulkEntry x + uptoBulkEntries r
def uptoBulkEntry {H : Type} : Lit × DataW H → Nat
  | (.string bytes, d) => bytes.length + uptoBulk d + 1
  | (_, d) => uptoBulk d + 1
 end
def uptoSmall : (H : Type) → List (DataW H) → Bool := fun _ ds => decide (uptoBulkAll ds ≤ 1048576)
def OpenSpec.upto (s : _root_.Go.ChangeSpec) : _root_.Go.OpenSpec := { _root_.Go.OpenSpec.ofChange s with cond := some uptoSmall }

/-- 'tabellionlaw13.VaultFolds', WHERE WHAT IT READS IS OF BULK AT MOST 1048576: true; the input reads as it did. -/
def vaultFoldsUptoRow : OpenClaim := { program := "ytcdenfkbhefbbaa", sum := "b91a864d44dab177cb9b50515bc9f87966821c4dd118fe2981a33935ba98ea27", func := "tabellion/tabellionlaw13.VaultFolds", spec := "vaultFolds", unfollowed := true, recurses := true, apart := false, narrowed := true }
def VaultFoldsUptoSaid : Prop := vaultFoldsUptoRow.holds Try.pinned (OpenSpec.upto vaultFoldsSpec)

/-- 'tabellionlaw13.VaultRight', WHERE WHAT IT READS IS OF BULK AT MOST 1048576: true; the input reads as it did. -/
def vaultRightUptoRow : OpenClaim := { program := "ytcdenfkbhefbbaa", sum := "b91a864d44dab177cb9b50515bc9f87966821c4dd118fe2981a33935ba98ea27", func := "tabellion/tabellionlaw13.VaultRight", spec := "vaultRight", unfollowed := true, recurses := true, apart := false, narrowed := true }
def VaultRightUptoSaid : Prop := vaultRightUptoRow.holds Try.pinned (OpenSpec.upto vaultRightSpec)

/-- 'tabellionlaw13.VaultRoom', WHERE WHAT IT READS IS OF BULK AT MOST 1048576: true; the input reads as it did. -/
def vaultRoomUptoRow : OpenClaim := { program := "ytcdenfkbhefbbaa", sum := "b91a864d44dab177cb9b50515bc9f87966821c4dd118fe2981a33935ba98ea27", func := "tabellion/tabellionlaw13.VaultRoom", spec := "vaultRoom", unfollowed := true, recurses := true, apart := false, narrowed := true }
def VaultRoomUptoSaid : Prop := vaultRoomUptoRow.holds Try.pinned (OpenSpec.upto vaultRoomSpec)

end Rows
end Go.Proofs.Ytcdenfkbhefbbaa
