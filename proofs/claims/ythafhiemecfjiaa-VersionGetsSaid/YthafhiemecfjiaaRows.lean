/-
  No cell of these rows narrows 'for every input' (looked for: loops, veiled, ifaces, maps, wideKeys, modest, calm, conditions, laid).
  DERIVED. THE GIVEN ROWS OF THIS SEAT. 6 by the template 'for every input the law returns true; each argument reads behind the call as it read before'; 0 by the template 'total and deterministic' (their statements: YthafhiemecfjiaaTotals.lean).
  GIVEN WITH THE SEED: the statements are not yours to turn. If you find one false, say at which input.
  Laid BY PROGRAM, IN A SANDBOX (cutbox-rows.mjs): the forced cells as the released guide's own fill.sh prints them over the translation 6c5ed8cf2412f9ea… (all of the seat's roots in one cut). By AI agents, Wed Nov 11 2026. No macro, syntax, notation, axiom, sorry.
-/
import Derived.Test.YthafhiemecfjiaaChecked
import GoSem.Claim
import GoSem.ClaimJoined
import GoSem.ClaimMapViews
import Derived.JoinedTies
import Derived.KernelRfl
namespace Go.Proofs.Ythafhiemecfjiaa
/- THE CELL 'sum', in the pinned program and in every row, IS THE sha256 OF THE DUMP (.gsa) THAT YthafhiemecfjiaaProg.lean LOADS. Nothing in Lean hashes anything: it is a label: what it is worth is what the hold of that sum in a sandbox is worth. -/
noncomputable def Try.pinned : Pinned := { name := "ythafhiemecfjiaa", sum := "6c5ed8cf2412f9ea0811e95c886cf62e07ac462bd48264ce50dea797cbf55552", checked := Try.checked }
namespace Rows
def none {H : Type} : Left H := { results := [], args := [] }

/-- 'tabellionlaw07.VersionChecks': WHATEVER THE INPUT: true; the input reads as it did. -/
def versionChecksSpec : ChangeSpec := { name := "versionChecks", fn := fun _ => fun
  | [d] => { results := [.lit (.bool true)], args := [d] }
  | _ => none }
def versionChecksRow : OpenClaim := { program := "ythafhiemecfjiaa", sum := "6c5ed8cf2412f9ea0811e95c886cf62e07ac462bd48264ce50dea797cbf55552", func := "tabellion/tabellionlaw07.VersionChecks", spec := "versionChecks", apart := false }
def VersionChecksSaid : Prop := versionChecksRow.holds Try.pinned (OpenSpec.ofChange versionChecksSpec)

/-- ITS FALSE NEIGHBOUR: 'it returns false'. Refute it at one input. -/
def versionChecksWrong : ChangeSpec := { name := "versionChecks", fn := fun _ => fun
  | [d] => { results := [.lit (.bool false)], args := [d] }
  | _ => none }
def VersionChecksWrongFalsely : Prop := versionChecksRow.holds Try.pinned (OpenSpec.ofChange versionChecksWrong)

/-- 'tabellionlaw07.VersionNext': WHATEVER THE INPUT: true; the input reads as it did. -/
def versionNextSpec : ChangeSpec := { name := "versionNext", fn := fun _ => fun
  | [d1, d2] => { results := [.lit (.bool true)], args := [d1, d2] }
  | _ => none }
def versionNextRow : OpenClaim := { program := "ythafhiemecfjiaa", sum := "6c5ed8cf2412f9ea0811e95c886cf62e07ac462bd48264ce50dea797cbf55552", func := "tabellion/tabellionlaw07.VersionNext", spec := "versionNext", apart := false }
def VersionNextSaid : Prop := versionNextRow.holds Try.pinned (OpenSpec.ofChange versionNextSpec)

/-- ITS FALSE NEIGHBOUR: 'it returns false'. Refute it at one input. -/
def versionNextWrong : ChangeSpec := { name := "versionNext", fn := fun _ => fun
  | [d1, d2] => { results := [.lit (.bool false)], args := [d1, d2] }
  | _ => none }
def VersionNextWrongFalsely : Prop := versionNextRow.holds Try.pinned (OpenSpec.ofChange versionNextWrong)

/-- 'tabellionlaw07.VersionKeys': WHATEVER THE INPUT: true; the input reads as it did. -/
def versionKeysSpec : ChangeSpec := { name := "versionKeys", fn := fun _ => fun
  | [d1, d2] => { results := [.lit (.bool true)], args := [d1, d2] }
  | _ => none }
def versionKeysRow : OpenClaim := { program := "ythafhiemecfjiaa", sum := "6c5ed8cf2412f9ea0811e95c886cf62e07ac462bd48264ce50dea797cbf55552", func := "tabellion/tabellionlaw07.VersionKeys", spec := "versionKeys", apart := false }
def VersionKeysSaid : Prop := versionKeysRow.holds Try.pinned (OpenSpec.ofChange versionKeysSpec)

/-- ITS FALSE NEIGHBOUR: 'it returns false'. Refute it at one input. -/
def versionKeysWrong : ChangeSpec := { name := "versionKeys", fn := fun _ => fun
  | [d1, d2] => { results := [.lit (.bool false)], args := [d1, d2] }
  | _ => none }
def VersionKeysWrongFalsely : Prop := versionKeysRow.holds Try.pinned (OpenSpec.ofChange versionKeysWrong)

/-- 'tabellionlaw07.VersionAt': WHATEVER THE INPUT: true; the input reads as it did. -/
def versionAtSpec : ChangeSpec := { name := "versionAt", fn := fun _ => fun
  | [d1, d2] => { results := [.lit (.bool true)], args := [d1, d2] }
  | _ => none }
def versionAtRow : OpenClaim := { program := "ythafhiemecfjiaa", sum := "6c5ed8cf2412f9ea0811e95c886cf62e07ac462bd48264ce50dea797cbf55552", func := "tabellion/tabellionlaw07.VersionAt", spec := "versionAt", unfollowed := true, recurses := true, apart := false }
def VersionAtSaid : Prop := versionAtRow.holds Try.pinned (OpenSpec.ofChange versionAtSpec)

/-- ITS FALSE NEIGHBOUR: 'it returns false'. Refute it at one input. -/
def versionAtWrong : ChangeSpec := { name := "versionAt", fn := fun _ => fun
  | [d1, d2] => { results := [.lit (.bool false)], args := [d1, d2] }
  | _ => none }
def VersionAtWrongFalsely : Prop := versionAtRow.holds Try.pinned (OpenSpec.ofChange versionAtWrong)

/-- 'tabellionlaw07.VersionGrows': WHATEVER THE INPUT: true; the input reads as it did. -/
def versionGrowsSpec : ChangeSpec := { name := "versionGrows", fn := fun _ => fun
  | [d1, d2, d3] => { results := [.lit (.bool true)], args := [d1, d2, d3] }
  | _ => none }
def versionGrowsRow : OpenClaim := { program := "ythafhiemecfjiaa", sum := "6c5ed8cf2412f9ea0811e95c886cf62e07ac462bd48264ce50dea797cbf55552", func := "tabellion/tabellionlaw07.VersionGrows", spec := "versionGrows", unfollowed := true, recurses := true, apart := false }
def VersionGrowsSaid : Prop := versionGrowsRow.holds Try.pinned (OpenSpec.ofChange versionGrowsSpec)

/-- ITS FALSE NEIGHBOUR: 'it returns false'. Refute it at one input. -/
def versionGrowsWrong : ChangeSpec := { name := "versionGrows", fn := fun _ => fun
  | [d1, d2, d3] => { results := [.lit (.bool false)], args := [d1, d2, d3] }
  | _ => none }
def VersionGrowsWrongFalsely : Prop := versionGrowsRow.holds Try.pinned (OpenSpec.ofChange versionGrowsWrong)

/-- 'tabellionlaw07.VersionGets': WHATEVER THE INPUT: true; the input reads as it did. -/
def versionGetsSpec : ChangeSpec := { name := "versionGets", fn := fun _ => fun
  | [d] => { results := [.lit (.bool true)], args := [d] }
  | _ => none }
def versionGetsRow : OpenClaim := { program := "ythafhiemecfjiaa", sum := "6c5ed8cf2412f9ea0811e95c886cf62e07ac462bd48264ce50dea797cbf55552", func := "tabellion/tabellionlaw07.VersionGets", spec := "versionGets", unfollowed := true, recurses := true, apart := false }
def VersionGetsSaid : Prop := versionGetsRow.holds Try.pinned (OpenSpec.ofChange versionGetsSpec)

/-- ITS FALSE NEIGHBOUR: 'it returns false'. Refute it at one input. -/
def versionGetsWrong : ChangeSpec := { name := "versionGets", fn := fun _ => fun
  | [d] => { results := [.lit (.bool false)], args := [d] }
  | _ => none }
def VersionGetsWrongFalsely : Prop := versionGetsRow.holds Try.pinned (OpenSpec.ofChange versionGetsWrong)

/- THE SECOND FORM. 'bulk': how many values and letters a reading holds, each counted each time it is reached (what is shared counts as often as it is met; a slice's spare places count too). A statement '..UptoSaid' is the law's where the arguments, and the package variables that the reading takes, are together of bulk at most 1048576: NARROWER than '..Said'. Prove '..Said' where nothing that the law and all that it calls make is longer than what came in: it says more and counts as full. Else prove '..UptoSaid'. A law counts once. -/
mutual
def uptoBulk {H : Type} : DataW H → Nat
  | .lit (.string bytes) => bytes.length + 1
  | .lit _ => 1
  | .nil => 1
  | .ptr d => uptoBulk d + 1
  | .slice elems spare => uptoBulkAll elems + uptoBulkAll spare + 1
  | .agg parts => uptoBulkAll parts + 1
  | .iface _ d => uptoBulk d + 1
  | .map entries => uptoBulkEntries entries + 1
  | .held _ => 1
def uptoBulkAll {H : Type} : List (DataW H) → Nat
  | [] => 0
  | d :: r => uptoBulk d + uptoBulkAll r
def uptoBulkEntries {H : Type} : List (Lit × DataW H) → Nat
  | [] => 0
  | x :: r => uptoBulkEntry x + uptoBulkEntries r
def uptoBulkEntry {H : Type} : Lit × DataW H → Nat
  | (.string bytes, d) => bytes.length + uptoBulk d + 1
  | (_, d) => uptoBulk d + 1
 end
def uptoSmall : (H : Type) → List (DataW H) → Bool := fun _ ds => decide (uptoBulkAll ds ≤ 1048576)
def OpenSpec.upto (s : _root_.Go.ChangeSpec) : _root_.Go.OpenSpec := { _root_.Go.OpenSpec.ofChange s with cond := some uptoSmall }

/-- 'tabellionlaw07.VersionChecks', WHERE WHAT IT READS IS OF BULK AT MOST 1048576: true; the input reads as it did. -/
def versionChecksUptoRow : OpenClaim := { program := "ythafhiemecfjiaa", sum := "6c5ed8cf2412f9ea0811e95c886cf62e07ac462bd48264ce50dea797cbf55552", func := "tabellion/tabellionlaw07.VersionChecks", spec := "versionChecks", apart := false, narrowed := true }
def VersionChecksUptoSaid : Prop := versionChecksUptoRow.holds Try.pinned (OpenSpec.upto versionChecksSpec)

/-- 'tabellionlaw07.VersionNext', WHERE WHAT IT READS IS OF BULK AT MOST 1048576: true; the input reads as it did. -/
def versionNextUptoRow : OpenClaim := { program := "ythafhiemecfjiaa", sum := "6c5ed8cf2412f9ea0811e95c886cf62e07ac462bd48264ce50dea797cbf55552", func := "tabellion/tabellionlaw07.VersionNext", spec := "versionNext", apart := false, narrowed := true }
def VersionNextUptoSaid : Prop := versionNextUptoRow.holds Try.pinned (OpenSpec.upto versionNextSpec)

/-- 'tabellionlaw07.VersionKeys', WHERE WHAT IT READS IS OF BULK AT MOST 1048576: true; the input reads as it did. -/
def versionKeysUptoRow : OpenClaim := { program := "ythafhiemecfjiaa", sum := "6c5ed8cf2412f9ea0811e95c886cf62e07ac462bd48264ce50dea797cbf55552", func := "tabellion/tabellionlaw07.VersionKeys", spec := "versionKeys", apart := false, narrowed := true }
def VersionKeysUptoSaid : Prop := versionKeysUptoRow.holds Try.pinned (OpenSpec.upto versionKeysSpec)

/-- 'tabellionlaw07.VersionAt', WHERE WHAT IT READS IS OF BULK AT MOST 1048576: true; the input reads as it did. -/
def versionAtUptoRow : OpenClaim := { program := "ythafhiemecfjiaa", sum := "6c5ed8cf2412f9ea0811e95c886cf62e07ac462bd48264ce50dea797cbf55552", func := "tabellion/tabellionlaw07.VersionAt", spec := "versionAt", unfollowed := true, recurses := true, apart := false, narrowed := true }
def VersionAtUptoSaid : Prop := versionAtUptoRow.holds Try.pinned (OpenSpec.upto versionAtSpec)

/-- 'tabellionlaw07.VersionGrows', WHERE WHAT IT READS IS OF BULK AT MOST 1048576: true; the input reads as it did. -/
def versionGrowsUptoRow : OpenClaim := { program := "ythafhiemecfjiaa", sum := "6c5ed8cf2412f9ea0811e95c886cf62e07ac462bd48264ce50dea797cbf55552", func := "tabellion/tabellionlaw07.VersionGrows", spec := "versionGrows", unfollowed := true, recurses := true, apart := false, narrowed := true }
def VersionGrowsUptoSaid : Prop := versionGrowsUptoRow.holds Try.pinned (OpenSpec.upto versionGrowsSpec)

/-- 'tabellionlaw07.VersionGets', WHERE WHAT IT READS IS OF BULK AT MOST 1048576: true; the input reads as it did. -/
def versionGetsUptoRow : OpenClaim := { program := "ythafhiemecfjiaa", sum := "6c5ed8cf2412f9ea0811e95c886cf62e07ac462bd48264ce50dea797cbf55552", func := "tabellion/tabellionlaw07.VersionGets", spec := "versionGets", unfollowed := true, recurses := true, apart := false, narrowed := true }
def VersionGetsUptoSaid : Prop := versionGetsUptoRow.holds Try.pinned (OpenSpec.upto versionGetsSpec)

end Rows
end Go.Proofs.Ythafhiemecfjiaa
