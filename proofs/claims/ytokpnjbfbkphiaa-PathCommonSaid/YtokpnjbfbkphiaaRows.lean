/-
  No cell of these rows narrows 'for every input' (looked for: loops, veiled, ifaces, maps, wideKeys, modest, calm, conditions, laid).
  DERIVED. THE GIVEN ROWS OF THIS SEAT. 6 by the template 'for every input the law returns true; each argument reads behind the call as it read before'; 0 by the template 'total and deterministic' (their statements: YtokpnjbfbkphiaaTotals.lean).
  GIVEN WITH THE SEED: the statements are not yours to turn. If you find one false, say at which input.
  Laid BY PROGRAM, IN A SANDBOX (cutbox-rows.mjs): the forced cells as the released guide's own fill.sh prints them over the translation 57196a0d48e00885… (all of the seat's roots in one cut). By AI agents, Wed Nov 11 2026. No macro, syntax, notation, axiom, sorry.
-/
import Derived.Test.YtokpnjbfbkphiaaChecked
import GoSem.Claim
import GoSem.ClaimJoined
import GoSem.ClaimMapViews
import Derived.JoinedTies
import Derived.KernelRfl
namespace Go.Proofs.Ytokpnjbfbkphiaa
/- THE CELL 'sum', in the pinned program and in every row, IS THE sha256 OF THE DUMP (.gsa) THAT YtokpnjbfbkphiaaProg.lean LOADS. Nothing in Lean hashes anything: it is a label: what it is worth is what the hold of that sum in a sandbox is worth. -/
noncomputable def Try.pinned : Pinned := { name := "ytokpnjbfbkphiaa", sum := "57196a0d48e00885013e6f5b9bb1fbe17e0cbb952568187a45b167759729bec6", checked := Try.checked }
namespace Rows
def none {H : Type} : Left H := { results := [], args := [] }

/-- 'tabellionlaw04.PathBits': WHATEVER THE INPUT: true; the input reads as it did. -/
def pathBitsSpec : ChangeSpec := { name := "pathBits", fn := fun _ => fun
  | [d1, d2] => { results := [.lit (.bool true)], args := [d1, d2] }
  | _ => none }
def pathBitsRow : OpenClaim := { program := "ytokpnjbfbkphiaa", sum := "57196a0d48e00885013e6f5b9bb1fbe17e0cbb952568187a45b167759729bec6", func := "tabellion/tabellionlaw04.PathBits", spec := "pathBits", apart := false }
def PathBitsSaid : Prop := pathBitsRow.holds Try.pinned (OpenSpec.ofChange pathBitsSpec)

/-- ITS FALSE NEIGHBOUR: 'it returns false'. Refute it at one input. -/
def pathBitsWrong : ChangeSpec := { name := "pathBits", fn := fun _ => fun
  | [d1, d2] => { results := [.lit (.bool false)], args := [d1, d2] }
  | _ => none }
def PathBitsWrongFalsely : Prop := pathBitsRow.holds Try.pinned (OpenSpec.ofChange pathBitsWrong)

/-- 'tabellionlaw04.PathPrefix': WHATEVER THE INPUT: true; the input reads as it did. -/
def pathPrefixSpec : ChangeSpec := { name := "pathPrefix", fn := fun _ => fun
  | [d1, d2] => { results := [.lit (.bool true)], args := [d1, d2] }
  | _ => none }
def pathPrefixRow : OpenClaim := { program := "ytokpnjbfbkphiaa", sum := "57196a0d48e00885013e6f5b9bb1fbe17e0cbb952568187a45b167759729bec6", func := "tabellion/tabellionlaw04.PathPrefix", spec := "pathPrefix", inPlace := ["internal/bytealg.Compare"], apart := false }
def PathPrefixSaid : Prop := pathPrefixRow.holds Try.pinned (OpenSpec.ofChange pathPrefixSpec)

/-- ITS FALSE NEIGHBOUR: 'it returns false'. Refute it at one input. -/
def pathPrefixWrong : ChangeSpec := { name := "pathPrefix", fn := fun _ => fun
  | [d1, d2] => { results := [.lit (.bool false)], args := [d1, d2] }
  | _ => none }
def PathPrefixWrongFalsely : Prop := pathPrefixRow.holds Try.pinned (OpenSpec.ofChange pathPrefixWrong)

/-- 'tabellionlaw04.PathCommon': WHATEVER THE INPUT: true; the input reads as it did. -/
def pathCommonSpec : ChangeSpec := { name := "pathCommon", fn := fun _ => fun
  | [d1, d2, d3] => { results := [.lit (.bool true)], args := [d1, d2, d3] }
  | _ => none }
def pathCommonRow : OpenClaim := { program := "ytokpnjbfbkphiaa", sum := "57196a0d48e00885013e6f5b9bb1fbe17e0cbb952568187a45b167759729bec6", func := "tabellion/tabellionlaw04.PathCommon", spec := "pathCommon", inPlace := ["internal/bytealg.Compare"], apart := false }
def PathCommonSaid : Prop := pathCommonRow.holds Try.pinned (OpenSpec.ofChange pathCommonSpec)

/-- ITS FALSE NEIGHBOUR: 'it returns false'. Refute it at one input. -/
def pathCommonWrong : ChangeSpec := { name := "pathCommon", fn := fun _ => fun
  | [d1, d2, d3] => { results := [.lit (.bool false)], args := [d1, d2, d3] }
  | _ => none }
def PathCommonWrongFalsely : Prop := pathCommonRow.holds Try.pinned (OpenSpec.ofChange pathCommonWrong)

/-- 'tabellionlaw04.PathPrefixes': WHATEVER THE INPUT: true; the input reads as it did. -/
def pathPrefixesSpec : ChangeSpec := { name := "pathPrefixes", fn := fun _ => fun
  | [d1, d2, d3] => { results := [.lit (.bool true)], args := [d1, d2, d3] }
  | _ => none }
def pathPrefixesRow : OpenClaim := { program := "ytokpnjbfbkphiaa", sum := "57196a0d48e00885013e6f5b9bb1fbe17e0cbb952568187a45b167759729bec6", func := "tabellion/tabellionlaw04.PathPrefixes", spec := "pathPrefixes", inPlace := ["internal/bytealg.Compare"], apart := false }
def PathPrefixesSaid : Prop := pathPrefixesRow.holds Try.pinned (OpenSpec.ofChange pathPrefixesSpec)

/-- ITS FALSE NEIGHBOUR: 'it returns false'. Refute it at one input. -/
def pathPrefixesWrong : ChangeSpec := { name := "pathPrefixes", fn := fun _ => fun
  | [d1, d2, d3] => { results := [.lit (.bool false)], args := [d1, d2, d3] }
  | _ => none }
def PathPrefixesWrongFalsely : Prop := pathPrefixesRow.holds Try.pinned (OpenSpec.ofChange pathPrefixesWrong)

/-- 'tabellionlaw04.PathOrder': WHATEVER THE INPUT: true; the input reads as it did. -/
def pathOrderSpec : ChangeSpec := { name := "pathOrder", fn := fun _ => fun
  | [d1, d2, d3] => { results := [.lit (.bool true)], args := [d1, d2, d3] }
  | _ => none }
def pathOrderRow : OpenClaim := { program := "ytokpnjbfbkphiaa", sum := "57196a0d48e00885013e6f5b9bb1fbe17e0cbb952568187a45b167759729bec6", func := "tabellion/tabellionlaw04.PathOrder", spec := "pathOrder", inPlace := ["internal/bytealg.Compare"], apart := false }
def PathOrderSaid : Prop := pathOrderRow.holds Try.pinned (OpenSpec.ofChange pathOrderSpec)

/-- ITS FALSE NEIGHBOUR: 'it returns false'. Refute it at one input. -/
def pathOrderWrong : ChangeSpec := { name := "pathOrder", fn := fun _ => fun
  | [d1, d2, d3] => { results := [.lit (.bool false)], args := [d1, d2, d3] }
  | _ => none }
def PathOrderWrongFalsely : Prop := pathOrderRow.holds Try.pinned (OpenSpec.ofChange pathOrderWrong)

/-- 'tabellionlaw04.PathTurns': WHATEVER THE INPUT: true; the input reads as it did. -/
def pathTurnsSpec : ChangeSpec := { name := "pathTurns", fn := fun _ => fun
  | [d1, d2, d3] => { results := [.lit (.bool true)], args := [d1, d2, d3] }
  | _ => none }
def pathTurnsRow : OpenClaim := { program := "ytokpnjbfbkphiaa", sum := "57196a0d48e00885013e6f5b9bb1fbe17e0cbb952568187a45b167759729bec6", func := "tabellion/tabellionlaw04.PathTurns", spec := "pathTurns", inPlace := ["internal/bytealg.Compare"], apart := false }
def PathTurnsSaid : Prop := pathTurnsRow.holds Try.pinned (OpenSpec.ofChange pathTurnsSpec)

/-- ITS FALSE NEIGHBOUR: 'it returns false'. Refute it at one input. -/
def pathTurnsWrong : ChangeSpec := { name := "pathTurns", fn := fun _ => fun
  | [d1, d2, d3] => { results := [.lit (.bool false)], args := [d1, d2, d3] }
  | _ => none }
def PathTurnsWrongFalsely : Prop := pathTurnsRow.holds Try.pinned (OpenSpec.ofChange pathTurnsWrong)

/- THE SECOND FORM. 'bulk': how many values and letters a reading holds, each counted each time it is reached (what is shared counts as often as it is met; a slice's spare places count too). A statement '..UptoSaid' is the law's where the arguments, and the package variables that the reading takes, are together of bulk at most 1048576: NARROWER than '..Said'. Prove '..Said' where nothing that the law and all that it calls make is longer than what came in: it says more and counts as full. Else prove '..UptoSaid'. A law counts once. -/
mutual
def uptoBulk {H : Type} : DataW H → Nat
  | .lit (.string bytes) => bytes.length + 1
  | .lit _ => 1
  | .nil => 1
  | .ptr d => uptoBulk d + 1
  | .slice elems spare => uptoBulkAll elems + uptoBulkAll spare + 1
  | .agg parts => uptoBulkAll parts + 1
  | .iface _ d => uptoBulk d + 1
  | .map entries => uptoBulkEntries entries + 1
  | .held _ => 1
def uptoBulkAll {H : Type} : List (DataW H) → Nat
  | [] => 0
  | d :: r => uptoBulk d + uptoBulkAll r
def uptoBulkEntries {H : Type} : List (Lit × DataW H) → Nat
  | [] => 0
  | x :: r => uptoBulkEntry x + uptoBulkEntries r
def uptoBulkEntry {H : Type} : Lit × DataW H → Nat
  | (.string bytes, d) => bytes.length + uptoBulk d + 1
  | (_, d) => uptoBulk d + 1
 end
def uptoSmall : (H : Type) → List (DataW H) → Bool := fun _ ds => decide (uptoBulkAll ds ≤ 1048576)
def OpenSpec.upto (s : _root_.Go.ChangeSpec) : _root_.Go.OpenSpec := { _root_.Go.OpenSpec.ofChange s with cond := some uptoSmall }

/-- 'tabellionlaw04.PathBits', WHERE WHAT IT READS IS OF BULK AT MOST 1048576: true; the input reads as it did. -/
def pathBitsUptoRow : OpenClaim := { program := "ytokpnjbfbkphiaa", sum := "57196a0d48e00885013e6f5b9bb1fbe17e0cbb952568187a45b167759729bec6", func := "tabellion/tabellionlaw04.PathBits", spec := "pathBits", apart := false, narrowed := true }
def PathBitsUptoSaid : Prop := pathBitsUptoRow.holds Try.pinned (OpenSpec.upto pathBitsSpec)

/-- 'tabellionlaw04.PathPrefix', WHERE WHAT IT READS IS OF BULK AT MOST 1048576: true; the input reads as it did. -/
def pathPrefixUptoRow : OpenClaim := { program := "ytokpnjbfbkphiaa", sum := "57196a0d48e00885013e6f5b9bb1fbe17e0cbb952568187a45b167759729bec6", func := "tabellion/tabellionlaw04.PathPrefix", spec := "pathPrefix", inPlace := ["internal/bytealg.Compare"], apart := false, narrowed := true }
def PathPrefixUptoSaid : Prop := pathPrefixUptoRow.holds Try.pinned (OpenSpec.upto pathPrefixSpec)

/-- 'tabellionlaw04.PathCommon', WHERE WHAT IT READS IS OF BULK AT MOST 1048576: true; the input reads as it did. -/
def pathCommonUptoRow : OpenClaim := { program := "ytokpnjbfbkphiaa", sum := "57196a0d48e00885013e6f5b9bb1fbe17e0cbb952568187a45b167759729bec6", func := "tabellion/tabellionlaw04.PathCommon", spec := "pathCommon", inPlace := ["internal/bytealg.Compare"], apart := false, narrowed := true }
def PathCommonUptoSaid : Prop := pathCommonUptoRow.holds Try.pinned (OpenSpec.upto pathCommonSpec)

/-- 'tabellionlaw04.PathPrefixes', WHERE WHAT IT READS IS OF BULK AT MOST 1048576: true; the input reads as it did. -/
def pathPrefixesUptoRow : OpenClaim := { program := "ytokpnjbfbkphiaa", sum := "57196a0d48e00885013e6f5b9bb1fbe17e0cbb952568187a45b167759729bec6", func := "tabellion/tabellionlaw04.PathPrefixes", spec := "pathPrefixes", inPlace := ["internal/bytealg.Compare"], apart := false, narrowed := true }
def PathPrefixesUptoSaid : Prop := pathPrefixesUptoRow.holds Try.pinned (OpenSpec.upto pathPrefixesSpec)

/-- 'tabellionlaw04.PathOrder', WHERE WHAT IT READS IS OF BULK AT MOST 1048576: true; the input reads as it did. -/
def pathOrderUptoRow : OpenClaim := { program := "ytokpnjbfbkphiaa", sum := "57196a0d48e00885013e6f5b9bb1fbe17e0cbb952568187a45b167759729bec6", func := "tabellion/tabellionlaw04.PathOrder", spec := "pathOrder", inPlace := ["internal/bytealg.Compare"], apart := false, narrowed := true }
def PathOrderUptoSaid : Prop := pathOrderUptoRow.holds Try.pinned (OpenSpec.upto pathOrderSpec)

/-- 'tabellionlaw04.PathTurns', WHERE WHAT IT READS IS OF BULK AT MOST 1048576: true; the input reads as it did. -/
def pathTurnsUptoRow : OpenClaim := { program := "ytokpnjbfbkphiaa", sum := "57196a0d48e00885013e6f5b9bb1fbe17e0cbb952568187a45b167759729bec6", func := "tabellion/tabellionlaw04.PathTurns", spec := "pathTurns", inPlace := ["internal/bytealg.Compare"], apart := false, narrowed := true }
def PathTurnsUptoSaid : Prop := pathTurnsUptoRow.holds Try.pinned (OpenSpec.upto pathTurnsSpec)

end Rows
end Go.Proofs.Ytokpnjbfbkphiaa
