/-
  No cell of these rows narrows 'for every input' (looked for: loops, veiled, ifaces, maps, wideKeys, modest, calm, conditions, laid).
  DERIVED. THE GIVEN ROWS OF THIS SEAT. 6 by the template 'for every input the law returns true; each argument reads behind the call as it read before'; 0 by the template 'total and deterministic' (their statements: YtfgcfjojpakpjaaTotals.lean).
  GIVEN WITH THE SEED: the statements are not yours to turn. If you find one false, say at which input.
  Laid BY PROGRAM, IN A SANDBOX (cutbox-rows.mjs): the forced cells as the released guide's own fill.sh prints them over the translation 32c33fb422308d0d… (all of the seat's roots in one cut). By AI agents, Wed Nov 11 2026. No macro, syntax, notation, axiom, sorry.
-/
import Derived.Test.YtfgcfjojpakpjaaChecked
import GoSem.Claim
import GoSem.ClaimJoined
import GoSem.ClaimMapViews
import Derived.JoinedTies
import Derived.KernelRfl
namespace Go.Proofs.Ytfgcfjojpakpjaa
/- THE CELL 'sum', in the pinned program and in every row, IS THE sha256 OF THE DUMP (.gsa) THAT YtfgcfjojpakpjaaProg.lean LOADS. Nothing in Lean hashes anything: it is a label: what it is worth is what the hold of that sum in a sandbox is worth. -/
noncomputable def Try.pinned : Pinned := { name := "ytfgcfjojpakpjaa", sum := "32c33fb422308d0de9b074fbb3c40ac3e2e6deceae4f7f003f8561fdbde04b30", checked := Try.checked }
namespace Rows
def none {H : Type} : Left H := { results := [], args := [] }

/-- 'tabellionlaw08.WireSigned': WHATEVER THE INPUT: true; the input reads as it did. -/
def wireSignedSpec : ChangeSpec := { name := "wireSigned", fn := fun _ => fun
  | [d] => { results := [.lit (.bool true)], args := [d] }
  | _ => none }
def wireSignedRow : OpenClaim := { program := "ytfgcfjojpakpjaa", sum := "32c33fb422308d0de9b074fbb3c40ac3e2e6deceae4f7f003f8561fdbde04b30", func := "tabellion/tabellionlaw08.WireSigned", spec := "wireSigned", unfollowed := true, recurses := true, apart := false }
def WireSignedSaid : Prop := wireSignedRow.holds Try.pinned (OpenSpec.ofChange wireSignedSpec)

/-- ITS FALSE NEIGHBOUR: 'it returns false'. Refute it at one input. -/
def wireSignedWrong : ChangeSpec := { name := "wireSigned", fn := fun _ => fun
  | [d] => { results := [.lit (.bool false)], args := [d] }
  | _ => none }
def WireSignedWrongFalsely : Prop := wireSignedRow.holds Try.pinned (OpenSpec.ofChange wireSignedWrong)

/-- 'tabellionlaw08.WireCommands': WHATEVER THE INPUT: true; the input reads as it did. -/
def wireCommandsSpec : ChangeSpec := { name := "wireCommands", fn := fun _ => fun
  | [d] => { results := [.lit (.bool true)], args := [d] }
  | _ => none }
def wireCommandsRow : OpenClaim := { program := "ytfgcfjojpakpjaa", sum := "32c33fb422308d0de9b074fbb3c40ac3e2e6deceae4f7f003f8561fdbde04b30", func := "tabellion/tabellionlaw08.WireCommands", spec := "wireCommands", unfollowed := true, recurses := true, apart := false }
def WireCommandsSaid : Prop := wireCommandsRow.holds Try.pinned (OpenSpec.ofChange wireCommandsSpec)

/-- ITS FALSE NEIGHBOUR: 'it returns false'. Refute it at one input. -/
def wireCommandsWrong : ChangeSpec := { name := "wireCommands", fn := fun _ => fun
  | [d] => { results := [.lit (.bool false)], args := [d] }
  | _ => none }
def WireCommandsWrongFalsely : Prop := wireCommandsRow.holds Try.pinned (OpenSpec.ofChange wireCommandsWrong)

/-- 'tabellionlaw08.WireEntries': WHATEVER THE INPUT: true; the input reads as it did. -/
def wireEntriesSpec : ChangeSpec := { name := "wireEntries", fn := fun _ => fun
  | [d] => { results := [.lit (.bool true)], args := [d] }
  | _ => none }
def wireEntriesRow : OpenClaim := { program := "ytfgcfjojpakpjaa", sum := "32c33fb422308d0de9b074fbb3c40ac3e2e6deceae4f7f003f8561fdbde04b30", func := "tabellion/tabellionlaw08.WireEntries", spec := "wireEntries", unfollowed := true, recurses := true, apart := false }
def WireEntriesSaid : Prop := wireEntriesRow.holds Try.pinned (OpenSpec.ofChange wireEntriesSpec)

/-- ITS FALSE NEIGHBOUR: 'it returns false'. Refute it at one input. -/
def wireEntriesWrong : ChangeSpec := { name := "wireEntries", fn := fun _ => fun
  | [d] => { results := [.lit (.bool false)], args := [d] }
  | _ => none }
def WireEntriesWrongFalsely : Prop := wireEntriesRow.holds Try.pinned (OpenSpec.ofChange wireEntriesWrong)

/-- 'tabellionlaw08.WireDirectories': WHATEVER THE INPUT: true; the input reads as it did. -/
def wireDirectoriesSpec : ChangeSpec := { name := "wireDirectories", fn := fun _ => fun
  | [d] => { results := [.lit (.bool true)], args := [d] }
  | _ => none }
def wireDirectoriesRow : OpenClaim := { program := "ytfgcfjojpakpjaa", sum := "32c33fb422308d0de9b074fbb3c40ac3e2e6deceae4f7f003f8561fdbde04b30", func := "tabellion/tabellionlaw08.WireDirectories", spec := "wireDirectories", unfollowed := true, recurses := true, apart := false }
def WireDirectoriesSaid : Prop := wireDirectoriesRow.holds Try.pinned (OpenSpec.ofChange wireDirectoriesSpec)

/-- ITS FALSE NEIGHBOUR: 'it returns false'. Refute it at one input. -/
def wireDirectoriesWrong : ChangeSpec := { name := "wireDirectories", fn := fun _ => fun
  | [d] => { results := [.lit (.bool false)], args := [d] }
  | _ => none }
def WireDirectoriesWrongFalsely : Prop := wireDirectoriesRow.holds Try.pinned (OpenSpec.ofChange wireDirectoriesWrong)

/-- 'tabellionlaw08.WireRecords': WHATEVER THE INPUT: true; the input reads as it did. -/
def wireRecordsSpec : ChangeSpec := { name := "wireRecords", fn := fun _ => fun
  | [d] => { results := [.lit (.bool true)], args := [d] }
  | _ => none }
def wireRecordsRow : OpenClaim := { program := "ytfgcfjojpakpjaa", sum := "32c33fb422308d0de9b074fbb3c40ac3e2e6deceae4f7f003f8561fdbde04b30", func := "tabellion/tabellionlaw08.WireRecords", spec := "wireRecords", unfollowed := true, recurses := true, apart := false }
def WireRecordsSaid : Prop := wireRecordsRow.holds Try.pinned (OpenSpec.ofChange wireRecordsSpec)

/-- ITS FALSE NEIGHBOUR: 'it returns false'. Refute it at one input. -/
def wireRecordsWrong : ChangeSpec := { name := "wireRecords", fn := fun _ => fun
  | [d] => { results := [.lit (.bool false)], args := [d] }
  | _ => none }
def WireRecordsWrongFalsely : Prop := wireRecordsRow.holds Try.pinned (OpenSpec.ofChange wireRecordsWrong)

/-- 'tabellionlaw08.WireMore': WHATEVER THE INPUT: true; the input reads as it did. -/
def wireMoreSpec : ChangeSpec := { name := "wireMore", fn := fun _ => fun
  | [d1, d2, d3] => { results := [.lit (.bool true)], args := [d1, d2, d3] }
  | _ => none }
def wireMoreRow : OpenClaim := { program := "ytfgcfjojpakpjaa", sum := "32c33fb422308d0de9b074fbb3c40ac3e2e6deceae4f7f003f8561fdbde04b30", func := "tabellion/tabellionlaw08.WireMore", spec := "wireMore", unfollowed := true, recurses := true, apart := false }
def WireMoreSaid : Prop := wireMoreRow.holds Try.pinned (OpenSpec.ofChange wireMoreSpec)

/-- ITS FALSE NEIGHBOUR: 'it returns false'. Refute it at one input. -/
def wireMoreWrong : ChangeSpec := { name := "wireMore", fn := fun _ => fun
  | [d1, d2, d3] => { results := [.lit (.bool false)], args := [d1, d2, d3] }
  | _ => none }
def WireMoreWrongFalsely : Prop := wireMoreRow.holds Try.pinned (OpenSpec.ofChange wireMoreWrong)

/- THE SECOND FORM. 'bulk': how many values and letters a reading holds, each counted each time it is reached (what is shared counts as often as it is met; a slice's spare places count too). A statement '..UptoSaid' is the law's where the arguments, and the package variables that the reading takes, are together of bulk at most 1048576: NARROWER than '..Said'. Prove '..Said' where nothing that the law and all that it calls make is longer than what came in: it says more and counts as full. Else prove '..UptoSaid'. A law counts once. -/
mutual
def uptoBulk {H : Type} : DataW H → Nat
  | .lit (.string bytes) => bytes.length + 1
  | .lit _ => 1
  | .nil => 1
  | .ptr d => uptoBulk d + 1
  | .slice elems spare => uptoBulkAll elems + uptoBulkAll spare + 1
  | .agg parts => uptoBulkAll parts + 1
  | .iface _ d => uptoBulk d + 1
  | .map entries => uptoBulkEntries entries + 1
  | .held _ => 1
def uptoBulkAll {H : Type} : List (DataW H) → Nat
  | [] => 0
  | d :: r => uptoBulk d + uptoBulkAll r
def uptoBulkEntries {H : Type} : List (Lit × DataW H) → Nat
  | [] => 0
  | x :: r => uptoBulkEntry x + uptoBulkEntries r
def uptoBulkEntry {H : Type} : Lit × DataW H → Nat
  | (.string bytes, d) => bytes.length + uptoBulk d + 1
  | (_, d) => uptoBulk d + 1
 end
def uptoSmall : (H : Type) → List (DataW H) → Bool := fun _ ds => decide (uptoBulkAll ds ≤ 1048576)
def OpenSpec.upto (s : _root_.Go.ChangeSpec) : _root_.Go.OpenSpec := { _root_.Go.OpenSpec.ofChange s with cond := some uptoSmall }

/-- 'tabellionlaw08.WireSigned', WHERE WHAT IT READS IS OF BULK AT MOST 1048576: true; the input reads as it did. -/
def wireSignedUptoRow : OpenClaim := { program := "ytfgcfjojpakpjaa", sum := "32c33fb422308d0de9b074fbb3c40ac3e2e6deceae4f7f003f8561fdbde04b30", func := "tabellion/tabellionlaw08.WireSigned", spec := "wireSigned", unfollowed := true, recurses := true, apart := false, narrowed := true }
def WireSignedUptoSaid : Prop := wireSignedUptoRow.holds Try.pinned (OpenSpec.upto wireSignedSpec)

/-- 'tabellionlaw08.WireCommands', WHERE WHAT IT READS IS OF BULK AT MOST 1048576: true; the input reads as it did. -/
def wireCommandsUptoRow : OpenClaim := { program := "ytfgcfjojpakpjaa", sum := "32c33fb422308d0de9b074fbb3c40ac3e2e6deceae4f7f003f8561fdbde04b30", func := "tabellion/tabellionlaw08.WireCommands", spec := "wireCommands", unfollowed := true, recurses := true, apart := false, narrowed := true }
def WireCommandsUptoSaid : Prop := wireCommandsUptoRow.holds Try.pinned (OpenSpec.upto wireCommandsSpec)

/-- 'tabellionlaw08.WireEntries', WHERE WHAT IT READS IS OF BULK AT MOST 1048576: true; the input reads as it did. -/
def wireEntriesUptoRow : OpenClaim := { program := "ytfgcfjojpakpjaa", sum := "32c33fb422308d0de9b074fbb3c40ac3e2e6deceae4f7f003f8561fdbde04b30", func := "tabellion/tabellionlaw08.WireEntries", spec := "wireEntries", unfollowed := true, recurses := true, apart := false, narrowed := true }
def WireEntriesUptoSaid : Prop := wireEntriesUptoRow.holds Try.pinned (OpenSpec.upto wireEntriesSpec)

/-- 'tabellionlaw08.WireDirectories', WHERE WHAT IT READS IS OF BULK AT MOST 1048576: true; the input reads as it did. -/
def wireDirectoriesUptoRow : OpenClaim := { program := "ytfgcfjojpakpjaa", sum := "32c33fb422308d0de9b074fbb3c40ac3e2e6deceae4f7f003f8561fdbde04b30", func := "tabellion/tabellionlaw08.WireDirectories", spec := "wireDirectories", unfollowed := true, recurses := true, apart := false, narrowed := true }
def WireDirectoriesUptoSaid : Prop := wireDirectoriesUptoRow.holds Try.pinned (OpenSpec.upto wireDirectoriesSpec)

/-- 'tabellionlaw08.WireRecords', WHERE WHAT IT READS IS OF BULK AT MOST 1048576: true; the input reads as it did. -/
def wireRecordsUptoRow : OpenClaim := { program := "ytfgcfjojpakpjaa", sum := "32c33fb422308d0de9b074fbb3c40ac3e2e6deceae4f7f003f8561fdbde04b30", func := "tabellion/tabellionlaw08.WireRecords", spec := "wireRecords", unfollowed := true, recurses := true, apart := false, narrowed := true }
def WireRecordsUptoSaid : Prop := wireRecordsUptoRow.holds Try.pinned (OpenSpec.upto wireRecordsSpec)

/-- 'tabellionlaw08.WireMore', WHERE WHAT IT READS IS OF BULK AT MOST 1048576: true; the input reads as it did. -/
def wireMoreUptoRow : OpenClaim := { program := "ytfgcfjojpakpjaa", sum := "32c33fb422308d0de9b074fbb3c40ac3e2e6deceae4f7f003f8561fdbde04b30", func := "tabellion/tabellionlaw08.WireMore", spec := "wireMore", unfollowed := true, recurses := true, apart := false, narrowed := true }
def WireMoreUptoSaid : Prop := wireMoreUptoRow.holds Try.pinned (OpenSpec.upto wireMoreSpec)

end Rows
end Go.Proofs.Ytfgcfjojpakpjaa
