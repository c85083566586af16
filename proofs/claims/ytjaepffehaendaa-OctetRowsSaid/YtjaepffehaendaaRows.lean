/-
  No cell of these rows narrows 'for every input' (looked for: loops, veiled, ifaces, maps, wideKeys, modest, calm, conditions, laid).
  DERIVED. THE GIVEN ROWS OF THIS SEAT. 7 by the template 'for every input the law returns true; each argument reads behind the call as it read before'; 0 by the template 'total and deterministic' (their statements: YtjaepffehaendaaTotals.lean).
  GIVEN WITH THE SEED: the statements are not yours to turn. If you find one false, say at which input.
  Laid BY PROGRAM, IN A SANDBOX (cutbox-rows.mjs): the forced cells as the released guide's own fill.sh prints them over the translation 554b8ce97e78e51e… (all of the seat's roots in one cut). By AI agents, Wed Nov 11 2026. No macro, syntax, notation, axiom, sorry.
-/
import Derived.Test.YtjaepffehaendaaChecked
import GoSem.Claim
import GoSem.ClaimJoined
import GoSem.ClaimMapViews
import Derived.JoinedTies
import Derived.KernelRfl
namespace Go.Proofs.Ytjaepffehaendaa
/- THE CELL 'sum', in the pinned program and in every row, IS THE sha256 OF THE DUMP (.gsa) THAT YtjaepffehaendaaProg.lean LOADS. Nothing in Lean hashes anything: it is a label: what it is worth is what the hold of that sum in a sandbox is worth. -/
noncomputable def Try.pinned : Pinned := { name := "ytjaepffehaendaa", sum := "554b8ce97e78e51e22127bb905215e739f58ddff3f5d5fc3a58f6839a5c4f579", checked := Try.checked }
namespace Rows
def none {H : Type} : Left H := { results := [], args := [] }

/-- 'tabellionlaw01.OctetCounts': WHATEVER THE INPUT: true; the input reads as it did. -/
def octetCountsSpec : ChangeSpec := { name := "octetCounts", fn := fun _ => fun
  | [d1, d2] => { results := [.lit (.bool true)], args := [d1, d2] }
  | _ => none }
def octetCountsRow : OpenClaim := { program := "ytjaepffehaendaa", sum := "554b8ce97e78e51e22127bb905215e739f58ddff3f5d5fc3a58f6839a5c4f579", func := "tabellion/tabellionlaw01.OctetCounts", spec := "octetCounts", unfollowed := true, recurses := true, apart := false }
def OctetCountsSaid : Prop := octetCountsRow.holds Try.pinned (OpenSpec.ofChange octetCountsSpec)

/-- ITS FALSE NEIGHBOUR: 'it returns false'. Refute it at one input. -/
def octetCountsWrong : ChangeSpec := { name := "octetCounts", fn := fun _ => fun
  | [d1, d2] => { results := [.lit (.bool false)], args := [d1, d2] }
  | _ => none }
def OctetCountsWrongFalsely : Prop := octetCountsRow.holds Try.pinned (OpenSpec.ofChange octetCountsWrong)

/-- 'tabellionlaw01.OctetBytes': WHATEVER THE INPUT: true; the input reads as it did. -/
def octetBytesSpec : ChangeSpec := { name := "octetBytes", fn := fun _ => fun
  | [d1, d2, d3] => { results := [.lit (.bool true)], args := [d1, d2, d3] }
  | _ => none }
def octetBytesRow : OpenClaim := { program := "ytjaepffehaendaa", sum := "554b8ce97e78e51e22127bb905215e739f58ddff3f5d5fc3a58f6839a5c4f579", func := "tabellion/tabellionlaw01.OctetBytes", spec := "octetBytes", unfollowed := true, recurses := true, apart := false }
def OctetBytesSaid : Prop := octetBytesRow.holds Try.pinned (OpenSpec.ofChange octetBytesSpec)

/-- ITS FALSE NEIGHBOUR: 'it returns false'. Refute it at one input. -/
def octetBytesWrong : ChangeSpec := { name := "octetBytes", fn := fun _ => fun
  | [d1, d2, d3] => { results := [.lit (.bool false)], args := [d1, d2, d3] }
  | _ => none }
def OctetBytesWrongFalsely : Prop := octetBytesRow.holds Try.pinned (OpenSpec.ofChange octetBytesWrong)

/-- 'tabellionlaw01.OctetReads': WHATEVER THE INPUT: true; the input reads as it did. -/
def octetReadsSpec : ChangeSpec := { name := "octetReads", fn := fun _ => fun
  | [d1, d2] => { results := [.lit (.bool true)], args := [d1, d2] }
  | _ => none }
def octetReadsRow : OpenClaim := { program := "ytjaepffehaendaa", sum := "554b8ce97e78e51e22127bb905215e739f58ddff3f5d5fc3a58f6839a5c4f579", func := "tabellion/tabellionlaw01.OctetReads", spec := "octetReads", apart := false }
def OctetReadsSaid : Prop := octetReadsRow.holds Try.pinned (OpenSpec.ofChange octetReadsSpec)

/-- ITS FALSE NEIGHBOUR: 'it returns false'. Refute it at one input. -/
def octetReadsWrong : ChangeSpec := { name := "octetReads", fn := fun _ => fun
  | [d1, d2] => { results := [.lit (.bool false)], args := [d1, d2] }
  | _ => none }
def OctetReadsWrongFalsely : Prop := octetReadsRow.holds Try.pinned (OpenSpec.ofChange octetReadsWrong)

/-- 'tabellionlaw01.OctetNil': WHATEVER THE INPUT: true; the input reads as it did. -/
def octetNilSpec : ChangeSpec := { name := "octetNil", fn := fun _ => fun
  | [d] => { results := [.lit (.bool true)], args := [d] }
  | _ => none }
def octetNilRow : OpenClaim := { program := "ytjaepffehaendaa", sum := "554b8ce97e78e51e22127bb905215e739f58ddff3f5d5fc3a58f6839a5c4f579", func := "tabellion/tabellionlaw01.OctetNil", spec := "octetNil", apart := false }
def OctetNilSaid : Prop := octetNilRow.holds Try.pinned (OpenSpec.ofChange octetNilSpec)

/-- ITS FALSE NEIGHBOUR: 'it returns false'. Refute it at one input. -/
def octetNilWrong : ChangeSpec := { name := "octetNil", fn := fun _ => fun
  | [d] => { results := [.lit (.bool false)], args := [d] }
  | _ => none }
def OctetNilWrongFalsely : Prop := octetNilRow.holds Try.pinned (OpenSpec.ofChange octetNilWrong)

/-- 'tabellionlaw01.OctetOne': WHATEVER THE INPUT: true; the input reads as it did. -/
def octetOneSpec : ChangeSpec := { name := "octetOne", fn := fun _ => fun
  | [d] => { results := [.lit (.bool true)], args := [d] }
  | _ => none }
def octetOneRow : OpenClaim := { program := "ytjaepffehaendaa", sum := "554b8ce97e78e51e22127bb905215e739f58ddff3f5d5fc3a58f6839a5c4f579", func := "tabellion/tabellionlaw01.OctetOne", spec := "octetOne", unfollowed := true, recurses := true, apart := false }
def OctetOneSaid : Prop := octetOneRow.holds Try.pinned (OpenSpec.ofChange octetOneSpec)

/-- ITS FALSE NEIGHBOUR: 'it returns false'. Refute it at one input. -/
def octetOneWrong : ChangeSpec := { name := "octetOne", fn := fun _ => fun
  | [d] => { results := [.lit (.bool false)], args := [d] }
  | _ => none }
def OctetOneWrongFalsely : Prop := octetOneRow.holds Try.pinned (OpenSpec.ofChange octetOneWrong)

/-- 'tabellionlaw01.OctetRows': WHATEVER THE INPUT: true; the input reads as it did. -/
def octetRowsSpec : ChangeSpec := { name := "octetRows", fn := fun _ => fun
  | [d] => { results := [.lit (.bool true)], args := [d] }
  | _ => none }
def octetRowsRow : OpenClaim := { program := "ytjaepffehaendaa", sum := "554b8ce97e78e51e22127bb905215e739f58ddff3f5d5fc3a58f6839a5c4f579", func := "tabellion/tabellionlaw01.OctetRows", spec := "octetRows", unfollowed := true, recurses := true, apart := false }
def OctetRowsSaid : Prop := octetRowsRow.holds Try.pinned (OpenSpec.ofChange octetRowsSpec)

/-- ITS FALSE NEIGHBOUR: 'it returns false'. Refute it at one input. -/
def octetRowsWrong : ChangeSpec := { name := "octetRows", fn := fun _ => fun
  | [d] => { results := [.lit (.bool false)], args := [d] }
  | _ => none }
def OctetRowsWrongFalsely : Prop := octetRowsRow.holds Try.pinned (OpenSpec.ofChange octetRowsWrong)

/-- 'tabellionlaw01.OctetBack': WHATEVER THE INPUT: true; the input reads as it did. -/
def octetBackSpec : ChangeSpec := { name := "octetBack", fn := fun _ => fun
  | [d1, d2, d3, d4] => { results := [.lit (.bool true)], args := [d1, d2, d3, d4] }
  | _ => none }
def octetBackRow : OpenClaim := { program := "ytjaepffehaendaa", sum := "554b8ce97e78e51e22127bb905215e739f58ddff3f5d5fc3a58f6839a5c4f579", func := "tabellion/tabellionlaw01.OctetBack", spec := "octetBack", unfollowed := true, recurses := true, apart := false }
def OctetBackSaid : Prop := octetBackRow.holds Try.pinned (OpenSpec.ofChange octetBackSpec)

/-- ITS FALSE NEIGHBOUR: 'it returns false'. Refute it at one input. -/
def octetBackWrong : ChangeSpec := { name := "octetBack", fn := fun _ => fun
  | [d1, d2, d3, d4] => { results := [.lit (.bool false)], args := [d1, d2, d3, d4] }
  | _ => none }
def OctetBackWrongFalsely : Prop := octetBackRow.holds Try.pinned (OpenSpec.ofChange octetBackWrong)

/- THE SECOND FORM. 'bulk': how many values and letters a reading holds, each counted each time it is reached (what is shared counts as often as it is met; a slice's spare places count too). A statement '..UptoSaid' is the law's where the arguments, and the package variables that the reading takes, are together of bulk at most 1048576: NARROWER than '..Said'. Prove '..Said' where nothing that the law and all that it calls make is longer than what came in: it says more and counts as full. Else prove '..UptoSaid'. A law counts once. -/
mutual
def uptoBulk {H : Type} : DataW H → Nat
  | .lit (.string bytes) => bytes.length + 1
  | .lit _ => 1
  | .nil => 1
  | .ptr d => uptoBulk d + 1
  | .slice elems spare => uptoBulkAll elems + uptoBulkAll spare + 1
  | .agg parts => uptoBulkAll parts + 1
  | .iface _ d => uptoBulk d + 1
  | .map entries => uptoBulkEntries entries + 1
  | .held _ => 1
def uptoBulkAll {H : Type} : List (DataW H) → Nat
  | [] => 0
  | d :: r => uptoBulk d + uptoBulkAll r
def uptoBulkEntries {H : Type} : List (Lit × DataW H) → Nat
  | [] => 0
  | x :: r => uptoBulkEntry x + uptoBulkEntries r
def uptoBulkEntry {H : Type} : Lit × DataW H → Nat
  | (.string bytes, d) => bytes.length + uptoBulk d + 1
  | (_, d) => uptoBulk d + 1
 end
def uptoSmall : (H : Type) → List (DataW H) → Bool := fun _ ds => decide (uptoBulkAll ds ≤ 1048576)
def OpenSpec.upto (s : _root_.Go.ChangeSpec) : _root_.Go.OpenSpec := { _root_.Go.OpenSpec.ofChange s with cond := some uptoSmall }

/-- 'tabellionlaw01.OctetCounts', WHERE WHAT IT READS IS OF BULK AT MOST 1048576: true; the input reads as it did. -/
def octetCountsUptoRow : OpenClaim := { program := "ytjaepffehaendaa", sum := "554b8ce97e78e51e22127bb905215e739f58ddff3f5d5fc3a58f6839a5c4f579", func := "tabellion/tabellionlaw01.OctetCounts", spec := "octetCounts", unfollowed := true, recurses := true, apart := false, narrowed := true }
def OctetCountsUptoSaid : Prop := octetCountsUptoRow.holds Try.pinned (OpenSpec.upto octetCountsSpec)

/-- 'tabellionlaw01.OctetBytes', WHERE WHAT IT READS IS OF BULK AT MOST 1048576: true; the input reads as it did. -/
def octetBytesUptoRow : OpenClaim := { program := "ytjaepffehaendaa", sum := "554b8ce97e78e51e22127bb905215e739f58ddff3f5d5fc3a58f6839a5c4f579", func := "tabellion/tabellionlaw01.OctetBytes", spec := "octetBytes", unfollowed := true, recurses := true, apart := false, narrowed := true }
def OctetBytesUptoSaid : Prop := octetBytesUptoRow.holds Try.pinned (OpenSpec.upto octetBytesSpec)

/-- 'tabellionlaw01.OctetReads', WHERE WHAT IT READS IS OF BULK AT MOST 1048576: true; the input reads as it did. -/
def octetReadsUptoRow : OpenClaim := { program := "ytjaepffehaendaa", sum := "554b8ce97e78e51e22127bb905215e739f58ddff3f5d5fc3a58f6839a5c4f579", func := "tabellion/tabellionlaw01.OctetReads", spec := "octetReads", apart := false, narrowed := true }
def OctetReadsUptoSaid : Prop := octetReadsUptoRow.holds Try.pinned (OpenSpec.upto octetReadsSpec)

/-- 'tabellionlaw01.OctetNil', WHERE WHAT IT READS IS OF BULK AT MOST 1048576: true; the input reads as it did. -/
def octetNilUptoRow : OpenClaim := { program := "ytjaepffehaendaa", sum := "554b8ce97e78e51e22127bb905215e739f58ddff3f5d5fc3a58f6839a5c4f579", func := "tabellion/tabellionlaw01.OctetNil", spec := "octetNil", apart := false, narrowed := true }
def OctetNilUptoSaid : Prop := octetNilUptoRow.holds Try.pinned (OpenSpec.upto octetNilSpec)

/-- 'tabellionlaw01.OctetOne', WHERE WHAT IT READS IS OF BULK AT MOST 1048576: true; the input reads as it did. -/
def octetOneUptoRow : OpenClaim := { program := "ytjaepffehaendaa", sum := "554b8ce97e78e51e22127bb905215e739f58ddff3f5d5fc3a58f6839a5c4f579", func := "tabellion/tabellionlaw01.OctetOne", spec := "octetOne", unfollowed := true, recurses := true, apart := false, narrowed := true }
def OctetOneUptoSaid : Prop := octetOneUptoRow.holds Try.pinned (OpenSpec.upto octetOneSpec)

/-- 'tabellionlaw01.OctetRows', WHERE WHAT IT READS IS OF BULK AT MOST 1048576: true; the input reads as it did. -/
def octetRowsUptoRow : OpenClaim := { program := "ytjaepffehaendaa", sum := "554b8ce97e78e51e22127bb905215e739f58ddff3f5d5fc3a58f6839a5c4f579", func := "tabellion/tabellionlaw01.OctetRows", spec := "octetRows", unfollowed := true, recurses := true, apart := false, narrowed := true }
def OctetRowsUptoSaid : Prop := octetRowsUptoRow.holds Try.pinned (OpenSpec.upto octetRowsSpec)

/-- 'tabellionlaw01.OctetBack', WHERE WHAT IT READS IS OF BULK AT MOST 1048576: true; the input reads as it did. -/
def octetBackUptoRow : OpenClaim := { program := "ytjaepffehaendaa", sum := "554b8ce97e78e51e22127bb905215e739f58ddff3f5d5fc3a58f6839a5c4f579", func := "tabellion/tabellionlaw01.OctetBack", spec := "octetBack", unfollowed := true, recurses := true, apart := false, narrowed := true }
def OctetBackUptoSaid : Prop := octetBackUptoRow.holds Try.pinned (OpenSpec.upto octetBackSpec)

end Rows
end Go.Proofs.Ytjaepffehaendaa
