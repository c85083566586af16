/-
  NARROWER THAN 'FOR EVERY INPUT', by the rows' own cells (each row's printed sentence says how): HeadBytes: laid · HeadSigns: laid · HeadChecks: laid · HeadBack: laid · HeadChains: laid · HeadBegins: laid.
  DERIVED. THE GIVEN ROWS OF THIS SEAT. 6 by the template 'for every input the law returns true; each argument reads behind the call as it read before'; 0 by the template 'total and deterministic' (their statements: YtbckeoidnpfbnaaDoorTotals.lean).
  GIVEN WITH THE SEED: the statements are not yours to turn. If you find one false, say at which input.
  Laid BY PROGRAM, IN A SANDBOX (cutbox-rows.mjs): the forced cells as the released guide's own fill.sh prints them over the translation 6edafe699cba7b3f… (all of the seat's roots in one cut). By AI agents, Wed Nov 11 2026. No macro, syntax, notation, axiom, sorry.
-/
import Derived.Test.YtbckeoidnpfbnaaDoorChecked
import GoSem.Claim
import GoSem.ClaimJoined
import GoSem.ClaimMapViews
import Derived.JoinedTies
import Derived.KernelRfl
namespace Go.Proofs.YtbckeoidnpfbnaaDoor
/- THE CELL 'sum', in the pinned program and in every row, IS THE sha256 OF THE DUMP (.gsa) THAT YtbckeoidnpfbnaaDoorProg.lean LOADS. Nothing in Lean hashes anything: it is a label: what it is worth is what the hold of that sum in a sandbox is worth. -/
noncomputable def Tryd.pinned : Pinned := { name := "ytbckeoidnpfbnaadoor", sum := "6edafe699cba7b3f24ccc23af179640fff6869dae56b6ef33da0a0f1387e9f1d", checked := Tryd.checked }
namespace Rows
def none {H : Type} : Left H := { results := [], args := [] }

/- WHAT THE LISTED PACKAGE-LEVEL VARIABLES READ AS WHEN THE CALL BEGINS. Each datum BY PROGRAM (the guide's laid-datum.mjs) off the statement by which the dump's own 'gosem.cut.vars' lays the variable. In a bare row this is a premise. The card (YtbckeoidnpfbnaaDoorCards.lean) ties it to the program's text. -/
def laid_tabellion_sha_keys {H : Type} : DataW H := .agg [.lit (.int .u32 1116352408), .lit (.int .u32 1899447441), .lit (.int .u32 3049323471), .lit (.int .u32 3921009573), .lit (.int .u32 961987163), .lit (.int .u32 1508970993), .lit (.int .u32 2453635748), .lit (.int .u32 2870763221), .lit (.int .u32 3624381080), .lit (.int .u32 310598401), .lit (.int .u32 607225278), .lit (.int .u32 1426881987), .lit (.int .u32 1925078388), .lit (.int .u32 2162078206), .lit (.int .u32 2614888103), .lit (.int .u32 3248222580), .lit (.int .u32 3835390401), .lit (.int .u32 4022224774), .lit (.int .u32 264347078), .lit (.int .u32 604807628), .lit (.int .u32 770255983), .lit (.int .u32 1249150122), .lit (.int .u32 1555081692), .lit (.int .u32 1996064986), .lit (.int .u32 2554220882), .lit (.int .u32 2821834349), .lit (.int .u32 2952996808), .lit (.int .u32 3210313671), .lit (.int .u32 3336571891), .lit (.int .u32 3584528711), .lit (.int .u32 113926993), .lit (.int .u32 338241895), .lit (.int .u32 666307205), .lit (.int .u32 773529912), .lit (.int .u32 1294757372), .lit (.int .u32 1396182291), .lit (.int .u32 1695183700), .lit (.int .u32 1986661051), .lit (.int .u32 2177026350), .lit (.int .u32 2456956037), .lit (.int .u32 2730485921), .lit (.int .u32 2820302411), .lit (.int .u32 3259730800), .lit (.int .u32 3345764771), .lit (.int .u32 3516065817), .lit (.int .u32 3600352804), .lit (.int .u32 4094571909), .lit (.int .u32 275423344), .lit (.int .u32 430227734), .lit (.int .u32 506948616), .lit (.int .u32 659060556), .lit (.int .u32 883997877), .lit (.int .u32 958139571), .lit (.int .u32 1322822218), .lit (.int .u32 1537002063), .lit (.int .u32 1747873779), .lit (.int .u32 1955562222), .lit (.int .u32 2024104815), .lit (.int .u32 2227730452), .lit (.int .u32 2361852424), .lit (.int .u32 2428436474), .lit (.int .u32 2756734187), .lit (.int .u32 3204031479), .lit (.int .u32 3329325298)]
def laid_tabellion_tabellionref02_key {H : Type} : DataW H := .agg [.lit (.int .u32 1116352408), .lit (.int .u32 1899447441), .lit (.int .u32 3049323471), .lit (.int .u32 3921009573), .lit (.int .u32 961987163), .lit (.int .u32 1508970993), .lit (.int .u32 2453635748), .lit (.int .u32 2870763221), .lit (.int .u32 3624381080), .lit (.int .u32 310598401), .lit (.int .u32 607225278), .lit (.int .u32 1426881987), .lit (.int .u32 1925078388), .lit (.int .u32 2162078206), .lit (.int .u32 2614888103), .lit (.int .u32 3248222580), .lit (.int .u32 3835390401), .lit (.int .u32 4022224774), .lit (.int .u32 264347078), .lit (.int .u32 604807628), .lit (.int .u32 770255983), .lit (.int .u32 1249150122), .lit (.int .u32 1555081692), .lit (.int .u32 1996064986), .lit (.int .u32 2554220882), .lit (.int .u32 2821834349), .lit (.int .u32 2952996808), .lit (.int .u32 3210313671), .lit (.int .u32 3336571891), .lit (.int .u32 3584528711), .lit (.int .u32 113926993), .lit (.int .u32 338241895), .lit (.int .u32 666307205), .lit (.int .u32 773529912), .lit (.int .u32 1294757372), .lit (.int .u32 1396182291), .lit (.int .u32 1695183700), .lit (.int .u32 1986661051), .lit (.int .u32 2177026350), .lit (.int .u32 2456956037), .lit (.int .u32 2730485921), .lit (.int .u32 2820302411), .lit (.int .u32 3259730800), .lit (.int .u32 3345764771), .lit (.int .u32 3516065817), .lit (.int .u32 3600352804), .lit (.int .u32 4094571909), .lit (.int .u32 275423344), .lit (.int .u32 430227734), .lit (.int .u32 506948616), .lit (.int .u32 659060556), .lit (.int .u32 883997877), .lit (.int .u32 958139571), .lit (.int .u32 1322822218), .lit (.int .u32 1537002063), .lit (.int .u32 1747873779), .lit (.int .u32 1955562222), .lit (.int .u32 2024104815), .lit (.int .u32 2227730452), .lit (.int .u32 2361852424), .lit (.int .u32 2428436474), .lit (.int .u32 2756734187), .lit (.int .u32 3204031479), .lit (.int .u32 3329325298)]

/-- 'tabellionlaw09.HeadBytes': WHATEVER THE INPUT: true; the input reads as it did. -/
def headBytesSpec : ChangeSpec := { name := "headBytes", fn := fun _ => fun
  | [d] => { results := [.lit (.bool true)], args := [d] }
  | _ => none }
def headBytesRow : OpenClaim := { program := "ytbckeoidnpfbnaadoor", sum := "6edafe699cba7b3f24ccc23af179640fff6869dae56b6ef33da0a0f1387e9f1d", func := "tabellion/tabellionlaw09.HeadBytes", spec := "headBytes", unfollowed := true, recurses := true, named := ["tabellion/sha.keys"], apart := false, laid := [("tabellion/sha.keys", laid_tabellion_sha_keys)] }
def HeadBytesSaid : Prop := headBytesRow.holds Tryd.pinned (OpenSpec.ofChange headBytesSpec)

/-- ITS FALSE NEIGHBOUR: 'it returns false'. Refute it at one input. -/
def headBytesWrong : ChangeSpec := { name := "headBytes", fn := fun _ => fun
  | [d] => { results := [.lit (.bool false)], args := [d] }
  | _ => none }
def HeadBytesWrongFalsely : Prop := headBytesRow.holds Tryd.pinned (OpenSpec.ofChange headBytesWrong)

/-- 'tabellionlaw09.HeadSigns': WHATEVER THE INPUT: true; the input reads as it did. -/
def headSignsSpec : ChangeSpec := { name := "headSigns", fn := fun _ => fun
  | [d1, d2] => { results := [.lit (.bool true)], args := [d1, d2] }
  | _ => none }
def headSignsRow : OpenClaim := { program := "ytbckeoidnpfbnaadoor", sum := "6edafe699cba7b3f24ccc23af179640fff6869dae56b6ef33da0a0f1387e9f1d", func := "tabellion/tabellionlaw09.HeadSigns", spec := "headSigns", unfollowed := true, recurses := true, named := ["tabellion/sha.keys", "tabellion/tabellionref02.key"], apart := false, laid := [("tabellion/sha.keys", laid_tabellion_sha_keys), ("tabellion/tabellionref02.key", laid_tabellion_tabellionref02_key)] }
def HeadSignsSaid : Prop := headSignsRow.holds Tryd.pinned (OpenSpec.ofChange headSignsSpec)

/-- ITS FALSE NEIGHBOUR: 'it returns false'. Refute it at one input. -/
def headSignsWrong : ChangeSpec := { name := "headSigns", fn := fun _ => fun
  | [d1, d2] => { results := [.lit (.bool false)], args := [d1, d2] }
  | _ => none }
def HeadSignsWrongFalsely : Prop := headSignsRow.holds Tryd.pinned (OpenSpec.ofChange headSignsWrong)

/-- 'tabellionlaw09.HeadChecks': WHATEVER THE INPUT: true; the input reads as it did. -/
def headChecksSpec : ChangeSpec := { name := "headChecks", fn := fun _ => fun
  | [d1, d2] => { results := [.lit (.bool true)], args := [d1, d2] }
  | _ => none }
def headChecksRow : OpenClaim := { program := "ytbckeoidnpfbnaadoor", sum := "6edafe699cba7b3f24ccc23af179640fff6869dae56b6ef33da0a0f1387e9f1d", func := "tabellion/tabellionlaw09.HeadChecks", spec := "headChecks", unfollowed := true, recurses := true, named := ["tabellion/sha.keys", "tabellion/tabellionref02.key"], apart := false, laid := [("tabellion/sha.keys", laid_tabellion_sha_keys), ("tabellion/tabellionref02.key", laid_tabellion_tabellionref02_key)] }
def HeadChecksSaid : Prop := headChecksRow.holds Tryd.pinned (OpenSpec.ofChange headChecksSpec)

/-- ITS FALSE NEIGHBOUR: 'it returns false'. Refute it at one input. -/
def headChecksWrong : ChangeSpec := { name := "headChecks", fn := fun _ => fun
  | [d1, d2] => { results := [.lit (.bool false)], args := [d1, d2] }
  | _ => none }
def HeadChecksWrongFalsely : Prop := headChecksRow.holds Tryd.pinned (OpenSpec.ofChange headChecksWrong)

/-- 'tabellionlaw09.HeadBack': WHATEVER THE INPUT: true; the input reads as it did. -/
def headBackSpec : ChangeSpec := { name := "headBack", fn := fun _ => fun
  | [d1, d2, d3, d4] => { results := [.lit (.bool true)], args := [d1, d2, d3, d4] }
  | _ => none }
def headBackRow : OpenClaim := { program := "ytbckeoidnpfbnaadoor", sum := "6edafe699cba7b3f24ccc23af179640fff6869dae56b6ef33da0a0f1387e9f1d", func := "tabellion/tabellionlaw09.HeadBack", spec := "headBack", unfollowed := true, recurses := true, named := ["tabellion/sha.keys"], apart := false, laid := [("tabellion/sha.keys", laid_tabellion_sha_keys)] }
def HeadBackSaid : Prop := headBackRow.holds Tryd.pinned (OpenSpec.ofChange headBackSpec)

/-- ITS FALSE NEIGHBOUR: 'it returns false'. Refute it at one input. -/
def headBackWrong : ChangeSpec := { name := "headBack", fn := fun _ => fun
  | [d1, d2, d3, d4] => { results := [.lit (.bool false)], args := [d1, d2, d3, d4] }
  | _ => none }
def HeadBackWrongFalsely : Prop := headBackRow.holds Tryd.pinned (OpenSpec.ofChange headBackWrong)

/-- 'tabellionlaw09.HeadChains': WHATEVER THE INPUT: true; the input reads as it did. -/
def headChainsSpec : ChangeSpec := { name := "headChains", fn := fun _ => fun
  | [d1, d2] => { results := [.lit (.bool true)], args := [d1, d2] }
  | _ => none }
def headChainsRow : OpenClaim := { program := "ytbckeoidnpfbnaadoor", sum := "6edafe699cba7b3f24ccc23af179640fff6869dae56b6ef33da0a0f1387e9f1d", func := "tabellion/tabellionlaw09.HeadChains", spec := "headChains", unfollowed := true, recurses := true, named := ["tabellion/sha.keys", "tabellion/tabellionref02.key"], apart := false, laid := [("tabellion/sha.keys", laid_tabellion_sha_keys), ("tabellion/tabellionref02.key", laid_tabellion_tabellionref02_key)] }
def HeadChainsSaid : Prop := headChainsRow.holds Tryd.pinned (OpenSpec.ofChange headChainsSpec)

/-- ITS FALSE NEIGHBOUR: 'it returns false'. Refute it at one input. -/
def headChainsWrong : ChangeSpec := { name := "headChains", fn := fun _ => fun
  | [d1, d2] => { results := [.lit (.bool false)], args := [d1, d2] }
  | _ => none }
def HeadChainsWrongFalsely : Prop := headChainsRow.holds Tryd.pinned (OpenSpec.ofChange headChainsWrong)

/-- 'tabellionlaw09.HeadBegins': WHATEVER THE INPUT: true; the input reads as it did. -/
def headBeginsSpec : ChangeSpec := { name := "headBegins", fn := fun _ => fun
  | [d1, d2, d3, d4, d5] => { results := [.lit (.bool true)], args := [d1, d2, d3, d4, d5] }
  | _ => none }
def headBeginsRow : OpenClaim := { program := "ytbckeoidnpfbnaadoor", sum := "6edafe699cba7b3f24ccc23af179640fff6869dae56b6ef33da0a0f1387e9f1d", func := "tabellion/tabellionlaw09.HeadBegins", spec := "headBegins", unfollowed := true, recurses := true, named := ["tabellion/sha.keys"], apart := false, laid := [("tabellion/sha.keys", laid_tabellion_sha_keys)] }
def HeadBeginsSaid : Prop := headBeginsRow.holds Tryd.pinned (OpenSpec.ofChange headBeginsSpec)

/-- ITS FALSE NEIGHBOUR: 'it returns false'. Refute it at one input. -/
def headBeginsWrong : ChangeSpec := { name := "headBegins", fn := fun _ => fun
  | [d1, d2, d3, d4, d5] => { results := [.lit (.bool false)], args := [d1, d2, d3, d4, d5] }
  | _ => none }
def HeadBeginsWrongFalsely : Prop := headBeginsRow.holds Tryd.pinned (OpenSpec.ofChange headBeginsWrong)

/- THE SECOND FORM. 'bulk': how many values and letters a reading holds, each counted each time it is reached (what is shared counts as often as it is met; a slice's spare places count too). A statement '..UptoSaid' is the law's where the arguments, and the package variables that the reading takes, are together of bulk at most 1048576: NARROWER than '..Said'. Prove '..Said' where nothing that the law and all that it calls make is longer than what came in: it says more and counts as full. Else prove '..UptoSaid'. A law counts once. -/
mutual
def uptoBulk {H : Type} : DataW H → Nat
  | .lit (.string bytes) => bytes.length + 1
  | .lit _ => 1
  | .nil => 1
  | .ptr d => uptoBulk d + 1
  | .slice elems spare => uptoBulkAll elems + uptoBulkAll spare + 1
  | .agg parts => uptoBulkAll parts + 1
  | .iface _ d => uptoBulk d + 1
  | .map entries => uptoBulkEntries entries + 1
  | .held _ => 1
def uptoBulkAll {H : Type} : List (DataW H) → Nat
  | [] => 0
  | d :: r => uptoBulk d + uptoBulkAll r
def uptoBulkEntries {H : Type} : List (Lit × DataW H) → Nat
  | [] => 0
  | x :: r => uptoBulkEntry x + uptoBulkEntries r
def uptoBulkEntry {H : Type} : Lit × DataW H → Nat
  | (.string bytes, d) => bytes.length + uptoBulk d + 1
  | (_, d) => uptoBulk d + 1
 end
def uptoSmall : (H : Type) → List (DataW H) → Bool := fun _ ds => decide (uptoBulkAll ds ≤ 1048576)
def OpenSpec.upto (s : _root_.Go.ChangeSpec) : _root_.Go.OpenSpec := { _root_.Go.OpenSpec.ofChange s with cond := some uptoSmall }

/-- 'tabellionlaw09.HeadBytes', WHERE WHAT IT READS IS OF BULK AT MOST 1048576: true; the input reads as it did. -/
def headBytesUptoRow : OpenClaim := { program := "ytbckeoidnpfbnaadoor", sum := "6edafe699cba7b3f24ccc23af179640fff6869dae56b6ef33da0a0f1387e9f1d", func := "tabellion/tabellionlaw09.HeadBytes", spec := "headBytes", unfollowed := true, recurses := true, named := ["tabellion/sha.keys"], apart := false, laid := [("tabellion/sha.keys", laid_tabellion_sha_keys)], narrowed := true }
def HeadBytesUptoSaid : Prop := headBytesUptoRow.holds Tryd.pinned (OpenSpec.upto headBytesSpec)

/-- 'tabellionlaw09.HeadSigns', WHERE WHAT IT READS IS OF BULK AT MOST 1048576: true; the input reads as it did. -/
def headSignsUptoRow : OpenClaim := { program := "ytbckeoidnpfbnaadoor", sum := "6edafe699cba7b3f24ccc23af179640fff6869dae56b6ef33da0a0f1387e9f1d", func := "tabellion/tabellionlaw09.HeadSigns", spec := "headSigns", unfollowed := true, recurses := true, named := ["tabellion/sha.keys", "tabellion/tabellionref02.key"], apart := false, laid := [("tabellion/sha.keys", laid_tabellion_sha_keys), ("tabellion/tabellionref02.key", laid_tabellion_tabellionref02_key)], narrowed := true }
def HeadSignsUptoSaid : Prop := headSignsUptoRow.holds Tryd.pinned (OpenSpec.upto headSignsSpec)

/-- 'tabellionlaw09.HeadChecks', WHERE WHAT IT READS IS OF BULK AT MOST 1048576: true; the input reads as it did. -/
def headChecksUptoRow : OpenClaim := { program := "ytbckeoidnpfbnaadoor", sum := "6edafe699cba7b3f24ccc23af179640fff6869dae56b6ef33da0a0f1387e9f1d", func := "tabellion/tabellionlaw09.HeadChecks", spec := "headChecks", unfollowed := true, recurses := true, named := ["tabellion/sha.keys", "tabellion/tabellionref02.key"], apart := false, laid := [("tabellion/sha.keys", laid_tabellion_sha_keys), ("tabellion/tabellionref02.key", laid_tabellion_tabellionref02_key)], narrowed := true }
def HeadChecksUptoSaid : Prop := headChecksUptoRow.holds Tryd.pinned (OpenSpec.upto headChecksSpec)

/-- 'tabellionlaw09.HeadBack', WHERE WHAT IT READS IS OF BULK AT MOST 1048576: true; the input reads as it did. -/
def headBackUptoRow : OpenClaim := { program := "ytbckeoidnpfbnaadoor", sum := "6edafe699cba7b3f24ccc23af179640fff6869dae56b6ef33da0a0f1387e9f1d", func := "tabellion/tabellionlaw09.HeadBack", spec := "headBack", unfollowed := true, recurses := true, named := ["tabellion/sha.keys"], apart := false, laid := [("tabellion/sha.keys", laid_tabellion_sha_keys)], narrowed := true }
def HeadBackUptoSaid : Prop := headBackUptoRow.holds Tryd.pinned (OpenSpec.upto headBackSpec)

/-- 'tabellionlaw09.HeadChains', WHERE WHAT IT READS IS OF BULK AT MOST 1048576: true; the input reads as it did. -/
def headChainsUptoRow : OpenClaim := { program := "ytbckeoidnpfbnaadoor", sum := "6edafe699cba7b3f24ccc23af179640fff6869dae56b6ef33da0a0f1387e9f1d", func := "tabellion/tabellionlaw09.HeadChains", spec := "headChains", unfollowed := true, recurses := true, named := ["tabellion/sha.keys", "tabellion/tabellionref02.key"], apart := false, laid := [("tabellion/sha.keys", laid_tabellion_sha_keys), ("tabellion/tabellionref02.key", laid_tabellion_tabellionref02_key)], narrowed := true }
def HeadChainsUptoSaid : Prop := headChainsUptoRow.holds Tryd.pinned (OpenSpec.upto headChainsSpec)

/-- 'tabellionlaw09.HeadBegins', WHERE WHAT IT READS IS OF BULK AT MOST 1048576: true; the input reads as it did. -/
def headBeginsUptoRow : OpenClaim := { program := "ytbckeoidnpfbnaadoor", sum := "6edafe699cba7b3f24ccc23af179640fff6869dae56b6ef33da0a0f1387e9f1d", func := "tabellion/tabellionlaw09.HeadBegins", spec := "headBegins", unfollowed := true, recurses := true, named := ["tabellion/sha.keys"], apart := false, laid := [("tabellion/sha.keys", laid_tabellion_sha_keys)], narrowed := true }
def HeadBeginsUptoSaid : Prop := headBeginsUptoRow.holds Tryd.pinned (OpenSpec.upto headBeginsSpec)

end Rows
end Go.Proofs.YtbckeoidnpfbnaaDoor
