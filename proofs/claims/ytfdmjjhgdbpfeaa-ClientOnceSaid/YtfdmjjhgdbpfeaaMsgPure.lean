/- Messages and clients as plain data, and their cells: no program in sight. -/
import Derived.Test.YtfdmjjhgdbpfeaaWirePure
import Derived.Test.YtfdmjjhgdbpfeaaMsgBase
set_option linter.unusedVariables false
set_option linter.unusedSimpArgs false
set_option maxRecDepth 100000
namespace Go.Proofs.Ytfdmjjhgdbpfeaa
open Go.Sx
theorem l32_iff {f g : Dg} : l32 f = l32 g ↔ f = g := ⟨l32_inj, fun h => by rw [h]⟩
instance instDg : DecidableEq Dg := fun f g => decidable_of_iff (l32 f = l32 g) l32_iff
instance i1 : DecidableEq (ByteArray × ByteArray × Int × Dg) := instDecidableEqProd
instance i2 : DecidableEq (Int × Int × Int × ByteArray × ByteArray × Int × Dg) := inferInstance
instance i3 : DecidableEq Cmd := i2
instance i4 : DecidableEq (Cmd × Cl) := instDecidableEqProd
instance i5 : DecidableEq (Int × Int × Int × Cmd × Cl) := inferInstance
instance i6 : DecidableEq En := i5
instance i7 : DecidableEq Sg := inferInstance
abbrev mi (x : Int) : Value := .int .i64 x
def mints (l : List Int) : List Value := l.map (Value.int .i64)
def cmdM (x : Cmd) : List Value := [mi x.1, mi x.2.1, mi x.2.2.1, .string x.2.2.2.1, .string x.2.2.2.2.1, mi x.2.2.2.2.2.1] ++ dg (l32 x.2.2.2.2.2.2)
def hdM (x : Hd) : List Value := mi x.1 :: (dg (l32 x.2.1) ++ dg (l32 x.2.2))
def sgM (x : Sg) : List Value := hdM x.1 ++ dg (l32 x.2)
def vrM (x : Vr) : List Value := [mi x.1, mi x.2.1, .string x.2.2]
/-- A slice's place and capacity. -/
abbrev Sl := Option Addr × Nat
abbrev slN : Sl := (none, 0)
def clM (x : Cl) (a b : Sl) : List Value := [.slice a.1 x.1.length a.2, .slice b.1 x.2.length b.2]
def enM (x : En) (a b : Sl) : List Value := [mi x.1, mi x.2.1, mi x.2.2.1] ++ (cmdM x.2.2.2.1 ++ [.slice a.1 x.2.2.2.2.1.length a.2, .slice b.1 x.2.2.2.2.2.length b.2])
/-- An entry with the slices of its council. -/
abbrev EnV := En × Sl × Sl
def enW (p : EnV) : List Value := enM p.1 p.2.1 p.2.2
def clF (x : Cl) (a b : Sl) : Fact := andF (factC 1 (.slice a.1 x.1.length a.2) x.1.length (mints x.1)) (factC 1 (.slice b.1 x.2.length b.2) x.2.length (mints x.2))
def enF (p : EnV) : Fact := clF p.1.2.2.2.2 p.2.1 p.2.2
def esF (es : List EnV) (s : Sl) : Fact := andF (factC 43 (.slice s.1 es.length s.2) es.length (es.map enW).flatten) (allF (es.map enF))
/-- A reply's proof: siblings, another, its path and value. -/
structure Pf where
  sib : List Dg
  other : Bool
  path : Dg
  val : Dg
  deriving DecidableEq
structure Rp where
  code : Int
  seq : Int
  lead : Int
  index : Int
  epoch : Int
  vers : List Vr
  pf : Pf
  head : Sg
  deriving DecidableEq
structure Ms where
  kind : Int
  frm : Int
  to : Int
  term : Int
  index : Int
  logTerm : Int
  commit : Int
  round : Int
  ok : Bool
  entries : List En
  council : Cl
  total : Int
  offset : Int
  data : ByteArray
  cmd : Cmd
  ask : Int
  seq : Int
  user : ByteArray
  reply : Rp
  deriving DecidableEq
structure Ct where
  id : Int
  seq : Int
  target : Int
  busy : Bool
  msg : Ms
  tries : Int
  deriving DecidableEq
/-- The five lists' places: entries, voters, learners, versions, siblings. -/
structure M5 where
  e : Sl
  a : Sl
  b : Sl
  v : Sl
  s : Sl
def pfM (x : Pf) (v : Sl) : List Value := .slice v.1 x.sib.length v.2 :: .bool x.other :: (dg (l32 x.path) ++ dg (l32 x.val))
def rpM (x : Rp) (v s : Sl) : List Value := [mi x.code, mi x.seq, mi x.lead, mi x.index, mi x.epoch, .slice v.1 x.vers.length v.2] ++ (pfM x.pf s ++ sgM x.head)
def msM (x : Ms) (m : M5) : List Value := [mi x.kind, mi x.frm, mi x.to, mi x.term, mi x.index, mi x.logTerm, mi x.commit, mi x.round, .bool x.ok, .slice m.e.1 x.entries.length m.e.2, .slice m.a.1 x.council.1.length m.a.2, .slice m.b.1 x.council.2.length m.b.2, mi x.total, mi x.offset, .string x.data] ++ (cmdM x.cmd ++ ([mi x.ask, mi x.seq, .string x.user] ++ rpM x.reply m.v m.s))
def ctM (x : Ct) (m : M5) : List Value := [mi x.id, mi x.seq, mi x.target, .bool x.busy] ++ (msM x.msg m ++ [mi x.tries])
def vrF (l : List Vr) (s : Sl) : Fact := factC 3 (.slice s.1 l.length s.2) l.length (l.map vrM).flatten
def dgM (f : Dg) : List Value := dg (l32 f)
def sbF (l : List Dg) (s : Sl) : Fact := factC 32 (.slice s.1 l.length s.2) l.length (l.map dgM).flatten
def rpF (x : Rp) (v s : Sl) : Fact := andF (vrF x.vers v) (sbF x.pf.sib s)
/-- What a message's lists read as; es: the entries with their own slices. -/
def msF (x : Ms) (m : M5) (es : List EnV) : Fact := andF (esF es m.e) (andF (clF x.council m.a m.b) (rpF x.reply m.v m.s))
/-- A message's lists are there. -/
structure MsW (w : World) (x : Ms) (m : M5) (es : List EnV) : Prop where
  own : es.map Prod.fst = x.entries
  fa : FA w (msF x m es)
def pf0 : Pf := ⟨[], false, dz, dz⟩
def hd0 : Hd := (0, dz, dz)
def sg0 : Sg := (hd0, dz)
def cmd0 : Cmd := (0, 0, 0, ⟨#[]⟩, ⟨#[]⟩, 0, dz)
def rp0 : Rp := ⟨0, 0, 0, 0, 0, [], pf0, sg0⟩
def ms0 : Ms := ⟨0, 0, 0, 0, 0, 0, 0, 0, false, [], ([], []), 0, 0, ⟨#[]⟩, cmd0, 0, 0, ⟨#[]⟩, rp0⟩
def ct0 : Ct := ⟨0, 0, 0, false, ms0, 0⟩
def m50 : M5 := ⟨slN, slN, slN, slN, slN⟩
theorem msM_len (x : Ms) (m : M5) : (msM x m).length = 225 := rfl
theorem ctM_len (x : Ct) (m : M5) : (ctM x m).length = 230 := rfl

/-! ### What a client does -/
abbrev Cmd.cli (c : Cmd) : Prop := 1 ≤ c.2.1 ∧ c.2.1 ≤ 4 ∧ 1 ≤ c.2.2.1 ∧ c.2.2.1 ≤ 1000000 ∧ 1 ≤ c.2.2.2.1.size ∧ c.2.2.2.1.size ≤ 32 ∧ c.2.2.2.2.2.1 = 0 ∧ c.2.2.2.2.2.2 = dz
abbrev Cmd.nob (c : Cmd) : Prop := c.2.1 = 0 ∧ c.2.2.1 = 0 ∧ c.2.2.2.1 = ⟨#[]⟩ ∧ c.2.2.2.2.1 = ⟨#[]⟩ ∧ 1 ≤ c.2.2.2.2.2.1 ∧ c.2.2.2.2.2.1 ≤ 200
/-- A command may be. -/
def MayP (c : Cmd) : Prop := c.cli ∧ ((c.1 = 1 ∨ c.1 = 2) ∧ 1 ≤ c.2.2.2.2.1.size ∧ c.2.2.2.2.1.size ≤ 64 ∨ c.1 = 3 ∧ c.2.2.2.2.1 = ⟨#[]⟩) ∨ c.nob ∧ (c.1 = 4 ∧ c.2.2.2.2.2.2 = dz ∨ c.1 = 5)
instance (c : Cmd) : Decidable (MayP c) := by unfold MayP; infer_instance
def AskP (ask : Int) (user : ByteArray) : Prop := ask = 3 ∧ user = ⟨#[]⟩ ∨ (ask = 1 ∨ ask = 2) ∧ 1 ≤ user.size ∧ user.size ≤ 32
instance (a : Int) (u : ByteArray) : Decidable (AskP a u) := by unfold AskP; infer_instance
def reqM (c : Ct) (cmd : Cmd) : Ms := { ms0 with kind := 9, frm := -c.id, to := c.target, seq := c.seq, cmd := cmd }
def queM (c : Ct) (ask : Int) (user : ByteArray) : Ms := { ms0 with kind := 9, frm := -c.id, to := c.target, seq := c.seq, ask := ask, user := user }
def mayCallP (c : Ct) (cmd : Cmd) : Prop := MayP cmd ∧ cmd.2.1 = c.id ∧ cmd.2.2.1 = c.seq ∧ 0 < c.id
instance (c : Ct) (d : Cmd) : Decidable (mayCallP c d) := by unfold mayCallP; infer_instance
def mayAskP (c : Ct) (ask : Int) (user : ByteArray) : Prop := AskP ask user ∧ 1 ≤ c.seq
instance (c : Ct) (a : Int) (u : ByteArray) : Decidable (mayAskP c a u) := by unfold mayAskP; infer_instance
abbrev numsP (c : Ct) : Prop := (1 ≤ c.id ∧ c.id ≤ 4) ∧ (0 ≤ c.seq ∧ c.seq ≤ 1000000) ∧ (1 ≤ c.target ∧ c.target ≤ 7) ∧ 0 ≤ c.tries ∧ c.tries ≤ 1000
def msgP (c : Ct) : Prop := if c.busy then (if c.msg.ask = 0 then mayCallP c c.msg.cmd ∧ c.msg = reqM c c.msg.cmd else mayAskP c c.msg.ask c.msg.user ∧ c.msg = queM c c.msg.ask c.msg.user) else c.tries = 0 ∧ c.msg = ms0
instance (c : Ct) : Decidable (msgP c) := by unfold msgP; infer_instance
/-- A client is right. -/
def RightP (c : Ct) : Prop := numsP c ∧ msgP c
instance (c : Ct) : Decidable (RightP c) := by unfold RightP; infer_instance
def readyE (c : Ct) : Int := if RightP c then (if c.busy then 181 else if 1000000 ≤ c.seq then 180 else 0) else 180
def upC (c : Ct) : Ct := { c with seq := c.seq + 1 }
def ownCmd (c : Ct) (cmd : Cmd) : Cmd := (cmd.1, c.id, c.seq + 1, cmd.2.2.2)
def afterN (n : Int) : Int := if 7 ≤ n then 1 else n + 1
def turnC (c : Ct) (n : Int) : Ct := { c with target := n, tries := if 1000 < c.tries + 1 then 1000 else c.tries + 1, msg := { c.msg with to := n } }
end Go.Proofs.Ytfdmjjhgdbpfeaa
