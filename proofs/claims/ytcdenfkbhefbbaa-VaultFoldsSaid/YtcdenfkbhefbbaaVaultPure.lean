/- What is saved, as plain data; the records that tell it; what a record makes of it. -/
import Derived.Test.YtcdenfkbhefbbaaWRPuts
import Derived.Test.YtcdenfkbhefbbaaSx16
set_option linter.unusedVariables false
set_option linter.unusedSimpArgs false
set_option maxRecDepth 100000
namespace Go.Proofs.Ytcdenfkbhefbbaa
open Go.Sx
theorem l32_iff {f g : Dg} : l32 f = l32 g ↔ f = g := ⟨l32_inj, fun h => by rw [h]⟩
instance instDg : DecidableEq Dg := fun f g => decidable_of_iff (l32 f = l32 g) l32_iff
instance i1 : DecidableEq (ByteArray × ByteArray × Int × Dg) := instDecidableEqProd
instance i2 : DecidableEq (Int × Int × Int × ByteArray × ByteArray × Int × Dg) := inferInstance
instance i3 : DecidableEq Cmd := i2
instance i4 : DecidableEq (Cmd × Cl) := instDecidableEqProd
instance i5 : DecidableEq (Int × Int × Int × Cmd × Cl) := inferInstance
instance i6 : DecidableEq En := i5
instance i7 : DecidableEq Sg := inferInstance
instance i8 : DecidableEq (Cl × ByteArray) := instDecidableEqProd
instance i9 : DecidableEq Sn := instDecidableEqProd
/-! ### Cells with their slices -/
abbrev Sp := Option Addr × Nat
abbrev spN : Sp := (none, 0)
abbrev svl (s : Sp) (n : Nat) : Value := .slice s.1 n s.2
def clX (x : Cl) (a b : Sp) : List Value := clV (.slice a.1 x.1.length a.2) (.slice b.1 x.2.length b.2)
def enX (x : En) (a b : Sp) : List Value := enV x (.slice a.1 x.2.2.2.2.1.length a.2) (.slice b.1 x.2.2.2.2.2.length b.2)
def snX (x : Sn) (a b : Sp) : List Value := snV x (.slice a.1 x.2.2.1.1.length a.2) (.slice b.1 x.2.2.1.2.length b.2)
def recX (x : Rec) (a b c d : Sp) : List Value := recV x (.slice a.1 x.2.2.2.1.2.2.2.2.1.length a.2) (.slice b.1 x.2.2.2.1.2.2.2.2.2.length b.2) (.slice c.1 x.2.2.2.2.2.1.2.2.1.1.length c.2) (.slice d.1 x.2.2.2.2.2.1.2.2.1.2.length d.2)
/-- An entry with the slices of its council. -/
abbrev EnV := En × Sp × Sp
def enW (p : EnV) : List Value := enX p.1 p.2.1 p.2.2
theorem enW_len (p : EnV) : (enW p).length = 43 := rfl
def clA (x : Cl) (a b : Sp) : Fact := andF (factC 1 (.slice a.1 x.1.length a.2) x.1.length (ints x.1)) (factC 1 (.slice b.1 x.2.length b.2) x.2.length (ints x.2))
def clT (I : TypeId) (x : Cl) (a b : Sp) : Fact := andF (factT I 1 (.slice a.1 x.1.length a.2) x.1.length (ints x.1)) (factT I 1 (.slice b.1 x.2.length b.2) x.2.length (ints x.2))
theorem clT_A {I : TypeId} {x : Cl} {a b : Sp} {w : World} (h : FA w (clT I x a b)) : FA w (clA x a b) := .and h.l.toC h.r.toC
def enA (p : EnV) : Fact := clA p.1.2.2.2.2 p.2.1 p.2.2
def enT (I : TypeId) (p : EnV) : Fact := clT I p.1.2.2.2.2 p.2.1 p.2.2
def esA (es : List EnV) (s : Sp) : Fact := andF (factC 43 (.slice s.1 es.length s.2) es.length (es.map enW).flatten) (allF (es.map enA))
def sgA (l : List Sg) (s : Sp) : Fact := factC 97 (.slice s.1 l.length s.2) l.length (l.map sgV).flatten
/-- What is saved, its lists as given. -/
def svC (t v : Int) (sn : Sn) (a b : Sp) (e s : Value) : List Value := [vi t, vi v] ++ (snX sn a b ++ [e, s])
def cmd0 : Cmd := (0, 0, 0, ⟨#[]⟩, ⟨#[]⟩, 0, dz)
def en0 : En := (0, 0, 0, cmd0, ([], []))
def env0 : EnV := (en0, spN, spN)
def sn0 : Sn := (0, 0, ([], []), ⟨#[]⟩)
def sg0 : Sg := ((0, dz, dz), dz)
/-! ### The records that tell what is saved -/
def okR (x : Rec) : Bool := match encTs (recC.tk x) with | .ok _ => true | .error _ => false
def tR (t v : Int) : Rec := (1, t, v, en0, 0, sn0, sg0)
def eR (e : En) : Rec := (2, 0, 0, e, 0, sn0, sg0)
def cR (i : Int) : Rec := (3, 0, 0, en0, i, sn0, sg0)
def nR (x : Sn) : Rec := (4, 0, 0, en0, 0, x, sg0)
def gR (x : Sg) : Rec := (5, 0, 0, en0, 0, sn0, x)
structure Sv where
  term : Int
  vote : Int
  snap : Sn
  ents : List En
  sgs : List Sg
def sv0 : Sv := ⟨0, 0, sn0, [], []⟩
abbrev far (n : Int) : Prop := 900000000 < n
def baseP (s : Sv) : Prop := s.ents.length ≤ 9000 ∧ s.sgs.length ≤ 200 ∧ ¬ far s.term ∧ ¬ far s.vote ∧ ¬ far s.snap.1 ∧ (0 < s.snap.1 ∨ s.snap = sn0)
def goesP (s : Sv) : Prop := ∀ i, i < s.ents.length → (s.ents.getD i en0).1 - 1 - i = s.snap.1
def risesP (s : Sv) : Prop := ∀ i, 0 < i → i < s.sgs.length → (s.sgs.getD (i - 1) sg0).1.1 < (s.sgs.getD i sg0).1.1
def toldP (s : Sv) : Prop := okR (tR s.term s.vote) = true ∧ (s.snap ≠ sn0 → okR (nR s.snap) = true) ∧ (∀ e ∈ s.ents, okR (eR e) = true) ∧ ∀ x ∈ s.sgs, okR (gR x) = true
/-- What is saved is right. -/
def RightS (s : Sv) : Prop := baseP s ∧ goesP s ∧ risesP s ∧ toldP s
/-- A record may be. -/
def MayR (r : Rec) : Prop := (∃ t v, r = tR t v) ∨ (∃ e, r = eR e) ∨ (∃ i, r = cR i) ∨ (∃ x, r = nR x) ∨ ∃ x, r = gR x
def lastS (s : Sv) : Int := s.snap.1 + s.ents.length
/-- Where a snapshot's own entry lies; else the last one. -/
def cutS (s : Sv) (x : Sn) : Nat := match s.ents.findIdx? (fun e => decide (e.1 = x.1 ∧ e.2.1 = x.2.1)) with | some i => i + 1 | none => s.ents.length
def foldE (s : Sv) (r : Rec) : Int :=
  if r.1 = 1 then (if r.2.1 < s.term ∨ far r.2.1 ∨ far r.2.2.1 then 110 else 0)
  else if r.1 = 2 then (if r.2.2.2.1.1 ≠ lastS s + 1 ∨ far r.2.2.2.1.1 then 110 else if s.ents.length = 9000 then 2 else 0)
  else if r.1 = 3 then (if r.2.2.2.2.1 ≤ s.snap.1 ∨ lastS s < r.2.2.2.2.1 then 110 else 0)
  else if r.1 = 4 then (if r.2.2.2.2.2.1.1 ≤ s.snap.1 ∨ far r.2.2.2.2.2.1.1 then 110 else 0)
  else (if 0 < s.sgs.length ∧ r.2.2.2.2.2.2.1.1 ≤ (s.sgs.getD (s.sgs.length - 1) sg0).1.1 then 110 else if s.sgs.length = 200 then 2 else 0)
def foldS (s : Sv) (r : Rec) : Sv :=
  if r.1 = 1 then { s with term := r.2.1, vote := r.2.2.1 }
  else if r.1 = 2 then { s with ents := s.ents ++ [r.2.2.2.1] }
  else if r.1 = 3 then { s with ents := s.ents.take (r.2.2.2.2.1 - s.snap.1 - 1).toNat }
  else if r.1 = 4 then { s with ents := s.ents.drop (cutS s r.2.2.2.2.2.1), snap := r.2.2.2.2.2.1 }
  else { s with sgs := s.sgs ++ [r.2.2.2.2.2.2] }
end Go.Proofs.Ytcdenfkbhefbbaa
