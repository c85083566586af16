/- What the reference of layer 8 lays: messages, each by its parts. -/
import Derived.Test.YtfgcfjojpakpjaaGreatWRef
set_option linter.unusedVariables false
set_option linter.unusedSimpArgs false
set_option maxRecDepth 100000
namespace Go.Proofs.YtfgcfjojpakpjaaGreat
open Go.Sx
theorem then2_step (r : Except Int (List Int)) (a b : List Tok) : then2 (then2 r (encTs a)) (encTs b) = then2 r (encTs (a ++ b)) := by rw [then2_assoc, ← encTs_app]
theorem toksI_step {l : List Int} {i n : Nat} (h : i < l.length) : (Tok.ln n :: toksI (l.take i)) ++ [.c (l.getD i 0)] = .ln n :: toksI (l.take (i + 1)) := by
  rw [take_s 0 h]
  simp [toksI]
theorem rec_toks2 (x : Rec) : recC.tk x = [.c x.1] ++ ([.c x.2.1] ++ ([.c x.2.2.1] ++ (enC.tk x.2.2.2.1 ++ ([.c x.2.2.2.2.1] ++ ([.c x.2.2.2.2.2.1.1] ++ ([.c x.2.2.2.2.2.1.2.1] ++ (clC.tk x.2.2.2.2.2.1.2.2.1 ++ ([.s x.2.2.2.2.2.1.2.2.2] ++ sgC.tk x.2.2.2.2.2.2)))))))) := by
  rw [rec_toks]
  simp [toksI]



end Go.Proofs.YtfgcfjojpakpjaaGreat
