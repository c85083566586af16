/-
  DERIVED. GIVEN WITH THE SEED: THE PROGRAM's TIES (one call each: nine closed facts by the kernel) AND EACH ROW's TIE, after the 31st guide's Derived/Test/Toyas{Tie, Card}.lean. No idea stands in it: it is a product of the set-up. Laid BY PROGRAM, IN A SANDBOX (cutbox-door.mjs). By AI agents, Wed Nov 11 2026. No macro, syntax, notation, axiom, sorry.
-/
import Derived.Test.YtfdmjjhgdbpfeaaDoorRows
import Derived.LaidByTextLater
import Derived.SevenTiedAt
import Derived.LaidSub
import Derived.LaidOnce
namespace Go.Proofs.YtfdmjjhgdbpfeaaDoor
open Go
set_option maxRecDepth 100000
theorem seatTie1 : Tryd.prog.laidByTextLater [("tabellion/sha.keys", Rows.laid_tabellion_sha_keys), ("tabellion/tabellionref02.key", Rows.laid_tabellion_tabellionref02_key)] [.data, .data] true :=
  Program.laidByTextLater_by_one 19 8 65 (by kernel_rfl) (by kernel_rfl) (by kernel_rfl) (by kernel_rfl) (by kernel_rfl) (by kernel_rfl) (fun _ _ => by kernel_rfl)
theorem noOwnUnsafe : Tryd.pinned.checked.prog.headLifts.contains "ownunsafe" = false := by kernel_rfl
theorem tie : Tryd.prog.laidByTextLater [("tabellion/sha.keys", Rows.laid_tabellion_sha_keys), ("tabellion/tabellionref02.key", Rows.laid_tabellion_tabellionref02_key)] [.data, .data] true :=
  Program.laidByTextLater.sub seatTie1 ["tabellion/sha.keys", "tabellion/tabellionref02.key"] (by kernel_rfl) (by kernel_rfl)
theorem clientVerifies_row_tie : Rows.clientVerifiesRow.laidByTextAt .later Tryd.pinned [.data, .data] true :=
  OpenClaim.laidByTextAt_later rfl rfl tie noOwnUnsafe
theorem tie2 : Tryd.prog.laidByTextLater [("tabellion/sha.keys", Rows.laid_tabellion_sha_keys)] [.data] true :=
  Program.laidByTextLater.sub seatTie1 ["tabellion/sha.keys"] (by kernel_rfl) (by kernel_rfl)
theorem clientBinds_row_tie : Rows.clientBindsRow.laidByTextAt .later Tryd.pinned [.data] true :=
  OpenClaim.laidByTextAt_later rfl rfl tie2 noOwnUnsafe
theorem clientVerifiesUpto_row_tie : Rows.clientVerifiesUptoRow.laidByTextAt .later Tryd.pinned [.data, .data] true :=
  OpenClaim.laidByTextAt_later rfl rfl tie noOwnUnsafe
theorem clientBindsUpto_row_tie : Rows.clientBindsUptoRow.laidByTextAt .later Tryd.pinned [.data] true :=
  OpenClaim.laidByTextAt_later rfl rfl tie2 noOwnUnsafe
end Go.Proofs.YtfdmjjhgdbpfeaaDoor
