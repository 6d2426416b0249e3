/-
  DERIVED. GIVEN WITH THE SEED: THE PROGRAM's TIES (one call each: nine closed facts by the kernel) AND EACH ROW's TIE, after the 31st guide's Derived/Test/Toyas{Tie, Card}.lean. No idea stands in it: it is a product of the set-up. Laid BY PROGRAM, IN A SANDBOX (cutbox-door.mjs). By AI agents, Wed Nov 11 2026. No macro, syntax, notation, axiom, sorry.
-/
import Derived.Test.YtcefobjfkmfmiaaDoorRows
import Derived.LaidByTextLater
import Derived.SevenTiedAt
import Derived.LaidSub
import Derived.LaidOnce
namespace Go.Proofs.YtcefobjfkmfmiaaDoor
open Go
set_option maxRecDepth 100000
theorem seatTie1 : Tryd.prog.laidByTextLater [("skiff/sha2.roots", Rows.laid_skiff_sha2_roots), ("skiff/skiffref03.thirds", Rows.laid_skiff_skiffref03_thirds), ("skiff/skiffref03.seconds", Rows.laid_skiff_skiffref03_seconds)] [.data, .data, .data] true :=
  Program.laidByTextLater_by_one 24 8 81 (by kernel_rfl) (by kernel_rfl) (by kernel_rfl) (by kernel_rfl) (by kernel_rfl) (by kernel_rfl) (fun _ _ => by kernel_rfl)
theorem noOwnUnsafe : Tryd.pinned.checked.prog.headLifts.contains "ownunsafe" = false := by kernel_rfl
theorem tie : Tryd.prog.laidByTextLater [("skiff/sha2.roots", Rows.laid_skiff_sha2_roots), ("skiff/skiffref03.thirds", Rows.laid_skiff_skiffref03_thirds), ("skiff/skiffref03.seconds", Rows.laid_skiff_skiffref03_seconds)] [.data, .data, .data] true :=
  Program.laidByTextLater.sub seatTie1 ["skiff/sha2.roots", "skiff/skiffref03.thirds", "skiff/skiffref03.seconds"] (by kernel_rfl) (by kernel_rfl)
theorem guardKeys_row_tie : Rows.guardKeysRow.laidByTextAt .later Tryd.pinned [.data, .data, .data] true :=
  OpenClaim.laidByTextAt_later rfl rfl tie noOwnUnsafe
theorem secretsFinished_row_tie : Rows.secretsFinishedRow.laidByTextAt .later Tryd.pinned [.data, .data, .data] true :=
  OpenClaim.laidByTextAt_later rfl rfl tie noOwnUnsafe
theorem secretsPlays_row_tie : Rows.secretsPlaysRow.laidByTextAt .later Tryd.pinned [.data, .data, .data] true :=
  OpenClaim.laidByTextAt_later rfl rfl tie noOwnUnsafe
theorem secretsCuts_row_tie : Rows.secretsCutsRow.laidByTextAt .later Tryd.pinned [.data, .data, .data] true :=
  OpenClaim.laidByTextAt_later rfl rfl tie noOwnUnsafe
theorem secretsNil_row_tie : Rows.secretsNilRow.laidByTextAt .later Tryd.pinned [.data, .data, .data] true :=
  OpenClaim.laidByTextAt_later rfl rfl tie noOwnUnsafe
theorem tie2 : Tryd.prog.laidByTextLater [("skiff/sha2.roots", Rows.laid_skiff_sha2_roots)] [.data] true :=
  Program.laidByTextLater.sub seatTie1 ["skiff/sha2.roots"] (by kernel_rfl) (by kernel_rfl)
theorem guardSeals_row_tie : Rows.guardSealsRow.laidByTextAt .later Tryd.pinned [.data] true :=
  OpenClaim.laidByTextAt_later rfl rfl tie2 noOwnUnsafe
theorem guardBack_row_tie : Rows.guardBackRow.laidByTextAt .later Tryd.pinned [.data] true :=
  OpenClaim.laidByTextAt_later rfl rfl tie2 noOwnUnsafe
theorem guardOpens_row_tie : Rows.guardOpensRow.laidByTextAt .later Tryd.pinned [.data] true :=
  OpenClaim.laidByTextAt_later rfl rfl tie2 noOwnUnsafe
theorem guardRow_row_tie : Rows.guardRowRow.laidByTextAt .later Tryd.pinned [.data] true :=
  OpenClaim.laidByTextAt_later rfl rfl tie2 noOwnUnsafe
theorem guardKeysUpto_row_tie : Rows.guardKeysUptoRow.laidByTextAt .later Tryd.pinned [.data, .data, .data] true :=
  OpenClaim.laidByTextAt_later rfl rfl tie noOwnUnsafe
theorem secretsFinishedUpto_row_tie : Rows.secretsFinishedUptoRow.laidByTextAt .later Tryd.pinned [.data, .data, .data] true :=
  OpenClaim.laidByTextAt_later rfl rfl tie noOwnUnsafe
theorem secretsPlaysUpto_row_tie : Rows.secretsPlaysUptoRow.laidByTextAt .later Tryd.pinned [.data, .data, .data] true :=
  OpenClaim.laidByTextAt_later rfl rfl tie noOwnUnsafe
theorem secretsCutsUpto_row_tie : Rows.secretsCutsUptoRow.laidByTextAt .later Tryd.pinned [.data, .data, .data] true :=
  OpenClaim.laidByTextAt_later rfl rfl tie noOwnUnsafe
theorem secretsNilUpto_row_tie : Rows.secretsNilUptoRow.laidByTextAt .later Tryd.pinned [.data, .data, .data] true :=
  OpenClaim.laidByTextAt_later rfl rfl tie noOwnUnsafe
theorem guardSealsUpto_row_tie : Rows.guardSealsUptoRow.laidByTextAt .later Tryd.pinned [.data] true :=
  OpenClaim.laidByTextAt_later rfl rfl tie2 noOwnUnsafe
theorem guardBackUpto_row_tie : Rows.guardBackUptoRow.laidByTextAt .later Tryd.pinned [.data] true :=
  OpenClaim.laidByTextAt_later rfl rfl tie2 noOwnUnsafe
theorem guardOpensUpto_row_tie : Rows.guardOpensUptoRow.laidByTextAt .later Tryd.pinned [.data] true :=
  OpenClaim.laidByTextAt_later rfl rfl tie2 noOwnUnsafe
theorem guardRowUpto_row_tie : Rows.guardRowUptoRow.laidByTextAt .later Tryd.pinned [.data] true :=
  OpenClaim.laidByTextAt_later rfl rfl tie2 noOwnUnsafe
end Go.Proofs.YtcefobjfkmfmiaaDoor
