/-
  DERIVED. GIVEN WITH THE SEED: THE PROGRAM's TIES (one call each: nine closed facts by the kernel) AND EACH ROW's TIE, after the 31st guide's Derived/Test/Toyas{Tie, Card}.lean. No idea stands in it: it is a product of the set-up. Laid BY PROGRAM, IN A SANDBOX (cutbox-door.mjs). By AI agents, Wed Nov 11 2026. No macro, syntax, notation, axiom, sorry.
-/
import Derived.Test.YtoannkopciehcaaDoorRows
import Derived.LaidByTextLater
import Derived.SevenTiedAt
import Derived.LaidSub
import Derived.LaidOnce
namespace Go.Proofs.YtoannkopciehcaaDoor
open Go
set_option maxRecDepth 100000
theorem seatTie1 : Tryd.prog.laidByTextLater [("errors.errorType", Rows.laid_errors_errorType), ("plumb/lemire.tens", Rows.laid_plumb_lemire_tens), ("plumb/near.stays", Rows.laid_plumb_near_stays)] [.handle, .data, .data] true :=
  Program.laidByTextLater_by_one 31 8 24 (by kernel_rfl) (by kernel_rfl) (by kernel_rfl) (by kernel_rfl) (by kernel_rfl) (by kernel_rfl) (fun _ _ => by kernel_rfl)
theorem noOwnUnsafe : Tryd.pinned.checked.prog.headLifts.contains "ownunsafe" = false := by kernel_rfl
theorem tie : Tryd.prog.laidByTextLater [("plumb/lemire.tens", Rows.laid_plumb_lemire_tens)] [.data] true :=
  Program.laidByTextLater.sub seatTie1 ["plumb/lemire.tens"] (by kernel_rfl) (by kernel_rfl)
theorem lemireFasts_row_tie : Rows.lemireFastsRow.laidByTextAt .later Tryd.pinned [.data] true :=
  OpenClaim.laidByTextAt_later rfl rfl tie noOwnUnsafe
theorem lemireCuts_row_tie : Rows.lemireCutsRow.laidByTextAt .later Tryd.pinned [.data] true :=
  OpenClaim.laidByTextAt_later rfl rfl tie noOwnUnsafe
theorem lemireTens_row_tie : Rows.lemireTensRow.laidByTextAt .later Tryd.pinned [.data] true :=
  OpenClaim.laidByTextAt_later rfl rfl tie noOwnUnsafe
theorem lemireRises_row_tie : Rows.lemireRisesRow.laidByTextAt .later Tryd.pinned [.data] true :=
  OpenClaim.laidByTextAt_later rfl rfl tie noOwnUnsafe
theorem tie2 : Tryd.prog.laidByTextLater [("plumb/lemire.tens", Rows.laid_plumb_lemire_tens), ("plumb/near.stays", Rows.laid_plumb_near_stays)] [.data, .data] true :=
  Program.laidByTextLater.sub seatTie1 ["plumb/lemire.tens", "plumb/near.stays"] (by kernel_rfl) (by kernel_rfl)
theorem lemireUnsure_row_tie : Rows.lemireUnsureRow.laidByTextAt .later Tryd.pinned [.data, .data] true :=
  OpenClaim.laidByTextAt_later rfl rfl tie2 noOwnUnsafe
theorem lemireTrue_row_tie : Rows.lemireTrueRow.laidByTextAt .later Tryd.pinned [.data, .data] true :=
  OpenClaim.laidByTextAt_later rfl rfl tie2 noOwnUnsafe
theorem tie3 : Tryd.prog.laidByTextLater [("errors.errorType", Rows.laid_errors_errorType), ("plumb/lemire.tens", Rows.laid_plumb_lemire_tens)] [.handle, .data] true :=
  Program.laidByTextLater.sub seatTie1 ["errors.errorType", "plumb/lemire.tens"] (by kernel_rfl) (by kernel_rfl)
theorem lemireBounds_row_tie : Rows.lemireBoundsRow.laidByTextAt .later Tryd.pinned [.handle, .data] true :=
  OpenClaim.laidByTextAt_later rfl rfl tie3 noOwnUnsafe
theorem lemireFastsUpto_row_tie : Rows.lemireFastsUptoRow.laidByTextAt .later Tryd.pinned [.data] true :=
  OpenClaim.laidByTextAt_later rfl rfl tie noOwnUnsafe
theorem lemireCutsUpto_row_tie : Rows.lemireCutsUptoRow.laidByTextAt .later Tryd.pinned [.data] true :=
  OpenClaim.laidByTextAt_later rfl rfl tie noOwnUnsafe
theorem lemireTensUpto_row_tie : Rows.lemireTensUptoRow.laidByTextAt .later Tryd.pinned [.data] true :=
  OpenClaim.laidByTextAt_later rfl rfl tie noOwnUnsafe
theorem lemireRisesUpto_row_tie : Rows.lemireRisesUptoRow.laidByTextAt .later Tryd.pinned [.data] true :=
  OpenClaim.laidByTextAt_later rfl rfl tie noOwnUnsafe
theorem lemireUnsureUpto_row_tie : Rows.lemireUnsureUptoRow.laidByTextAt .later Tryd.pinned [.data, .data] true :=
  OpenClaim.laidByTextAt_later rfl rfl tie2 noOwnUnsafe
theorem lemireTrueUpto_row_tie : Rows.lemireTrueUptoRow.laidByTextAt .later Tryd.pinned [.data, .data] true :=
  OpenClaim.laidByTextAt_later rfl rfl tie2 noOwnUnsafe
theorem lemireBoundsUpto_row_tie : Rows.lemireBoundsUptoRow.laidByTextAt .later Tryd.pinned [.handle, .data] true :=
  OpenClaim.laidByTextAt_later rfl rfl tie3 noOwnUnsafe
end Go.Proofs.YtoannkopciehcaaDoor
