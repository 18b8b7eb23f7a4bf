/-
  DERIVED. GIVEN WITH THE SEED: THE PROGRAM's TIES (one call each: nine closed facts by the kernel) AND EACH ROW's TIE, after the 31st guide's Derived/Test/Toyas{Tie, Card}.lean. No idea stands in it: it is a product of the set-up. Laid BY PROGRAM, IN A SANDBOX (cutbox-door.mjs). By AI agents, Wed Nov 11 2026. No macro, syntax, notation, axiom, sorry.
-/
import Derived.Test.YtfjjckepnkkgjaaGreatDoorRows
import Derived.LaidByTextLater
import Derived.SevenTiedAt
import Derived.LaidSub
import Derived.LaidOnce
namespace Go.Proofs.YtfjjckepnkkgjaaGreatDoor
open Go
set_option maxRecDepth 100000
theorem seatTie1 : Tryz.prog.laidByTextLater [("armillary/interval.products", Rows.laid_armillary_interval_products), ("armillary/interval.quotients", Rows.laid_armillary_interval_quotients), ("armillary/tape.ops", Rows.laid_armillary_tape_ops)] [.funcs, .funcs, .funcs] true :=
  Program.laidByTextLater_by_one 52 8 2 (by kernel_rfl) (by kernel_rfl) (by kernel_rfl) (by kernel_rfl) (by kernel_rfl) (by kernel_rfl) (fun _ _ => by kernel_rfl)
theorem noOwnUnsafe : Tryz.pinned.checked.prog.headLifts.contains "ownunsafe" = false := by kernel_rfl
theorem tie : Tryz.prog.laidByTextLater [("armillary/interval.products", Rows.laid_armillary_interval_products), ("armillary/interval.quotients", Rows.laid_armillary_interval_quotients), ("armillary/tape.ops", Rows.laid_armillary_tape_ops)] [.funcs, .funcs, .funcs] true :=
  Program.laidByTextLater.sub seatTie1 ["armillary/interval.products", "armillary/interval.quotients", "armillary/tape.ops"] (by kernel_rfl) (by kernel_rfl)
theorem flowMatchesReference_row_tie : Rows.flowMatchesReferenceRow.laidByTextAt .later Tryz.pinned [.funcs, .funcs, .funcs] true :=
  OpenClaim.laidByTextAt_later rfl rfl tie noOwnUnsafe
theorem flowStructure_row_tie : Rows.flowStructureRow.laidByTextAt .later Tryz.pinned [.funcs, .funcs, .funcs] true :=
  OpenClaim.laidByTextAt_later rfl rfl tie noOwnUnsafe
theorem flowSteadySolutions_row_tie : Rows.flowSteadySolutionsRow.laidByTextAt .later Tryz.pinned [.funcs, .funcs, .funcs] true :=
  OpenClaim.laidByTextAt_later rfl rfl tie noOwnUnsafe
theorem flowParabolas_row_tie : Rows.flowParabolasRow.laidByTextAt .later Tryz.pinned [.funcs, .funcs, .funcs] true :=
  OpenClaim.laidByTextAt_later rfl rfl tie noOwnUnsafe
theorem flowClock_row_tie : Rows.flowClockRow.laidByTextAt .later Tryz.pinned [.funcs, .funcs, .funcs] true :=
  OpenClaim.laidByTextAt_later rfl rfl tie noOwnUnsafe
theorem flowDuring_row_tie : Rows.flowDuringRow.laidByTextAt .later Tryz.pinned [.funcs, .funcs, .funcs] true :=
  OpenClaim.laidByTextAt_later rfl rfl tie noOwnUnsafe
theorem flowItems_row_tie : Rows.flowItemsRow.laidByTextAt .later Tryz.pinned [.funcs, .funcs, .funcs] true :=
  OpenClaim.laidByTextAt_later rfl rfl tie noOwnUnsafe
theorem flowErrors_row_tie : Rows.flowErrorsRow.laidByTextAt .later Tryz.pinned [.funcs, .funcs, .funcs] true :=
  OpenClaim.laidByTextAt_later rfl rfl tie noOwnUnsafe
theorem certificateOfFlow_row_tie : Rows.certificateOfFlowRow.laidByTextAt .later Tryz.pinned [.funcs, .funcs, .funcs] true :=
  OpenClaim.laidByTextAt_later rfl rfl tie noOwnUnsafe
theorem flowMatchesReferenceUpto_row_tie : Rows.flowMatchesReferenceUptoRow.laidByTextAt .later Tryz.pinned [.funcs, .funcs, .funcs] true :=
  OpenClaim.laidByTextAt_later rfl rfl tie noOwnUnsafe
theorem flowStructureUpto_row_tie : Rows.flowStructureUptoRow.laidByTextAt .later Tryz.pinned [.funcs, .funcs, .funcs] true :=
  OpenClaim.laidByTextAt_later rfl rfl tie noOwnUnsafe
theorem flowSteadySolutionsUpto_row_tie : Rows.flowSteadySolutionsUptoRow.laidByTextAt .later Tryz.pinned [.funcs, .funcs, .funcs] true :=
  OpenClaim.laidByTextAt_later rfl rfl tie noOwnUnsafe
theorem flowParabolasUpto_row_tie : Rows.flowParabolasUptoRow.laidByTextAt .later Tryz.pinned [.funcs, .funcs, .funcs] true :=
  OpenClaim.laidByTextAt_later rfl rfl tie noOwnUnsafe
theorem flowClockUpto_row_tie : Rows.flowClockUptoRow.laidByTextAt .later Tryz.pinned [.funcs, .funcs, .funcs] true :=
  OpenClaim.laidByTextAt_later rfl rfl tie noOwnUnsafe
theorem flowDuringUpto_row_tie : Rows.flowDuringUptoRow.laidByTextAt .later Tryz.pinned [.funcs, .funcs, .funcs] true :=
  OpenClaim.laidByTextAt_later rfl rfl tie noOwnUnsafe
theorem flowItemsUpto_row_tie : Rows.flowItemsUptoRow.laidByTextAt .later Tryz.pinned [.funcs, .funcs, .funcs] true :=
  OpenClaim.laidByTextAt_later rfl rfl tie noOwnUnsafe
theorem flowErrorsUpto_row_tie : Rows.flowErrorsUptoRow.laidByTextAt .later Tryz.pinned [.funcs, .funcs, .funcs] true :=
  OpenClaim.laidByTextAt_later rfl rfl tie noOwnUnsafe
theorem certificateOfFlowUpto_row_tie : Rows.certificateOfFlowUptoRow.laidByTextAt .later Tryz.pinned [.funcs, .funcs, .funcs] true :=
  OpenClaim.laidByTextAt_later rfl rfl tie noOwnUnsafe
end Go.Proofs.YtfjjckepnkkgjaaGreatDoor
