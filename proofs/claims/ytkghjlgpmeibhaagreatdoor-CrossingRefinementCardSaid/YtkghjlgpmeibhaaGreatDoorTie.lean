/-
  DERIVED. GIVEN WITH THE SEED: THE PROGRAM's TIES (one call each: nine closed facts by the kernel) AND EACH ROW's TIE, after the 31st guide's Derived/Test/Toyas{Tie, Card}.lean. No idea stands in it: it is a product of the set-up. Laid BY PROGRAM, IN A SANDBOX (cutbox-door.mjs). By AI agents, Wed Nov 11 2026. No macro, syntax, notation, axiom, sorry.
-/
import Derived.Test.YtkghjlgpmeibhaaGreatDoorRows
import Derived.LaidByTextLater
import Derived.SevenTiedAt
import Derived.LaidSub
import Derived.LaidOnce
namespace Go.Proofs.YtkghjlgpmeibhaaGreatDoor
open Go
set_option maxRecDepth 100000
theorem seatTie1 : Tryz.prog.laidByTextLater [("armillary/interval.products", Rows.laid_armillary_interval_products), ("armillary/interval.quotients", Rows.laid_armillary_interval_quotients), ("armillary/tape.ops", Rows.laid_armillary_tape_ops)] [.funcs, .funcs, .funcs] true :=
  Program.laidByTextLater_by_one 52 8 2 (by kernel_rfl) (by kernel_rfl) (by kernel_rfl) (by kernel_rfl) (by kernel_rfl) (by kernel_rfl) (fun _ _ => by kernel_rfl)
theorem noOwnUnsafe : Tryz.pinned.checked.prog.headLifts.contains "ownunsafe" = false := by kernel_rfl
theorem tie : Tryz.prog.laidByTextLater [("armillary/interval.products", Rows.laid_armillary_interval_products), ("armillary/interval.quotients", Rows.laid_armillary_interval_quotients)] [.funcs, .funcs] true :=
  Program.laidByTextLater.sub seatTie1 ["armillary/interval.products", "armillary/interval.quotients"] (by kernel_rfl) (by kernel_rfl)
theorem crossingMatchesReference_row_tie : Rows.crossingMatchesReferenceRow.laidByTextAt .later Tryz.pinned [.funcs, .funcs] true :=
  OpenClaim.laidByTextAt_later rfl rfl tie noOwnUnsafe
theorem crossingFindsLinearCrossings_row_tie : Rows.crossingFindsLinearCrossingsRow.laidByTextAt .later Tryz.pinned [.funcs, .funcs] true :=
  OpenClaim.laidByTextAt_later rfl rfl tie noOwnUnsafe
theorem crossingFindsTimeEvents_row_tie : Rows.crossingFindsTimeEventsRow.laidByTextAt .later Tryz.pinned [.funcs, .funcs] true :=
  OpenClaim.laidByTextAt_later rfl rfl tie noOwnUnsafe
theorem crossingStructure_row_tie : Rows.crossingStructureRow.laidByTextAt .later Tryz.pinned [.funcs, .funcs] true :=
  OpenClaim.laidByTextAt_later rfl rfl tie noOwnUnsafe
theorem crossingDefiniteSign_row_tie : Rows.crossingDefiniteSignRow.laidByTextAt .later Tryz.pinned [.funcs, .funcs] true :=
  OpenClaim.laidByTextAt_later rfl rfl tie noOwnUnsafe
theorem crossingRefinement_row_tie : Rows.crossingRefinementRow.laidByTextAt .later Tryz.pinned [.funcs, .funcs] true :=
  OpenClaim.laidByTextAt_later rfl rfl tie noOwnUnsafe
theorem crossingReverse_row_tie : Rows.crossingReverseRow.laidByTextAt .later Tryz.pinned [.funcs, .funcs] true :=
  OpenClaim.laidByTextAt_later rfl rfl tie noOwnUnsafe
theorem crossingMonotone_row_tie : Rows.crossingMonotoneRow.laidByTextAt .later Tryz.pinned [.funcs, .funcs] true :=
  OpenClaim.laidByTextAt_later rfl rfl tie noOwnUnsafe
theorem tie2 : Tryz.prog.laidByTextLater [("armillary/interval.products", Rows.laid_armillary_interval_products), ("armillary/interval.quotients", Rows.laid_armillary_interval_quotients), ("armillary/tape.ops", Rows.laid_armillary_tape_ops)] [.funcs, .funcs, .funcs] true :=
  Program.laidByTextLater.sub seatTie1 ["armillary/interval.products", "armillary/interval.quotients", "armillary/tape.ops"] (by kernel_rfl) (by kernel_rfl)
theorem maneuverMatchesReference_row_tie : Rows.maneuverMatchesReferenceRow.laidByTextAt .later Tryz.pinned [.funcs, .funcs, .funcs] true :=
  OpenClaim.laidByTextAt_later rfl rfl tie2 noOwnUnsafe
theorem maneuverWithoutBurns_row_tie : Rows.maneuverWithoutBurnsRow.laidByTextAt .later Tryz.pinned [.funcs, .funcs, .funcs] true :=
  OpenClaim.laidByTextAt_later rfl rfl tie2 noOwnUnsafe
theorem maneuverEnclosesExactStates_row_tie : Rows.maneuverEnclosesExactStatesRow.laidByTextAt .later Tryz.pinned [.funcs, .funcs, .funcs] true :=
  OpenClaim.laidByTextAt_later rfl rfl tie2 noOwnUnsafe
theorem maneuverCoversHorizon_row_tie : Rows.maneuverCoversHorizonRow.laidByTextAt .later Tryz.pinned [.funcs, .funcs, .funcs] true :=
  OpenClaim.laidByTextAt_later rfl rfl tie2 noOwnUnsafe
theorem crossingMatchesReferenceUpto_row_tie : Rows.crossingMatchesReferenceUptoRow.laidByTextAt .later Tryz.pinned [.funcs, .funcs] true :=
  OpenClaim.laidByTextAt_later rfl rfl tie noOwnUnsafe
theorem crossingFindsLinearCrossingsUpto_row_tie : Rows.crossingFindsLinearCrossingsUptoRow.laidByTextAt .later Tryz.pinned [.funcs, .funcs] true :=
  OpenClaim.laidByTextAt_later rfl rfl tie noOwnUnsafe
theorem crossingFindsTimeEventsUpto_row_tie : Rows.crossingFindsTimeEventsUptoRow.laidByTextAt .later Tryz.pinned [.funcs, .funcs] true :=
  OpenClaim.laidByTextAt_later rfl rfl tie noOwnUnsafe
theorem crossingStructureUpto_row_tie : Rows.crossingStructureUptoRow.laidByTextAt .later Tryz.pinned [.funcs, .funcs] true :=
  OpenClaim.laidByTextAt_later rfl rfl tie noOwnUnsafe
theorem crossingDefiniteSignUpto_row_tie : Rows.crossingDefiniteSignUptoRow.laidByTextAt .later Tryz.pinned [.funcs, .funcs] true :=
  OpenClaim.laidByTextAt_later rfl rfl tie noOwnUnsafe
theorem crossingRefinementUpto_row_tie : Rows.crossingRefinementUptoRow.laidByTextAt .later Tryz.pinned [.funcs, .funcs] true :=
  OpenClaim.laidByTextAt_later rfl rfl tie noOwnUnsafe
theorem crossingReverseUpto_row_tie : Rows.crossingReverseUptoRow.laidByTextAt .later Tryz.pinned [.funcs, .funcs] true :=
  OpenClaim.laidByTextAt_later rfl rfl tie noOwnUnsafe
theorem crossingMonotoneUpto_row_tie : Rows.crossingMonotoneUptoRow.laidByTextAt .later Tryz.pinned [.funcs, .funcs] true :=
  OpenClaim.laidByTextAt_later rfl rfl tie noOwnUnsafe
theorem maneuverMatchesReferenceUpto_row_tie : Rows.maneuverMatchesReferenceUptoRow.laidByTextAt .later Tryz.pinned [.funcs, .funcs, .funcs] true :=
  OpenClaim.laidByTextAt_later rfl rfl tie2 noOwnUnsafe
theorem maneuverWithoutBurnsUpto_row_tie : Rows.maneuverWithoutBurnsUptoRow.laidByTextAt .later Tryz.pinned [.funcs, .funcs, .funcs] true :=
  OpenClaim.laidByTextAt_later rfl rfl tie2 noOwnUnsafe
theorem maneuverEnclosesExactStatesUpto_row_tie : Rows.maneuverEnclosesExactStatesUptoRow.laidByTextAt .later Tryz.pinned [.funcs, .funcs, .funcs] true :=
  OpenClaim.laidByTextAt_later rfl rfl tie2 noOwnUnsafe
theorem maneuverCoversHorizonUpto_row_tie : Rows.maneuverCoversHorizonUptoRow.laidByTextAt .later Tryz.pinned [.funcs, .funcs, .funcs] true :=
  OpenClaim.laidByTextAt_later rfl rfl tie2 noOwnUnsafe
end Go.Proofs.YtkghjlgpmeibhaaGreatDoor
