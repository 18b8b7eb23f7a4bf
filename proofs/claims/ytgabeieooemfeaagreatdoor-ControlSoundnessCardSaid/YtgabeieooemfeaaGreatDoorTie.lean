/-
  DERIVED. GIVEN WITH THE SEED: THE PROGRAM's TIES (one call each: nine closed facts by the kernel) AND EACH ROW's TIE, after the 31st guide's Derived/Test/Toyas{Tie, Card}.lean. No idea stands in it: it is a product of the set-up. Laid BY PROGRAM, IN A SANDBOX (cutbox-door.mjs). By AI agents, Wed Nov 11 2026. No macro, syntax, notation, axiom, sorry.
-/
import Derived.Test.YtgabeieooemfeaaGreatDoorRows
import Derived.LaidByTextLater
import Derived.SevenTiedAt
import Derived.LaidSub
import Derived.LaidOnce
namespace Go.Proofs.YtgabeieooemfeaaGreatDoor
open Go
set_option maxRecDepth 100000
theorem seatTie1 : Tryz.prog.laidByTextLater [("armillary/interval.products", Rows.laid_armillary_interval_products), ("armillary/interval.quotients", Rows.laid_armillary_interval_quotients), ("armillary/tape.ops", Rows.laid_armillary_tape_ops)] [.funcs, .funcs, .funcs] true :=
  Program.laidByTextLater_by_one 52 8 2 (by kernel_rfl) (by kernel_rfl) (by kernel_rfl) (by kernel_rfl) (by kernel_rfl) (by kernel_rfl) (fun _ _ => by kernel_rfl)
theorem noOwnUnsafe : Tryz.pinned.checked.prog.headLifts.contains "ownunsafe" = false := by kernel_rfl
theorem tie : Tryz.prog.laidByTextLater [("armillary/interval.products", Rows.laid_armillary_interval_products), ("armillary/interval.quotients", Rows.laid_armillary_interval_quotients), ("armillary/tape.ops", Rows.laid_armillary_tape_ops)] [.funcs, .funcs, .funcs] true :=
  Program.laidByTextLater.sub seatTie1 ["armillary/interval.products", "armillary/interval.quotients", "armillary/tape.ops"] (by kernel_rfl) (by kernel_rfl)
theorem controlMatchesReference_row_tie : Rows.controlMatchesReferenceRow.laidByTextAt .later Tryz.pinned [.funcs, .funcs, .funcs] true :=
  OpenClaim.laidByTextAt_later rfl rfl tie noOwnUnsafe
theorem controlAdvanceMatchesReference_row_tie : Rows.controlAdvanceMatchesReferenceRow.laidByTextAt .later Tryz.pinned [.funcs, .funcs, .funcs] true :=
  OpenClaim.laidByTextAt_later rfl rfl tie noOwnUnsafe
theorem controlSoundness_row_tie : Rows.controlSoundnessRow.laidByTextAt .later Tryz.pinned [.funcs, .funcs, .funcs] true :=
  OpenClaim.laidByTextAt_later rfl rfl tie noOwnUnsafe
theorem controlGreediness_row_tie : Rows.controlGreedinessRow.laidByTextAt .later Tryz.pinned [.funcs, .funcs, .funcs] true :=
  OpenClaim.laidByTextAt_later rfl rfl tie noOwnUnsafe
theorem controlMonotonicity_row_tie : Rows.controlMonotonicityRow.laidByTextAt .later Tryz.pinned [.funcs, .funcs, .funcs] true :=
  OpenClaim.laidByTextAt_later rfl rfl tie noOwnUnsafe
theorem controlRepeat_row_tie : Rows.controlRepeatRow.laidByTextAt .later Tryz.pinned [.funcs, .funcs, .funcs] true :=
  OpenClaim.laidByTextAt_later rfl rfl tie noOwnUnsafe
theorem controlMatchesReferenceUpto_row_tie : Rows.controlMatchesReferenceUptoRow.laidByTextAt .later Tryz.pinned [.funcs, .funcs, .funcs] true :=
  OpenClaim.laidByTextAt_later rfl rfl tie noOwnUnsafe
theorem controlAdvanceMatchesReferenceUpto_row_tie : Rows.controlAdvanceMatchesReferenceUptoRow.laidByTextAt .later Tryz.pinned [.funcs, .funcs, .funcs] true :=
  OpenClaim.laidByTextAt_later rfl rfl tie noOwnUnsafe
theorem controlSoundnessUpto_row_tie : Rows.controlSoundnessUptoRow.laidByTextAt .later Tryz.pinned [.funcs, .funcs, .funcs] true :=
  OpenClaim.laidByTextAt_later rfl rfl tie noOwnUnsafe
theorem controlGreedinessUpto_row_tie : Rows.controlGreedinessUptoRow.laidByTextAt .later Tryz.pinned [.funcs, .funcs, .funcs] true :=
  OpenClaim.laidByTextAt_later rfl rfl tie noOwnUnsafe
theorem controlMonotonicityUpto_row_tie : Rows.controlMonotonicityUptoRow.laidByTextAt .later Tryz.pinned [.funcs, .funcs, .funcs] true :=
  OpenClaim.laidByTextAt_later rfl rfl tie noOwnUnsafe
theorem controlRepeatUpto_row_tie : Rows.controlRepeatUptoRow.laidByTextAt .later Tryz.pinned [.funcs, .funcs, .funcs] true :=
  OpenClaim.laidByTextAt_later rfl rfl tie noOwnUnsafe
end Go.Proofs.YtgabeieooemfeaaGreatDoor
