/-
  DERIVED. GIVEN WITH THE SEED: THE PROGRAM's TIES (one call each: nine closed facts by the kernel) AND EACH ROW's TIE, after the 31st guide's Derived/Test/Toyas{Tie, Card}.lean. No idea stands in it: it is a product of the set-up. Laid BY PROGRAM, IN A SANDBOX (cutbox-door.mjs). By AI agents, Wed Nov 11 2026. No macro, syntax, notation, axiom, sorry.
-/
import Derived.Test.YtohmodcheahpgaaDoorRows
import Derived.LaidByTextLater
import Derived.SevenTiedAt
import Derived.LaidSub
import Derived.LaidOnce
namespace Go.Proofs.YtohmodcheahpgaaDoor
open Go
set_option maxRecDepth 100000
theorem seatTie1 : Tryd.prog.laidByTextLater [("armillary/interval.products", Rows.laid_armillary_interval_products), ("armillary/interval.quotients", Rows.laid_armillary_interval_quotients)] [.funcs, .funcs] true :=
  Program.laidByTextLater_by_one 40 8 2 (by kernel_rfl) (by kernel_rfl) (by kernel_rfl) (by kernel_rfl) (by kernel_rfl) (by kernel_rfl) (fun _ _ => by kernel_rfl)
theorem noOwnUnsafe : Tryd.pinned.checked.prog.headLifts.contains "ownunsafe" = false := by kernel_rfl
theorem tie : Tryd.prog.laidByTextLater [("armillary/interval.products", Rows.laid_armillary_interval_products), ("armillary/interval.quotients", Rows.laid_armillary_interval_quotients)] [.funcs, .funcs] true :=
  Program.laidByTextLater.sub seatTie1 ["armillary/interval.products", "armillary/interval.quotients"] (by kernel_rfl) (by kernel_rfl)
theorem jacobianSimplify_row_tie : Rows.jacobianSimplifyRow.laidByTextAt .later Tryd.pinned [.funcs, .funcs] true :=
  OpenClaim.laidByTextAt_later rfl rfl tie noOwnUnsafe
theorem jacobianPolynomials_row_tie : Rows.jacobianPolynomialsRow.laidByTextAt .later Tryd.pinned [.funcs, .funcs] true :=
  OpenClaim.laidByTextAt_later rfl rfl tie noOwnUnsafe
theorem jacobianMeanValue_row_tie : Rows.jacobianMeanValueRow.laidByTextAt .later Tryd.pinned [.funcs, .funcs] true :=
  OpenClaim.laidByTextAt_later rfl rfl tie noOwnUnsafe
theorem jacobianLinearity_row_tie : Rows.jacobianLinearityRow.laidByTextAt .later Tryd.pinned [.funcs, .funcs] true :=
  OpenClaim.laidByTextAt_later rfl rfl tie noOwnUnsafe
theorem jacobianIndependence_row_tie : Rows.jacobianIndependenceRow.laidByTextAt .later Tryd.pinned [.funcs, .funcs] true :=
  OpenClaim.laidByTextAt_later rfl rfl tie noOwnUnsafe
theorem jacobianMixedDerivatives_row_tie : Rows.jacobianMixedDerivativesRow.laidByTextAt .later Tryd.pinned [.funcs, .funcs] true :=
  OpenClaim.laidByTextAt_later rfl rfl tie noOwnUnsafe
theorem jacobianCoordinates_row_tie : Rows.jacobianCoordinatesRow.laidByTextAt .later Tryd.pinned [.funcs, .funcs] true :=
  OpenClaim.laidByTextAt_later rfl rfl tie noOwnUnsafe
theorem jacobianLieDerivative_row_tie : Rows.jacobianLieDerivativeRow.laidByTextAt .later Tryd.pinned [.funcs, .funcs] true :=
  OpenClaim.laidByTextAt_later rfl rfl tie noOwnUnsafe
theorem jacobianSimplifyUpto_row_tie : Rows.jacobianSimplifyUptoRow.laidByTextAt .later Tryd.pinned [.funcs, .funcs] true :=
  OpenClaim.laidByTextAt_later rfl rfl tie noOwnUnsafe
theorem jacobianPolynomialsUpto_row_tie : Rows.jacobianPolynomialsUptoRow.laidByTextAt .later Tryd.pinned [.funcs, .funcs] true :=
  OpenClaim.laidByTextAt_later rfl rfl tie noOwnUnsafe
theorem jacobianMeanValueUpto_row_tie : Rows.jacobianMeanValueUptoRow.laidByTextAt .later Tryd.pinned [.funcs, .funcs] true :=
  OpenClaim.laidByTextAt_later rfl rfl tie noOwnUnsafe
theorem jacobianLinearityUpto_row_tie : Rows.jacobianLinearityUptoRow.laidByTextAt .later Tryd.pinned [.funcs, .funcs] true :=
  OpenClaim.laidByTextAt_later rfl rfl tie noOwnUnsafe
theorem jacobianIndependenceUpto_row_tie : Rows.jacobianIndependenceUptoRow.laidByTextAt .later Tryd.pinned [.funcs, .funcs] true :=
  OpenClaim.laidByTextAt_later rfl rfl tie noOwnUnsafe
theorem jacobianMixedDerivativesUpto_row_tie : Rows.jacobianMixedDerivativesUptoRow.laidByTextAt .later Tryd.pinned [.funcs, .funcs] true :=
  OpenClaim.laidByTextAt_later rfl rfl tie noOwnUnsafe
theorem jacobianCoordinatesUpto_row_tie : Rows.jacobianCoordinatesUptoRow.laidByTextAt .later Tryd.pinned [.funcs, .funcs] true :=
  OpenClaim.laidByTextAt_later rfl rfl tie noOwnUnsafe
theorem jacobianLieDerivativeUpto_row_tie : Rows.jacobianLieDerivativeUptoRow.laidByTextAt .later Tryd.pinned [.funcs, .funcs] true :=
  OpenClaim.laidByTextAt_later rfl rfl tie noOwnUnsafe
end Go.Proofs.YtohmodcheahpgaaDoor
