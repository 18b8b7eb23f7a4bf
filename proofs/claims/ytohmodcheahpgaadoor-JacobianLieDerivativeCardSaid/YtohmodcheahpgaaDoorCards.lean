/-
  DERIVED. GIVEN WITH THE SEED: THE CARDS: each row of YtohmodcheahpgaaDoorRows.lean that lists a variable, with what it lists TIED to the program's text (the seventh form; the later family's looks); each row that meets fmt, with fmt's text TOLD by the authors' own Lean function (tested against real Go, not proved from fmt's source: count such statements apart). THE CARD IS WHAT COUNTS. Prove the row's statement (the work); the ties are given (YtohmodcheahpgaaDoorTie.lean); close each card by the builder's one call (the guide's Derived/Test/ToyasCard.lean, 'card_holds'). Laid BY PROGRAM, IN A SANDBOX (cutbox-door.mjs). By AI agents, Wed Nov 11 2026. No macro, syntax, notation, axiom, sorry.
-/
import Derived.Test.YtohmodcheahpgaaDoorRows
import GoSem.ClaimSeven
namespace Go.Proofs.YtohmodcheahpgaaDoor
namespace Rows

/-- THE TIED CARD OF 'armillarylaw10.JacobianSimplify'. -/
def jacobianSimplifyCard : Claim7 := { stood := { row := jacobianSimplifyRow, standIns := [], harness := (true, "23a542b2c6a1716c785193b5658296f35f4be4dc7df03d3c9ce5d239ed437a45"), looks := false }, kinds := [], alts := [], laidByText := true, laidKinds := [.funcs, .funcs], laidTests := true, laidLooks := .later }
def JacobianSimplifyCardSaid : Prop := Claim7.holds Tryd.pinned (.plain (OpenSpec.ofChange jacobianSimplifySpec)) jacobianSimplifyCard

/-- THE TIED CARD OF 'armillarylaw10.JacobianPolynomials'. -/
def jacobianPolynomialsCard : Claim7 := { stood := { row := jacobianPolynomialsRow, standIns := [], harness := (true, "23a542b2c6a1716c785193b5658296f35f4be4dc7df03d3c9ce5d239ed437a45"), looks := false }, kinds := [], alts := [], laidByText := true, laidKinds := [.funcs, .funcs], laidTests := true, laidLooks := .later }
def JacobianPolynomialsCardSaid : Prop := Claim7.holds Tryd.pinned (.plain (OpenSpec.ofChange jacobianPolynomialsSpec)) jacobianPolynomialsCard

/-- THE TIED CARD OF 'armillarylaw10.JacobianMeanValue'. -/
def jacobianMeanValueCard : Claim7 := { stood := { row := jacobianMeanValueRow, standIns := [], harness := (true, "23a542b2c6a1716c785193b5658296f35f4be4dc7df03d3c9ce5d239ed437a45"), looks := false }, kinds := [], alts := [], laidByText := true, laidKinds := [.funcs, .funcs], laidTests := true, laidLooks := .later }
def JacobianMeanValueCardSaid : Prop := Claim7.holds Tryd.pinned (.plain (OpenSpec.ofChange jacobianMeanValueSpec)) jacobianMeanValueCard

/-- THE TIED CARD OF 'armillarylaw10.JacobianLinearity'. -/
def jacobianLinearityCard : Claim7 := { stood := { row := jacobianLinearityRow, standIns := [], harness := (true, "23a542b2c6a1716c785193b5658296f35f4be4dc7df03d3c9ce5d239ed437a45"), looks := false }, kinds := [], alts := [], laidByText := true, laidKinds := [.funcs, .funcs], laidTests := true, laidLooks := .later }
def JacobianLinearityCardSaid : Prop := Claim7.holds Tryd.pinned (.plain (OpenSpec.ofChange jacobianLinearitySpec)) jacobianLinearityCard

/-- THE TIED CARD OF 'armillarylaw10.JacobianIndependence'. -/
def jacobianIndependenceCard : Claim7 := { stood := { row := jacobianIndependenceRow, standIns := [], harness := (true, "23a542b2c6a1716c785193b5658296f35f4be4dc7df03d3c9ce5d239ed437a45"), looks := false }, kinds := [], alts := [], laidByText := true, laidKinds := [.funcs, .funcs], laidTests := true, laidLooks := .later }
def JacobianIndependenceCardSaid : Prop := Claim7.holds Tryd.pinned (.plain (OpenSpec.ofChange jacobianIndependenceSpec)) jacobianIndependenceCard

/-- THE TIED CARD OF 'armillarylaw10.JacobianMixedDerivatives'. -/
def jacobianMixedDerivativesCard : Claim7 := { stood := { row := jacobianMixedDerivativesRow, standIns := [], harness := (true, "23a542b2c6a1716c785193b5658296f35f4be4dc7df03d3c9ce5d239ed437a45"), looks := false }, kinds := [], alts := [], laidByText := true, laidKinds := [.funcs, .funcs], laidTests := true, laidLooks := .later }
def JacobianMixedDerivativesCardSaid : Prop := Claim7.holds Tryd.pinned (.plain (OpenSpec.ofChange jacobianMixedDerivativesSpec)) jacobianMixedDerivativesCard

/-- THE TIED CARD OF 'armillarylaw10.JacobianCoordinates'. -/
def jacobianCoordinatesCard : Claim7 := { stood := { row := jacobianCoordinatesRow, standIns := [], harness := (true, "23a542b2c6a1716c785193b5658296f35f4be4dc7df03d3c9ce5d239ed437a45"), looks := false }, kinds := [], alts := [], laidByText := true, laidKinds := [.funcs, .funcs], laidTests := true, laidLooks := .later }
def JacobianCoordinatesCardSaid : Prop := Claim7.holds Tryd.pinned (.plain (OpenSpec.ofChange jacobianCoordinatesSpec)) jacobianCoordinatesCard

/-- THE TIED CARD OF 'armillarylaw10.JacobianLieDerivative'. -/
def jacobianLieDerivativeCard : Claim7 := { stood := { row := jacobianLieDerivativeRow, standIns := [], harness := (true, "23a542b2c6a1716c785193b5658296f35f4be4dc7df03d3c9ce5d239ed437a45"), looks := false }, kinds := [], alts := [], laidByText := true, laidKinds := [.funcs, .funcs], laidTests := true, laidLooks := .later }
def JacobianLieDerivativeCardSaid : Prop := Claim7.holds Tryd.pinned (.plain (OpenSpec.ofChange jacobianLieDerivativeSpec)) jacobianLieDerivativeCard

/-- THE SECOND FORM's CARD OF 'armillarylaw10.JacobianSimplify'. -/
def jacobianSimplifyUptoCard : Claim7 := { stood := { row := jacobianSimplifyUptoRow, standIns := [], harness := (true, "23a542b2c6a1716c785193b5658296f35f4be4dc7df03d3c9ce5d239ed437a45"), looks := false }, kinds := [], alts := [], laidByText := true, laidKinds := [.funcs, .funcs], laidTests := true, laidLooks := .later }
def JacobianSimplifyUptoCardSaid : Prop := Claim7.holds Tryd.pinned (.plain (OpenSpec.upto jacobianSimplifySpec)) jacobianSimplifyUptoCard

/-- THE SECOND FORM's CARD OF 'armillarylaw10.JacobianPolynomials'. -/
def jacobianPolynomialsUptoCard : Claim7 := { stood := { row := jacobianPolynomialsUptoRow, standIns := [], harness := (true, "23a542b2c6a1716c785193b5658296f35f4be4dc7df03d3c9ce5d239ed437a45"), looks := false }, kinds := [], alts := [], laidByText := true, laidKinds := [.funcs, .funcs], laidTests := true, laidLooks := .later }
def JacobianPolynomialsUptoCardSaid : Prop := Claim7.holds Tryd.pinned (.plain (OpenSpec.upto jacobianPolynomialsSpec)) jacobianPolynomialsUptoCard

/-- THE SECOND FORM's CARD OF 'armillarylaw10.JacobianMeanValue'. -/
def jacobianMeanValueUptoCard : Claim7 := { stood := { row := jacobianMeanValueUptoRow, standIns := [], harness := (true, "23a542b2c6a1716c785193b5658296f35f4be4dc7df03d3c9ce5d239ed437a45"), looks := false }, kinds := [], alts := [], laidByText := true, laidKinds := [.funcs, .funcs], laidTests := true, laidLooks := .later }
def JacobianMeanValueUptoCardSaid : Prop := Claim7.holds Tryd.pinned (.plain (OpenSpec.upto jacobianMeanValueSpec)) jacobianMeanValueUptoCard

/-- THE SECOND FORM's CARD OF 'armillarylaw10.JacobianLinearity'. -/
def jacobianLinearityUptoCard : Claim7 := { stood := { row := jacobianLinearityUptoRow, standIns := [], harness := (true, "23a542b2c6a1716c785193b5658296f35f4be4dc7df03d3c9ce5d239ed437a45"), looks := false }, kinds := [], alts := [], laidByText := true, laidKinds := [.funcs, .funcs], laidTests := true, laidLooks := .later }
def JacobianLinearityUptoCardSaid : Prop := Claim7.holds Tryd.pinned (.plain (OpenSpec.upto jacobianLinearitySpec)) jacobianLinearityUptoCard

/-- THE SECOND FORM's CARD OF 'armillarylaw10.JacobianIndependence'. -/
def jacobianIndependenceUptoCard : Claim7 := { stood := { row := jacobianIndependenceUptoRow, standIns := [], harness := (true, "23a542b2c6a1716c785193b5658296f35f4be4dc7df03d3c9ce5d239ed437a45"), looks := false }, kinds := [], alts := [], laidByText := true, laidKinds := [.funcs, .funcs], laidTests := true, laidLooks := .later }
def JacobianIndependenceUptoCardSaid : Prop := Claim7.holds Tryd.pinned (.plain (OpenSpec.upto jacobianIndependenceSpec)) jacobianIndependenceUptoCard

/-- THE SECOND FORM's CARD OF 'armillarylaw10.JacobianMixedDerivatives'. -/
def jacobianMixedDerivativesUptoCard : Claim7 := { stood := { row := jacobianMixedDerivativesUptoRow, standIns := [], harness := (true, "23a542b2c6a1716c785193b5658296f35f4be4dc7df03d3c9ce5d239ed437a45"), looks := false }, kinds := [], alts := [], laidByText := true, laidKinds := [.funcs, .funcs], laidTests := true, laidLooks := .later }
def JacobianMixedDerivativesUptoCardSaid : Prop := Claim7.holds Tryd.pinned (.plain (OpenSpec.upto jacobianMixedDerivativesSpec)) jacobianMixedDerivativesUptoCard

/-- THE SECOND FORM's CARD OF 'armillarylaw10.JacobianCoordinates'. -/
def jacobianCoordinatesUptoCard : Claim7 := { stood := { row := jacobianCoordinatesUptoRow, standIns := [], harness := (true, "23a542b2c6a1716c785193b5658296f35f4be4dc7df03d3c9ce5d239ed437a45"), looks := false }, kinds := [], alts := [], laidByText := true, laidKinds := [.funcs, .funcs], laidTests := true, laidLooks := .later }
def JacobianCoordinatesUptoCardSaid : Prop := Claim7.holds Tryd.pinned (.plain (OpenSpec.upto jacobianCoordinatesSpec)) jacobianCoordinatesUptoCard

/-- THE SECOND FORM's CARD OF 'armillarylaw10.JacobianLieDerivative'. -/
def jacobianLieDerivativeUptoCard : Claim7 := { stood := { row := jacobianLieDerivativeUptoRow, standIns := [], harness := (true, "23a542b2c6a1716c785193b5658296f35f4be4dc7df03d3c9ce5d239ed437a45"), looks := false }, kinds := [], alts := [], laidByText := true, laidKinds := [.funcs, .funcs], laidTests := true, laidLooks := .later }
def JacobianLieDerivativeUptoCardSaid : Prop := Claim7.holds Tryd.pinned (.plain (OpenSpec.upto jacobianLieDerivativeSpec)) jacobianLieDerivativeUptoCard
end Rows
end Go.Proofs.YtohmodcheahpgaaDoor
