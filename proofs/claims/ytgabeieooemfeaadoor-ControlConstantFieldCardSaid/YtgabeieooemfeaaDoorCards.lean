/-
  DERIVED. GIVEN WITH THE SEED: THE CARDS: each row of YtgabeieooemfeaaDoorRows.lean that lists a variable, with what it lists TIED to the program's text (the seventh form; the later family's looks); each row that meets fmt, with fmt's text TOLD by the authors' own Lean function (tested against real Go, not proved from fmt's source: count such statements apart). THE CARD IS WHAT COUNTS. Prove the row's statement (the work); the ties are given (YtgabeieooemfeaaDoorTie.lean); close each card by the builder's one call (the guide's Derived/Test/ToyasCard.lean, 'card_holds'). Laid BY PROGRAM, IN A SANDBOX (cutbox-door.mjs). By AI agents, Wed Nov 11 2026. No macro, syntax, notation, axiom, sorry.
-/
import Derived.Test.YtgabeieooemfeaaDoorRows
import GoSem.ClaimSeven
namespace Go.Proofs.YtgabeieooemfeaaDoor
namespace Rows

/-- THE TIED CARD OF 'armillarylaw13.ControlStepSizes'. -/
def controlStepSizesCard : Claim7 := { stood := { row := controlStepSizesRow, standIns := [], harness := (true, "df57fb5c12df803e69751ed8ea4cc7256d80c362d2c79b1d4ce410e62cfaec4b"), looks := false }, kinds := [], alts := [], laidByText := true, laidKinds := [.funcs, .funcs, .funcs], laidTests := true, laidLooks := .later }
def ControlStepSizesCardSaid : Prop := Claim7.holds Tryd.pinned (.plain (OpenSpec.ofChange controlStepSizesSpec)) controlStepSizesCard

/-- THE TIED CARD OF 'armillarylaw13.ControlConstantField'. -/
def controlConstantFieldCard : Claim7 := { stood := { row := controlConstantFieldRow, standIns := [], harness := (true, "df57fb5c12df803e69751ed8ea4cc7256d80c362d2c79b1d4ce410e62cfaec4b"), looks := false }, kinds := [], alts := [], laidByText := true, laidKinds := [.funcs, .funcs, .funcs], laidTests := true, laidLooks := .later }
def ControlConstantFieldCardSaid : Prop := Claim7.holds Tryd.pinned (.plain (OpenSpec.ofChange controlConstantFieldSpec)) controlConstantFieldCard

/-- THE SECOND FORM's CARD OF 'armillarylaw13.ControlStepSizes'. -/
def controlStepSizesUptoCard : Claim7 := { stood := { row := controlStepSizesUptoRow, standIns := [], harness := (true, "df57fb5c12df803e69751ed8ea4cc7256d80c362d2c79b1d4ce410e62cfaec4b"), looks := false }, kinds := [], alts := [], laidByText := true, laidKinds := [.funcs, .funcs, .funcs], laidTests := true, laidLooks := .later }
def ControlStepSizesUptoCardSaid : Prop := Claim7.holds Tryd.pinned (.plain (OpenSpec.upto controlStepSizesSpec)) controlStepSizesUptoCard

/-- THE SECOND FORM's CARD OF 'armillarylaw13.ControlConstantField'. -/
def controlConstantFieldUptoCard : Claim7 := { stood := { row := controlConstantFieldUptoRow, standIns := [], harness := (true, "df57fb5c12df803e69751ed8ea4cc7256d80c362d2c79b1d4ce410e62cfaec4b"), looks := false }, kinds := [], alts := [], laidByText := true, laidKinds := [.funcs, .funcs, .funcs], laidTests := true, laidLooks := .later }
def ControlConstantFieldUptoCardSaid : Prop := Claim7.holds Tryd.pinned (.plain (OpenSpec.upto controlConstantFieldSpec)) controlConstantFieldUptoCard
end Rows
end Go.Proofs.YtgabeieooemfeaaDoor
