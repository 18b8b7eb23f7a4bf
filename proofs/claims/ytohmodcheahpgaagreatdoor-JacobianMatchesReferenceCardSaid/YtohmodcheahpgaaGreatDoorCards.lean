/-
  DERIVED. GIVEN WITH THE SEED: THE CARDS: each row of YtohmodcheahpgaaGreatDoorRows.lean that lists a variable, with what it lists TIED to the program's text (the seventh form; the later family's looks); each row that meets fmt, with fmt's text TOLD by the authors' own Lean function (tested against real Go, not proved from fmt's source: count such statements apart). THE CARD IS WHAT COUNTS. Prove the row's statement (the work); the ties are given (YtohmodcheahpgaaGreatDoorTie.lean); close each card by the builder's one call (the guide's Derived/Test/ToyasCard.lean, 'card_holds'). Laid BY PROGRAM, IN A SANDBOX (cutbox-door.mjs). By AI agents, Wed Nov 11 2026. No macro, syntax, notation, axiom, sorry.
-/
import Derived.Test.YtohmodcheahpgaaGreatDoorRows
import GoSem.ClaimSeven
namespace Go.Proofs.YtohmodcheahpgaaGreatDoor
namespace Rows

/-- THE TIED CARD OF 'armillarylaw10.JacobianMatchesReference'. -/
def jacobianMatchesReferenceCard : Claim7 := { stood := { row := jacobianMatchesReferenceRow, standIns := [], harness := (true, "37c371438d398ce3373c566ff74e317bde467afb2c008d9ffab92aa84f4cdff4"), looks := false }, kinds := [], alts := [], laidByText := true, laidKinds := [.funcs, .funcs], laidTests := true, laidLooks := .later }
def JacobianMatchesReferenceCardSaid : Prop := Claim7.holds Tryz.pinned (.plain (OpenSpec.ofChange jacobianMatchesReferenceSpec)) jacobianMatchesReferenceCard

/-- THE SECOND FORM's CARD OF 'armillarylaw10.JacobianMatchesReference'. -/
def jacobianMatchesReferenceUptoCard : Claim7 := { stood := { row := jacobianMatchesReferenceUptoRow, standIns := [], harness := (true, "37c371438d398ce3373c566ff74e317bde467afb2c008d9ffab92aa84f4cdff4"), looks := false }, kinds := [], alts := [], laidByText := true, laidKinds := [.funcs, .funcs], laidTests := true, laidLooks := .later }
def JacobianMatchesReferenceUptoCardSaid : Prop := Claim7.holds Tryz.pinned (.plain (OpenSpec.upto jacobianMatchesReferenceSpec)) jacobianMatchesReferenceUptoCard
end Rows
end Go.Proofs.YtohmodcheahpgaaGreatDoor
