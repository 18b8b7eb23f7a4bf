/-
  DERIVED. GIVEN WITH THE SEED: THE CARDS: each row of YtfjjckepnkkgjaaGreatDoorRows.lean that lists a variable, with what it lists TIED to the program's text (the seventh form; the later family's looks); each row that meets fmt, with fmt's text TOLD by the authors' own Lean function (tested against real Go, not proved from fmt's source: count such statements apart). THE CARD IS WHAT COUNTS. Prove the row's statement (the work); the ties are given (YtfjjckepnkkgjaaGreatDoorTie.lean); close each card by the builder's one call (the guide's Derived/Test/ToyasCard.lean, 'card_holds'). Laid BY PROGRAM, IN A SANDBOX (cutbox-door.mjs). By AI agents, Wed Nov 11 2026. No macro, syntax, notation, axiom, sorry.
-/
import Derived.Test.YtfjjckepnkkgjaaGreatDoorRows
import GoSem.ClaimSeven
namespace Go.Proofs.YtfjjckepnkkgjaaGreatDoor
namespace Rows

/-- THE TIED CARD OF 'armillarylaw14.FlowMatchesReference'. -/
def flowMatchesReferenceCard : Claim7 := { stood := { row := flowMatchesReferenceRow, standIns := [], harness := (true, "86a0bf364b3697ffcd91e917009c82fdbe1b970b8ec4ecc46e57f09cfc38fabb"), looks := true }, kinds := [], alts := [], laidByText := true, laidKinds := [.funcs, .funcs, .funcs], laidTests := true, laidLooks := .later }
def FlowMatchesReferenceCardSaid : Prop := Claim7.holds Tryz.pinned (.plain (OpenSpec.ofChange flowMatchesReferenceSpec)) flowMatchesReferenceCard

/-- THE TIED CARD OF 'armillarylaw14.FlowStructure'. -/
def flowStructureCard : Claim7 := { stood := { row := flowStructureRow, standIns := [], harness := (true, "86a0bf364b3697ffcd91e917009c82fdbe1b970b8ec4ecc46e57f09cfc38fabb"), looks := true }, kinds := [], alts := [], laidByText := true, laidKinds := [.funcs, .funcs, .funcs], laidTests := true, laidLooks := .later }
def FlowStructureCardSaid : Prop := Claim7.holds Tryz.pinned (.plain (OpenSpec.ofChange flowStructureSpec)) flowStructureCard

/-- THE TIED CARD OF 'armillarylaw14.FlowSteadySolutions'. -/
def flowSteadySolutionsCard : Claim7 := { stood := { row := flowSteadySolutionsRow, standIns := [], harness := (true, "86a0bf364b3697ffcd91e917009c82fdbe1b970b8ec4ecc46e57f09cfc38fabb"), looks := true }, kinds := [], alts := [], laidByText := true, laidKinds := [.funcs, .funcs, .funcs], laidTests := true, laidLooks := .later }
def FlowSteadySolutionsCardSaid : Prop := Claim7.holds Tryz.pinned (.plain (OpenSpec.ofChange flowSteadySolutionsSpec)) flowSteadySolutionsCard

/-- THE TIED CARD OF 'armillarylaw14.FlowParabolas'. -/
def flowParabolasCard : Claim7 := { stood := { row := flowParabolasRow, standIns := [], harness := (true, "86a0bf364b3697ffcd91e917009c82fdbe1b970b8ec4ecc46e57f09cfc38fabb"), looks := true }, kinds := [], alts := [], laidByText := true, laidKinds := [.funcs, .funcs, .funcs], laidTests := true, laidLooks := .later }
def FlowParabolasCardSaid : Prop := Claim7.holds Tryz.pinned (.plain (OpenSpec.ofChange flowParabolasSpec)) flowParabolasCard

/-- THE TIED CARD OF 'armillarylaw14.FlowClock'. -/
def flowClockCard : Claim7 := { stood := { row := flowClockRow, standIns := [], harness := (true, "86a0bf364b3697ffcd91e917009c82fdbe1b970b8ec4ecc46e57f09cfc38fabb"), looks := true }, kinds := [], alts := [], laidByText := true, laidKinds := [.funcs, .funcs, .funcs], laidTests := true, laidLooks := .later }
def FlowClockCardSaid : Prop := Claim7.holds Tryz.pinned (.plain (OpenSpec.ofChange flowClockSpec)) flowClockCard

/-- THE TIED CARD OF 'armillarylaw14.FlowDuring'. -/
def flowDuringCard : Claim7 := { stood := { row := flowDuringRow, standIns := [], harness := (true, "86a0bf364b3697ffcd91e917009c82fdbe1b970b8ec4ecc46e57f09cfc38fabb"), looks := true }, kinds := [], alts := [], laidByText := true, laidKinds := [.funcs, .funcs, .funcs], laidTests := true, laidLooks := .later }
def FlowDuringCardSaid : Prop := Claim7.holds Tryz.pinned (.plain (OpenSpec.ofChange flowDuringSpec)) flowDuringCard

/-- THE TIED CARD OF 'armillarylaw14.FlowItems'. -/
def flowItemsCard : Claim7 := { stood := { row := flowItemsRow, standIns := [], harness := (true, "86a0bf364b3697ffcd91e917009c82fdbe1b970b8ec4ecc46e57f09cfc38fabb"), looks := true }, kinds := [], alts := [], laidByText := true, laidKinds := [.funcs, .funcs, .funcs], laidTests := true, laidLooks := .later }
def FlowItemsCardSaid : Prop := Claim7.holds Tryz.pinned (.plain (OpenSpec.ofChange flowItemsSpec)) flowItemsCard

/-- THE TIED CARD OF 'armillarylaw14.FlowErrors'. -/
def flowErrorsCard : Claim7 := { stood := { row := flowErrorsRow, standIns := [], harness := (true, "86a0bf364b3697ffcd91e917009c82fdbe1b970b8ec4ecc46e57f09cfc38fabb"), looks := true }, kinds := [], alts := [], laidByText := true, laidKinds := [.funcs, .funcs, .funcs], laidTests := true, laidLooks := .later }
def FlowErrorsCardSaid : Prop := Claim7.holds Tryz.pinned (.plain (OpenSpec.ofChange flowErrorsSpec)) flowErrorsCard

/-- THE TIED CARD OF 'armillarylaw25.CertificateOfFlow'. -/
def certificateOfFlowCard : Claim7 := { stood := { row := certificateOfFlowRow, standIns := [], harness := (true, "86a0bf364b3697ffcd91e917009c82fdbe1b970b8ec4ecc46e57f09cfc38fabb"), looks := true }, kinds := [], alts := [], laidByText := true, laidKinds := [.funcs, .funcs, .funcs], laidTests := true, laidLooks := .later }
def CertificateOfFlowCardSaid : Prop := Claim7.holds Tryz.pinned (.plain (OpenSpec.ofChange certificateOfFlowSpec)) certificateOfFlowCard

/-- THE SECOND FORM's CARD OF 'armillarylaw14.FlowMatchesReference'. -/
def flowMatchesReferenceUptoCard : Claim7 := { stood := { row := flowMatchesReferenceUptoRow, standIns := [], harness := (true, "86a0bf364b3697ffcd91e917009c82fdbe1b970b8ec4ecc46e57f09cfc38fabb"), looks := true }, kinds := [], alts := [], laidByText := true, laidKinds := [.funcs, .funcs, .funcs], laidTests := true, laidLooks := .later }
def FlowMatchesReferenceUptoCardSaid : Prop := Claim7.holds Tryz.pinned (.plain (OpenSpec.upto flowMatchesReferenceSpec)) flowMatchesReferenceUptoCard

/-- THE SECOND FORM's CARD OF 'armillarylaw14.FlowStructure'. -/
def flowStructureUptoCard : Claim7 := { stood := { row := flowStructureUptoRow, standIns := [], harness := (true, "86a0bf364b3697ffcd91e917009c82fdbe1b970b8ec4ecc46e57f09cfc38fabb"), looks := true }, kinds := [], alts := [], laidByText := true, laidKinds := [.funcs, .funcs, .funcs], laidTests := true, laidLooks := .later }
def FlowStructureUptoCardSaid : Prop := Claim7.holds Tryz.pinned (.plain (OpenSpec.upto flowStructureSpec)) flowStructureUptoCard

/-- THE SECOND FORM's CARD OF 'armillarylaw14.FlowSteadySolutions'. -/
def flowSteadySolutionsUptoCard : Claim7 := { stood := { row := flowSteadySolutionsUptoRow, standIns := [], harness := (true, "86a0bf364b3697ffcd91e917009c82fdbe1b970b8ec4ecc46e57f09cfc38fabb"), looks := true }, kinds := [], alts := [], laidByText := true, laidKinds := [.funcs, .funcs, .funcs], laidTests := true, laidLooks := .later }
def FlowSteadySolutionsUptoCardSaid : Prop := Claim7.holds Tryz.pinned (.plain (OpenSpec.upto flowSteadySolutionsSpec)) flowSteadySolutionsUptoCard

/-- THE SECOND FORM's CARD OF 'armillarylaw14.FlowParabolas'. -/
def flowParabolasUptoCard : Claim7 := { stood := { row := flowParabolasUptoRow, standIns := [], harness := (true, "86a0bf364b3697ffcd91e917009c82fdbe1b970b8ec4ecc46e57f09cfc38fabb"), looks := true }, kinds := [], alts := [], laidByText := true, laidKinds := [.funcs, .funcs, .funcs], laidTests := true, laidLooks := .later }
def FlowParabolasUptoCardSaid : Prop := Claim7.holds Tryz.pinned (.plain (OpenSpec.upto flowParabolasSpec)) flowParabolasUptoCard

/-- THE SECOND FORM's CARD OF 'armillarylaw14.FlowClock'. -/
def flowClockUptoCard : Claim7 := { stood := { row := flowClockUptoRow, standIns := [], harness := (true, "86a0bf364b3697ffcd91e917009c82fdbe1b970b8ec4ecc46e57f09cfc38fabb"), looks := true }, kinds := [], alts := [], laidByText := true, laidKinds := [.funcs, .funcs, .funcs], laidTests := true, laidLooks := .later }
def FlowClockUptoCardSaid : Prop := Claim7.holds Tryz.pinned (.plain (OpenSpec.upto flowClockSpec)) flowClockUptoCard

/-- THE SECOND FORM's CARD OF 'armillarylaw14.FlowDuring'. -/
def flowDuringUptoCard : Claim7 := { stood := { row := flowDuringUptoRow, standIns := [], harness := (true, "86a0bf364b3697ffcd91e917009c82fdbe1b970b8ec4ecc46e57f09cfc38fabb"), looks := true }, kinds := [], alts := [], laidByText := true, laidKinds := [.funcs, .funcs, .funcs], laidTests := true, laidLooks := .later }
def FlowDuringUptoCardSaid : Prop := Claim7.holds Tryz.pinned (.plain (OpenSpec.upto flowDuringSpec)) flowDuringUptoCard

/-- THE SECOND FORM's CARD OF 'armillarylaw14.FlowItems'. -/
def flowItemsUptoCard : Claim7 := { stood := { row := flowItemsUptoRow, standIns := [], harness := (true, "86a0bf364b3697ffcd91e917009c82fdbe1b970b8ec4ecc46e57f09cfc38fabb"), looks := true }, kinds := [], alts := [], laidByText := true, laidKinds := [.funcs, .funcs, .funcs], laidTests := true, laidLooks := .later }
def FlowItemsUptoCardSaid : Prop := Claim7.holds Tryz.pinned (.plain (OpenSpec.upto flowItemsSpec)) flowItemsUptoCard

/-- THE SECOND FORM's CARD OF 'armillarylaw14.FlowErrors'. -/
def flowErrorsUptoCard : Claim7 := { stood := { row := flowErrorsUptoRow, standIns := [], harness := (true, "86a0bf364b3697ffcd91e917009c82fdbe1b970b8ec4ecc46e57f09cfc38fabb"), looks := true }, kinds := [], alts := [], laidByText := true, laidKinds := [.funcs, .funcs, .funcs], laidTests := true, laidLooks := .later }
def FlowErrorsUptoCardSaid : Prop := Claim7.holds Tryz.pinned (.plain (OpenSpec.upto flowErrorsSpec)) flowErrorsUptoCard

/-- THE SECOND FORM's CARD OF 'armillarylaw25.CertificateOfFlow'. -/
def certificateOfFlowUptoCard : Claim7 := { stood := { row := certificateOfFlowUptoRow, standIns := [], harness := (true, "86a0bf364b3697ffcd91e917009c82fdbe1b970b8ec4ecc46e57f09cfc38fabb"), looks := true }, kinds := [], alts := [], laidByText := true, laidKinds := [.funcs, .funcs, .funcs], laidTests := true, laidLooks := .later }
def CertificateOfFlowUptoCardSaid : Prop := Claim7.holds Tryz.pinned (.plain (OpenSpec.upto certificateOfFlowSpec)) certificateOfFlowUptoCard
end Rows
end Go.Proofs.YtfjjckepnkkgjaaGreatDoor
