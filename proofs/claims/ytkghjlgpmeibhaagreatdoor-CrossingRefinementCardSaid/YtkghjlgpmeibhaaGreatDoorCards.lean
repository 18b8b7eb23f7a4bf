/-
  DERIVED. GIVEN WITH THE SEED: THE CARDS: each row of YtkghjlgpmeibhaaGreatDoorRows.lean that lists a variable, with what it lists TIED to the program's text (the seventh form; the later family's looks); each row that meets fmt, with fmt's text TOLD by the authors' own Lean function (tested against real Go, not proved from fmt's source: count such statements apart). THE CARD IS WHAT COUNTS. Prove the row's statement (the work); the ties are given (YtkghjlgpmeibhaaGreatDoorTie.lean); close each card by the builder's one call (the guide's Derived/Test/ToyasCard.lean, 'card_holds'). Laid BY PROGRAM, IN A SANDBOX (cutbox-door.mjs). By AI agents, Wed Nov 11 2026. No macro, syntax, notation, axiom, sorry.
-/
import Derived.Test.YtkghjlgpmeibhaaGreatDoorRows
import GoSem.ClaimSeven
namespace Go.Proofs.YtkghjlgpmeibhaaGreatDoor
namespace Rows

/-- THE TIED CARD OF 'armillarylaw16.CrossingMatchesReference'. -/
def crossingMatchesReferenceCard : Claim7 := { stood := { row := crossingMatchesReferenceRow, standIns := [], harness := (true, "c2b2307aef978d0bc4e5e9c34df894c6cea992613c063eaaec4e0c7145de29c1"), looks := true }, kinds := [], alts := [], laidByText := true, laidKinds := [.funcs, .funcs], laidTests := true, laidLooks := .later }
def CrossingMatchesReferenceCardSaid : Prop := Claim7.holds Tryz.pinned (.plain (OpenSpec.ofChange crossingMatchesReferenceSpec)) crossingMatchesReferenceCard

/-- THE TIED CARD OF 'armillarylaw16.CrossingFindsLinearCrossings'. -/
def crossingFindsLinearCrossingsCard : Claim7 := { stood := { row := crossingFindsLinearCrossingsRow, standIns := [], harness := (true, "c2b2307aef978d0bc4e5e9c34df894c6cea992613c063eaaec4e0c7145de29c1"), looks := true }, kinds := [], alts := [], laidByText := true, laidKinds := [.funcs, .funcs], laidTests := true, laidLooks := .later }
def CrossingFindsLinearCrossingsCardSaid : Prop := Claim7.holds Tryz.pinned (.plain (OpenSpec.ofChange crossingFindsLinearCrossingsSpec)) crossingFindsLinearCrossingsCard

/-- THE TIED CARD OF 'armillarylaw16.CrossingFindsTimeEvents'. -/
def crossingFindsTimeEventsCard : Claim7 := { stood := { row := crossingFindsTimeEventsRow, standIns := [], harness := (true, "c2b2307aef978d0bc4e5e9c34df894c6cea992613c063eaaec4e0c7145de29c1"), looks := true }, kinds := [], alts := [], laidByText := true, laidKinds := [.funcs, .funcs], laidTests := true, laidLooks := .later }
def CrossingFindsTimeEventsCardSaid : Prop := Claim7.holds Tryz.pinned (.plain (OpenSpec.ofChange crossingFindsTimeEventsSpec)) crossingFindsTimeEventsCard

/-- THE TIED CARD OF 'armillarylaw16.CrossingStructure'. -/
def crossingStructureCard : Claim7 := { stood := { row := crossingStructureRow, standIns := [], harness := (true, "c2b2307aef978d0bc4e5e9c34df894c6cea992613c063eaaec4e0c7145de29c1"), looks := true }, kinds := [], alts := [], laidByText := true, laidKinds := [.funcs, .funcs], laidTests := true, laidLooks := .later }
def CrossingStructureCardSaid : Prop := Claim7.holds Tryz.pinned (.plain (OpenSpec.ofChange crossingStructureSpec)) crossingStructureCard

/-- THE TIED CARD OF 'armillarylaw16.CrossingDefiniteSign'. -/
def crossingDefiniteSignCard : Claim7 := { stood := { row := crossingDefiniteSignRow, standIns := [], harness := (true, "c2b2307aef978d0bc4e5e9c34df894c6cea992613c063eaaec4e0c7145de29c1"), looks := true }, kinds := [], alts := [], laidByText := true, laidKinds := [.funcs, .funcs], laidTests := true, laidLooks := .later }
def CrossingDefiniteSignCardSaid : Prop := Claim7.holds Tryz.pinned (.plain (OpenSpec.ofChange crossingDefiniteSignSpec)) crossingDefiniteSignCard

/-- THE TIED CARD OF 'armillarylaw16.CrossingRefinement'. -/
def crossingRefinementCard : Claim7 := { stood := { row := crossingRefinementRow, standIns := [], harness := (true, "c2b2307aef978d0bc4e5e9c34df894c6cea992613c063eaaec4e0c7145de29c1"), looks := true }, kinds := [], alts := [], laidByText := true, laidKinds := [.funcs, .funcs], laidTests := true, laidLooks := .later }
def CrossingRefinementCardSaid : Prop := Claim7.holds Tryz.pinned (.plain (OpenSpec.ofChange crossingRefinementSpec)) crossingRefinementCard

/-- THE TIED CARD OF 'armillarylaw16.CrossingReverse'. -/
def crossingReverseCard : Claim7 := { stood := { row := crossingReverseRow, standIns := [], harness := (true, "c2b2307aef978d0bc4e5e9c34df894c6cea992613c063eaaec4e0c7145de29c1"), looks := true }, kinds := [], alts := [], laidByText := true, laidKinds := [.funcs, .funcs], laidTests := true, laidLooks := .later }
def CrossingReverseCardSaid : Prop := Claim7.holds Tryz.pinned (.plain (OpenSpec.ofChange crossingReverseSpec)) crossingReverseCard

/-- THE TIED CARD OF 'armillarylaw16.CrossingMonotone'. -/
def crossingMonotoneCard : Claim7 := { stood := { row := crossingMonotoneRow, standIns := [], harness := (true, "c2b2307aef978d0bc4e5e9c34df894c6cea992613c063eaaec4e0c7145de29c1"), looks := true }, kinds := [], alts := [], laidByText := true, laidKinds := [.funcs, .funcs], laidTests := true, laidLooks := .later }
def CrossingMonotoneCardSaid : Prop := Claim7.holds Tryz.pinned (.plain (OpenSpec.ofChange crossingMonotoneSpec)) crossingMonotoneCard

/-- THE TIED CARD OF 'armillarylaw24.ManeuverMatchesReference'. -/
def maneuverMatchesReferenceCard : Claim7 := { stood := { row := maneuverMatchesReferenceRow, standIns := [], harness := (true, "c2b2307aef978d0bc4e5e9c34df894c6cea992613c063eaaec4e0c7145de29c1"), looks := true }, kinds := [], alts := [], laidByText := true, laidKinds := [.funcs, .funcs, .funcs], laidTests := true, laidLooks := .later }
def ManeuverMatchesReferenceCardSaid : Prop := Claim7.holds Tryz.pinned (.plain (OpenSpec.ofChange maneuverMatchesReferenceSpec)) maneuverMatchesReferenceCard

/-- THE TIED CARD OF 'armillarylaw24.ManeuverWithoutBurns'. -/
def maneuverWithoutBurnsCard : Claim7 := { stood := { row := maneuverWithoutBurnsRow, standIns := [], harness := (true, "c2b2307aef978d0bc4e5e9c34df894c6cea992613c063eaaec4e0c7145de29c1"), looks := true }, kinds := [], alts := [], laidByText := true, laidKinds := [.funcs, .funcs, .funcs], laidTests := true, laidLooks := .later }
def ManeuverWithoutBurnsCardSaid : Prop := Claim7.holds Tryz.pinned (.plain (OpenSpec.ofChange maneuverWithoutBurnsSpec)) maneuverWithoutBurnsCard

/-- THE TIED CARD OF 'armillarylaw24.ManeuverEnclosesExactStates'. -/
def maneuverEnclosesExactStatesCard : Claim7 := { stood := { row := maneuverEnclosesExactStatesRow, standIns := [], harness := (true, "c2b2307aef978d0bc4e5e9c34df894c6cea992613c063eaaec4e0c7145de29c1"), looks := true }, kinds := [], alts := [], laidByText := true, laidKinds := [.funcs, .funcs, .funcs], laidTests := true, laidLooks := .later }
def ManeuverEnclosesExactStatesCardSaid : Prop := Claim7.holds Tryz.pinned (.plain (OpenSpec.ofChange maneuverEnclosesExactStatesSpec)) maneuverEnclosesExactStatesCard

/-- THE TIED CARD OF 'armillarylaw24.ManeuverCoversHorizon'. -/
def maneuverCoversHorizonCard : Claim7 := { stood := { row := maneuverCoversHorizonRow, standIns := [], harness := (true, "c2b2307aef978d0bc4e5e9c34df894c6cea992613c063eaaec4e0c7145de29c1"), looks := true }, kinds := [], alts := [], laidByText := true, laidKinds := [.funcs, .funcs, .funcs], laidTests := true, laidLooks := .later }
def ManeuverCoversHorizonCardSaid : Prop := Claim7.holds Tryz.pinned (.plain (OpenSpec.ofChange maneuverCoversHorizonSpec)) maneuverCoversHorizonCard

/-- THE SECOND FORM's CARD OF 'armillarylaw16.CrossingMatchesReference'. -/
def crossingMatchesReferenceUptoCard : Claim7 := { stood := { row := crossingMatchesReferenceUptoRow, standIns := [], harness := (true, "c2b2307aef978d0bc4e5e9c34df894c6cea992613c063eaaec4e0c7145de29c1"), looks := true }, kinds := [], alts := [], laidByText := true, laidKinds := [.funcs, .funcs], laidTests := true, laidLooks := .later }
def CrossingMatchesReferenceUptoCardSaid : Prop := Claim7.holds Tryz.pinned (.plain (OpenSpec.upto crossingMatchesReferenceSpec)) crossingMatchesReferenceUptoCard

/-- THE SECOND FORM's CARD OF 'armillarylaw16.CrossingFindsLinearCrossings'. -/
def crossingFindsLinearCrossingsUptoCard : Claim7 := { stood := { row := crossingFindsLinearCrossingsUptoRow, standIns := [], harness := (true, "c2b2307aef978d0bc4e5e9c34df894c6cea992613c063eaaec4e0c7145de29c1"), looks := true }, kinds := [], alts := [], laidByText := true, laidKinds := [.funcs, .funcs], laidTests := true, laidLooks := .later }
def CrossingFindsLinearCrossingsUptoCardSaid : Prop := Claim7.holds Tryz.pinned (.plain (OpenSpec.upto crossingFindsLinearCrossingsSpec)) crossingFindsLinearCrossingsUptoCard

/-- THE SECOND FORM's CARD OF 'armillarylaw16.CrossingFindsTimeEvents'. -/
def crossingFindsTimeEventsUptoCard : Claim7 := { stood := { row := crossingFindsTimeEventsUptoRow, standIns := [], harness := (true, "c2b2307aef978d0bc4e5e9c34df894c6cea992613c063eaaec4e0c7145de29c1"), looks := true }, kinds := [], alts := [], laidByText := true, laidKinds := [.funcs, .funcs], laidTests := true, laidLooks := .later }
def CrossingFindsTimeEventsUptoCardSaid : Prop := Claim7.holds Tryz.pinned (.plain (OpenSpec.upto crossingFindsTimeEventsSpec)) crossingFindsTimeEventsUptoCard

/-- THE SECOND FORM's CARD OF 'armillarylaw16.CrossingStructure'. -/
def crossingStructureUptoCard : Claim7 := { stood := { row := crossingStructureUptoRow, standIns := [], harness := (true, "c2b2307aef978d0bc4e5e9c34df894c6cea992613c063eaaec4e0c7145de29c1"), looks := true }, kinds := [], alts := [], laidByText := true, laidKinds := [.funcs, .funcs], laidTests := true, laidLooks := .later }
def CrossingStructureUptoCardSaid : Prop := Claim7.holds Tryz.pinned (.plain (OpenSpec.upto crossingStructureSpec)) crossingStructureUptoCard

/-- THE SECOND FORM's CARD OF 'armillarylaw16.CrossingDefiniteSign'. -/
def crossingDefiniteSignUptoCard : Claim7 := { stood := { row := crossingDefiniteSignUptoRow, standIns := [], harness := (true, "c2b2307aef978d0bc4e5e9c34df894c6cea992613c063eaaec4e0c7145de29c1"), looks := true }, kinds := [], alts := [], laidByText := true, laidKinds := [.funcs, .funcs], laidTests := true, laidLooks := .later }
def CrossingDefiniteSignUptoCardSaid : Prop := Claim7.holds Tryz.pinned (.plain (OpenSpec.upto crossingDefiniteSignSpec)) crossingDefiniteSignUptoCard

/-- THE SECOND FORM's CARD OF 'armillarylaw16.CrossingRefinement'. -/
def crossingRefinementUptoCard : Claim7 := { stood := { row := crossingRefinementUptoRow, standIns := [], harness := (true, "c2b2307aef978d0bc4e5e9c34df894c6cea992613c063eaaec4e0c7145de29c1"), looks := true }, kinds := [], alts := [], laidByText := true, laidKinds := [.funcs, .funcs], laidTests := true, laidLooks := .later }
def CrossingRefinementUptoCardSaid : Prop := Claim7.holds Tryz.pinned (.plain (OpenSpec.upto crossingRefinementSpec)) crossingRefinementUptoCard

/-- THE SECOND FORM's CARD OF 'armillarylaw16.CrossingReverse'. -/
def crossingReverseUptoCard : Claim7 := { stood := { row := crossingReverseUptoRow, standIns := [], harness := (true, "c2b2307aef978d0bc4e5e9c34df894c6cea992613c063eaaec4e0c7145de29c1"), looks := true }, kinds := [], alts := [], laidByText := true, laidKinds := [.funcs, .funcs], laidTests := true, laidLooks := .later }
def CrossingReverseUptoCardSaid : Prop := Claim7.holds Tryz.pinned (.plain (OpenSpec.upto crossingReverseSpec)) crossingReverseUptoCard

/-- THE SECOND FORM's CARD OF 'armillarylaw16.CrossingMonotone'. -/
def crossingMonotoneUptoCard : Claim7 := { stood := { row := crossingMonotoneUptoRow, standIns := [], harness := (true, "c2b2307aef978d0bc4e5e9c34df894c6cea992613c063eaaec4e0c7145de29c1"), looks := true }, kinds := [], alts := [], laidByText := true, laidKinds := [.funcs, .funcs], laidTests := true, laidLooks := .later }
def CrossingMonotoneUptoCardSaid : Prop := Claim7.holds Tryz.pinned (.plain (OpenSpec.upto crossingMonotoneSpec)) crossingMonotoneUptoCard

/-- THE SECOND FORM's CARD OF 'armillarylaw24.ManeuverMatchesReference'. -/
def maneuverMatchesReferenceUptoCard : Claim7 := { stood := { row := maneuverMatchesReferenceUptoRow, standIns := [], harness := (true, "c2b2307aef978d0bc4e5e9c34df894c6cea992613c063eaaec4e0c7145de29c1"), looks := true }, kinds := [], alts := [], laidByText := true, laidKinds := [.funcs, .funcs, .funcs], laidTests := true, laidLooks := .later }
def ManeuverMatchesReferenceUptoCardSaid : Prop := Claim7.holds Tryz.pinned (.plain (OpenSpec.upto maneuverMatchesReferenceSpec)) maneuverMatchesReferenceUptoCard

/-- THE SECOND FORM's CARD OF 'armillarylaw24.ManeuverWithoutBurns'. -/
def maneuverWithoutBurnsUptoCard : Claim7 := { stood := { row := maneuverWithoutBurnsUptoRow, standIns := [], harness := (true, "c2b2307aef978d0bc4e5e9c34df894c6cea992613c063eaaec4e0c7145de29c1"), looks := true }, kinds := [], alts := [], laidByText := true, laidKinds := [.funcs, .funcs, .funcs], laidTests := true, laidLooks := .later }
def ManeuverWithoutBurnsUptoCardSaid : Prop := Claim7.holds Tryz.pinned (.plain (OpenSpec.upto maneuverWithoutBurnsSpec)) maneuverWithoutBurnsUptoCard

/-- THE SECOND FORM's CARD OF 'armillarylaw24.ManeuverEnclosesExactStates'. -/
def maneuverEnclosesExactStatesUptoCard : Claim7 := { stood := { row := maneuverEnclosesExactStatesUptoRow, standIns := [], harness := (true, "c2b2307aef978d0bc4e5e9c34df894c6cea992613c063eaaec4e0c7145de29c1"), looks := true }, kinds := [], alts := [], laidByText := true, laidKinds := [.funcs, .funcs, .funcs], laidTests := true, laidLooks := .later }
def ManeuverEnclosesExactStatesUptoCardSaid : Prop := Claim7.holds Tryz.pinned (.plain (OpenSpec.upto maneuverEnclosesExactStatesSpec)) maneuverEnclosesExactStatesUptoCard

/-- THE SECOND FORM's CARD OF 'armillarylaw24.ManeuverCoversHorizon'. -/
def maneuverCoversHorizonUptoCard : Claim7 := { stood := { row := maneuverCoversHorizonUptoRow, standIns := [], harness := (true, "c2b2307aef978d0bc4e5e9c34df894c6cea992613c063eaaec4e0c7145de29c1"), looks := true }, kinds := [], alts := [], laidByText := true, laidKinds := [.funcs, .funcs, .funcs], laidTests := true, laidLooks := .later }
def ManeuverCoversHorizonUptoCardSaid : Prop := Claim7.holds Tryz.pinned (.plain (OpenSpec.upto maneuverCoversHorizonSpec)) maneuverCoversHorizonUptoCard
end Rows
end Go.Proofs.YtkghjlgpmeibhaaGreatDoor
