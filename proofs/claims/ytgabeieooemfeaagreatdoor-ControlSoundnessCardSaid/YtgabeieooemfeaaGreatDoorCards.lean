/-
  DERIVED. GIVEN WITH THE SEED: THE CARDS: each row of YtgabeieooemfeaaGreatDoorRows.lean that lists a variable, with what it lists TIED to the program's text (the seventh form; the later family's looks); each row that meets fmt, with fmt's text TOLD by the authors' own Lean function (tested against real Go, not proved from fmt's source: count such statements apart). THE CARD IS WHAT COUNTS. Prove the row's statement (the work); the ties are given (YtgabeieooemfeaaGreatDoorTie.lean); close each card by the builder's one call (the guide's Derived/Test/ToyasCard.lean, 'card_holds'). Laid BY PROGRAM, IN A SANDBOX (cutbox-door.mjs). By AI agents, Wed Nov 11 2026. No macro, syntax, notation, axiom, sorry.
-/
import Derived.Test.YtgabeieooemfeaaGreatDoorRows
import GoSem.ClaimSeven
namespace Go.Proofs.YtgabeieooemfeaaGreatDoor
namespace Rows

/-- THE TIED CARD OF 'armillarylaw13.ControlMatchesReference'. -/
def controlMatchesReferenceCard : Claim7 := { stood := { row := controlMatchesReferenceRow, standIns := [], harness := (true, "d12586ffa8c02b94c6bece2044922b5403fe988117127f833b6f71b8fe3d6a27"), looks := false }, kinds := [], alts := [], laidByText := true, laidKinds := [.funcs, .funcs, .funcs], laidTests := true, laidLooks := .later }
def ControlMatchesReferenceCardSaid : Prop := Claim7.holds Tryz.pinned (.plain (OpenSpec.ofChange controlMatchesReferenceSpec)) controlMatchesReferenceCard

/-- THE TIED CARD OF 'armillarylaw13.ControlAdvanceMatchesReference'. -/
def controlAdvanceMatchesReferenceCard : Claim7 := { stood := { row := controlAdvanceMatchesReferenceRow, standIns := [], harness := (true, "d12586ffa8c02b94c6bece2044922b5403fe988117127f833b6f71b8fe3d6a27"), looks := false }, kinds := [], alts := [], laidByText := true, laidKinds := [.funcs, .funcs, .funcs], laidTests := true, laidLooks := .later }
def ControlAdvanceMatchesReferenceCardSaid : Prop := Claim7.holds Tryz.pinned (.plain (OpenSpec.ofChange controlAdvanceMatchesReferenceSpec)) controlAdvanceMatchesReferenceCard

/-- THE TIED CARD OF 'armillarylaw13.ControlSoundness'. -/
def controlSoundnessCard : Claim7 := { stood := { row := controlSoundnessRow, standIns := [], harness := (true, "d12586ffa8c02b94c6bece2044922b5403fe988117127f833b6f71b8fe3d6a27"), looks := false }, kinds := [], alts := [], laidByText := true, laidKinds := [.funcs, .funcs, .funcs], laidTests := true, laidLooks := .later }
def ControlSoundnessCardSaid : Prop := Claim7.holds Tryz.pinned (.plain (OpenSpec.ofChange controlSoundnessSpec)) controlSoundnessCard

/-- THE TIED CARD OF 'armillarylaw13.ControlGreediness'. -/
def controlGreedinessCard : Claim7 := { stood := { row := controlGreedinessRow, standIns := [], harness := (true, "d12586ffa8c02b94c6bece2044922b5403fe988117127f833b6f71b8fe3d6a27"), looks := false }, kinds := [], alts := [], laidByText := true, laidKinds := [.funcs, .funcs, .funcs], laidTests := true, laidLooks := .later }
def ControlGreedinessCardSaid : Prop := Claim7.holds Tryz.pinned (.plain (OpenSpec.ofChange controlGreedinessSpec)) controlGreedinessCard

/-- THE TIED CARD OF 'armillarylaw13.ControlMonotonicity'. -/
def controlMonotonicityCard : Claim7 := { stood := { row := controlMonotonicityRow, standIns := [], harness := (true, "d12586ffa8c02b94c6bece2044922b5403fe988117127f833b6f71b8fe3d6a27"), looks := false }, kinds := [], alts := [], laidByText := true, laidKinds := [.funcs, .funcs, .funcs], laidTests := true, laidLooks := .later }
def ControlMonotonicityCardSaid : Prop := Claim7.holds Tryz.pinned (.plain (OpenSpec.ofChange controlMonotonicitySpec)) controlMonotonicityCard

/-- THE TIED CARD OF 'armillarylaw13.ControlRepeat'. -/
def controlRepeatCard : Claim7 := { stood := { row := controlRepeatRow, standIns := [], harness := (true, "d12586ffa8c02b94c6bece2044922b5403fe988117127f833b6f71b8fe3d6a27"), looks := false }, kinds := [], alts := [], laidByText := true, laidKinds := [.funcs, .funcs, .funcs], laidTests := true, laidLooks := .later }
def ControlRepeatCardSaid : Prop := Claim7.holds Tryz.pinned (.plain (OpenSpec.ofChange controlRepeatSpec)) controlRepeatCard

/-- THE SECOND FORM's CARD OF 'armillarylaw13.ControlMatchesReference'. -/
def controlMatchesReferenceUptoCard : Claim7 := { stood := { row := controlMatchesReferenceUptoRow, standIns := [], harness := (true, "d12586ffa8c02b94c6bece2044922b5403fe988117127f833b6f71b8fe3d6a27"), looks := false }, kinds := [], alts := [], laidByText := true, laidKinds := [.funcs, .funcs, .funcs], laidTests := true, laidLooks := .later }
def ControlMatchesReferenceUptoCardSaid : Prop := Claim7.holds Tryz.pinned (.plain (OpenSpec.upto controlMatchesReferenceSpec)) controlMatchesReferenceUptoCard

/-- THE SECOND FORM's CARD OF 'armillarylaw13.ControlAdvanceMatchesReference'. -/
def controlAdvanceMatchesReferenceUptoCard : Claim7 := { stood := { row := controlAdvanceMatchesReferenceUptoRow, standIns := [], harness := (true, "d12586ffa8c02b94c6bece2044922b5403fe988117127f833b6f71b8fe3d6a27"), looks := false }, kinds := [], alts := [], laidByText := true, laidKinds := [.funcs, .funcs, .funcs], laidTests := true, laidLooks := .later }
def ControlAdvanceMatchesReferenceUptoCardSaid : Prop := Claim7.holds Tryz.pinned (.plain (OpenSpec.upto controlAdvanceMatchesReferenceSpec)) controlAdvanceMatchesReferenceUptoCard

/-- THE SECOND FORM's CARD OF 'armillarylaw13.ControlSoundness'. -/
def controlSoundnessUptoCard : Claim7 := { stood := { row := controlSoundnessUptoRow, standIns := [], harness := (true, "d12586ffa8c02b94c6bece2044922b5403fe988117127f833b6f71b8fe3d6a27"), looks := false }, kinds := [], alts := [], laidByText := true, laidKinds := [.funcs, .funcs, .funcs], laidTests := true, laidLooks := .later }
def ControlSoundnessUptoCardSaid : Prop := Claim7.holds Tryz.pinned (.plain (OpenSpec.upto controlSoundnessSpec)) controlSoundnessUptoCard

/-- THE SECOND FORM's CARD OF 'armillarylaw13.ControlGreediness'. -/
def controlGreedinessUptoCard : Claim7 := { stood := { row := controlGreedinessUptoRow, standIns := [], harness := (true, "d12586ffa8c02b94c6bece2044922b5403fe988117127f833b6f71b8fe3d6a27"), looks := false }, kinds := [], alts := [], laidByText := true, laidKinds := [.funcs, .funcs, .funcs], laidTests := true, laidLooks := .later }
def ControlGreedinessUptoCardSaid : Prop := Claim7.holds Tryz.pinned (.plain (OpenSpec.upto controlGreedinessSpec)) controlGreedinessUptoCard

/-- THE SECOND FORM's CARD OF 'armillarylaw13.ControlMonotonicity'. -/
def controlMonotonicityUptoCard : Claim7 := { stood := { row := controlMonotonicityUptoRow, standIns := [], harness := (true, "d12586ffa8c02b94c6bece2044922b5403fe988117127f833b6f71b8fe3d6a27"), looks := false }, kinds := [], alts := [], laidByText := true, laidKinds := [.funcs, .funcs, .funcs], laidTests := true, laidLooks := .later }
def ControlMonotonicityUptoCardSaid : Prop := Claim7.holds Tryz.pinned (.plain (OpenSpec.upto controlMonotonicitySpec)) controlMonotonicityUptoCard

/-- THE SECOND FORM's CARD OF 'armillarylaw13.ControlRepeat'. -/
def controlRepeatUptoCard : Claim7 := { stood := { row := controlRepeatUptoRow, standIns := [], harness := (true, "d12586ffa8c02b94c6bece2044922b5403fe988117127f833b6f71b8fe3d6a27"), looks := false }, kinds := [], alts := [], laidByText := true, laidKinds := [.funcs, .funcs, .funcs], laidTests := true, laidLooks := .later }
def ControlRepeatUptoCardSaid : Prop := Claim7.holds Tryz.pinned (.plain (OpenSpec.upto controlRepeatSpec)) controlRepeatUptoCard
end Rows
end Go.Proofs.YtgabeieooemfeaaGreatDoor
