/-
  NARROWER THAN 'FOR EVERY INPUT', by the rows' own cells (each row's printed sentence says how): CrossingMatchesReference: laid · CrossingFindsLinearCrossings: laid · CrossingFindsTimeEvents: laid · CrossingStructure: laid · CrossingDefiniteSign: laid · CrossingRefinement: laid · CrossingReverse: laid · CrossingMonotone: laid · ManeuverMatchesReference: laid · ManeuverWithoutBurns: laid · ManeuverEnclosesExactStates: laid · ManeuverCoversHorizon: laid.
  DERIVED. THE GIVEN ROWS OF THIS SEAT. 12 by the template 'for every input the law returns true; each argument reads behind the call as it read before'; 0 by the template 'total and deterministic' (their statements: YtkghjlgpmeibhaaGreatDoorTotals.lean).
  GIVEN WITH THE SEED: the statements are not yours to turn. If you find one false, say at which input.
  Laid BY PROGRAM, IN A SANDBOX (cutbox-rows.mjs): the forced cells as the released guide's own fill.sh prints them over the translation 9a367fb4d59c59d9… (all of the seat's roots in one cut). By AI agents, Wed Nov 11 2026. No macro, syntax, notation, axiom, sorry.
-/
import Derived.Test.YtkghjlgpmeibhaaGreatDoorChecked
import GoSem.Claim
import GoSem.ClaimJoined
import GoSem.ClaimMapViews
import Derived.JoinedTies
import Derived.KernelRfl
namespace Go.Proofs.YtkghjlgpmeibhaaGreatDoor
/- THE CELL 'sum', in the pinned program and in every row, IS THE sha256 OF THE DUMP (.gsa) THAT YtkghjlgpmeibhaaGreatDoorProg.lean LOADS. Nothing in Lean hashes anything: it is a label: what it is worth is what the hold of that sum in a sandbox is worth. -/
noncomputable def Tryz.pinned : Pinned := { name := "ytkghjlgpmeibhaagreatdoor", sum := "9a367fb4d59c59d9897014e47adcf74199120400ff0a436ede051b1d5e3171ee", checked := Tryz.checked }
namespace Rows
def none {H : Type} : Left H := { results := [], args := [] }

/- WHAT THE LISTED PACKAGE-LEVEL VARIABLES READ AS WHEN THE CALL BEGINS. Each datum BY PROGRAM (the guide's laid-datum.mjs) off the statement by which the dump's own 'gosem.cut.vars' lays the variable. In a bare row this is a premise. The card (YtkghjlgpmeibhaaGreatDoorCards.lean) ties it to the program's text. -/
def laid_armillary_interval_products {H : Type} : DataW H := .iface "func table" (.agg [.agg [.agg [.iface "func" (.lit (.string [97, 114, 109, 105, 108, 108, 97, 114, 121, 47, 105, 110, 116, 101, 114, 118, 97, 108, 46, 104, 104])), .iface "func" (.lit (.string [97, 114, 109, 105, 108, 108, 97, 114, 121, 47, 105, 110, 116, 101, 114, 118, 97, 108, 46, 108, 108]))], .agg [.iface "func" (.lit (.string [97, 114, 109, 105, 108, 108, 97, 114, 121, 47, 105, 110, 116, 101, 114, 118, 97, 108, 46, 108, 104])), .iface "func" (.lit (.string [97, 114, 109, 105, 108, 108, 97, 114, 121, 47, 105, 110, 116, 101, 114, 118, 97, 108, 46, 108, 108]))], .agg [.iface "func" (.lit (.string [97, 114, 109, 105, 108, 108, 97, 114, 121, 47, 105, 110, 116, 101, 114, 118, 97, 108, 46, 108, 104])), .iface "func" (.lit (.string [97, 114, 109, 105, 108, 108, 97, 114, 121, 47, 105, 110, 116, 101, 114, 118, 97, 108, 46, 104, 108]))]], .agg [.agg [.iface "func" (.lit (.string [97, 114, 109, 105, 108, 108, 97, 114, 121, 47, 105, 110, 116, 101, 114, 118, 97, 108, 46, 104, 108])), .iface "func" (.lit (.string [97, 114, 109, 105, 108, 108, 97, 114, 121, 47, 105, 110, 116, 101, 114, 118, 97, 108, 46, 108, 108]))], .agg [.nil, .nil], .agg [.iface "func" (.lit (.string [97, 114, 109, 105, 108, 108, 97, 114, 121, 47, 105, 110, 116, 101, 114, 118, 97, 108, 46, 108, 104])), .iface "func" (.lit (.string [97, 114, 109, 105, 108, 108, 97, 114, 121, 47, 105, 110, 116, 101, 114, 118, 97, 108, 46, 104, 104]))]], .agg [.agg [.iface "func" (.lit (.string [97, 114, 109, 105, 108, 108, 97, 114, 121, 47, 105, 110, 116, 101, 114, 118, 97, 108, 46, 104, 108])), .iface "func" (.lit (.string [97, 114, 109, 105, 108, 108, 97, 114, 121, 47, 105, 110, 116, 101, 114, 118, 97, 108, 46, 108, 104]))], .agg [.iface "func" (.lit (.string [97, 114, 109, 105, 108, 108, 97, 114, 121, 47, 105, 110, 116, 101, 114, 118, 97, 108, 46, 104, 108])), .iface "func" (.lit (.string [97, 114, 109, 105, 108, 108, 97, 114, 121, 47, 105, 110, 116, 101, 114, 118, 97, 108, 46, 104, 104]))], .agg [.iface "func" (.lit (.string [97, 114, 109, 105, 108, 108, 97, 114, 121, 47, 105, 110, 116, 101, 114, 118, 97, 108, 46, 108, 108])), .iface "func" (.lit (.string [97, 114, 109, 105, 108, 108, 97, 114, 121, 47, 105, 110, 116, 101, 114, 118, 97, 108, 46, 104, 104]))]]])
def laid_armillary_interval_quotients {H : Type} : DataW H := .iface "func table" (.agg [.agg [.agg [.iface "func" (.lit (.string [97, 114, 109, 105, 108, 108, 97, 114, 121, 47, 105, 110, 116, 101, 114, 118, 97, 108, 46, 104, 108])), .iface "func" (.lit (.string [97, 114, 109, 105, 108, 108, 97, 114, 121, 47, 105, 110, 116, 101, 114, 118, 97, 108, 46, 108, 104]))], .agg [.iface "func" (.lit (.string [97, 114, 109, 105, 108, 108, 97, 114, 121, 47, 105, 110, 116, 101, 114, 118, 97, 108, 46, 108, 108])), .iface "func" (.lit (.string [97, 114, 109, 105, 108, 108, 97, 114, 121, 47, 105, 110, 116, 101, 114, 118, 97, 108, 46, 104, 104]))]], .agg [.agg [.iface "func" (.lit (.string [97, 114, 109, 105, 108, 108, 97, 114, 121, 47, 105, 110, 116, 101, 114, 118, 97, 108, 46, 104, 104])), .iface "func" (.lit (.string [97, 114, 109, 105, 108, 108, 97, 114, 121, 47, 105, 110, 116, 101, 114, 118, 97, 108, 46, 108, 104]))], .agg [.iface "func" (.lit (.string [97, 114, 109, 105, 108, 108, 97, 114, 121, 47, 105, 110, 116, 101, 114, 118, 97, 108, 46, 108, 108])), .iface "func" (.lit (.string [97, 114, 109, 105, 108, 108, 97, 114, 121, 47, 105, 110, 116, 101, 114, 118, 97, 108, 46, 104, 108]))]], .agg [.agg [.iface "func" (.lit (.string [97, 114, 109, 105, 108, 108, 97, 114, 121, 47, 105, 110, 116, 101, 114, 118, 97, 108, 46, 104, 104])), .iface "func" (.lit (.string [97, 114, 109, 105, 108, 108, 97, 114, 121, 47, 105, 110, 116, 101, 114, 118, 97, 108, 46, 108, 108]))], .agg [.iface "func" (.lit (.string [97, 114, 109, 105, 108, 108, 97, 114, 121, 47, 105, 110, 116, 101, 114, 118, 97, 108, 46, 108, 104])), .iface "func" (.lit (.string [97, 114, 109, 105, 108, 108, 97, 114, 121, 47, 105, 110, 116, 101, 114, 118, 97, 108, 46, 104, 108]))]]])
def laid_armillary_tape_ops {H : Type} : DataW H := .iface "func table" (.agg [.agg [.nil, .nil], .agg [.nil, .nil], .agg [.nil, .nil], .agg [.nil, .nil], .agg [.iface "func" (.lit (.string [97, 114, 109, 105, 108, 108, 97, 114, 121, 47, 105, 110, 116, 101, 114, 118, 97, 108, 46, 78, 101, 103])), .nil], .agg [.iface "func" (.lit (.string [97, 114, 109, 105, 108, 108, 97, 114, 121, 47, 105, 110, 116, 101, 114, 118, 97, 108, 46, 83, 113, 117, 97, 114, 101])), .nil], .agg [.iface "func" (.lit (.string [97, 114, 109, 105, 108, 108, 97, 114, 121, 47, 116, 97, 112, 101, 46, 114, 111, 111, 116])), .nil], .agg [.nil, .iface "func" (.lit (.string [97, 114, 109, 105, 108, 108, 97, 114, 121, 47, 105, 110, 116, 101, 114, 118, 97, 108, 46, 65, 100, 100]))], .agg [.nil, .iface "func" (.lit (.string [97, 114, 109, 105, 108, 108, 97, 114, 121, 47, 105, 110, 116, 101, 114, 118, 97, 108, 46, 83, 117, 98]))], .agg [.nil, .iface "func" (.lit (.string [97, 114, 109, 105, 108, 108, 97, 114, 121, 47, 105, 110, 116, 101, 114, 118, 97, 108, 46, 77, 117, 108]))], .agg [.nil, .iface "func" (.lit (.string [97, 114, 109, 105, 108, 108, 97, 114, 121, 47, 105, 110, 116, 101, 114, 118, 97, 108, 46, 68, 105, 118]))]])

/-- 'armillarylaw16.CrossingMatchesReference': WHATEVER THE INPUT: true; the input reads as it did. -/
def crossingMatchesReferenceSpec : ChangeSpec := { name := "crossingMatchesReference", fn := fun _ => fun
  | [d] => { results := [.lit (.bool true)], args := [d] }
  | _ => none }
def crossingMatchesReferenceRow : OpenClaim := { program := "ytkghjlgpmeibhaagreatdoor", sum := "9a367fb4d59c59d9897014e47adcf74199120400ff0a436ede051b1d5e3171ee", func := "armillary/armillarylaw16.CrossingMatchesReference", spec := "crossingMatchesReference", unfollowed := true, recurses := true, named := ["armillary/interval.products", "armillary/interval.quotients"], plainKeys := false, apart := false, laid := [("armillary/interval.products", laid_armillary_interval_products), ("armillary/interval.quotients", laid_armillary_interval_quotients)] }
def CrossingMatchesReferenceSaid : Prop := crossingMatchesReferenceRow.holds Tryz.pinned (OpenSpec.ofChange crossingMatchesReferenceSpec)

/-- ITS FALSE NEIGHBOUR: 'it returns false'. Refute it at one input. -/
def crossingMatchesReferenceWrong : ChangeSpec := { name := "crossingMatchesReference", fn := fun _ => fun
  | [d] => { results := [.lit (.bool false)], args := [d] }
  | _ => none }
def CrossingMatchesReferenceWrongFalsely : Prop := crossingMatchesReferenceRow.holds Tryz.pinned (OpenSpec.ofChange crossingMatchesReferenceWrong)

/-- 'armillarylaw16.CrossingFindsLinearCrossings': WHATEVER THE INPUT: true; the input reads as it did. -/
def crossingFindsLinearCrossingsSpec : ChangeSpec := { name := "crossingFindsLinearCrossings", fn := fun _ => fun
  | [d1, d2, d3, d4, d5, d6] => { results := [.lit (.bool true)], args := [d1, d2, d3, d4, d5, d6] }
  | _ => none }
def crossingFindsLinearCrossingsRow : OpenClaim := { program := "ytkghjlgpmeibhaagreatdoor", sum := "9a367fb4d59c59d9897014e47adcf74199120400ff0a436ede051b1d5e3171ee", func := "armillary/armillarylaw16.CrossingFindsLinearCrossings", spec := "crossingFindsLinearCrossings", unfollowed := true, recurses := true, named := ["armillary/interval.products", "armillary/interval.quotients"], plainKeys := false, apart := false, laid := [("armillary/interval.products", laid_armillary_interval_products), ("armillary/interval.quotients", laid_armillary_interval_quotients)] }
def CrossingFindsLinearCrossingsSaid : Prop := crossingFindsLinearCrossingsRow.holds Tryz.pinned (OpenSpec.ofChange crossingFindsLinearCrossingsSpec)

/-- ITS FALSE NEIGHBOUR: 'it returns false'. Refute it at one input. -/
def crossingFindsLinearCrossingsWrong : ChangeSpec := { name := "crossingFindsLinearCrossings", fn := fun _ => fun
  | [d1, d2, d3, d4, d5, d6] => { results := [.lit (.bool false)], args := [d1, d2, d3, d4, d5, d6] }
  | _ => none }
def CrossingFindsLinearCrossingsWrongFalsely : Prop := crossingFindsLinearCrossingsRow.holds Tryz.pinned (OpenSpec.ofChange crossingFindsLinearCrossingsWrong)

/-- 'armillarylaw16.CrossingFindsTimeEvents': WHATEVER THE INPUT: true; the input reads as it did. -/
def crossingFindsTimeEventsSpec : ChangeSpec := { name := "crossingFindsTimeEvents", fn := fun _ => fun
  | [d1, d2] => { results := [.lit (.bool true)], args := [d1, d2] }
  | _ => none }
def crossingFindsTimeEventsRow : OpenClaim := { program := "ytkghjlgpmeibhaagreatdoor", sum := "9a367fb4d59c59d9897014e47adcf74199120400ff0a436ede051b1d5e3171ee", func := "armillary/armillarylaw16.CrossingFindsTimeEvents", spec := "crossingFindsTimeEvents", unfollowed := true, recurses := true, named := ["armillary/interval.products", "armillary/interval.quotients"], plainKeys := false, apart := false, laid := [("armillary/interval.products", laid_armillary_interval_products), ("armillary/interval.quotients", laid_armillary_interval_quotients)] }
def CrossingFindsTimeEventsSaid : Prop := crossingFindsTimeEventsRow.holds Tryz.pinned (OpenSpec.ofChange crossingFindsTimeEventsSpec)

/-- ITS FALSE NEIGHBOUR: 'it returns false'. Refute it at one input. -/
def crossingFindsTimeEventsWrong : ChangeSpec := { name := "crossingFindsTimeEvents", fn := fun _ => fun
  | [d1, d2] => { results := [.lit (.bool false)], args := [d1, d2] }
  | _ => none }
def CrossingFindsTimeEventsWrongFalsely : Prop := crossingFindsTimeEventsRow.holds Tryz.pinned (OpenSpec.ofChange crossingFindsTimeEventsWrong)

/-- 'armillarylaw16.CrossingStructure': WHATEVER THE INPUT: true; the input reads as it did. -/
def crossingStructureSpec : ChangeSpec := { name := "crossingStructure", fn := fun _ => fun
  | [d] => { results := [.lit (.bool true)], args := [d] }
  | _ => none }
def crossingStructureRow : OpenClaim := { program := "ytkghjlgpmeibhaagreatdoor", sum := "9a367fb4d59c59d9897014e47adcf74199120400ff0a436ede051b1d5e3171ee", func := "armillary/armillarylaw16.CrossingStructure", spec := "crossingStructure", unfollowed := true, recurses := true, named := ["armillary/interval.products", "armillary/interval.quotients"], plainKeys := false, apart := false, laid := [("armillary/interval.products", laid_armillary_interval_products), ("armillary/interval.quotients", laid_armillary_interval_quotients)] }
def CrossingStructureSaid : Prop := crossingStructureRow.holds Tryz.pinned (OpenSpec.ofChange crossingStructureSpec)

/-- ITS FALSE NEIGHBOUR: 'it returns false'. Refute it at one input. -/
def crossingStructureWrong : ChangeSpec := { name := "crossingStructure", fn := fun _ => fun
  | [d] => { results := [.lit (.bool false)], args := [d] }
  | _ => none }
def CrossingStructureWrongFalsely : Prop := crossingStructureRow.holds Tryz.pinned (OpenSpec.ofChange crossingStructureWrong)

/-- 'armillarylaw16.CrossingDefiniteSign': WHATEVER THE INPUT: true; the input reads as it did. -/
def crossingDefiniteSignSpec : ChangeSpec := { name := "crossingDefiniteSign", fn := fun _ => fun
  | [d1, d2] => { results := [.lit (.bool true)], args := [d1, d2] }
  | _ => none }
def crossingDefiniteSignRow : OpenClaim := { program := "ytkghjlgpmeibhaagreatdoor", sum := "9a367fb4d59c59d9897014e47adcf74199120400ff0a436ede051b1d5e3171ee", func := "armillary/armillarylaw16.CrossingDefiniteSign", spec := "crossingDefiniteSign", unfollowed := true, recurses := true, named := ["armillary/interval.products", "armillary/interval.quotients"], plainKeys := false, apart := false, laid := [("armillary/interval.products", laid_armillary_interval_products), ("armillary/interval.quotients", laid_armillary_interval_quotients)] }
def CrossingDefiniteSignSaid : Prop := crossingDefiniteSignRow.holds Tryz.pinned (OpenSpec.ofChange crossingDefiniteSignSpec)

/-- ITS FALSE NEIGHBOUR: 'it returns false'. Refute it at one input. -/
def crossingDefiniteSignWrong : ChangeSpec := { name := "crossingDefiniteSign", fn := fun _ => fun
  | [d1, d2] => { results := [.lit (.bool false)], args := [d1, d2] }
  | _ => none }
def CrossingDefiniteSignWrongFalsely : Prop := crossingDefiniteSignRow.holds Tryz.pinned (OpenSpec.ofChange crossingDefiniteSignWrong)

/-- 'armillarylaw16.CrossingRefinement': WHATEVER THE INPUT: true; the input reads as it did. -/
def crossingRefinementSpec : ChangeSpec := { name := "crossingRefinement", fn := fun _ => fun
  | [d1, d2] => { results := [.lit (.bool true)], args := [d1, d2] }
  | _ => none }
def crossingRefinementRow : OpenClaim := { program := "ytkghjlgpmeibhaagreatdoor", sum := "9a367fb4d59c59d9897014e47adcf74199120400ff0a436ede051b1d5e3171ee", func := "armillary/armillarylaw16.CrossingRefinement", spec := "crossingRefinement", unfollowed := true, recurses := true, named := ["armillary/interval.products", "armillary/interval.quotients"], plainKeys := false, apart := false, laid := [("armillary/interval.products", laid_armillary_interval_products), ("armillary/interval.quotients", laid_armillary_interval_quotients)] }
def CrossingRefinementSaid : Prop := crossingRefinementRow.holds Tryz.pinned (OpenSpec.ofChange crossingRefinementSpec)

/-- ITS FALSE NEIGHBOUR: 'it returns false'. Refute it at one input. -/
def crossingRefinementWrong : ChangeSpec := { name := "crossingRefinement", fn := fun _ => fun
  | [d1, d2] => { results := [.lit (.bool false)], args := [d1, d2] }
  | _ => none }
def CrossingRefinementWrongFalsely : Prop := crossingRefinementRow.holds Tryz.pinned (OpenSpec.ofChange crossingRefinementWrong)

/-- 'armillarylaw16.CrossingReverse': WHATEVER THE INPUT: true; the input reads as it did. -/
def crossingReverseSpec : ChangeSpec := { name := "crossingReverse", fn := fun _ => fun
  | [d] => { results := [.lit (.bool true)], args := [d] }
  | _ => none }
def crossingReverseRow : OpenClaim := { program := "ytkghjlgpmeibhaagreatdoor", sum := "9a367fb4d59c59d9897014e47adcf74199120400ff0a436ede051b1d5e3171ee", func := "armillary/armillarylaw16.CrossingReverse", spec := "crossingReverse", unfollowed := true, recurses := true, named := ["armillary/interval.products", "armillary/interval.quotients"], plainKeys := false, apart := false, laid := [("armillary/interval.products", laid_armillary_interval_products), ("armillary/interval.quotients", laid_armillary_interval_quotients)] }
def CrossingReverseSaid : Prop := crossingReverseRow.holds Tryz.pinned (OpenSpec.ofChange crossingReverseSpec)

/-- ITS FALSE NEIGHBOUR: 'it returns false'. Refute it at one input. -/
def crossingReverseWrong : ChangeSpec := { name := "crossingReverse", fn := fun _ => fun
  | [d] => { results := [.lit (.bool false)], args := [d] }
  | _ => none }
def CrossingReverseWrongFalsely : Prop := crossingReverseRow.holds Tryz.pinned (OpenSpec.ofChange crossingReverseWrong)

/-- 'armillarylaw16.CrossingMonotone': WHATEVER THE INPUT: true; the input reads as it did. -/
def crossingMonotoneSpec : ChangeSpec := { name := "crossingMonotone", fn := fun _ => fun
  | [d1, d2, d3, d4, d5] => { results := [.lit (.bool true)], args := [d1, d2, d3, d4, d5] }
  | _ => none }
def crossingMonotoneRow : OpenClaim := { program := "ytkghjlgpmeibhaagreatdoor", sum := "9a367fb4d59c59d9897014e47adcf74199120400ff0a436ede051b1d5e3171ee", func := "armillary/armillarylaw16.CrossingMonotone", spec := "crossingMonotone", unfollowed := true, recurses := true, named := ["armillary/interval.products", "armillary/interval.quotients"], plainKeys := false, apart := false, laid := [("armillary/interval.products", laid_armillary_interval_products), ("armillary/interval.quotients", laid_armillary_interval_quotients)] }
def CrossingMonotoneSaid : Prop := crossingMonotoneRow.holds Tryz.pinned (OpenSpec.ofChange crossingMonotoneSpec)

/-- ITS FALSE NEIGHBOUR: 'it returns false'. Refute it at one input. -/
def crossingMonotoneWrong : ChangeSpec := { name := "crossingMonotone", fn := fun _ => fun
  | [d1, d2, d3, d4, d5] => { results := [.lit (.bool false)], args := [d1, d2, d3, d4, d5] }
  | _ => none }
def CrossingMonotoneWrongFalsely : Prop := crossingMonotoneRow.holds Tryz.pinned (OpenSpec.ofChange crossingMonotoneWrong)

/-- 'armillarylaw24.ManeuverMatchesReference': WHATEVER THE INPUT: true; the input reads as it did. -/
def maneuverMatchesReferenceSpec : ChangeSpec := { name := "maneuverMatchesReference", fn := fun _ => fun
  | [d1, d2, d3] => { results := [.lit (.bool true)], args := [d1, d2, d3] }
  | _ => none }
def maneuverMatchesReferenceRow : OpenClaim := { program := "ytkghjlgpmeibhaagreatdoor", sum := "9a367fb4d59c59d9897014e47adcf74199120400ff0a436ede051b1d5e3171ee", func := "armillary/armillarylaw24.ManeuverMatchesReference", spec := "maneuverMatchesReference", inPlace := ["internal/reflectlite.TypeOf"], unfollowed := true, recurses := true, named := ["armillary/tape.ops", "armillary/interval.products", "armillary/interval.quotients"], plainKeys := false, apart := false, laid := [("armillary/interval.products", laid_armillary_interval_products), ("armillary/interval.quotients", laid_armillary_interval_quotients), ("armillary/tape.ops", laid_armillary_tape_ops)] }
def ManeuverMatchesReferenceSaid : Prop := maneuverMatchesReferenceRow.holds Tryz.pinned (OpenSpec.ofChange maneuverMatchesReferenceSpec)

/-- ITS FALSE NEIGHBOUR: 'it returns false'. Refute it at one input. -/
def maneuverMatchesReferenceWrong : ChangeSpec := { name := "maneuverMatchesReference", fn := fun _ => fun
  | [d1, d2, d3] => { results := [.lit (.bool false)], args := [d1, d2, d3] }
  | _ => none }
def ManeuverMatchesReferenceWrongFalsely : Prop := maneuverMatchesReferenceRow.holds Tryz.pinned (OpenSpec.ofChange maneuverMatchesReferenceWrong)

/-- 'armillarylaw24.ManeuverWithoutBurns': WHATEVER THE INPUT: true; the input reads as it did. -/
def maneuverWithoutBurnsSpec : ChangeSpec := { name := "maneuverWithoutBurns", fn := fun _ => fun
  | [d] => { results := [.lit (.bool true)], args := [d] }
  | _ => none }
def maneuverWithoutBurnsRow : OpenClaim := { program := "ytkghjlgpmeibhaagreatdoor", sum := "9a367fb4d59c59d9897014e47adcf74199120400ff0a436ede051b1d5e3171ee", func := "armillary/armillarylaw24.ManeuverWithoutBurns", spec := "maneuverWithoutBurns", inPlace := ["internal/reflectlite.TypeOf"], unfollowed := true, recurses := true, named := ["armillary/tape.ops", "armillary/interval.products", "armillary/interval.quotients"], plainKeys := false, apart := false, laid := [("armillary/interval.products", laid_armillary_interval_products), ("armillary/interval.quotients", laid_armillary_interval_quotients), ("armillary/tape.ops", laid_armillary_tape_ops)] }
def ManeuverWithoutBurnsSaid : Prop := maneuverWithoutBurnsRow.holds Tryz.pinned (OpenSpec.ofChange maneuverWithoutBurnsSpec)

/-- ITS FALSE NEIGHBOUR: 'it returns false'. Refute it at one input. -/
def maneuverWithoutBurnsWrong : ChangeSpec := { name := "maneuverWithoutBurns", fn := fun _ => fun
  | [d] => { results := [.lit (.bool false)], args := [d] }
  | _ => none }
def ManeuverWithoutBurnsWrongFalsely : Prop := maneuverWithoutBurnsRow.holds Tryz.pinned (OpenSpec.ofChange maneuverWithoutBurnsWrong)

/-- 'armillarylaw24.ManeuverEnclosesExactStates': WHATEVER THE INPUT: true; the input reads as it did. -/
def maneuverEnclosesExactStatesSpec : ChangeSpec := { name := "maneuverEnclosesExactStates", fn := fun _ => fun
  | [d1, d2, d3, d4] => { results := [.lit (.bool true)], args := [d1, d2, d3, d4] }
  | _ => none }
def maneuverEnclosesExactStatesRow : OpenClaim := { program := "ytkghjlgpmeibhaagreatdoor", sum := "9a367fb4d59c59d9897014e47adcf74199120400ff0a436ede051b1d5e3171ee", func := "armillary/armillarylaw24.ManeuverEnclosesExactStates", spec := "maneuverEnclosesExactStates", inPlace := ["internal/reflectlite.TypeOf"], unfollowed := true, recurses := true, named := ["armillary/tape.ops", "armillary/interval.products", "armillary/interval.quotients"], plainKeys := false, apart := false, laid := [("armillary/interval.products", laid_armillary_interval_products), ("armillary/interval.quotients", laid_armillary_interval_quotients), ("armillary/tape.ops", laid_armillary_tape_ops)] }
def ManeuverEnclosesExactStatesSaid : Prop := maneuverEnclosesExactStatesRow.holds Tryz.pinned (OpenSpec.ofChange maneuverEnclosesExactStatesSpec)

/-- ITS FALSE NEIGHBOUR: 'it returns false'. Refute it at one input. -/
def maneuverEnclosesExactStatesWrong : ChangeSpec := { name := "maneuverEnclosesExactStates", fn := fun _ => fun
  | [d1, d2, d3, d4] => { results := [.lit (.bool false)], args := [d1, d2, d3, d4] }
  | _ => none }
def ManeuverEnclosesExactStatesWrongFalsely : Prop := maneuverEnclosesExactStatesRow.holds Tryz.pinned (OpenSpec.ofChange maneuverEnclosesExactStatesWrong)

/-- 'armillarylaw24.ManeuverCoversHorizon': WHATEVER THE INPUT: true; the input reads as it did. -/
def maneuverCoversHorizonSpec : ChangeSpec := { name := "maneuverCoversHorizon", fn := fun _ => fun
  | [d] => { results := [.lit (.bool true)], args := [d] }
  | _ => none }
def maneuverCoversHorizonRow : OpenClaim := { program := "ytkghjlgpmeibhaagreatdoor", sum := "9a367fb4d59c59d9897014e47adcf74199120400ff0a436ede051b1d5e3171ee", func := "armillary/armillarylaw24.ManeuverCoversHorizon", spec := "maneuverCoversHorizon", inPlace := ["internal/reflectlite.TypeOf"], unfollowed := true, recurses := true, named := ["armillary/tape.ops", "armillary/interval.products", "armillary/interval.quotients"], plainKeys := false, apart := false, laid := [("armillary/interval.products", laid_armillary_interval_products), ("armillary/interval.quotients", laid_armillary_interval_quotients), ("armillary/tape.ops", laid_armillary_tape_ops)] }
def ManeuverCoversHorizonSaid : Prop := maneuverCoversHorizonRow.holds Tryz.pinned (OpenSpec.ofChange maneuverCoversHorizonSpec)

/-- ITS FALSE NEIGHBOUR: 'it returns false'. Refute it at one input. -/
def maneuverCoversHorizonWrong : ChangeSpec := { name := "maneuverCoversHorizon", fn := fun _ => fun
  | [d] => { results := [.lit (.bool false)], args := [d] }
  | _ => none }
def ManeuverCoversHorizonWrongFalsely : Prop := maneuverCoversHorizonRow.holds Tryz.pinned (OpenSpec.ofChange maneuverCoversHorizonWrong)

/- THE SECOND FORM. 'bulk': how many values and letters a reading holds, each counted each time it is reached (what is shared counts as often as it is met; a slice's spare places count too). A statement '..UptoSaid' is the law's where the arguments, and the package variables that the reading takes, are together of bulk at most 1048576: NARROWER than '..Said'. Prove '..Said' where nothing that the law and all that it calls make is longer than what came in: it says more and counts as full. Else prove '..UptoSaid'. A law counts once. -/
mutual
def uptoBulk {H : Type} : DataW H → Nat
  | .lit (.string bytes) => bytes.length + 1
  | .lit _ => 1
  | .nil => 1
  | .ptr d => uptoBulk d + 1
  | .slice elems spare => uptoBulkAll elems + uptoBulkAll spare + 1
  | .agg parts => uptoBulkAll parts + 1
  | .iface _ d => uptoBulk d + 1
  | .map entries => uptoBulkEntries entries + 1
  | .held _ => 1
def uptoBulkAll {H : Type} : List (DataW H) → Nat
  | [] => 0
  | d :: r => uptoBulk d + uptoBulkAll r
def uptoBulkEntries {H : Type} : List (Lit × DataW H) → Nat
  | [] => 0
  | x :: r => uptoBulkEntry x + uptoBulkEntries r
def uptoBulkEntry {H : Type} : Lit × DataW H → Nat
  | (.string bytes, d) => bytes.length + uptoBulk d + 1
  | (_, d) => uptoBulk d + 1
 end
def uptoSmall : (H : Type) → List (DataW H) → Bool := fun _ ds => decide (uptoBulkAll ds ≤ 1048576)
def OpenSpec.upto (s : _root_.Go.ChangeSpec) : _root_.Go.OpenSpec := { _root_.Go.OpenSpec.ofChange s with cond := some uptoSmall }

/-- 'armillarylaw16.CrossingMatchesReference', WHERE WHAT IT READS IS OF BULK AT MOST 1048576: true; the input reads as it did. -/
def crossingMatchesReferenceUptoRow : OpenClaim := { program := "ytkghjlgpmeibhaagreatdoor", sum := "9a367fb4d59c59d9897014e47adcf74199120400ff0a436ede051b1d5e3171ee", func := "armillary/armillarylaw16.CrossingMatchesReference", spec := "crossingMatchesReference", unfollowed := true, recurses := true, named := ["armillary/interval.products", "armillary/interval.quotients"], plainKeys := false, apart := false, laid := [("armillary/interval.products", laid_armillary_interval_products), ("armillary/interval.quotients", laid_armillary_interval_quotients)], narrowed := true }
def CrossingMatchesReferenceUptoSaid : Prop := crossingMatchesReferenceUptoRow.holds Tryz.pinned (OpenSpec.upto crossingMatchesReferenceSpec)

/-- 'armillarylaw16.CrossingFindsLinearCrossings', WHERE WHAT IT READS IS OF BULK AT MOST 1048576: true; the input reads as it did. -/
def crossingFindsLinearCrossingsUptoRow : OpenClaim := { program := "ytkghjlgpmeibhaagreatdoor", sum := "9a367fb4d59c59d9897014e47adcf74199120400ff0a436ede051b1d5e3171ee", func := "armillary/armillarylaw16.CrossingFindsLinearCrossings", spec := "crossingFindsLinearCrossings", unfollowed := true, recurses := true, named := ["armillary/interval.products", "armillary/interval.quotients"], plainKeys := false, apart := false, laid := [("armillary/interval.products", laid_armillary_interval_products), ("armillary/interval.quotients", laid_armillary_interval_quotients)], narrowed := true }
def CrossingFindsLinearCrossingsUptoSaid : Prop := crossingFindsLinearCrossingsUptoRow.holds Tryz.pinned (OpenSpec.upto crossingFindsLinearCrossingsSpec)

/-- 'armillarylaw16.CrossingFindsTimeEvents', WHERE WHAT IT READS IS OF BULK AT MOST 1048576: true; the input reads as it did. -/
def crossingFindsTimeEventsUptoRow : OpenClaim := { program := "ytkghjlgpmeibhaagreatdoor", sum := "9a367fb4d59c59d9897014e47adcf74199120400ff0a436ede051b1d5e3171ee", func := "armillary/armillarylaw16.CrossingFindsTimeEvents", spec := "crossingFindsTimeEvents", unfollowed := true, recurses := true, named := ["armillary/interval.products", "armillary/interval.quotients"], plainKeys := false, apart := false, laid := [("armillary/interval.products", laid_armillary_interval_products), ("armillary/interval.quotients", laid_armillary_interval_quotients)], narrowed := true }
def CrossingFindsTimeEventsUptoSaid : Prop := crossingFindsTimeEventsUptoRow.holds Tryz.pinned (OpenSpec.upto crossingFindsTimeEventsSpec)

/-- 'armillarylaw16.CrossingStructure', WHERE WHAT IT READS IS OF BULK AT MOST 1048576: true; the input reads as it did. -/
def crossingStructureUptoRow : OpenClaim := { program := "ytkghjlgpmeibhaagreatdoor", sum := "9a367fb4d59c59d9897014e47adcf74199120400ff0a436ede051b1d5e3171ee", func := "armillary/armillarylaw16.CrossingStructure", spec := "crossingStructure", unfollowed := true, recurses := true, named := ["armillary/interval.products", "armillary/interval.quotients"], plainKeys := false, apart := false, laid := [("armillary/interval.products", laid_armillary_interval_products), ("armillary/interval.quotients", laid_armillary_interval_quotients)], narrowed := true }
def CrossingStructureUptoSaid : Prop := crossingStructureUptoRow.holds Tryz.pinned (OpenSpec.upto crossingStructureSpec)

/-- 'armillarylaw16.CrossingDefiniteSign', WHERE WHAT IT READS IS OF BULK AT MOST 1048576: true; the input reads as it did. -/
def crossingDefiniteSignUptoRow : OpenClaim := { program := "ytkghjlgpmeibhaagreatdoor", sum := "9a367fb4d59c59d9897014e47adcf74199120400ff0a436ede051b1d5e3171ee", func := "armillary/armillarylaw16.CrossingDefiniteSign", spec := "crossingDefiniteSign", unfollowed := true, recurses := true, named := ["armillary/interval.products", "armillary/interval.quotients"], plainKeys := false, apart := false, laid := [("armillary/interval.products", laid_armillary_interval_products), ("armillary/interval.quotients", laid_armillary_interval_quotients)], narrowed := true }
def CrossingDefiniteSignUptoSaid : Prop := crossingDefiniteSignUptoRow.holds Tryz.pinned (OpenSpec.upto crossingDefiniteSignSpec)

/-- 'armillarylaw16.CrossingRefinement', WHERE WHAT IT READS IS OF BULK AT MOST 1048576: true; the input reads as it did. -/
def crossingRefinementUptoRow : OpenClaim := { program := "ytkghjlgpmeibhaagreatdoor", sum := "9a367fb4d59c59d9897014e47adcf74199120400ff0a436ede051b1d5e3171ee", func := "armillary/armillarylaw16.CrossingRefinement", spec := "crossingRefinement", unfollowed := true, recurses := true, named := ["armillary/interval.products", "armillary/interval.quotients"], plainKeys := false, apart := false, laid := [("armillary/interval.products", laid_armillary_interval_products), ("armillary/interval.quotients", laid_armillary_interval_quotients)], narrowed := true }
def CrossingRefinementUptoSaid : Prop := crossingRefinementUptoRow.holds Tryz.pinned (OpenSpec.upto crossingRefinementSpec)

/-- 'armillarylaw16.CrossingReverse', WHERE WHAT IT READS IS OF BULK AT MOST 1048576: true; the input reads as it did. -/
def crossingReverseUptoRow : OpenClaim := { program := "ytkghjlgpmeibhaagreatdoor", sum := "9a367fb4d59c59d9897014e47adcf74199120400ff0a436ede051b1d5e3171ee", func := "armillary/armillarylaw16.CrossingReverse", spec := "crossingReverse", unfollowed := true, recurses := true, named := ["armillary/interval.products", "armillary/interval.quotients"], plainKeys := false, apart := false, laid := [("armillary/interval.products", laid_armillary_interval_products), ("armillary/interval.quotients", laid_armillary_interval_quotients)], narrowed := true }
def CrossingReverseUptoSaid : Prop := crossingReverseUptoRow.holds Tryz.pinned (OpenSpec.upto crossingReverseSpec)

/-- 'armillarylaw16.CrossingMonotone', WHERE WHAT IT READS IS OF BULK AT MOST 1048576: true; the input reads as it did. -/
def crossingMonotoneUptoRow : OpenClaim := { program := "ytkghjlgpmeibhaagreatdoor", sum := "9a367fb4d59c59d9897014e47adcf74199120400ff0a436ede051b1d5e3171ee", func := "armillary/armillarylaw16.CrossingMonotone", spec := "crossingMonotone", unfollowed := true, recurses := true, named := ["armillary/interval.products", "armillary/interval.quotients"], plainKeys := false, apart := false, laid := [("armillary/interval.products", laid_armillary_interval_products), ("armillary/interval.quotients", laid_armillary_interval_quotients)], narrowed := true }
def CrossingMonotoneUptoSaid : Prop := crossingMonotoneUptoRow.holds Tryz.pinned (OpenSpec.upto crossingMonotoneSpec)

/-- 'armillarylaw24.ManeuverMatchesReference', WHERE WHAT IT READS IS OF BULK AT MOST 1048576: true; the input reads as it did. -/
def maneuverMatchesReferenceUptoRow : OpenClaim := { program := "ytkghjlgpmeibhaagreatdoor", sum := "9a367fb4d59c59d9897014e47adcf74199120400ff0a436ede051b1d5e3171ee", func := "armillary/armillarylaw24.ManeuverMatchesReference", spec := "maneuverMatchesReference", inPlace := ["internal/reflectlite.TypeOf"], unfollowed := true, recurses := true, named := ["armillary/tape.ops", "armillary/interval.products", "armillary/interval.quotients"], plainKeys := false, apart := false, laid := [("armillary/interval.products", laid_armillary_interval_products), ("armillary/interval.quotients", laid_armillary_interval_quotients), ("armillary/tape.ops", laid_armillary_tape_ops)], narrowed := true }
def ManeuverMatchesReferenceUptoSaid : Prop := maneuverMatchesReferenceUptoRow.holds Tryz.pinned (OpenSpec.upto maneuverMatchesReferenceSpec)

/-- 'armillarylaw24.ManeuverWithoutBurns', WHERE WHAT IT READS IS OF BULK AT MOST 1048576: true; the input reads as it did. -/
def maneuverWithoutBurnsUptoRow : OpenClaim := { program := "ytkghjlgpmeibhaagreatdoor", sum := "9a367fb4d59c59d9897014e47adcf74199120400ff0a436ede051b1d5e3171ee", func := "armillary/armillarylaw24.ManeuverWithoutBurns", spec := "maneuverWithoutBurns", inPlace := ["internal/reflectlite.TypeOf"], unfollowed := true, recurses := true, named := ["armillary/tape.ops", "armillary/interval.products", "armillary/interval.quotients"], plainKeys := false, apart := false, laid := [("armillary/interval.products", laid_armillary_interval_products), ("armillary/interval.quotients", laid_armillary_interval_quotients), ("armillary/tape.ops", laid_armillary_tape_ops)], narrowed := true }
def ManeuverWithoutBurnsUptoSaid : Prop := maneuverWithoutBurnsUptoRow.holds Tryz.pinned (OpenSpec.upto maneuverWithoutBurnsSpec)

/-- 'armillarylaw24.ManeuverEnclosesExactStates', WHERE WHAT IT READS IS OF BULK AT MOST 1048576: true; the input reads as it did. -/
def maneuverEnclosesExactStatesUptoRow : OpenClaim := { program := "ytkghjlgpmeibhaagreatdoor", sum := "9a367fb4d59c59d9897014e47adcf74199120400ff0a436ede051b1d5e3171ee", func := "armillary/armillarylaw24.ManeuverEnclosesExactStates", spec := "maneuverEnclosesExactStates", inPlace := ["internal/reflectlite.TypeOf"], unfollowed := true, recurses := true, named := ["armillary/tape.ops", "armillary/interval.products", "armillary/interval.quotients"], plainKeys := false, apart := false, laid := [("armillary/interval.products", laid_armillary_interval_products), ("armillary/interval.quotients", laid_armillary_interval_quotients), ("armillary/tape.ops", laid_armillary_tape_ops)], narrowed := true }
def ManeuverEnclosesExactStatesUptoSaid : Prop := maneuverEnclosesExactStatesUptoRow.holds Tryz.pinned (OpenSpec.upto maneuverEnclosesExactStatesSpec)

/-- 'armillarylaw24.ManeuverCoversHorizon', WHERE WHAT IT READS IS OF BULK AT MOST 1048576: true; the input reads as it did. -/
def maneuverCoversHorizonUptoRow : OpenClaim := { program := "ytkghjlgpmeibhaagreatdoor", sum := "9a367fb4d59c59d9897014e47adcf74199120400ff0a436ede051b1d5e3171ee", func := "armillary/armillarylaw24.ManeuverCoversHorizon", spec := "maneuverCoversHorizon", inPlace := ["internal/reflectlite.TypeOf"], unfollowed := true, recurses := true, named := ["armillary/tape.ops", "armillary/interval.products", "armillary/interval.quotients"], plainKeys := false, apart := false, laid := [("armillary/interval.products", laid_armillary_interval_products), ("armillary/interval.quotients", laid_armillary_interval_quotients), ("armillary/tape.ops", laid_armillary_tape_ops)], narrowed := true }
def ManeuverCoversHorizonUptoSaid : Prop := maneuverCoversHorizonUptoRow.holds Tryz.pinned (OpenSpec.upto maneuverCoversHorizonSpec)

end Rows
end Go.Proofs.YtkghjlgpmeibhaaGreatDoor
