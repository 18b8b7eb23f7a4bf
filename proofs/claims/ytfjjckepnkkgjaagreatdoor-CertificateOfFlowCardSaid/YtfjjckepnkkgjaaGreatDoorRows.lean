/-
  NARROWER THAN 'FOR EVERY INPUT', by the rows' own cells (each row's printed sentence says how): FlowMatchesReference: laid · FlowStructure: laid · FlowSteadySolutions: laid · FlowParabolas: laid · FlowClock: laid · FlowDuring: laid · FlowItems: laid · FlowErrors: laid · CertificateOfFlow: laid.
  DERIVED. THE GIVEN ROWS OF THIS SEAT. 9 by the template 'for every input the law returns true; each argument reads behind the call as it read before'; 0 by the template 'total and deterministic' (their statements: YtfjjckepnkkgjaaGreatDoorTotals.lean).
  GIVEN WITH THE SEED: the statements are not yours to turn. If you find one false, say at which input.
  Laid BY PROGRAM, IN A SANDBOX (cutbox-rows.mjs): the forced cells as the released guide's own fill.sh prints them over the translation bdf0921bca185bce… (all of the seat's roots in one cut). By AI agents, Wed Nov 11 2026. No macro, syntax, notation, axiom, sorry.
-/
import Derived.Test.YtfjjckepnkkgjaaGreatDoorChecked
import GoSem.Claim
import GoSem.ClaimJoined
import GoSem.ClaimMapViews
import Derived.JoinedTies
import Derived.KernelRfl
namespace Go.Proofs.YtfjjckepnkkgjaaGreatDoor
/- THE CELL 'sum', in the pinned program and in every row, IS THE sha256 OF THE DUMP (.gsa) THAT YtfjjckepnkkgjaaGreatDoorProg.lean LOADS. Nothing in Lean hashes anything: it is a label: what it is worth is what the hold of that sum in a sandbox is worth. -/
noncomputable def Tryz.pinned : Pinned := { name := "ytfjjckepnkkgjaagreatdoor", sum := "bdf0921bca185bcef2fd54e0dc1562f11df859d1f9703b1c6321b5fc85234051", checked := Tryz.checked }
namespace Rows
def none {H : Type} : Left H := { results := [], args := [] }

/- WHAT THE LISTED PACKAGE-LEVEL VARIABLES READ AS WHEN THE CALL BEGINS. Each datum BY PROGRAM (the guide's laid-datum.mjs) off the statement by which the dump's own 'gosem.cut.vars' lays the variable. In a bare row this is a premise. The card (YtfjjckepnkkgjaaGreatDoorCards.lean) ties it to the program's text. -/
def laid_armillary_interval_products {H : Type} : DataW H := .iface "func table" (.agg [.agg [.agg [.iface "func" (.lit (.string [97, 114, 109, 105, 108, 108, 97, 114, 121, 47, 105, 110, 116, 101, 114, 118, 97, 108, 46, 104, 104])), .iface "func" (.lit (.string [97, 114, 109, 105, 108, 108, 97, 114, 121, 47, 105, 110, 116, 101, 114, 118, 97, 108, 46, 108, 108]))], .agg [.iface "func" (.lit (.string [97, 114, 109, 105, 108, 108, 97, 114, 121, 47, 105, 110, 116, 101, 114, 118, 97, 108, 46, 108, 104])), .iface "func" (.lit (.string [97, 114, 109, 105, 108, 108, 97, 114, 121, 47, 105, 110, 116, 101, 114, 118, 97, 108, 46, 108, 108]))], .agg [.iface "func" (.lit (.string [97, 114, 109, 105, 108, 108, 97, 114, 121, 47, 105, 110, 116, 101, 114, 118, 97, 108, 46, 108, 104])), .iface "func" (.lit (.string [97, 114, 109, 105, 108, 108, 97, 114, 121, 47, 105, 110, 116, 101, 114, 118, 97, 108, 46, 104, 108]))]], .agg [.agg [.iface "func" (.lit (.string [97, 114, 109, 105, 108, 108, 97, 114, 121, 47, 105, 110, 116, 101, 114, 118, 97, 108, 46, 104, 108])), .iface "func" (.lit (.string [97, 114, 109, 105, 108, 108, 97, 114, 121, 47, 105, 110, 116, 101, 114, 118, 97, 108, 46, 108, 108]))], .agg [.nil, .nil], .agg [.iface "func" (.lit (.string [97, 114, 109, 105, 108, 108, 97, 114, 121, 47, 105, 110, 116, 101, 114, 118, 97, 108, 46, 108, 104])), .iface "func" (.lit (.string [97, 114, 109, 105, 108, 108, 97, 114, 121, 47, 105, 110, 116, 101, 114, 118, 97, 108, 46, 104, 104]))]], .agg [.agg [.iface "func" (.lit (.string [97, 114, 109, 105, 108, 108, 97, 114, 121, 47, 105, 110, 116, 101, 114, 118, 97, 108, 46, 104, 108])), .iface "func" (.lit (.string [97, 114, 109, 105, 108, 108, 97, 114, 121, 47, 105, 110, 116, 101, 114, 118, 97, 108, 46, 108, 104]))], .agg [.iface "func" (.lit (.string [97, 114, 109, 105, 108, 108, 97, 114, 121, 47, 105, 110, 116, 101, 114, 118, 97, 108, 46, 104, 108])), .iface "func" (.lit (.string [97, 114, 109, 105, 108, 108, 97, 114, 121, 47, 105, 110, 116, 101, 114, 118, 97, 108, 46, 104, 104]))], .agg [.iface "func" (.lit (.string [97, 114, 109, 105, 108, 108, 97, 114, 121, 47, 105, 110, 116, 101, 114, 118, 97, 108, 46, 108, 108])), .iface "func" (.lit (.string [97, 114, 109, 105, 108, 108, 97, 114, 121, 47, 105, 110, 116, 101, 114, 118, 97, 108, 46, 104, 104]))]]])
def laid_armillary_interval_quotients {H : Type} : DataW H := .iface "func table" (.agg [.agg [.agg [.iface "func" (.lit (.string [97, 114, 109, 105, 108, 108, 97, 114, 121, 47, 105, 110, 116, 101, 114, 118, 97, 108, 46, 104, 108])), .iface "func" (.lit (.string [97, 114, 109, 105, 108, 108, 97, 114, 121, 47, 105, 110, 116, 101, 114, 118, 97, 108, 46, 108, 104]))], .agg [.iface "func" (.lit (.string [97, 114, 109, 105, 108, 108, 97, 114, 121, 47, 105, 110, 116, 101, 114, 118, 97, 108, 46, 108, 108])), .iface "func" (.lit (.string [97, 114, 109, 105, 108, 108, 97, 114, 121, 47, 105, 110, 116, 101, 114, 118, 97, 108, 46, 104, 104]))]], .agg [.agg [.iface "func" (.lit (.string [97, 114, 109, 105, 108, 108, 97, 114, 121, 47, 105, 110, 116, 101, 114, 118, 97, 108, 46, 104, 104])), .iface "func" (.lit (.string [97, 114, 109, 105, 108, 108, 97, 114, 121, 47, 105, 110, 116, 101, 114, 118, 97, 108, 46, 108, 104]))], .agg [.iface "func" (.lit (.string [97, 114, 109, 105, 108, 108, 97, 114, 121, 47, 105, 110, 116, 101, 114, 118, 97, 108, 46, 108, 108])), .iface "func" (.lit (.string [97, 114, 109, 105, 108, 108, 97, 114, 121, 47, 105, 110, 116, 101, 114, 118, 97, 108, 46, 104, 108]))]], .agg [.agg [.iface "func" (.lit (.string [97, 114, 109, 105, 108, 108, 97, 114, 121, 47, 105, 110, 116, 101, 114, 118, 97, 108, 46, 104, 104])), .iface "func" (.lit (.string [97, 114, 109, 105, 108, 108, 97, 114, 121, 47, 105, 110, 116, 101, 114, 118, 97, 108, 46, 108, 108]))], .agg [.iface "func" (.lit (.string [97, 114, 109, 105, 108, 108, 97, 114, 121, 47, 105, 110, 116, 101, 114, 118, 97, 108, 46, 108, 104])), .iface "func" (.lit (.string [97, 114, 109, 105, 108, 108, 97, 114, 121, 47, 105, 110, 116, 101, 114, 118, 97, 108, 46, 104, 108]))]]])
def laid_armillary_tape_ops {H : Type} : DataW H := .iface "func table" (.agg [.agg [.nil, .nil], .agg [.nil, .nil], .agg [.nil, .nil], .agg [.nil, .nil], .agg [.iface "func" (.lit (.string [97, 114, 109, 105, 108, 108, 97, 114, 121, 47, 105, 110, 116, 101, 114, 118, 97, 108, 46, 78, 101, 103])), .nil], .agg [.iface "func" (.lit (.string [97, 114, 109, 105, 108, 108, 97, 114, 121, 47, 105, 110, 116, 101, 114, 118, 97, 108, 46, 83, 113, 117, 97, 114, 101])), .nil], .agg [.iface "func" (.lit (.string [97, 114, 109, 105, 108, 108, 97, 114, 121, 47, 116, 97, 112, 101, 46, 114, 111, 111, 116])), .nil], .agg [.nil, .iface "func" (.lit (.string [97, 114, 109, 105, 108, 108, 97, 114, 121, 47, 105, 110, 116, 101, 114, 118, 97, 108, 46, 65, 100, 100]))], .agg [.nil, .iface "func" (.lit (.string [97, 114, 109, 105, 108, 108, 97, 114, 121, 47, 105, 110, 116, 101, 114, 118, 97, 108, 46, 83, 117, 98]))], .agg [.nil, .iface "func" (.lit (.string [97, 114, 109, 105, 108, 108, 97, 114, 121, 47, 105, 110, 116, 101, 114, 118, 97, 108, 46, 77, 117, 108]))], .agg [.nil, .iface "func" (.lit (.string [97, 114, 109, 105, 108, 108, 97, 114, 121, 47, 105, 110, 116, 101, 114, 118, 97, 108, 46, 68, 105, 118]))]])

/-- 'armillarylaw14.FlowMatchesReference': WHATEVER THE INPUT: true; the input reads as it did. -/
def flowMatchesReferenceSpec : ChangeSpec := { name := "flowMatchesReference", fn := fun _ => fun
  | [d] => { results := [.lit (.bool true)], args := [d] }
  | _ => none }
def flowMatchesReferenceRow : OpenClaim := { program := "ytfjjckepnkkgjaagreatdoor", sum := "bdf0921bca185bcef2fd54e0dc1562f11df859d1f9703b1c6321b5fc85234051", func := "armillary/armillarylaw14.FlowMatchesReference", spec := "flowMatchesReference", inPlace := ["internal/reflectlite.TypeOf"], unfollowed := true, recurses := true, named := ["armillary/tape.ops", "armillary/interval.products", "armillary/interval.quotients"], apart := false, laid := [("armillary/interval.products", laid_armillary_interval_products), ("armillary/interval.quotients", laid_armillary_interval_quotients), ("armillary/tape.ops", laid_armillary_tape_ops)] }
def FlowMatchesReferenceSaid : Prop := flowMatchesReferenceRow.holds Tryz.pinned (OpenSpec.ofChange flowMatchesReferenceSpec)

/-- ITS FALSE NEIGHBOUR: 'it returns false'. Refute it at one input. -/
def flowMatchesReferenceWrong : ChangeSpec := { name := "flowMatchesReference", fn := fun _ => fun
  | [d] => { results := [.lit (.bool false)], args := [d] }
  | _ => none }
def FlowMatchesReferenceWrongFalsely : Prop := flowMatchesReferenceRow.holds Tryz.pinned (OpenSpec.ofChange flowMatchesReferenceWrong)

/-- 'armillarylaw14.FlowStructure': WHATEVER THE INPUT: true; the input reads as it did. -/
def flowStructureSpec : ChangeSpec := { name := "flowStructure", fn := fun _ => fun
  | [d] => { results := [.lit (.bool true)], args := [d] }
  | _ => none }
def flowStructureRow : OpenClaim := { program := "ytfjjckepnkkgjaagreatdoor", sum := "bdf0921bca185bcef2fd54e0dc1562f11df859d1f9703b1c6321b5fc85234051", func := "armillary/armillarylaw14.FlowStructure", spec := "flowStructure", inPlace := ["internal/reflectlite.TypeOf"], unfollowed := true, recurses := true, named := ["armillary/tape.ops", "armillary/interval.products", "armillary/interval.quotients"], apart := false, laid := [("armillary/interval.products", laid_armillary_interval_products), ("armillary/interval.quotients", laid_armillary_interval_quotients), ("armillary/tape.ops", laid_armillary_tape_ops)] }
def FlowStructureSaid : Prop := flowStructureRow.holds Tryz.pinned (OpenSpec.ofChange flowStructureSpec)

/-- ITS FALSE NEIGHBOUR: 'it returns false'. Refute it at one input. -/
def flowStructureWrong : ChangeSpec := { name := "flowStructure", fn := fun _ => fun
  | [d] => { results := [.lit (.bool false)], args := [d] }
  | _ => none }
def FlowStructureWrongFalsely : Prop := flowStructureRow.holds Tryz.pinned (OpenSpec.ofChange flowStructureWrong)

/-- 'armillarylaw14.FlowSteadySolutions': WHATEVER THE INPUT: true; the input reads as it did. -/
def flowSteadySolutionsSpec : ChangeSpec := { name := "flowSteadySolutions", fn := fun _ => fun
  | [d1, d2, d3] => { results := [.lit (.bool true)], args := [d1, d2, d3] }
  | _ => none }
def flowSteadySolutionsRow : OpenClaim := { program := "ytfjjckepnkkgjaagreatdoor", sum := "bdf0921bca185bcef2fd54e0dc1562f11df859d1f9703b1c6321b5fc85234051", func := "armillary/armillarylaw14.FlowSteadySolutions", spec := "flowSteadySolutions", inPlace := ["internal/reflectlite.TypeOf"], unfollowed := true, recurses := true, named := ["armillary/tape.ops", "armillary/interval.products", "armillary/interval.quotients"], apart := false, laid := [("armillary/interval.products", laid_armillary_interval_products), ("armillary/interval.quotients", laid_armillary_interval_quotients), ("armillary/tape.ops", laid_armillary_tape_ops)] }
def FlowSteadySolutionsSaid : Prop := flowSteadySolutionsRow.holds Tryz.pinned (OpenSpec.ofChange flowSteadySolutionsSpec)

/-- ITS FALSE NEIGHBOUR: 'it returns false'. Refute it at one input. -/
def flowSteadySolutionsWrong : ChangeSpec := { name := "flowSteadySolutions", fn := fun _ => fun
  | [d1, d2, d3] => { results := [.lit (.bool false)], args := [d1, d2, d3] }
  | _ => none }
def FlowSteadySolutionsWrongFalsely : Prop := flowSteadySolutionsRow.holds Tryz.pinned (OpenSpec.ofChange flowSteadySolutionsWrong)

/-- 'armillarylaw14.FlowParabolas': WHATEVER THE INPUT: true; the input reads as it did. -/
def flowParabolasSpec : ChangeSpec := { name := "flowParabolas", fn := fun _ => fun
  | [d1, d2, d3] => { results := [.lit (.bool true)], args := [d1, d2, d3] }
  | _ => none }
def flowParabolasRow : OpenClaim := { program := "ytfjjckepnkkgjaagreatdoor", sum := "bdf0921bca185bcef2fd54e0dc1562f11df859d1f9703b1c6321b5fc85234051", func := "armillary/armillarylaw14.FlowParabolas", spec := "flowParabolas", inPlace := ["internal/reflectlite.TypeOf"], unfollowed := true, recurses := true, named := ["armillary/tape.ops", "armillary/interval.products", "armillary/interval.quotients"], apart := false, laid := [("armillary/interval.products", laid_armillary_interval_products), ("armillary/interval.quotients", laid_armillary_interval_quotients), ("armillary/tape.ops", laid_armillary_tape_ops)] }
def FlowParabolasSaid : Prop := flowParabolasRow.holds Tryz.pinned (OpenSpec.ofChange flowParabolasSpec)

/-- ITS FALSE NEIGHBOUR: 'it returns false'. Refute it at one input. -/
def flowParabolasWrong : ChangeSpec := { name := "flowParabolas", fn := fun _ => fun
  | [d1, d2, d3] => { results := [.lit (.bool false)], args := [d1, d2, d3] }
  | _ => none }
def FlowParabolasWrongFalsely : Prop := flowParabolasRow.holds Tryz.pinned (OpenSpec.ofChange flowParabolasWrong)

/-- 'armillarylaw14.FlowClock': WHATEVER THE INPUT: true; the input reads as it did. -/
def flowClockSpec : ChangeSpec := { name := "flowClock", fn := fun _ => fun
  | [d1, d2] => { results := [.lit (.bool true)], args := [d1, d2] }
  | _ => none }
def flowClockRow : OpenClaim := { program := "ytfjjckepnkkgjaagreatdoor", sum := "bdf0921bca185bcef2fd54e0dc1562f11df859d1f9703b1c6321b5fc85234051", func := "armillary/armillarylaw14.FlowClock", spec := "flowClock", inPlace := ["internal/reflectlite.TypeOf"], unfollowed := true, recurses := true, named := ["armillary/tape.ops", "armillary/interval.products", "armillary/interval.quotients"], apart := false, laid := [("armillary/interval.products", laid_armillary_interval_products), ("armillary/interval.quotients", laid_armillary_interval_quotients), ("armillary/tape.ops", laid_armillary_tape_ops)] }
def FlowClockSaid : Prop := flowClockRow.holds Tryz.pinned (OpenSpec.ofChange flowClockSpec)

/-- ITS FALSE NEIGHBOUR: 'it returns false'. Refute it at one input. -/
def flowClockWrong : ChangeSpec := { name := "flowClock", fn := fun _ => fun
  | [d1, d2] => { results := [.lit (.bool false)], args := [d1, d2] }
  | _ => none }
def FlowClockWrongFalsely : Prop := flowClockRow.holds Tryz.pinned (OpenSpec.ofChange flowClockWrong)

/-- 'armillarylaw14.FlowDuring': WHATEVER THE INPUT: true; the input reads as it did. -/
def flowDuringSpec : ChangeSpec := { name := "flowDuring", fn := fun _ => fun
  | [d1, d2] => { results := [.lit (.bool true)], args := [d1, d2] }
  | _ => none }
def flowDuringRow : OpenClaim := { program := "ytfjjckepnkkgjaagreatdoor", sum := "bdf0921bca185bcef2fd54e0dc1562f11df859d1f9703b1c6321b5fc85234051", func := "armillary/armillarylaw14.FlowDuring", spec := "flowDuring", inPlace := ["internal/reflectlite.TypeOf"], unfollowed := true, recurses := true, named := ["armillary/tape.ops", "armillary/interval.products", "armillary/interval.quotients"], apart := false, laid := [("armillary/interval.products", laid_armillary_interval_products), ("armillary/interval.quotients", laid_armillary_interval_quotients), ("armillary/tape.ops", laid_armillary_tape_ops)] }
def FlowDuringSaid : Prop := flowDuringRow.holds Tryz.pinned (OpenSpec.ofChange flowDuringSpec)

/-- ITS FALSE NEIGHBOUR: 'it returns false'. Refute it at one input. -/
def flowDuringWrong : ChangeSpec := { name := "flowDuring", fn := fun _ => fun
  | [d1, d2] => { results := [.lit (.bool false)], args := [d1, d2] }
  | _ => none }
def FlowDuringWrongFalsely : Prop := flowDuringRow.holds Tryz.pinned (OpenSpec.ofChange flowDuringWrong)

/-- 'armillarylaw14.FlowItems': WHATEVER THE INPUT: true; the input reads as it did. -/
def flowItemsSpec : ChangeSpec := { name := "flowItems", fn := fun _ => fun
  | [d] => { results := [.lit (.bool true)], args := [d] }
  | _ => none }
def flowItemsRow : OpenClaim := { program := "ytfjjckepnkkgjaagreatdoor", sum := "bdf0921bca185bcef2fd54e0dc1562f11df859d1f9703b1c6321b5fc85234051", func := "armillary/armillarylaw14.FlowItems", spec := "flowItems", inPlace := ["internal/reflectlite.TypeOf"], unfollowed := true, recurses := true, named := ["armillary/tape.ops", "armillary/interval.products", "armillary/interval.quotients"], apart := false, laid := [("armillary/interval.products", laid_armillary_interval_products), ("armillary/interval.quotients", laid_armillary_interval_quotients), ("armillary/tape.ops", laid_armillary_tape_ops)] }
def FlowItemsSaid : Prop := flowItemsRow.holds Tryz.pinned (OpenSpec.ofChange flowItemsSpec)

/-- ITS FALSE NEIGHBOUR: 'it returns false'. Refute it at one input. -/
def flowItemsWrong : ChangeSpec := { name := "flowItems", fn := fun _ => fun
  | [d] => { results := [.lit (.bool false)], args := [d] }
  | _ => none }
def FlowItemsWrongFalsely : Prop := flowItemsRow.holds Tryz.pinned (OpenSpec.ofChange flowItemsWrong)

/-- 'armillarylaw14.FlowErrors': WHATEVER THE INPUT: true; the input reads as it did. -/
def flowErrorsSpec : ChangeSpec := { name := "flowErrors", fn := fun _ => fun
  | [d1, d2, d3] => { results := [.lit (.bool true)], args := [d1, d2, d3] }
  | _ => none }
def flowErrorsRow : OpenClaim := { program := "ytfjjckepnkkgjaagreatdoor", sum := "bdf0921bca185bcef2fd54e0dc1562f11df859d1f9703b1c6321b5fc85234051", func := "armillary/armillarylaw14.FlowErrors", spec := "flowErrors", inPlace := ["internal/reflectlite.TypeOf"], unfollowed := true, recurses := true, named := ["armillary/tape.ops", "armillary/interval.products", "armillary/interval.quotients"], apart := false, laid := [("armillary/interval.products", laid_armillary_interval_products), ("armillary/interval.quotients", laid_armillary_interval_quotients), ("armillary/tape.ops", laid_armillary_tape_ops)] }
def FlowErrorsSaid : Prop := flowErrorsRow.holds Tryz.pinned (OpenSpec.ofChange flowErrorsSpec)

/-- ITS FALSE NEIGHBOUR: 'it returns false'. Refute it at one input. -/
def flowErrorsWrong : ChangeSpec := { name := "flowErrors", fn := fun _ => fun
  | [d1, d2, d3] => { results := [.lit (.bool false)], args := [d1, d2, d3] }
  | _ => none }
def FlowErrorsWrongFalsely : Prop := flowErrorsRow.holds Tryz.pinned (OpenSpec.ofChange flowErrorsWrong)

/-- 'armillarylaw25.CertificateOfFlow': WHATEVER THE INPUT: true; the input reads as it did. -/
def certificateOfFlowSpec : ChangeSpec := { name := "certificateOfFlow", fn := fun _ => fun
  | [d] => { results := [.lit (.bool true)], args := [d] }
  | _ => none }
def certificateOfFlowRow : OpenClaim := { program := "ytfjjckepnkkgjaagreatdoor", sum := "bdf0921bca185bcef2fd54e0dc1562f11df859d1f9703b1c6321b5fc85234051", func := "armillary/armillarylaw25.CertificateOfFlow", spec := "certificateOfFlow", inPlace := ["internal/reflectlite.TypeOf"], unfollowed := true, recurses := true, named := ["armillary/tape.ops", "armillary/interval.products", "armillary/interval.quotients"], apart := false, laid := [("armillary/interval.products", laid_armillary_interval_products), ("armillary/interval.quotients", laid_armillary_interval_quotients), ("armillary/tape.ops", laid_armillary_tape_ops)] }
def CertificateOfFlowSaid : Prop := certificateOfFlowRow.holds Tryz.pinned (OpenSpec.ofChange certificateOfFlowSpec)

/-- ITS FALSE NEIGHBOUR: 'it returns false'. Refute it at one input. -/
def certificateOfFlowWrong : ChangeSpec := { name := "certificateOfFlow", fn := fun _ => fun
  | [d] => { results := [.lit (.bool false)], args := [d] }
  | _ => none }
def CertificateOfFlowWrongFalsely : Prop := certificateOfFlowRow.holds Tryz.pinned (OpenSpec.ofChange certificateOfFlowWrong)

/- THE SECOND FORM. 'bulk': how many values and letters a reading holds, each counted each time it is reached (what is shared counts as often as it is met; a slice's spare places count too). A statement '..UptoSaid' is the law's where the arguments, and the package variables that the reading takes, are together of bulk at most 1048576: NARROWER than '..Said'. Prove '..Said' where nothing that the law and all that it calls make is longer than what came in: it says more and counts as full. Else prove '..UptoSaid'. A law counts once. -/
mutual
def uptoBulk {H : Type} : DataW H → Nat
  | .lit (.string bytes) => bytes.length + 1
  | .lit _ => 1
  | .nil => 1
  | .ptr d => uptoBulk d + 1
  | .slice elems spare => uptoBulkAll elems + uptoBulkAll spare + 1
  | .agg parts => uptoBulkAll parts + 1
  | .iface _ d => uptoBulk d + 1
  | .map entries => uptoBulkEntries entries + 1
  | .held _ => 1
def uptoBulkAll {H : Type} : List (DataW H) → Nat
  | [] => 0
  | d :: r => uptoBulk d + uptoBulkAll r
def uptoBulkEntries {H : Type} : List (Lit × DataW H) → Nat
  | [] => 0
  | x :: r => uptoBulkEntry x + uptoBulkEntries r
def uptoBulkEntry {H : Type} : Lit × DataW H → Nat
  | (.string bytes, d) => bytes.length + uptoBulk d + 1
  | (_, d) => uptoBulk d + 1
 end
def uptoSmall : (H : Type) → List (DataW H) → Bool := fun _ ds => decide (uptoBulkAll ds ≤ 1048576)
def OpenSpec.upto (s : _root_.Go.ChangeSpec) : _root_.Go.OpenSpec := { _root_.Go.OpenSpec.ofChange s with cond := some uptoSmall }

/-- 'armillarylaw14.FlowMatchesReference', WHERE WHAT IT READS IS OF BULK AT MOST 1048576: true; the input reads as it did. -/
def flowMatchesReferenceUptoRow : OpenClaim := { program := "ytfjjckepnkkgjaagreatdoor", sum := "bdf0921bca185bcef2fd54e0dc1562f11df859d1f9703b1c6321b5fc85234051", func := "armillary/armillarylaw14.FlowMatchesReference", spec := "flowMatchesReference", inPlace := ["internal/reflectlite.TypeOf"], unfollowed := true, recurses := true, named := ["armillary/tape.ops", "armillary/interval.products", "armillary/interval.quotients"], apart := false, laid := [("armillary/interval.products", laid_armillary_interval_products), ("armillary/interval.quotients", laid_armillary_interval_quotients), ("armillary/tape.ops", laid_armillary_tape_ops)], narrowed := true }
def FlowMatchesReferenceUptoSaid : Prop := flowMatchesReferenceUptoRow.holds Tryz.pinned (OpenSpec.upto flowMatchesReferenceSpec)

/-- 'armillarylaw14.FlowStructure', WHERE WHAT IT READS IS OF BULK AT MOST 1048576: true; the input reads as it did. -/
def flowStructureUptoRow : OpenClaim := { program := "ytfjjckepnkkgjaagreatdoor", sum := "bdf0921bca185bcef2fd54e0dc1562f11df859d1f9703b1c6321b5fc85234051", func := "armillary/armillarylaw14.FlowStructure", spec := "flowStructure", inPlace := ["internal/reflectlite.TypeOf"], unfollowed := true, recurses := true, named := ["armillary/tape.ops", "armillary/interval.products", "armillary/interval.quotients"], apart := false, laid := [("armillary/interval.products", laid_armillary_interval_products), ("armillary/interval.quotients", laid_armillary_interval_quotients), ("armillary/tape.ops", laid_armillary_tape_ops)], narrowed := true }
def FlowStructureUptoSaid : Prop := flowStructureUptoRow.holds Tryz.pinned (OpenSpec.upto flowStructureSpec)

/-- 'armillarylaw14.FlowSteadySolutions', WHERE WHAT IT READS IS OF BULK AT MOST 1048576: true; the input reads as it did. -/
def flowSteadySolutionsUptoRow : OpenClaim := { program := "ytfjjckepnkkgjaagreatdoor", sum := "bdf0921bca185bcef2fd54e0dc1562f11df859d1f9703b1c6321b5fc85234051", func := "armillary/armillarylaw14.FlowSteadySolutions", spec := "flowSteadySolutions", inPlace := ["internal/reflectlite.TypeOf"], unfollowed := true, recurses := true, named := ["armillary/tape.ops", "armillary/interval.products", "armillary/interval.quotients"], apart := false, laid := [("armillary/interval.products", laid_armillary_interval_products), ("armillary/interval.quotients", laid_armillary_interval_quotients), ("armillary/tape.ops", laid_armillary_tape_ops)], narrowed := true }
def FlowSteadySolutionsUptoSaid : Prop := flowSteadySolutionsUptoRow.holds Tryz.pinned (OpenSpec.upto flowSteadySolutionsSpec)

/-- 'armillarylaw14.FlowParabolas', WHERE WHAT IT READS IS OF BULK AT MOST 1048576: true; the input reads as it did. -/
def flowParabolasUptoRow : OpenClaim := { program := "ytfjjckepnkkgjaagreatdoor", sum := "bdf0921bca185bcef2fd54e0dc1562f11df859d1f9703b1c6321b5fc85234051", func := "armillary/armillarylaw14.FlowParabolas", spec := "flowParabolas", inPlace := ["internal/reflectlite.TypeOf"], unfollowed := true, recurses := true, named := ["armillary/tape.ops", "armillary/interval.products", "armillary/interval.quotients"], apart := false, laid := [("armillary/interval.products", laid_armillary_interval_products), ("armillary/interval.quotients", laid_armillary_interval_quotients), ("armillary/tape.ops", laid_armillary_tape_ops)], narrowed := true }
def FlowParabolasUptoSaid : Prop := flowParabolasUptoRow.holds Tryz.pinned (OpenSpec.upto flowParabolasSpec)

/-- 'armillarylaw14.FlowClock', WHERE WHAT IT READS IS OF BULK AT MOST 1048576: true; the input reads as it did. -/
def flowClockUptoRow : OpenClaim := { program := "ytfjjckepnkkgjaagreatdoor", sum := "bdf0921bca185bcef2fd54e0dc1562f11df859d1f9703b1c6321b5fc85234051", func := "armillary/armillarylaw14.FlowClock", spec := "flowClock", inPlace := ["internal/reflectlite.TypeOf"], unfollowed := true, recurses := true, named := ["armillary/tape.ops", "armillary/interval.products", "armillary/interval.quotients"], apart := false, laid := [("armillary/interval.products", laid_armillary_interval_products), ("armillary/interval.quotients", laid_armillary_interval_quotients), ("armillary/tape.ops", laid_armillary_tape_ops)], narrowed := true }
def FlowClockUptoSaid : Prop := flowClockUptoRow.holds Tryz.pinned (OpenSpec.upto flowClockSpec)

/-- 'armillarylaw14.FlowDuring', WHERE WHAT IT READS IS OF BULK AT MOST 1048576: true; the input reads as it did. -/
def flowDuringUptoRow : OpenClaim := { program := "ytfjjckepnkkgjaagreatdoor", sum := "bdf0921bca185bcef2fd54e0dc1562f11df859d1f9703b1c6321b5fc85234051", func := "armillary/armillarylaw14.FlowDuring", spec := "flowDuring", inPlace := ["internal/reflectlite.TypeOf"], unfollowed := true, recurses := true, named := ["armillary/tape.ops", "armillary/interval.products", "armillary/interval.quotients"], apart := false, laid := [("armillary/interval.products", laid_armillary_interval_products), ("armillary/interval.quotients", laid_armillary_interval_quotients), ("armillary/tape.ops", laid_armillary_tape_ops)], narrowed := true }
def FlowDuringUptoSaid : Prop := flowDuringUptoRow.holds Tryz.pinned (OpenSpec.upto flowDuringSpec)

/-- 'armillarylaw14.FlowItems', WHERE WHAT IT READS IS OF BULK AT MOST 1048576: true; the input reads as it did. -/
def flowItemsUptoRow : OpenClaim := { program := "ytfjjckepnkkgjaagreatdoor", sum := "bdf0921bca185bcef2fd54e0dc1562f11df859d1f9703b1c6321b5fc85234051", func := "armillary/armillarylaw14.FlowItems", spec := "flowItems", inPlace := ["internal/reflectlite.TypeOf"], unfollowed := true, recurses := true, named := ["armillary/tape.ops", "armillary/interval.products", "armillary/interval.quotients"], apart := false, laid := [("armillary/interval.products", laid_armillary_interval_products), ("armillary/interval.quotients", laid_armillary_interval_quotients), ("armillary/tape.ops", laid_armillary_tape_ops)], narrowed := true }
def FlowItemsUptoSaid : Prop := flowItemsUptoRow.holds Tryz.pinned (OpenSpec.upto flowItemsSpec)

/-- 'armillarylaw14.FlowErrors', WHERE WHAT IT READS IS OF BULK AT MOST 1048576: true; the input reads as it did. -/
def flowErrorsUptoRow : OpenClaim := { program := "ytfjjckepnkkgjaagreatdoor", sum := "bdf0921bca185bcef2fd54e0dc1562f11df859d1f9703b1c6321b5fc85234051", func := "armillary/armillarylaw14.FlowErrors", spec := "flowErrors", inPlace := ["internal/reflectlite.TypeOf"], unfollowed := true, recurses := true, named := ["armillary/tape.ops", "armillary/interval.products", "armillary/interval.quotients"], apart := false, laid := [("armillary/interval.products", laid_armillary_interval_products), ("armillary/interval.quotients", laid_armillary_interval_quotients), ("armillary/tape.ops", laid_armillary_tape_ops)], narrowed := true }
def FlowErrorsUptoSaid : Prop := flowErrorsUptoRow.holds Tryz.pinned (OpenSpec.upto flowErrorsSpec)

/-- 'armillarylaw25.CertificateOfFlow', WHERE WHAT IT READS IS OF BULK AT MOST 1048576: true; the input reads as it did. -/
def certificateOfFlowUptoRow : OpenClaim := { program := "ytfjjckepnkkgjaagreatdoor", sum := "bdf0921bca185bcef2fd54e0dc1562f11df859d1f9703b1c6321b5fc85234051", func := "armillary/armillarylaw25.CertificateOfFlow", spec := "certificateOfFlow", inPlace := ["internal/reflectlite.TypeOf"], unfollowed := true, recurses := true, named := ["armillary/tape.ops", "armillary/interval.products", "armillary/interval.quotients"], apart := false, laid := [("armillary/interval.products", laid_armillary_interval_products), ("armillary/interval.quotients", laid_armillary_interval_quotients), ("armillary/tape.ops", laid_armillary_tape_ops)], narrowed := true }
def CertificateOfFlowUptoSaid : Prop := certificateOfFlowUptoRow.holds Tryz.pinned (OpenSpec.upto certificateOfFlowSpec)

end Rows
end Go.Proofs.YtfjjckepnkkgjaaGreatDoor
