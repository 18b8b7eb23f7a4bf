/-
  NARROWER THAN 'FOR EVERY INPUT', by the rows' own cells (each row's printed sentence says how): ControlMatchesReference: laid · ControlAdvanceMatchesReference: laid · ControlSoundness: laid · ControlGreediness: laid · ControlMonotonicity: laid · ControlRepeat: laid.
  DERIVED. THE GIVEN ROWS OF THIS SEAT. 6 by the template 'for every input the law returns true; each argument reads behind the call as it read before'; 0 by the template 'total and deterministic' (their statements: YtgabeieooemfeaaGreatDoorTotals.lean).
  GIVEN WITH THE SEED: the statements are not yours to turn. If you find one false, say at which input.
  Laid BY PROGRAM, IN A SANDBOX (cutbox-rows.mjs): the forced cells as the released guide's own fill.sh prints them over the translation de289b56cfc18056… (all of the seat's roots in one cut). By AI agents, Wed Nov 11 2026. No macro, syntax, notation, axiom, sorry.
-/
import Derived.Test.YtgabeieooemfeaaGreatDoorChecked
import GoSem.Claim
import GoSem.ClaimJoined
import GoSem.ClaimMapViews
import Derived.JoinedTies
import Derived.KernelRfl
namespace Go.Proofs.YtgabeieooemfeaaGreatDoor
/- THE CELL 'sum', in the pinned program and in every row, IS THE sha256 OF THE DUMP (.gsa) THAT YtgabeieooemfeaaGreatDoorProg.lean LOADS. Nothing in Lean hashes anything: it is a label: what it is worth is what the hold of that sum in a sandbox is worth. -/
noncomputable def Tryz.pinned : Pinned := { name := "ytgabeieooemfeaagreatdoor", sum := "de289b56cfc180562cad35917526c1384d1137c0896db9592f42d68b6b6fd4de", checked := Tryz.checked }
namespace Rows
def none {H : Type} : Left H := { results := [], args := [] }

/- WHAT THE LISTED PACKAGE-LEVEL VARIABLES READ AS WHEN THE CALL BEGINS. Each datum BY PROGRAM (the guide's laid-datum.mjs) off the statement by which the dump's own 'gosem.cut.vars' lays the variable. In a bare row this is a premise. The card (YtgabeieooemfeaaGreatDoorCards.lean) ties it to the program's text. -/
def laid_armillary_interval_products {H : Type} : DataW H := .iface "func table" (.agg [.agg [.agg [.iface "func" (.lit (.string [97, 114, 109, 105, 108, 108, 97, 114, 121, 47, 105, 110, 116, 101, 114, 118, 97, 108, 46, 104, 104])), .iface "func" (.lit (.string [97, 114, 109, 105, 108, 108, 97, 114, 121, 47, 105, 110, 116, 101, 114, 118, 97, 108, 46, 108, 108]))], .agg [.iface "func" (.lit (.string [97, 114, 109, 105, 108, 108, 97, 114, 121, 47, 105, 110, 116, 101, 114, 118, 97, 108, 46, 108, 104])), .iface "func" (.lit (.string [97, 114, 109, 105, 108, 108, 97, 114, 121, 47, 105, 110, 116, 101, 114, 118, 97, 108, 46, 108, 108]))], .agg [.iface "func" (.lit (.string [97, 114, 109, 105, 108, 108, 97, 114, 121, 47, 105, 110, 116, 101, 114, 118, 97, 108, 46, 108, 104])), .iface "func" (.lit (.string [97, 114, 109, 105, 108, 108, 97, 114, 121, 47, 105, 110, 116, 101, 114, 118, 97, 108, 46, 104, 108]))]], .agg [.agg [.iface "func" (.lit (.string [97, 114, 109, 105, 108, 108, 97, 114, 121, 47, 105, 110, 116, 101, 114, 118, 97, 108, 46, 104, 108])), .iface "func" (.lit (.string [97, 114, 109, 105, 108, 108, 97, 114, 121, 47, 105, 110, 116, 101, 114, 118, 97, 108, 46, 108, 108]))], .agg [.nil, .nil], .agg [.iface "func" (.lit (.string [97, 114, 109, 105, 108, 108, 97, 114, 121, 47, 105, 110, 116, 101, 114, 118, 97, 108, 46, 108, 104])), .iface "func" (.lit (.string [97, 114, 109, 105, 108, 108, 97, 114, 121, 47, 105, 110, 116, 101, 114, 118, 97, 108, 46, 104, 104]))]], .agg [.agg [.iface "func" (.lit (.string [97, 114, 109, 105, 108, 108, 97, 114, 121, 47, 105, 110, 116, 101, 114, 118, 97, 108, 46, 104, 108])), .iface "func" (.lit (.string [97, 114, 109, 105, 108, 108, 97, 114, 121, 47, 105, 110, 116, 101, 114, 118, 97, 108, 46, 108, 104]))], .agg [.iface "func" (.lit (.string [97, 114, 109, 105, 108, 108, 97, 114, 121, 47, 105, 110, 116, 101, 114, 118, 97, 108, 46, 104, 108])), .iface "func" (.lit (.string [97, 114, 109, 105, 108, 108, 97, 114, 121, 47, 105, 110, 116, 101, 114, 118, 97, 108, 46, 104, 104]))], .agg [.iface "func" (.lit (.string [97, 114, 109, 105, 108, 108, 97, 114, 121, 47, 105, 110, 116, 101, 114, 118, 97, 108, 46, 108, 108])), .iface "func" (.lit (.string [97, 114, 109, 105, 108, 108, 97, 114, 121, 47, 105, 110, 116, 101, 114, 118, 97, 108, 46, 104, 104]))]]])
def laid_armillary_interval_quotients {H : Type} : DataW H := .iface "func table" (.agg [.agg [.agg [.iface "func" (.lit (.string [97, 114, 109, 105, 108, 108, 97, 114, 121, 47, 105, 110, 116, 101, 114, 118, 97, 108, 46, 104, 108])), .iface "func" (.lit (.string [97, 114, 109, 105, 108, 108, 97, 114, 121, 47, 105, 110, 116, 101, 114, 118, 97, 108, 46, 108, 104]))], .agg [.iface "func" (.lit (.string [97, 114, 109, 105, 108, 108, 97, 114, 121, 47, 105, 110, 116, 101, 114, 118, 97, 108, 46, 108, 108])), .iface "func" (.lit (.string [97, 114, 109, 105, 108, 108, 97, 114, 121, 47, 105, 110, 116, 101, 114, 118, 97, 108, 46, 104, 104]))]], .agg [.agg [.iface "func" (.lit (.string [97, 114, 109, 105, 108, 108, 97, 114, 121, 47, 105, 110, 116, 101, 114, 118, 97, 108, 46, 104, 104])), .iface "func" (.lit (.string [97, 114, 109, 105, 108, 108, 97, 114, 121, 47, 105, 110, 116, 101, 114, 118, 97, 108, 46, 108, 104]))], .agg [.iface "func" (.lit (.string [97, 114, 109, 105, 108, 108, 97, 114, 121, 47, 105, 110, 116, 101, 114, 118, 97, 108, 46, 108, 108])), .iface "func" (.lit (.string [97, 114, 109, 105, 108, 108, 97, 114, 121, 47, 105, 110, 116, 101, 114, 118, 97, 108, 46, 104, 108]))]], .agg [.agg [.iface "func" (.lit (.string [97, 114, 109, 105, 108, 108, 97, 114, 121, 47, 105, 110, 116, 101, 114, 118, 97, 108, 46, 104, 104])), .iface "func" (.lit (.string [97, 114, 109, 105, 108, 108, 97, 114, 121, 47, 105, 110, 116, 101, 114, 118, 97, 108, 46, 108, 108]))], .agg [.iface "func" (.lit (.string [97, 114, 109, 105, 108, 108, 97, 114, 121, 47, 105, 110, 116, 101, 114, 118, 97, 108, 46, 108, 104])), .iface "func" (.lit (.string [97, 114, 109, 105, 108, 108, 97, 114, 121, 47, 105, 110, 116, 101, 114, 118, 97, 108, 46, 104, 108]))]]])
def laid_armillary_tape_ops {H : Type} : DataW H := .iface "func table" (.agg [.agg [.nil, .nil], .agg [.nil, .nil], .agg [.nil, .nil], .agg [.nil, .nil], .agg [.iface "func" (.lit (.string [97, 114, 109, 105, 108, 108, 97, 114, 121, 47, 105, 110, 116, 101, 114, 118, 97, 108, 46, 78, 101, 103])), .nil], .agg [.iface "func" (.lit (.string [97, 114, 109, 105, 108, 108, 97, 114, 121, 47, 105, 110, 116, 101, 114, 118, 97, 108, 46, 83, 113, 117, 97, 114, 101])), .nil], .agg [.iface "func" (.lit (.string [97, 114, 109, 105, 108, 108, 97, 114, 121, 47, 116, 97, 112, 101, 46, 114, 111, 111, 116])), .nil], .agg [.nil, .iface "func" (.lit (.string [97, 114, 109, 105, 108, 108, 97, 114, 121, 47, 105, 110, 116, 101, 114, 118, 97, 108, 46, 65, 100, 100]))], .agg [.nil, .iface "func" (.lit (.string [97, 114, 109, 105, 108, 108, 97, 114, 121, 47, 105, 110, 116, 101, 114, 118, 97, 108, 46, 83, 117, 98]))], .agg [.nil, .iface "func" (.lit (.string [97, 114, 109, 105, 108, 108, 97, 114, 121, 47, 105, 110, 116, 101, 114, 118, 97, 108, 46, 77, 117, 108]))], .agg [.nil, .iface "func" (.lit (.string [97, 114, 109, 105, 108, 108, 97, 114, 121, 47, 105, 110, 116, 101, 114, 118, 97, 108, 46, 68, 105, 118]))]])

/-- 'armillarylaw13.ControlMatchesReference': WHATEVER THE INPUT: true; the input reads as it did. -/
def controlMatchesReferenceSpec : ChangeSpec := { name := "controlMatchesReference", fn := fun _ => fun
  | [d1, d2, d3] => { results := [.lit (.bool true)], args := [d1, d2, d3] }
  | _ => none }
def controlMatchesReferenceRow : OpenClaim := { program := "ytgabeieooemfeaagreatdoor", sum := "de289b56cfc180562cad35917526c1384d1137c0896db9592f42d68b6b6fd4de", func := "armillary/armillarylaw13.ControlMatchesReference", spec := "controlMatchesReference", unfollowed := true, recurses := true, named := ["armillary/tape.ops", "armillary/interval.products", "armillary/interval.quotients"], apart := false, laid := [("armillary/interval.products", laid_armillary_interval_products), ("armillary/interval.quotients", laid_armillary_interval_quotients), ("armillary/tape.ops", laid_armillary_tape_ops)] }
def ControlMatchesReferenceSaid : Prop := controlMatchesReferenceRow.holds Tryz.pinned (OpenSpec.ofChange controlMatchesReferenceSpec)

/-- ITS FALSE NEIGHBOUR: 'it returns false'. Refute it at one input. -/
def controlMatchesReferenceWrong : ChangeSpec := { name := "controlMatchesReference", fn := fun _ => fun
  | [d1, d2, d3] => { results := [.lit (.bool false)], args := [d1, d2, d3] }
  | _ => none }
def ControlMatchesReferenceWrongFalsely : Prop := controlMatchesReferenceRow.holds Tryz.pinned (OpenSpec.ofChange controlMatchesReferenceWrong)

/-- 'armillarylaw13.ControlAdvanceMatchesReference': WHATEVER THE INPUT: true; the input reads as it did. -/
def controlAdvanceMatchesReferenceSpec : ChangeSpec := { name := "controlAdvanceMatchesReference", fn := fun _ => fun
  | [d] => { results := [.lit (.bool true)], args := [d] }
  | _ => none }
def controlAdvanceMatchesReferenceRow : OpenClaim := { program := "ytgabeieooemfeaagreatdoor", sum := "de289b56cfc180562cad35917526c1384d1137c0896db9592f42d68b6b6fd4de", func := "armillary/armillarylaw13.ControlAdvanceMatchesReference", spec := "controlAdvanceMatchesReference", unfollowed := true, recurses := true, named := ["armillary/tape.ops", "armillary/interval.products", "armillary/interval.quotients"], apart := false, laid := [("armillary/interval.products", laid_armillary_interval_products), ("armillary/interval.quotients", laid_armillary_interval_quotients), ("armillary/tape.ops", laid_armillary_tape_ops)] }
def ControlAdvanceMatchesReferenceSaid : Prop := controlAdvanceMatchesReferenceRow.holds Tryz.pinned (OpenSpec.ofChange controlAdvanceMatchesReferenceSpec)

/-- ITS FALSE NEIGHBOUR: 'it returns false'. Refute it at one input. -/
def controlAdvanceMatchesReferenceWrong : ChangeSpec := { name := "controlAdvanceMatchesReference", fn := fun _ => fun
  | [d] => { results := [.lit (.bool false)], args := [d] }
  | _ => none }
def ControlAdvanceMatchesReferenceWrongFalsely : Prop := controlAdvanceMatchesReferenceRow.holds Tryz.pinned (OpenSpec.ofChange controlAdvanceMatchesReferenceWrong)

/-- 'armillarylaw13.ControlSoundness': WHATEVER THE INPUT: true; the input reads as it did. -/
def controlSoundnessSpec : ChangeSpec := { name := "controlSoundness", fn := fun _ => fun
  | [d] => { results := [.lit (.bool true)], args := [d] }
  | _ => none }
def controlSoundnessRow : OpenClaim := { program := "ytgabeieooemfeaagreatdoor", sum := "de289b56cfc180562cad35917526c1384d1137c0896db9592f42d68b6b6fd4de", func := "armillary/armillarylaw13.ControlSoundness", spec := "controlSoundness", unfollowed := true, recurses := true, named := ["armillary/tape.ops", "armillary/interval.products", "armillary/interval.quotients"], apart := false, laid := [("armillary/interval.products", laid_armillary_interval_products), ("armillary/interval.quotients", laid_armillary_interval_quotients), ("armillary/tape.ops", laid_armillary_tape_ops)] }
def ControlSoundnessSaid : Prop := controlSoundnessRow.holds Tryz.pinned (OpenSpec.ofChange controlSoundnessSpec)

/-- ITS FALSE NEIGHBOUR: 'it returns false'. Refute it at one input. -/
def controlSoundnessWrong : ChangeSpec := { name := "controlSoundness", fn := fun _ => fun
  | [d] => { results := [.lit (.bool false)], args := [d] }
  | _ => none }
def ControlSoundnessWrongFalsely : Prop := controlSoundnessRow.holds Tryz.pinned (OpenSpec.ofChange controlSoundnessWrong)

/-- 'armillarylaw13.ControlGreediness': WHATEVER THE INPUT: true; the input reads as it did. -/
def controlGreedinessSpec : ChangeSpec := { name := "controlGreediness", fn := fun _ => fun
  | [d] => { results := [.lit (.bool true)], args := [d] }
  | _ => none }
def controlGreedinessRow : OpenClaim := { program := "ytgabeieooemfeaagreatdoor", sum := "de289b56cfc180562cad35917526c1384d1137c0896db9592f42d68b6b6fd4de", func := "armillary/armillarylaw13.ControlGreediness", spec := "controlGreediness", unfollowed := true, recurses := true, named := ["armillary/tape.ops", "armillary/interval.products", "armillary/interval.quotients"], apart := false, laid := [("armillary/interval.products", laid_armillary_interval_products), ("armillary/interval.quotients", laid_armillary_interval_quotients), ("armillary/tape.ops", laid_armillary_tape_ops)] }
def ControlGreedinessSaid : Prop := controlGreedinessRow.holds Tryz.pinned (OpenSpec.ofChange controlGreedinessSpec)

/-- ITS FALSE NEIGHBOUR: 'it returns false'. Refute it at one input. -/
def controlGreedinessWrong : ChangeSpec := { name := "controlGreediness", fn := fun _ => fun
  | [d] => { results := [.lit (.bool false)], args := [d] }
  | _ => none }
def ControlGreedinessWrongFalsely : Prop := controlGreedinessRow.holds Tryz.pinned (OpenSpec.ofChange controlGreedinessWrong)

/-- 'armillarylaw13.ControlMonotonicity': WHATEVER THE INPUT: true; the input reads as it did. -/
def controlMonotonicitySpec : ChangeSpec := { name := "controlMonotonicity", fn := fun _ => fun
  | [d1, d2, d3] => { results := [.lit (.bool true)], args := [d1, d2, d3] }
  | _ => none }
def controlMonotonicityRow : OpenClaim := { program := "ytgabeieooemfeaagreatdoor", sum := "de289b56cfc180562cad35917526c1384d1137c0896db9592f42d68b6b6fd4de", func := "armillary/armillarylaw13.ControlMonotonicity", spec := "controlMonotonicity", unfollowed := true, recurses := true, named := ["armillary/tape.ops", "armillary/interval.products", "armillary/interval.quotients"], apart := false, laid := [("armillary/interval.products", laid_armillary_interval_products), ("armillary/interval.quotients", laid_armillary_interval_quotients), ("armillary/tape.ops", laid_armillary_tape_ops)] }
def ControlMonotonicitySaid : Prop := controlMonotonicityRow.holds Tryz.pinned (OpenSpec.ofChange controlMonotonicitySpec)

/-- ITS FALSE NEIGHBOUR: 'it returns false'. Refute it at one input. -/
def controlMonotonicityWrong : ChangeSpec := { name := "controlMonotonicity", fn := fun _ => fun
  | [d1, d2, d3] => { results := [.lit (.bool false)], args := [d1, d2, d3] }
  | _ => none }
def ControlMonotonicityWrongFalsely : Prop := controlMonotonicityRow.holds Tryz.pinned (OpenSpec.ofChange controlMonotonicityWrong)

/-- 'armillarylaw13.ControlRepeat': WHATEVER THE INPUT: true; the input reads as it did. -/
def controlRepeatSpec : ChangeSpec := { name := "controlRepeat", fn := fun _ => fun
  | [d] => { results := [.lit (.bool true)], args := [d] }
  | _ => none }
def controlRepeatRow : OpenClaim := { program := "ytgabeieooemfeaagreatdoor", sum := "de289b56cfc180562cad35917526c1384d1137c0896db9592f42d68b6b6fd4de", func := "armillary/armillarylaw13.ControlRepeat", spec := "controlRepeat", unfollowed := true, recurses := true, named := ["armillary/tape.ops", "armillary/interval.products", "armillary/interval.quotients"], apart := false, laid := [("armillary/interval.products", laid_armillary_interval_products), ("armillary/interval.quotients", laid_armillary_interval_quotients), ("armillary/tape.ops", laid_armillary_tape_ops)] }
def ControlRepeatSaid : Prop := controlRepeatRow.holds Tryz.pinned (OpenSpec.ofChange controlRepeatSpec)

/-- ITS FALSE NEIGHBOUR: 'it returns false'. Refute it at one input. -/
def controlRepeatWrong : ChangeSpec := { name := "controlRepeat", fn := fun _ => fun
  | [d] => { results := [.lit (.bool false)], args := [d] }
  | _ => none }
def ControlRepeatWrongFalsely : Prop := controlRepeatRow.holds Tryz.pinned (OpenSpec.ofChange controlRepeatWrong)

/- THE SECOND FORM. 'bulk': how many values and letters a reading holds, each counted each time it is reached (what is shared counts as often as it is met; a slice's spare places count too). A statement '..UptoSaid' is the law's where the arguments, and the package variables that the reading takes, are together of bulk at most 1048576: NARROWER than '..Said'. Prove '..Said' where nothing that the law and all that it calls make is longer than what came in: it says more and counts as full. Else prove '..UptoSaid'. A law counts once. -/
mutual
def uptoBulk {H : Type} : DataW H → Nat
  | .lit (.string bytes) => bytes.length + 1
  | .lit _ => 1
  | .nil => 1
  | .ptr d => uptoBulk d + 1
  | .slice elems spare => uptoBulkAll elems + uptoBulkAll spare + 1
  | .agg parts => uptoBulkAll parts + 1
  | .iface _ d => uptoBulk d + 1
  | .map entries => uptoBulkEntries entries + 1
  | .held _ => 1
def uptoBulkAll {H : Type} : List (DataW H) → Nat
  | [] => 0
  | d :: r => uptoBulk d + uptoBulkAll r
def uptoBulkEntries {H : Type} : List (Lit × DataW H) → Nat
  | [] => 0
  | x :: r => uptoBulkEntry x + uptoBulkEntries r
def uptoBulkEntry {H : Type} : Lit × DataW H → Nat
  | (.string bytes, d) => bytes.length + uptoBulk d + 1
  | (_, d) => uptoBulk d + 1
 end
def uptoSmall : (H : Type) → List (DataW H) → Bool := fun _ ds => decide (uptoBulkAll ds ≤ 1048576)
def OpenSpec.upto (s : _root_.Go.ChangeSpec) : _root_.Go.OpenSpec := { _root_.Go.OpenSpec.ofChange s with cond := some uptoSmall }

/-- 'armillarylaw13.ControlMatchesReference', WHERE WHAT IT READS IS OF BULK AT MOST 1048576: true; the input reads as it did. -/
def controlMatchesReferenceUptoRow : OpenClaim := { program := "ytgabeieooemfeaagreatdoor", sum := "de289b56cfc180562cad35917526c1384d1137c0896db9592f42d68b6b6fd4de", func := "armillary/armillarylaw13.ControlMatchesReference", spec := "controlMatchesReference", unfollowed := true, recurses := true, named := ["armillary/tape.ops", "armillary/interval.products", "armillary/interval.quotients"], apart := false, laid := [("armillary/interval.products", laid_armillary_interval_products), ("armillary/interval.quotients", laid_armillary_interval_quotients), ("armillary/tape.ops", laid_armillary_tape_ops)], narrowed := true }
def ControlMatchesReferenceUptoSaid : Prop := controlMatchesReferenceUptoRow.holds Tryz.pinned (OpenSpec.upto controlMatchesReferenceSpec)

/-- 'armillarylaw13.ControlAdvanceMatchesReference', WHERE WHAT IT READS IS OF BULK AT MOST 1048576: true; the input reads as it did. -/
def controlAdvanceMatchesReferenceUptoRow : OpenClaim := { program := "ytgabeieooemfeaagreatdoor", sum := "de289b56cfc180562cad35917526c1384d1137c0896db9592f42d68b6b6fd4de", func := "armillary/armillarylaw13.ControlAdvanceMatchesReference", spec := "controlAdvanceMatchesReference", unfollowed := true, recurses := true, named := ["armillary/tape.ops", "armillary/interval.products", "armillary/interval.quotients"], apart := false, laid := [("armillary/interval.products", laid_armillary_interval_products), ("armillary/interval.quotients", laid_armillary_interval_quotients), ("armillary/tape.ops", laid_armillary_tape_ops)], narrowed := true }
def ControlAdvanceMatchesReferenceUptoSaid : Prop := controlAdvanceMatchesReferenceUptoRow.holds Tryz.pinned (OpenSpec.upto controlAdvanceMatchesReferenceSpec)

/-- 'armillarylaw13.ControlSoundness', WHERE WHAT IT READS IS OF BULK AT MOST 1048576: true; the input reads as it did. -/
def controlSoundnessUptoRow : OpenClaim := { program := "ytgabeieooemfeaagreatdoor", sum := "de289b56cfc180562cad35917526c1384d1137c0896db9592f42d68b6b6fd4de", func := "armillary/armillarylaw13.ControlSoundness", spec := "controlSoundness", unfollowed := true, recurses := true, named := ["armillary/tape.ops", "armillary/interval.products", "armillary/interval.quotients"], apart := false, laid := [("armillary/interval.products", laid_armillary_interval_products), ("armillary/interval.quotients", laid_armillary_interval_quotients), ("armillary/tape.ops", laid_armillary_tape_ops)], narrowed := true }
def ControlSoundnessUptoSaid : Prop := controlSoundnessUptoRow.holds Tryz.pinned (OpenSpec.upto controlSoundnessSpec)

/-- 'armillarylaw13.ControlGreediness', WHERE WHAT IT READS IS OF BULK AT MOST 1048576: true; the input reads as it did. -/
def controlGreedinessUptoRow : OpenClaim := { program := "ytgabeieooemfeaagreatdoor", sum := "de289b56cfc180562cad35917526c1384d1137c0896db9592f42d68b6b6fd4de", func := "armillary/armillarylaw13.ControlGreediness", spec := "controlGreediness", unfollowed := true, recurses := true, named := ["armillary/tape.ops", "armillary/interval.products", "armillary/interval.quotients"], apart := false, laid := [("armillary/interval.products", laid_armillary_interval_products), ("armillary/interval.quotients", laid_armillary_interval_quotients), ("armillary/tape.ops", laid_armillary_tape_ops)], narrowed := true }
def ControlGreedinessUptoSaid : Prop := controlGreedinessUptoRow.holds Tryz.pinned (OpenSpec.upto controlGreedinessSpec)

/-- 'armillarylaw13.ControlMonotonicity', WHERE WHAT IT READS IS OF BULK AT MOST 1048576: true; the input reads as it did. -/
def controlMonotonicityUptoRow : OpenClaim := { program := "ytgabeieooemfeaagreatdoor", sum := "de289b56cfc180562cad35917526c1384d1137c0896db9592f42d68b6b6fd4de", func := "armillary/armillarylaw13.ControlMonotonicity", spec := "controlMonotonicity", unfollowed := true, recurses := true, named := ["armillary/tape.ops", "armillary/interval.products", "armillary/interval.quotients"], apart := false, laid := [("armillary/interval.products", laid_armillary_interval_products), ("armillary/interval.quotients", laid_armillary_interval_quotients), ("armillary/tape.ops", laid_armillary_tape_ops)], narrowed := true }
def ControlMonotonicityUptoSaid : Prop := controlMonotonicityUptoRow.holds Tryz.pinned (OpenSpec.upto controlMonotonicitySpec)

/-- 'armillarylaw13.ControlRepeat', WHERE WHAT IT READS IS OF BULK AT MOST 1048576: true; the input reads as it did. -/
def controlRepeatUptoRow : OpenClaim := { program := "ytgabeieooemfeaagreatdoor", sum := "de289b56cfc180562cad35917526c1384d1137c0896db9592f42d68b6b6fd4de", func := "armillary/armillarylaw13.ControlRepeat", spec := "controlRepeat", unfollowed := true, recurses := true, named := ["armillary/tape.ops", "armillary/interval.products", "armillary/interval.quotients"], apart := false, laid := [("armillary/interval.products", laid_armillary_interval_products), ("armillary/interval.quotients", laid_armillary_interval_quotients), ("armillary/tape.ops", laid_armillary_tape_ops)], narrowed := true }
def ControlRepeatUptoSaid : Prop := controlRepeatUptoRow.holds Tryz.pinned (OpenSpec.upto controlRepeatSpec)

end Rows
end Go.Proofs.YtgabeieooemfeaaGreatDoor
