/-
  NARROWER THAN 'FOR EVERY INPUT', by the rows' own cells (each row's printed sentence says how): JacobianSimplify: laid · JacobianPolynomials: laid · JacobianMeanValue: laid · JacobianLinearity: laid · JacobianIndependence: laid · JacobianMixedDerivatives: laid · JacobianCoordinates: laid · JacobianLieDerivative: laid.
  DERIVED. THE GIVEN ROWS OF THIS SEAT. 8 by the template 'for every input the law returns true; each argument reads behind the call as it read before'; 0 by the template 'total and deterministic' (their statements: YtohmodcheahpgaaDoorTotals.lean).
  GIVEN WITH THE SEED: the statements are not yours to turn. If you find one false, say at which input.
  Laid BY PROGRAM, IN A SANDBOX (cutbox-rows.mjs): the forced cells as the released guide's own fill.sh prints them over the translation 939b2ac060b63ee1… (all of the seat's roots in one cut). By AI agents, Wed Nov 11 2026. No macro, syntax, notation, axiom, sorry.
-/
import Derived.Test.YtohmodcheahpgaaDoorChecked
import GoSem.Claim
import GoSem.ClaimJoined
import GoSem.ClaimMapViews
import Derived.JoinedTies
import Derived.KernelRfl
namespace Go.Proofs.YtohmodcheahpgaaDoor
/- THE CELL 'sum', in the pinned program and in every row, IS THE sha256 OF THE DUMP (.gsa) THAT YtohmodcheahpgaaDoorProg.lean LOADS. Nothing in Lean hashes anything: it is a label: what it is worth is what the hold of that sum in a sandbox is worth. -/
noncomputable def Tryd.pinned : Pinned := { name := "ytohmodcheahpgaadoor", sum := "939b2ac060b63ee1bb3f947e501151487c9381d18adc677229e1a8bbcfe1dbd7", checked := Tryd.checked }
namespace Rows
def none {H : Type} : Left H := { results := [], args := [] }

/- WHAT THE LISTED PACKAGE-LEVEL VARIABLES READ AS WHEN THE CALL BEGINS. Each datum BY PROGRAM (the guide's laid-datum.mjs) off the statement by which the dump's own 'gosem.cut.vars' lays the variable. In a bare row this is a premise. The card (YtohmodcheahpgaaDoorCards.lean) ties it to the program's text. -/
def laid_armillary_interval_products {H : Type} : DataW H := .iface "func table" (.agg [.agg [.agg [.iface "func" (.lit (.string [97, 114, 109, 105, 108, 108, 97, 114, 121, 47, 105, 110, 116, 101, 114, 118, 97, 108, 46, 104, 104])), .iface "func" (.lit (.string [97, 114, 109, 105, 108, 108, 97, 114, 121, 47, 105, 110, 116, 101, 114, 118, 97, 108, 46, 108, 108]))], .agg [.iface "func" (.lit (.string [97, 114, 109, 105, 108, 108, 97, 114, 121, 47, 105, 110, 116, 101, 114, 118, 97, 108, 46, 108, 104])), .iface "func" (.lit (.string [97, 114, 109, 105, 108, 108, 97, 114, 121, 47, 105, 110, 116, 101, 114, 118, 97, 108, 46, 108, 108]))], .agg [.iface "func" (.lit (.string [97, 114, 109, 105, 108, 108, 97, 114, 121, 47, 105, 110, 116, 101, 114, 118, 97, 108, 46, 108, 104])), .iface "func" (.lit (.string [97, 114, 109, 105, 108, 108, 97, 114, 121, 47, 105, 110, 116, 101, 114, 118, 97, 108, 46, 104, 108]))]], .agg [.agg [.iface "func" (.lit (.string [97, 114, 109, 105, 108, 108, 97, 114, 121, 47, 105, 110, 116, 101, 114, 118, 97, 108, 46, 104, 108])), .iface "func" (.lit (.string [97, 114, 109, 105, 108, 108, 97, 114, 121, 47, 105, 110, 116, 101, 114, 118, 97, 108, 46, 108, 108]))], .agg [.nil, .nil], .agg [.iface "func" (.lit (.string [97, 114, 109, 105, 108, 108, 97, 114, 121, 47, 105, 110, 116, 101, 114, 118, 97, 108, 46, 108, 104])), .iface "func" (.lit (.string [97, 114, 109, 105, 108, 108, 97, 114, 121, 47, 105, 110, 116, 101, 114, 118, 97, 108, 46, 104, 104]))]], .agg [.agg [.iface "func" (.lit (.string [97, 114, 109, 105, 108, 108, 97, 114, 121, 47, 105, 110, 116, 101, 114, 118, 97, 108, 46, 104, 108])), .iface "func" (.lit (.string [97, 114, 109, 105, 108, 108, 97, 114, 121, 47, 105, 110, 116, 101, 114, 118, 97, 108, 46, 108, 104]))], .agg [.iface "func" (.lit (.string [97, 114, 109, 105, 108, 108, 97, 114, 121, 47, 105, 110, 116, 101, 114, 118, 97, 108, 46, 104, 108])), .iface "func" (.lit (.string [97, 114, 109, 105, 108, 108, 97, 114, 121, 47, 105, 110, 116, 101, 114, 118, 97, 108, 46, 104, 104]))], .agg [.iface "func" (.lit (.string [97, 114, 109, 105, 108, 108, 97, 114, 121, 47, 105, 110, 116, 101, 114, 118, 97, 108, 46, 108, 108])), .iface "func" (.lit (.string [97, 114, 109, 105, 108, 108, 97, 114, 121, 47, 105, 110, 116, 101, 114, 118, 97, 108, 46, 104, 104]))]]])
def laid_armillary_interval_quotients {H : Type} : DataW H := .iface "func table" (.agg [.agg [.agg [.iface "func" (.lit (.string [97, 114, 109, 105, 108, 108, 97, 114, 121, 47, 105, 110, 116, 101, 114, 118, 97, 108, 46, 104, 108])), .iface "func" (.lit (.string [97, 114, 109, 105, 108, 108, 97, 114, 121, 47, 105, 110, 116, 101, 114, 118, 97, 108, 46, 108, 104]))], .agg [.iface "func" (.lit (.string [97, 114, 109, 105, 108, 108, 97, 114, 121, 47, 105, 110, 116, 101, 114, 118, 97, 108, 46, 108, 108])), .iface "func" (.lit (.string [97, 114, 109, 105, 108, 108, 97, 114, 121, 47, 105, 110, 116, 101, 114, 118, 97, 108, 46, 104, 104]))]], .agg [.agg [.iface "func" (.lit (.string [97, 114, 109, 105, 108, 108, 97, 114, 121, 47, 105, 110, 116, 101, 114, 118, 97, 108, 46, 104, 104])), .iface "func" (.lit (.string [97, 114, 109, 105, 108, 108, 97, 114, 121, 47, 105, 110, 116, 101, 114, 118, 97, 108, 46, 108, 104]))], .agg [.iface "func" (.lit (.string [97, 114, 109, 105, 108, 108, 97, 114, 121, 47, 105, 110, 116, 101, 114, 118, 97, 108, 46, 108, 108])), .iface "func" (.lit (.string [97, 114, 109, 105, 108, 108, 97, 114, 121, 47, 105, 110, 116, 101, 114, 118, 97, 108, 46, 104, 108]))]], .agg [.agg [.iface "func" (.lit (.string [97, 114, 109, 105, 108, 108, 97, 114, 121, 47, 105, 110, 116, 101, 114, 118, 97, 108, 46, 104, 104])), .iface "func" (.lit (.string [97, 114, 109, 105, 108, 108, 97, 114, 121, 47, 105, 110, 116, 101, 114, 118, 97, 108, 46, 108, 108]))], .agg [.iface "func" (.lit (.string [97, 114, 109, 105, 108, 108, 97, 114, 121, 47, 105, 110, 116, 101, 114, 118, 97, 108, 46, 108, 104])), .iface "func" (.lit (.string [97, 114, 109, 105, 108, 108, 97, 114, 121, 47, 105, 110, 116, 101, 114, 118, 97, 108, 46, 104, 108]))]]])

/-- 'armillarylaw10.JacobianSimplify': WHATEVER THE INPUT: true; the input reads as it did. -/
def jacobianSimplifySpec : ChangeSpec := { name := "jacobianSimplify", fn := fun _ => fun
  | [d] => { results := [.lit (.bool true)], args := [d] }
  | _ => none }
def jacobianSimplifyRow : OpenClaim := { program := "ytohmodcheahpgaadoor", sum := "939b2ac060b63ee1bb3f947e501151487c9381d18adc677229e1a8bbcfe1dbd7", func := "armillary/armillarylaw10.JacobianSimplify", spec := "jacobianSimplify", unfollowed := true, recurses := true, named := ["armillary/interval.products", "armillary/interval.quotients"], apart := false, laid := [("armillary/interval.products", laid_armillary_interval_products), ("armillary/interval.quotients", laid_armillary_interval_quotients)] }
def JacobianSimplifySaid : Prop := jacobianSimplifyRow.holds Tryd.pinned (OpenSpec.ofChange jacobianSimplifySpec)

/-- ITS FALSE NEIGHBOUR: 'it returns false'. Refute it at one input. -/
def jacobianSimplifyWrong : ChangeSpec := { name := "jacobianSimplify", fn := fun _ => fun
  | [d] => { results := [.lit (.bool false)], args := [d] }
  | _ => none }
def JacobianSimplifyWrongFalsely : Prop := jacobianSimplifyRow.holds Tryd.pinned (OpenSpec.ofChange jacobianSimplifyWrong)

/-- 'armillarylaw10.JacobianPolynomials': WHATEVER THE INPUT: true; the input reads as it did. -/
def jacobianPolynomialsSpec : ChangeSpec := { name := "jacobianPolynomials", fn := fun _ => fun
  | [d1, d2] => { results := [.lit (.bool true)], args := [d1, d2] }
  | _ => none }
def jacobianPolynomialsRow : OpenClaim := { program := "ytohmodcheahpgaadoor", sum := "939b2ac060b63ee1bb3f947e501151487c9381d18adc677229e1a8bbcfe1dbd7", func := "armillary/armillarylaw10.JacobianPolynomials", spec := "jacobianPolynomials", unfollowed := true, recurses := true, named := ["armillary/interval.products", "armillary/interval.quotients"], apart := false, laid := [("armillary/interval.products", laid_armillary_interval_products), ("armillary/interval.quotients", laid_armillary_interval_quotients)] }
def JacobianPolynomialsSaid : Prop := jacobianPolynomialsRow.holds Tryd.pinned (OpenSpec.ofChange jacobianPolynomialsSpec)

/-- ITS FALSE NEIGHBOUR: 'it returns false'. Refute it at one input. -/
def jacobianPolynomialsWrong : ChangeSpec := { name := "jacobianPolynomials", fn := fun _ => fun
  | [d1, d2] => { results := [.lit (.bool false)], args := [d1, d2] }
  | _ => none }
def JacobianPolynomialsWrongFalsely : Prop := jacobianPolynomialsRow.holds Tryd.pinned (OpenSpec.ofChange jacobianPolynomialsWrong)

/-- 'armillarylaw10.JacobianMeanValue': WHATEVER THE INPUT: true; the input reads as it did. -/
def jacobianMeanValueSpec : ChangeSpec := { name := "jacobianMeanValue", fn := fun _ => fun
  | [d1, d2, d3] => { results := [.lit (.bool true)], args := [d1, d2, d3] }
  | _ => none }
def jacobianMeanValueRow : OpenClaim := { program := "ytohmodcheahpgaadoor", sum := "939b2ac060b63ee1bb3f947e501151487c9381d18adc677229e1a8bbcfe1dbd7", func := "armillary/armillarylaw10.JacobianMeanValue", spec := "jacobianMeanValue", unfollowed := true, recurses := true, named := ["armillary/interval.products", "armillary/interval.quotients"], apart := false, laid := [("armillary/interval.products", laid_armillary_interval_products), ("armillary/interval.quotients", laid_armillary_interval_quotients)] }
def JacobianMeanValueSaid : Prop := jacobianMeanValueRow.holds Tryd.pinned (OpenSpec.ofChange jacobianMeanValueSpec)

/-- ITS FALSE NEIGHBOUR: 'it returns false'. Refute it at one input. -/
def jacobianMeanValueWrong : ChangeSpec := { name := "jacobianMeanValue", fn := fun _ => fun
  | [d1, d2, d3] => { results := [.lit (.bool false)], args := [d1, d2, d3] }
  | _ => none }
def JacobianMeanValueWrongFalsely : Prop := jacobianMeanValueRow.holds Tryd.pinned (OpenSpec.ofChange jacobianMeanValueWrong)

/-- 'armillarylaw10.JacobianLinearity': WHATEVER THE INPUT: true; the input reads as it did. -/
def jacobianLinearitySpec : ChangeSpec := { name := "jacobianLinearity", fn := fun _ => fun
  | [d1, d2, d3] => { results := [.lit (.bool true)], args := [d1, d2, d3] }
  | _ => none }
def jacobianLinearityRow : OpenClaim := { program := "ytohmodcheahpgaadoor", sum := "939b2ac060b63ee1bb3f947e501151487c9381d18adc677229e1a8bbcfe1dbd7", func := "armillary/armillarylaw10.JacobianLinearity", spec := "jacobianLinearity", unfollowed := true, recurses := true, named := ["armillary/interval.products", "armillary/interval.quotients"], apart := false, laid := [("armillary/interval.products", laid_armillary_interval_products), ("armillary/interval.quotients", laid_armillary_interval_quotients)] }
def JacobianLinearitySaid : Prop := jacobianLinearityRow.holds Tryd.pinned (OpenSpec.ofChange jacobianLinearitySpec)

/-- ITS FALSE NEIGHBOUR: 'it returns false'. Refute it at one input. -/
def jacobianLinearityWrong : ChangeSpec := { name := "jacobianLinearity", fn := fun _ => fun
  | [d1, d2, d3] => { results := [.lit (.bool false)], args := [d1, d2, d3] }
  | _ => none }
def JacobianLinearityWrongFalsely : Prop := jacobianLinearityRow.holds Tryd.pinned (OpenSpec.ofChange jacobianLinearityWrong)

/-- 'armillarylaw10.JacobianIndependence': WHATEVER THE INPUT: true; the input reads as it did. -/
def jacobianIndependenceSpec : ChangeSpec := { name := "jacobianIndependence", fn := fun _ => fun
  | [d] => { results := [.lit (.bool true)], args := [d] }
  | _ => none }
def jacobianIndependenceRow : OpenClaim := { program := "ytohmodcheahpgaadoor", sum := "939b2ac060b63ee1bb3f947e501151487c9381d18adc677229e1a8bbcfe1dbd7", func := "armillary/armillarylaw10.JacobianIndependence", spec := "jacobianIndependence", unfollowed := true, recurses := true, named := ["armillary/interval.products", "armillary/interval.quotients"], apart := false, laid := [("armillary/interval.products", laid_armillary_interval_products), ("armillary/interval.quotients", laid_armillary_interval_quotients)] }
def JacobianIndependenceSaid : Prop := jacobianIndependenceRow.holds Tryd.pinned (OpenSpec.ofChange jacobianIndependenceSpec)

/-- ITS FALSE NEIGHBOUR: 'it returns false'. Refute it at one input. -/
def jacobianIndependenceWrong : ChangeSpec := { name := "jacobianIndependence", fn := fun _ => fun
  | [d] => { results := [.lit (.bool false)], args := [d] }
  | _ => none }
def JacobianIndependenceWrongFalsely : Prop := jacobianIndependenceRow.holds Tryd.pinned (OpenSpec.ofChange jacobianIndependenceWrong)

/-- 'armillarylaw10.JacobianMixedDerivatives': WHATEVER THE INPUT: true; the input reads as it did. -/
def jacobianMixedDerivativesSpec : ChangeSpec := { name := "jacobianMixedDerivatives", fn := fun _ => fun
  | [d1, d2, d3] => { results := [.lit (.bool true)], args := [d1, d2, d3] }
  | _ => none }
def jacobianMixedDerivativesRow : OpenClaim := { program := "ytohmodcheahpgaadoor", sum := "939b2ac060b63ee1bb3f947e501151487c9381d18adc677229e1a8bbcfe1dbd7", func := "armillary/armillarylaw10.JacobianMixedDerivatives", spec := "jacobianMixedDerivatives", unfollowed := true, recurses := true, named := ["armillary/interval.products", "armillary/interval.quotients"], apart := false, laid := [("armillary/interval.products", laid_armillary_interval_products), ("armillary/interval.quotients", laid_armillary_interval_quotients)] }
def JacobianMixedDerivativesSaid : Prop := jacobianMixedDerivativesRow.holds Tryd.pinned (OpenSpec.ofChange jacobianMixedDerivativesSpec)

/-- ITS FALSE NEIGHBOUR: 'it returns false'. Refute it at one input. -/
def jacobianMixedDerivativesWrong : ChangeSpec := { name := "jacobianMixedDerivatives", fn := fun _ => fun
  | [d1, d2, d3] => { results := [.lit (.bool false)], args := [d1, d2, d3] }
  | _ => none }
def JacobianMixedDerivativesWrongFalsely : Prop := jacobianMixedDerivativesRow.holds Tryd.pinned (OpenSpec.ofChange jacobianMixedDerivativesWrong)

/-- 'armillarylaw10.JacobianCoordinates': WHATEVER THE INPUT: true; the input reads as it did. -/
def jacobianCoordinatesSpec : ChangeSpec := { name := "jacobianCoordinates", fn := fun _ => fun
  | [d1, d2] => { results := [.lit (.bool true)], args := [d1, d2] }
  | _ => none }
def jacobianCoordinatesRow : OpenClaim := { program := "ytohmodcheahpgaadoor", sum := "939b2ac060b63ee1bb3f947e501151487c9381d18adc677229e1a8bbcfe1dbd7", func := "armillary/armillarylaw10.JacobianCoordinates", spec := "jacobianCoordinates", unfollowed := true, recurses := true, named := ["armillary/interval.products", "armillary/interval.quotients"], apart := false, laid := [("armillary/interval.products", laid_armillary_interval_products), ("armillary/interval.quotients", laid_armillary_interval_quotients)] }
def JacobianCoordinatesSaid : Prop := jacobianCoordinatesRow.holds Tryd.pinned (OpenSpec.ofChange jacobianCoordinatesSpec)

/-- ITS FALSE NEIGHBOUR: 'it returns false'. Refute it at one input. -/
def jacobianCoordinatesWrong : ChangeSpec := { name := "jacobianCoordinates", fn := fun _ => fun
  | [d1, d2] => { results := [.lit (.bool false)], args := [d1, d2] }
  | _ => none }
def JacobianCoordinatesWrongFalsely : Prop := jacobianCoordinatesRow.holds Tryd.pinned (OpenSpec.ofChange jacobianCoordinatesWrong)

/-- 'armillarylaw10.JacobianLieDerivative': WHATEVER THE INPUT: true; the input reads as it did. -/
def jacobianLieDerivativeSpec : ChangeSpec := { name := "jacobianLieDerivative", fn := fun _ => fun
  | [d1, d2] => { results := [.lit (.bool true)], args := [d1, d2] }
  | _ => none }
def jacobianLieDerivativeRow : OpenClaim := { program := "ytohmodcheahpgaadoor", sum := "939b2ac060b63ee1bb3f947e501151487c9381d18adc677229e1a8bbcfe1dbd7", func := "armillary/armillarylaw10.JacobianLieDerivative", spec := "jacobianLieDerivative", unfollowed := true, recurses := true, named := ["armillary/interval.products", "armillary/interval.quotients"], apart := false, laid := [("armillary/interval.products", laid_armillary_interval_products), ("armillary/interval.quotients", laid_armillary_interval_quotients)] }
def JacobianLieDerivativeSaid : Prop := jacobianLieDerivativeRow.holds Tryd.pinned (OpenSpec.ofChange jacobianLieDerivativeSpec)

/-- ITS FALSE NEIGHBOUR: 'it returns false'. Refute it at one input. -/
def jacobianLieDerivativeWrong : ChangeSpec := { name := "jacobianLieDerivative", fn := fun _ => fun
  | [d1, d2] => { results := [.lit (.bool false)], args := [d1, d2] }
  | _ => none }
def JacobianLieDerivativeWrongFalsely : Prop := jacobianLieDerivativeRow.holds Tryd.pinned (OpenSpec.ofChange jacobianLieDerivativeWrong)

/- THE SECOND FORM. 'bulk': how many values and letters a reading holds, each counted each time it is reached (what is shared counts as often as it is met; a slice's spare places count too). A statement '..UptoSaid' is the law's where the arguments, and the package variables that the reading takes, are together of bulk at most 1048576: NARROWER than '..Said'. Prove '..Said' where nothing that the law and all that it calls make is longer than what came in: it says more and counts as full. Else prove '..UptoSaid'. A law counts once. -/
mutual
def uptoBulk {H : Type} : DataW H → Nat
  | .lit (.string bytes) => bytes.length + 1
  | .lit _ => 1
  | .nil => 1
  | .ptr d => uptoBulk d + 1
  | .slice elems spare => uptoBulkAll elems + uptoBulkAll spare + 1
  | .agg parts => uptoBulkAll parts + 1
  | .iface _ d => uptoBulk d + 1
  | .map entries => uptoBulkEntries entries + 1
  | .held _ => 1
def uptoBulkAll {H : Type} : List (DataW H) → Nat
  | [] => 0
  | d :: r => uptoBulk d + uptoBulkAll r
def uptoBulkEntries {H : Type} : List (Lit × DataW H) → Nat
  | [] => 0
  | x :: r => uptoBulkEntry x + uptoBulkEntries r
def uptoBulkEntry {H : Type} : Lit × DataW H → Nat
  | (.string bytes, d) => bytes.length + uptoBulk d + 1
  | (_, d) => uptoBulk d + 1
 end
def uptoSmall : (H : Type) → List (DataW H) → Bool := fun _ ds => decide (uptoBulkAll ds ≤ 1048576)
def OpenSpec.upto (s : _root_.Go.ChangeSpec) : _root_.Go.OpenSpec := { _root_.Go.OpenSpec.ofChange s with cond := some uptoSmall }

/-- 'armillarylaw10.JacobianSimplify', WHERE WHAT IT READS IS OF BULK AT MOST 1048576: true; the input reads as it did. -/
def jacobianSimplifyUptoRow : OpenClaim := { program := "ytohmodcheahpgaadoor", sum := "939b2ac060b63ee1bb3f947e501151487c9381d18adc677229e1a8bbcfe1dbd7", func := "armillary/armillarylaw10.JacobianSimplify", spec := "jacobianSimplify", unfollowed := true, recurses := true, named := ["armillary/interval.products", "armillary/interval.quotients"], apart := false, laid := [("armillary/interval.products", laid_armillary_interval_products), ("armillary/interval.quotients", laid_armillary_interval_quotients)], narrowed := true }
def JacobianSimplifyUptoSaid : Prop := jacobianSimplifyUptoRow.holds Tryd.pinned (OpenSpec.upto jacobianSimplifySpec)

/-- 'armillarylaw10.JacobianPolynomials', WHERE WHAT IT READS IS OF BULK AT MOST 1048576: true; the input reads as it did. -/
def jacobianPolynomialsUptoRow : OpenClaim := { program := "ytohmodcheahpgaadoor", sum := "939b2ac060b63ee1bb3f947e501151487c9381d18adc677229e1a8bbcfe1dbd7", func := "armillary/armillarylaw10.JacobianPolynomials", spec := "jacobianPolynomials", unfollowed := true, recurses := true, named := ["armillary/interval.products", "armillary/interval.quotients"], apart := false, laid := [("armillary/interval.products", laid_armillary_interval_products), ("armillary/interval.quotients", laid_armillary_interval_quotients)], narrowed := true }
def JacobianPolynomialsUptoSaid : Prop := jacobianPolynomialsUptoRow.holds Tryd.pinned (OpenSpec.upto jacobianPolynomialsSpec)

/-- 'armillarylaw10.JacobianMeanValue', WHERE WHAT IT READS IS OF BULK AT MOST 1048576: true; the input reads as it did. -/
def jacobianMeanValueUptoRow : OpenClaim := { program := "ytohmodcheahpgaadoor", sum := "939b2ac060b63ee1bb3f947e501151487c9381d18adc677229e1a8bbcfe1dbd7", func := "armillary/armillarylaw10.JacobianMeanValue", spec := "jacobianMeanValue", unfollowed := true, recurses := true, named := ["armillary/interval.products", "armillary/interval.quotients"], apart := false, laid := [("armillary/interval.products", laid_armillary_interval_products), ("armillary/interval.quotients", laid_armillary_interval_quotients)], narrowed := true }
def JacobianMeanValueUptoSaid : Prop := jacobianMeanValueUptoRow.holds Tryd.pinned (OpenSpec.upto jacobianMeanValueSpec)

/-- 'armillarylaw10.JacobianLinearity', WHERE WHAT IT READS IS OF BULK AT MOST 1048576: true; the input reads as it did. -/
def jacobianLinearityUptoRow : OpenClaim := { program := "ytohmodcheahpgaadoor", sum := "939b2ac060b63ee1bb3f947e501151487c9381d18adc677229e1a8bbcfe1dbd7", func := "armillary/armillarylaw10.JacobianLinearity", spec := "jacobianLinearity", unfollowed := true, recurses := true, named := ["armillary/interval.products", "armillary/interval.quotients"], apart := false, laid := [("armillary/interval.products", laid_armillary_interval_products), ("armillary/interval.quotients", laid_armillary_interval_quotients)], narrowed := true }
def JacobianLinearityUptoSaid : Prop := jacobianLinearityUptoRow.holds Tryd.pinned (OpenSpec.upto jacobianLinearitySpec)

/-- 'armillarylaw10.JacobianIndependence', WHERE WHAT IT READS IS OF BULK AT MOST 1048576: true; the input reads as it did. -/
def jacobianIndependenceUptoRow : OpenClaim := { program := "ytohmodcheahpgaadoor", sum := "939b2ac060b63ee1bb3f947e501151487c9381d18adc677229e1a8bbcfe1dbd7", func := "armillary/armillarylaw10.JacobianIndependence", spec := "jacobianIndependence", unfollowed := true, recurses := true, named := ["armillary/interval.products", "armillary/interval.quotients"], apart := false, laid := [("armillary/interval.products", laid_armillary_interval_products), ("armillary/interval.quotients", laid_armillary_interval_quotients)], narrowed := true }
def JacobianIndependenceUptoSaid : Prop := jacobianIndependenceUptoRow.holds Tryd.pinned (OpenSpec.upto jacobianIndependenceSpec)

/-- 'armillarylaw10.JacobianMixedDerivatives', WHERE WHAT IT READS IS OF BULK AT MOST 1048576: true; the input reads as it did. -/
def jacobianMixedDerivativesUptoRow : OpenClaim := { program := "ytohmodcheahpgaadoor", sum := "939b2ac060b63ee1bb3f947e501151487c9381d18adc677229e1a8bbcfe1dbd7", func := "armillary/armillarylaw10.JacobianMixedDerivatives", spec := "jacobianMixedDerivatives", unfollowed := true, recurses := true, named := ["armillary/interval.products", "armillary/interval.quotients"], apart := false, laid := [("armillary/interval.products", laid_armillary_interval_products), ("armillary/interval.quotients", laid_armillary_interval_quotients)], narrowed := true }
def JacobianMixedDerivativesUptoSaid : Prop := jacobianMixedDerivativesUptoRow.holds Tryd.pinned (OpenSpec.upto jacobianMixedDerivativesSpec)

/-- 'armillarylaw10.JacobianCoordinates', WHERE WHAT IT READS IS OF BULK AT MOST 1048576: true; the input reads as it did. -/
def jacobianCoordinatesUptoRow : OpenClaim := { program := "ytohmodcheahpgaadoor", sum := "939b2ac060b63ee1bb3f947e501151487c9381d18adc677229e1a8bbcfe1dbd7", func := "armillary/armillarylaw10.JacobianCoordinates", spec := "jacobianCoordinates", unfollowed := true, recurses := true, named := ["armillary/interval.products", "armillary/interval.quotients"], apart := false, laid := [("armillary/interval.products", laid_armillary_interval_products), ("armillary/interval.quotients", laid_armillary_interval_quotients)], narrowed := true }
def JacobianCoordinatesUptoSaid : Prop := jacobianCoordinatesUptoRow.holds Tryd.pinned (OpenSpec.upto jacobianCoordinatesSpec)

/-- 'armillarylaw10.JacobianLieDerivative', WHERE WHAT IT READS IS OF BULK AT MOST 1048576: true; the input reads as it did. -/
def jacobianLieDerivativeUptoRow : OpenClaim := { program := "ytohmodcheahpgaadoor", sum := "939b2ac060b63ee1bb3f947e501151487c9381d18adc677229e1a8bbcfe1dbd7", func := "armillary/armillarylaw10.JacobianLieDerivative", spec := "jacobianLieDerivative", unfollowed := true, recurses := true, named := ["armillary/interval.products", "armillary/interval.quotients"], apart := false, laid := [("armillary/interval.products", laid_armillary_interval_products), ("armillary/interval.quotients", laid_armillary_interval_quotients)], narrowed := true }
def JacobianLieDerivativeUptoSaid : Prop := jacobianLieDerivativeUptoRow.holds Tryd.pinned (OpenSpec.upto jacobianLieDerivativeSpec)

end Rows
end Go.Proofs.YtohmodcheahpgaaDoor
