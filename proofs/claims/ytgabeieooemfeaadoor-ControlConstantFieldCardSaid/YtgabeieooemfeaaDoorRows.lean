/-
  NARROWER THAN 'FOR EVERY INPUT', by the rows' own cells (each row's printed sentence says how): ControlStepSizes: laid · ControlConstantField: laid.
  DERIVED. THE GIVEN ROWS OF THIS SEAT. 2 by the template 'for every input the law returns true; each argument reads behind the call as it read before'; 0 by the template 'total and deterministic' (their statements: YtgabeieooemfeaaDoorTotals.lean).
  GIVEN WITH THE SEED: the statements are not yours to turn. If you find one false, say at which input.
  Laid BY PROGRAM, IN A SANDBOX (cutbox-rows.mjs): the forced cells as the released guide's own fill.sh prints them over the translation 4fc24dda20aba472… (all of the seat's roots in one cut). By AI agents, Wed Nov 11 2026. No macro, syntax, notation, axiom, sorry.
-/
import Derived.Test.YtgabeieooemfeaaDoorChecked
import GoSem.Claim
import GoSem.ClaimJoined
import GoSem.ClaimMapViews
import Derived.JoinedTies
import Derived.KernelRfl
namespace Go.Proofs.YtgabeieooemfeaaDoor
/- THE CELL 'sum', in the pinned program and in every row, IS THE sha256 OF THE DUMP (.gsa) THAT YtgabeieooemfeaaDoorProg.lean LOADS. Nothing in Lean hashes anything: it is a label: what it is worth is what the hold of that sum in a sandbox is worth. -/
noncomputable def Tryd.pinned : Pinned := { name := "ytgabeieooemfeaadoor", sum := "4fc24dda20aba4721dc7bec6f3b8f1f7b20d91890511807be7a59d947f0807ae", checked := Tryd.checked }
namespace Rows
def none {H : Type} : Left H := { results := [], args := [] }

/- WHAT THE LISTED PACKAGE-LEVEL VARIABLES READ AS WHEN THE CALL BEGINS. Each datum BY PROGRAM (the guide's laid-datum.mjs) off the statement by which the dump's own 'gosem.cut.vars' lays the variable. In a bare row this is a premise. The card (YtgabeieooemfeaaDoorCards.lean) ties it to the program's text. -/
def laid_armillary_interval_products {H : Type} : DataW H := .iface "func table" (.agg [.agg [.agg [.iface "func" (.lit (.string [97, 114, 109, 105, 108, 108, 97, 114, 121, 47, 105, 110, 116, 101, 114, 118, 97, 108, 46, 104, 104])), .iface "func" (.lit (.string [97, 114, 109, 105, 108, 108, 97, 114, 121, 47, 105, 110, 116, 101, 114, 118, 97, 108, 46, 108, 108]))], .agg [.iface "func" (.lit (.string [97, 114, 109, 105, 108, 108, 97, 114, 121, 47, 105, 110, 116, 101, 114, 118, 97, 108, 46, 108, 104])), .iface "func" (.lit (.string [97, 114, 109, 105, 108, 108, 97, 114, 121, 47, 105, 110, 116, 101, 114, 118, 97, 108, 46, 108, 108]))], .agg [.iface "func" (.lit (.string [97, 114, 109, 105, 108, 108, 97, 114, 121, 47, 105, 110, 116, 101, 114, 118, 97, 108, 46, 108, 104])), .iface "func" (.lit (.string [97, 114, 109, 105, 108, 108, 97, 114, 121, 47, 105, 110, 116, 101, 114, 118, 97, 108, 46, 104, 108]))]], .agg [.agg [.iface "func" (.lit (.string [97, 114, 109, 105, 108, 108, 97, 114, 121, 47, 105, 110, 116, 101, 114, 118, 97, 108, 46, 104, 108])), .iface "func" (.lit (.string [97, 114, 109, 105, 108, 108, 97, 114, 121, 47, 105, 110, 116, 101, 114, 118, 97, 108, 46, 108, 108]))], .agg [.nil, .nil], .agg [.iface "func" (.lit (.string [97, 114, 109, 105, 108, 108, 97, 114, 121, 47, 105, 110, 116, 101, 114, 118, 97, 108, 46, 108, 104])), .iface "func" (.lit (.string [97, 114, 109, 105, 108, 108, 97, 114, 121, 47, 105, 110, 116, 101, 114, 118, 97, 108, 46, 104, 104]))]], .agg [.agg [.iface "func" (.lit (.string [97, 114, 109, 105, 108, 108, 97, 114, 121, 47, 105, 110, 116, 101, 114, 118, 97, 108, 46, 104, 108])), .iface "func" (.lit (.string [97, 114, 109, 105, 108, 108, 97, 114, 121, 47, 105, 110, 116, 101, 114, 118, 97, 108, 46, 108, 104]))], .agg [.iface "func" (.lit (.string [97, 114, 109, 105, 108, 108, 97, 114, 121, 47, 105, 110, 116, 101, 114, 118, 97, 108, 46, 104, 108])), .iface "func" (.lit (.string [97, 114, 109, 105, 108, 108, 97, 114, 121, 47, 105, 110, 116, 101, 114, 118, 97, 108, 46, 104, 104]))], .agg [.iface "func" (.lit (.string [97, 114, 109, 105, 108, 108, 97, 114, 121, 47, 105, 110, 116, 101, 114, 118, 97, 108, 46, 108, 108])), .iface "func" (.lit (.string [97, 114, 109, 105, 108, 108, 97, 114, 121, 47, 105, 110, 116, 101, 114, 118, 97, 108, 46, 104, 104]))]]])
def laid_armillary_interval_quotients {H : Type} : DataW H := .iface "func table" (.agg [.agg [.agg [.iface "func" (.lit (.string [97, 114, 109, 105, 108, 108, 97, 114, 121, 47, 105, 110, 116, 101, 114, 118, 97, 108, 46, 104, 108])), .iface "func" (.lit (.string [97, 114, 109, 105, 108, 108, 97, 114, 121, 47, 105, 110, 116, 101, 114, 118, 97, 108, 46, 108, 104]))], .agg [.iface "func" (.lit (.string [97, 114, 109, 105, 108, 108, 97, 114, 121, 47, 105, 110, 116, 101, 114, 118, 97, 108, 46, 108, 108])), .iface "func" (.lit (.string [97, 114, 109, 105, 108, 108, 97, 114, 121, 47, 105, 110, 116, 101, 114, 118, 97, 108, 46, 104, 104]))]], .agg [.agg [.iface "func" (.lit (.string [97, 114, 109, 105, 108, 108, 97, 114, 121, 47, 105, 110, 116, 101, 114, 118, 97, 108, 46, 104, 104])), .iface "func" (.lit (.string [97, 114, 109, 105, 108, 108, 97, 114, 121, 47, 105, 110, 116, 101, 114, 118, 97, 108, 46, 108, 104]))], .agg [.iface "func" (.lit (.string [97, 114, 109, 105, 108, 108, 97, 114, 121, 47, 105, 110, 116, 101, 114, 118, 97, 108, 46, 108, 108])), .iface "func" (.lit (.string [97, 114, 109, 105, 108, 108, 97, 114, 121, 47, 105, 110, 116, 101, 114, 118, 97, 108, 46, 104, 108]))]], .agg [.agg [.iface "func" (.lit (.string [97, 114, 109, 105, 108, 108, 97, 114, 121, 47, 105, 110, 116, 101, 114, 118, 97, 108, 46, 104, 104])), .iface "func" (.lit (.string [97, 114, 109, 105, 108, 108, 97, 114, 121, 47, 105, 110, 116, 101, 114, 118, 97, 108, 46, 108, 108]))], .agg [.iface "func" (.lit (.string [97, 114, 109, 105, 108, 108, 97, 114, 121, 47, 105, 110, 116, 101, 114, 118, 97, 108, 46, 108, 104])), .iface "func" (.lit (.string [97, 114, 109, 105, 108, 108, 97, 114, 121, 47, 105, 110, 116, 101, 114, 118, 97, 108, 46, 104, 108]))]]])
def laid_armillary_tape_ops {H : Type} : DataW H := .iface "func table" (.agg [.agg [.nil, .nil], .agg [.nil, .nil], .agg [.nil, .nil], .agg [.nil, .nil], .agg [.iface "func" (.lit (.string [97, 114, 109, 105, 108, 108, 97, 114, 121, 47, 105, 110, 116, 101, 114, 118, 97, 108, 46, 78, 101, 103])), .nil], .agg [.iface "func" (.lit (.string [97, 114, 109, 105, 108, 108, 97, 114, 121, 47, 105, 110, 116, 101, 114, 118, 97, 108, 46, 83, 113, 117, 97, 114, 101])), .nil], .agg [.iface "func" (.lit (.string [97, 114, 109, 105, 108, 108, 97, 114, 121, 47, 116, 97, 112, 101, 46, 114, 111, 111, 116])), .nil], .agg [.nil, .iface "func" (.lit (.string [97, 114, 109, 105, 108, 108, 97, 114, 121, 47, 105, 110, 116, 101, 114, 118, 97, 108, 46, 65, 100, 100]))], .agg [.nil, .iface "func" (.lit (.string [97, 114, 109, 105, 108, 108, 97, 114, 121, 47, 105, 110, 116, 101, 114, 118, 97, 108, 46, 83, 117, 98]))], .agg [.nil, .iface "func" (.lit (.string [97, 114, 109, 105, 108, 108, 97, 114, 121, 47, 105, 110, 116, 101, 114, 118, 97, 108, 46, 77, 117, 108]))], .agg [.nil, .iface "func" (.lit (.string [97, 114, 109, 105, 108, 108, 97, 114, 121, 47, 105, 110, 116, 101, 114, 118, 97, 108, 46, 68, 105, 118]))]])

/-- 'armillarylaw13.ControlStepSizes': WHATEVER THE INPUT: true; the input reads as it did. -/
def controlStepSizesSpec : ChangeSpec := { name := "controlStepSizes", fn := fun _ => fun
  | [d1, d2] => { results := [.lit (.bool true)], args := [d1, d2] }
  | _ => none }
def controlStepSizesRow : OpenClaim := { program := "ytgabeieooemfeaadoor", sum := "4fc24dda20aba4721dc7bec6f3b8f1f7b20d91890511807be7a59d947f0807ae", func := "armillary/armillarylaw13.ControlStepSizes", spec := "controlStepSizes", unfollowed := true, recurses := true, named := ["armillary/tape.ops", "armillary/interval.products", "armillary/interval.quotients"], apart := false, laid := [("armillary/interval.products", laid_armillary_interval_products), ("armillary/interval.quotients", laid_armillary_interval_quotients), ("armillary/tape.ops", laid_armillary_tape_ops)] }
def ControlStepSizesSaid : Prop := controlStepSizesRow.holds Tryd.pinned (OpenSpec.ofChange controlStepSizesSpec)

/-- ITS FALSE NEIGHBOUR: 'it returns false'. Refute it at one input. -/
def controlStepSizesWrong : ChangeSpec := { name := "controlStepSizes", fn := fun _ => fun
  | [d1, d2] => { results := [.lit (.bool false)], args := [d1, d2] }
  | _ => none }
def ControlStepSizesWrongFalsely : Prop := controlStepSizesRow.holds Tryd.pinned (OpenSpec.ofChange controlStepSizesWrong)

/-- 'armillarylaw13.ControlConstantField': WHATEVER THE INPUT: true; the input reads as it did. -/
def controlConstantFieldSpec : ChangeSpec := { name := "controlConstantField", fn := fun _ => fun
  | [d1, d2, d3] => { results := [.lit (.bool true)], args := [d1, d2, d3] }
  | _ => none }
def controlConstantFieldRow : OpenClaim := { program := "ytgabeieooemfeaadoor", sum := "4fc24dda20aba4721dc7bec6f3b8f1f7b20d91890511807be7a59d947f0807ae", func := "armillary/armillarylaw13.ControlConstantField", spec := "controlConstantField", unfollowed := true, recurses := true, named := ["armillary/tape.ops", "armillary/interval.products", "armillary/interval.quotients"], apart := false, laid := [("armillary/interval.products", laid_armillary_interval_products), ("armillary/interval.quotients", laid_armillary_interval_quotients), ("armillary/tape.ops", laid_armillary_tape_ops)] }
def ControlConstantFieldSaid : Prop := controlConstantFieldRow.holds Tryd.pinned (OpenSpec.ofChange controlConstantFieldSpec)

/-- ITS FALSE NEIGHBOUR: 'it returns false'. Refute it at one input. -/
def controlConstantFieldWrong : ChangeSpec := { name := "controlConstantField", fn := fun _ => fun
  | [d1, d2, d3] => { results := [.lit (.bool false)], args := [d1, d2, d3] }
  | _ => none }
def ControlConstantFieldWrongFalsely : Prop := controlConstantFieldRow.holds Tryd.pinned (OpenSpec.ofChange controlConstantFieldWrong)

/- THE SECOND FORM. 'bulk': how many values and letters a reading holds, each counted each time it is reached (what is shared counts as often as it is met; a slice's spare places count too). A statement '..UptoSaid' is the law's where the arguments, and the package variables that the reading takes, are together of bulk at most 1048576: NARROWER than '..Said'. Prove '..Said' where nothing that the law and all that it calls make is longer than what came in: it says more and counts as full. Else prove '..UptoSaid'. A law counts once. -/
mutual
def uptoBulk {H : Type} : DataW H → Nat
  | .lit (.string bytes) => bytes.length + 1
  | .lit _ => 1
  | .nil => 1
  | .ptr d => uptoBulk d + 1
  | .slice elems spare => uptoBulkAll elems + uptoBulkAll spare + 1
  | .agg parts => uptoBulkAll parts + 1
  | .iface _ d => uptoBulk d + 1
  | .map entries => uptoBulkEntries entries + 1
  | .held _ => 1
def uptoBulkAll {H : Type} : List (DataW H) → Nat
  | [] => 0
  | d :: r => uptoBulk d + uptoBulkAll r
def uptoBulkEntries {H : Type} : List (Lit × DataW H) → Nat
  | [] => 0
  | x :: r => uptoBulkEntry x + uptoBulkEntries r
def uptoBulkEntry {H : Type} : Lit × DataW H → Nat
  | (.string bytes, d) => bytes.length + uptoBulk d + 1
  | (_, d) => uptoBulk d + 1
 end
def uptoSmall : (H : Type) → List (DataW H) → Bool := fun _ ds => decide (uptoBulkAll ds ≤ 1048576)
def OpenSpec.upto (s : _root_.Go.ChangeSpec) : _root_.Go.OpenSpec := { _root_.Go.OpenSpec.ofChange s with cond := some uptoSmall }

/-- 'armillarylaw13.ControlStepSizes', WHERE WHAT IT READS IS OF BULK AT MOST 1048576: true; the input reads as it did. -/
def controlStepSizesUptoRow : OpenClaim := { program := "ytgabeieooemfeaadoor", sum := "4fc24dda20aba4721dc7bec6f3b8f1f7b20d91890511807be7a59d947f0807ae", func := "armillary/armillarylaw13.ControlStepSizes", spec := "controlStepSizes", unfollowed := true, recurses := true, named := ["armillary/tape.ops", "armillary/interval.products", "armillary/interval.quotients"], apart := false, laid := [("armillary/interval.products", laid_armillary_interval_products), ("armillary/interval.quotients", laid_armillary_interval_quotients), ("armillary/tape.ops", laid_armillary_tape_ops)], narrowed := true }
def ControlStepSizesUptoSaid : Prop := controlStepSizesUptoRow.holds Tryd.pinned (OpenSpec.upto controlStepSizesSpec)

/-- 'armillarylaw13.ControlConstantField', WHERE WHAT IT READS IS OF BULK AT MOST 1048576: true; the input reads as it did. -/
def controlConstantFieldUptoRow : OpenClaim := { program := "ytgabeieooemfeaadoor", sum := "4fc24dda20aba4721dc7bec6f3b8f1f7b20d91890511807be7a59d947f0807ae", func := "armillary/armillarylaw13.ControlConstantField", spec := "controlConstantField", unfollowed := true, recurses := true, named := ["armillary/tape.ops", "armillary/interval.products", "armillary/interval.quotients"], apart := false, laid := [("armillary/interval.products", laid_armillary_interval_products), ("armillary/interval.quotients", laid_armillary_interval_quotients), ("armillary/tape.ops", laid_armillary_tape_ops)], narrowed := true }
def ControlConstantFieldUptoSaid : Prop := controlConstantFieldUptoRow.holds Tryd.pinned (OpenSpec.upto controlConstantFieldSpec)

end Rows
end Go.Proofs.YtgabeieooemfeaaDoor
