/-
  No cell of these rows narrows 'for every input' (looked for: loops, veiled, ifaces, maps, wideKeys, modest, calm, conditions, laid).
  DERIVED. THE GIVEN ROWS OF THIS SEAT. 6 by the template 'for every input the law returns true; each argument reads behind the call as it read before'; 0 by the template 'total and deterministic' (their statements: YthgamdcnomoidaaTotals.lean).
  GIVEN WITH THE SEED: the statements are not yours to turn. If you find one false, say at which input.
  Laid BY PROGRAM, IN A SANDBOX (cutbox-rows.mjs): the forced cells as the released guide's own fill.sh prints them over the translation 4f7df44c3546a0e7… (all of the seat's roots in one cut). By AI agents, Wed Nov 11 2026. No macro, syntax, notation, axiom, sorry.
-/
import Derived.Test.YthgamdcnomoidaaChecked
import GoSem.Claim
import GoSem.ClaimJoined
import GoSem.ClaimMapViews
import Derived.JoinedTies
import Derived.KernelRfl
namespace Go.Proofs.Ythgamdcnomoidaa
/- THE CELL 'sum', in the pinned program and in every row, IS THE sha256 OF THE DUMP (.gsa) THAT YthgamdcnomoidaaProg.lean LOADS. Nothing in Lean hashes anything: it is a label: what it is worth is what the hold of that sum in a sandbox is worth. -/
noncomputable def Try.pinned : Pinned := { name := "ythgamdcnomoidaa", sum := "4f7df44c3546a0e7d31371f44be3218997fa92e53b09575af435b1801748f07a", checked := Try.checked }
namespace Rows
def none {H : Type} : Left H := { results := [], args := [] }

/-- 'armillarylaw25.CertificateFromSegmentsMatchesReference': WHATEVER THE INPUT: true; the input reads as it did. -/
def certificateFromSegmentsMatchesReferenceSpec : ChangeSpec := { name := "certificateFromSegmentsMatchesReference", fn := fun _ => fun
  | [d1, d2, d3] => { results := [.lit (.bool true)], args := [d1, d2, d3] }
  | _ => none }
def certificateFromSegmentsMatchesReferenceRow : OpenClaim := { program := "ythgamdcnomoidaa", sum := "4f7df44c3546a0e7d31371f44be3218997fa92e53b09575af435b1801748f07a", func := "armillary/armillarylaw25.CertificateFromSegmentsMatchesReference", spec := "certificateFromSegmentsMatchesReference", unfollowed := true, recurses := true, apart := false }
def CertificateFromSegmentsMatchesReferenceSaid : Prop := certificateFromSegmentsMatchesReferenceRow.holds Try.pinned (OpenSpec.ofChange certificateFromSegmentsMatchesReferenceSpec)

/-- ITS FALSE NEIGHBOUR: 'it returns false'. Refute it at one input. -/
def certificateFromSegmentsMatchesReferenceWrong : ChangeSpec := { name := "certificateFromSegmentsMatchesReference", fn := fun _ => fun
  | [d1, d2, d3] => { results := [.lit (.bool false)], args := [d1, d2, d3] }
  | _ => none }
def CertificateFromSegmentsMatchesReferenceWrongFalsely : Prop := certificateFromSegmentsMatchesReferenceRow.holds Try.pinned (OpenSpec.ofChange certificateFromSegmentsMatchesReferenceWrong)

/-- 'armillarylaw25.CertificateRoundTrip': WHATEVER THE INPUT: true; the input reads as it did. -/
def certificateRoundTripSpec : ChangeSpec := { name := "certificateRoundTrip", fn := fun _ => fun
  | [d1, d2, d3] => { results := [.lit (.bool true)], args := [d1, d2, d3] }
  | _ => none }
def certificateRoundTripRow : OpenClaim := { program := "ythgamdcnomoidaa", sum := "4f7df44c3546a0e7d31371f44be3218997fa92e53b09575af435b1801748f07a", func := "armillary/armillarylaw25.CertificateRoundTrip", spec := "certificateRoundTrip", unfollowed := true, recurses := true, apart := false }
def CertificateRoundTripSaid : Prop := certificateRoundTripRow.holds Try.pinned (OpenSpec.ofChange certificateRoundTripSpec)

/-- ITS FALSE NEIGHBOUR: 'it returns false'. Refute it at one input. -/
def certificateRoundTripWrong : ChangeSpec := { name := "certificateRoundTrip", fn := fun _ => fun
  | [d1, d2, d3] => { results := [.lit (.bool false)], args := [d1, d2, d3] }
  | _ => none }
def CertificateRoundTripWrongFalsely : Prop := certificateRoundTripRow.holds Try.pinned (OpenSpec.ofChange certificateRoundTripWrong)

/-- 'armillarylaw25.CertificateTruncation': WHATEVER THE INPUT: true; the input reads as it did. -/
def certificateTruncationSpec : ChangeSpec := { name := "certificateTruncation", fn := fun _ => fun
  | [d1, d2, d3] => { results := [.lit (.bool true)], args := [d1, d2, d3] }
  | _ => none }
def certificateTruncationRow : OpenClaim := { program := "ythgamdcnomoidaa", sum := "4f7df44c3546a0e7d31371f44be3218997fa92e53b09575af435b1801748f07a", func := "armillary/armillarylaw25.CertificateTruncation", spec := "certificateTruncation", unfollowed := true, recurses := true, apart := false }
def CertificateTruncationSaid : Prop := certificateTruncationRow.holds Try.pinned (OpenSpec.ofChange certificateTruncationSpec)

/-- ITS FALSE NEIGHBOUR: 'it returns false'. Refute it at one input. -/
def certificateTruncationWrong : ChangeSpec := { name := "certificateTruncation", fn := fun _ => fun
  | [d1, d2, d3] => { results := [.lit (.bool false)], args := [d1, d2, d3] }
  | _ => none }
def CertificateTruncationWrongFalsely : Prop := certificateTruncationRow.holds Try.pinned (OpenSpec.ofChange certificateTruncationWrong)

/-- 'armillarylaw25.CertificateDecodedValid': WHATEVER THE INPUT: true; the input reads as it did. -/
def certificateDecodedValidSpec : ChangeSpec := { name := "certificateDecodedValid", fn := fun _ => fun
  | [d] => { results := [.lit (.bool true)], args := [d] }
  | _ => none }
def certificateDecodedValidRow : OpenClaim := { program := "ythgamdcnomoidaa", sum := "4f7df44c3546a0e7d31371f44be3218997fa92e53b09575af435b1801748f07a", func := "armillary/armillarylaw25.CertificateDecodedValid", spec := "certificateDecodedValid", unfollowed := true, recurses := true, apart := false }
def CertificateDecodedValidSaid : Prop := certificateDecodedValidRow.holds Try.pinned (OpenSpec.ofChange certificateDecodedValidSpec)

/-- ITS FALSE NEIGHBOUR: 'it returns false'. Refute it at one input. -/
def certificateDecodedValidWrong : ChangeSpec := { name := "certificateDecodedValid", fn := fun _ => fun
  | [d] => { results := [.lit (.bool false)], args := [d] }
  | _ => none }
def CertificateDecodedValidWrongFalsely : Prop := certificateDecodedValidRow.holds Try.pinned (OpenSpec.ofChange certificateDecodedValidWrong)

/-- 'armillarylaw25.CertificateSegments': WHATEVER THE INPUT: true; the input reads as it did. -/
def certificateSegmentsSpec : ChangeSpec := { name := "certificateSegments", fn := fun _ => fun
  | [d1, d2] => { results := [.lit (.bool true)], args := [d1, d2] }
  | _ => none }
def certificateSegmentsRow : OpenClaim := { program := "ythgamdcnomoidaa", sum := "4f7df44c3546a0e7d31371f44be3218997fa92e53b09575af435b1801748f07a", func := "armillary/armillarylaw25.CertificateSegments", spec := "certificateSegments", unfollowed := true, recurses := true, apart := false }
def CertificateSegmentsSaid : Prop := certificateSegmentsRow.holds Try.pinned (OpenSpec.ofChange certificateSegmentsSpec)

/-- ITS FALSE NEIGHBOUR: 'it returns false'. Refute it at one input. -/
def certificateSegmentsWrong : ChangeSpec := { name := "certificateSegments", fn := fun _ => fun
  | [d1, d2] => { results := [.lit (.bool false)], args := [d1, d2] }
  | _ => none }
def CertificateSegmentsWrongFalsely : Prop := certificateSegmentsRow.holds Try.pinned (OpenSpec.ofChange certificateSegmentsWrong)

/-- 'armillarylaw25.CertificatePrefix': WHATEVER THE INPUT: true; the input reads as it did. -/
def certificatePrefixSpec : ChangeSpec := { name := "certificatePrefix", fn := fun _ => fun
  | [d1, d2, d3] => { results := [.lit (.bool true)], args := [d1, d2, d3] }
  | _ => none }
def certificatePrefixRow : OpenClaim := { program := "ythgamdcnomoidaa", sum := "4f7df44c3546a0e7d31371f44be3218997fa92e53b09575af435b1801748f07a", func := "armillary/armillarylaw25.CertificatePrefix", spec := "certificatePrefix", unfollowed := true, recurses := true, apart := false }
def CertificatePrefixSaid : Prop := certificatePrefixRow.holds Try.pinned (OpenSpec.ofChange certificatePrefixSpec)

/-- ITS FALSE NEIGHBOUR: 'it returns false'. Refute it at one input. -/
def certificatePrefixWrong : ChangeSpec := { name := "certificatePrefix", fn := fun _ => fun
  | [d1, d2, d3] => { results := [.lit (.bool false)], args := [d1, d2, d3] }
  | _ => none }
def CertificatePrefixWrongFalsely : Prop := certificatePrefixRow.holds Try.pinned (OpenSpec.ofChange certificatePrefixWrong)

/- THE SECOND FORM. 'bulk': how many values and letters a reading holds, each counted each time it is reached (what is shared counts as often as it is met; a slice's spare places count too). A statement '..UptoSaid' is the law's where the arguments, and the package variables that the reading takes, are together of bulk at most 1048576: NARROWER than '..Said'. Prove '..Said' where nothing that the law and all that it calls make is longer than what came in: it says more and counts as full. Else prove '..UptoSaid'. A law counts once. -/
mutual
def uptoBulk {H : Type} : DataW H → Nat
  | .lit (.string bytes) => bytes.length + 1
  | .lit _ => 1
  | .nil => 1
  | .ptr d => uptoBulk d + 1
  | .slice elems spare => uptoBulkAll elems + uptoBulkAll spare + 1
  | .agg parts => uptoBulkAll parts + 1
  | .iface _ d => uptoBulk d + 1
  | .map entries => uptoBulkEntries entries + 1
  | .held _ => 1
def uptoBulkAll {H : Type} : List (DataW H) → Nat
  | [] => 0
  | d :: r => uptoBulk d + uptoBulkAll r
def uptoBulkEntries {H : Type} : List (Lit × DataW H) → Nat
  | [] => 0
  | x :: r => uptoBulkEntry x + uptoBulkEntries r
def uptoBulkEntry {H : Type} : Lit × DataW H → Nat
  | (.string bytes, d) => bytes.length + uptoBulk d + 1
  | (_, d) => uptoBulk d + 1
 end
def uptoSmall : (H : Type) → List (DataW H) → Bool := fun _ ds => decide (uptoBulkAll ds ≤ 1048576)
def OpenSpec.upto (s : _root_.Go.ChangeSpec) : _root_.Go.OpenSpec := { _root_.Go.OpenSpec.ofChange s with cond := some uptoSmall }

/-- 'armillarylaw25.CertificateFromSegmentsMatchesReference', WHERE WHAT IT READS IS OF BULK AT MOST 1048576: true; the input reads as it did. -/
def certificateFromSegmentsMatchesReferenceUptoRow : OpenClaim := { program := "ythgamdcnomoidaa", sum := "4f7df44c3546a0e7d31371f44be3218997fa92e53b09575af435b1801748f07a", func := "armillary/armillarylaw25.CertificateFromSegmentsMatchesReference", spec := "certificateFromSegmentsMatchesReference", unfollowed := true, recurses := true, apart := false, narrowed := true }
def CertificateFromSegmentsMatchesReferenceUptoSaid : Prop := certificateFromSegmentsMatchesReferenceUptoRow.holds Try.pinned (OpenSpec.upto certificateFromSegmentsMatchesReferenceSpec)

/-- 'armillarylaw25.CertificateRoundTrip', WHERE WHAT IT READS IS OF BULK AT MOST 1048576: true; the input reads as it did. -/
def certificateRoundTripUptoRow : OpenClaim := { program := "ythgamdcnomoidaa", sum := "4f7df44c3546a0e7d31371f44be3218997fa92e53b09575af435b1801748f07a", func := "armillary/armillarylaw25.CertificateRoundTrip", spec := "certificateRoundTrip", unfollowed := true, recurses := true, apart := false, narrowed := true }
def CertificateRoundTripUptoSaid : Prop := certificateRoundTripUptoRow.holds Try.pinned (OpenSpec.upto certificateRoundTripSpec)

/-- 'armillarylaw25.CertificateTruncation', WHERE WHAT IT READS IS OF BULK AT MOST 1048576: true; the input reads as it did. -/
def certificateTruncationUptoRow : OpenClaim := { program := "ythgamdcnomoidaa", sum := "4f7df44c3546a0e7d31371f44be3218997fa92e53b09575af435b1801748f07a", func := "armillary/armillarylaw25.CertificateTruncation", spec := "certificateTruncation", unfollowed := true, recurses := true, apart := false, narrowed := true }
def CertificateTruncationUptoSaid : Prop := certificateTruncationUptoRow.holds Try.pinned (OpenSpec.upto certificateTruncationSpec)

/-- 'armillarylaw25.CertificateDecodedValid', WHERE WHAT IT READS IS OF BULK AT MOST 1048576: true; the input reads as it did. -/
def certificateDecodedValidUptoRow : OpenClaim := { program := "ythgamdcnomoidaa", sum := "4f7df44c3546a0e7d31371f44be3218997fa92e53b09575af435b1801748f07a", func := "armillary/armillarylaw25.CertificateDecodedValid", spec := "certificateDecodedValid", unfollowed := true, recurses := true, apart := false, narrowed := true }
def CertificateDecodedValidUptoSaid : Prop := certificateDecodedValidUptoRow.holds Try.pinned (OpenSpec.upto certificateDecodedValidSpec)

/-- 'armillarylaw25.CertificateSegments', WHERE WHAT IT READS IS OF BULK AT MOST 1048576: true; the input reads as it did. -/
def certificateSegmentsUptoRow : OpenClaim := { program := "ythgamdcnomoidaa", sum := "4f7df44c3546a0e7d31371f44be3218997fa92e53b09575af435b1801748f07a", func := "armillary/armillarylaw25.CertificateSegments", spec := "certificateSegments", unfollowed := true, recurses := true, apart := false, narrowed := true }
def CertificateSegmentsUptoSaid : Prop := certificateSegmentsUptoRow.holds Try.pinned (OpenSpec.upto certificateSegmentsSpec)

/-- 'armillarylaw25.CertificatePrefix', WHERE WHAT IT READS IS OF BULK AT MOST 1048576: true; the input reads as it did. -/
def certificatePrefixUptoRow : OpenClaim := { program := "ythgamdcnomoidaa", sum := "4f7df44c3546a0e7d31371f44be3218997fa92e53b09575af435b1801748f07a", func := "armillary/armillarylaw25.CertificatePrefix", spec := "certificatePrefix", unfollowed := true, recurses := true, apart := false, narrowed := true }
def CertificatePrefixUptoSaid : Prop := certificatePrefixUptoRow.holds Try.pinned (OpenSpec.upto certificatePrefixSpec)

end Rows
end Go.Proofs.Ythgamdcnomoidaa
