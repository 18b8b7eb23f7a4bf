/- For every raw certificate, order and pair of bytes, CertificateFromSegmentsMatchesReference returns true: FromSegments and the reference's FromSegments return the same of a made flow of which one segment may be changed. Conditions: none beyond those of the row. -/
import Derived.Test.YthgamdcnomoidaaM3
import Derived.Test.YthgamdcnomoidaaRows
set_option linter.unusedVariables false
set_option linter.unusedSimpArgs false
namespace Go.Proofs.Ythgamdcnomoidaa.certificateFromSegmentsMatchesReference
open Go.Arm Go.Proofs.Ythgamdcnomoidaa.Arm Go.ChangeShapes Go.WideShapes Go.ChangeAt Go.RowKit

theorem own : ownKnob Try.prog.godebug = none := by kernel_rfl
theorem laidOut : laidOutB Try.prog = true := by kernel_rfl
theorem types : (Try.f3.params.toList.all fun t => Try.prog.readableRec t && decide (t < Try.prog.types.size)) = true := by kernel_rfl
theorem law (av : List AV) (h : OkArgs tab 9 Try.f3.params.toList av) : Sound E 3 av [] (.ret (.bool true)) [] := by
  rw [Try.params3] at h
  obtain ⟨a, b, d, rfl, h1, h2, h3⟩ := okArgs3 h
  obtain ⟨c, rfl, hc⟩ := okCert h1
  obtain ⟨o, rfl, ho⟩ := okInt (i := i26) (k := .i8) rfl rfl h2
  obtain ⟨x, y, rfl, hx, hy⟩ := okPair h3
  exact s3 c o x y (wf_i8 ho) hx hy []
set_option maxRecDepth 100000 in
theorem lifted (os : Os) (started : os.Started) (H : Type) (enc : TypeId × Value → H) :
    ReturnsInHanded {} Try.checked os 3 .any (Rows.certificateFromSegmentsMatchesReferenceSpec.pre6 enc Try.prog Try.f3 Rows.certificateFromSegmentsMatchesReferenceRow.domain false) (Rows.certificateFromSegmentsMatchesReferenceSpec.post enc Try.prog Try.f3 false true false false) := by
  refine returnsInHanded_of_change_sized (C := Try.checked) own started (by kernel_rfl) Try.func3
    (ChangeSpec.witness6 (enc := enc) (C := Try.checked) false ⟨#[], #[.agg #[.int .i64 0, .slice none 0 0, .slice none 0 0], .int .i8 0, .agg #[.int .u8 0, .int .u8 0]], []⟩ 8 (by kernel_rfl) (by kernel_rfl) (by kernel_rfl) (by kernel_rfl)) ?_
  intro W base args ds gs before hval0 hW hcnd hsz0 _
  have hW' := hW
  obtain ⟨p, q, hA, hV, rfl, hfz, hnd⟩ := hW
  obtain ⟨rfl, rfl⟩ := trodVars_none hV
  have hsz : ∀ n ∈ DataW.weightsEach Try.prog Try.f3.params.toList ds, n ≤ reachBytes := by
    have := hsz0
    simp only [List.all_eq_true, decide_eq_true_eq] at this
    intro n hn
    refine this n ?_
    have e : Try.f3.params.toList ++ Rows.certificateFromSegmentsMatchesReferenceSpec.plain.varTypes Try.prog = Try.f3.params.toList := by rw [show Rows.certificateFromSegmentsMatchesReferenceSpec.plain.varTypes Try.prog = [] from rfl, List.append_nil]
    show n ∈ DataW.weightsEach Try.prog (Try.f3.params.toList ++ Rows.certificateFromSegmentsMatchesReferenceSpec.plain.varTypes Try.prog) (ds ++ [])
    rw [e, List.append_nil]; exact hn
  obtain ⟨av, ha, hv⟩ := vals_open (P := Try.prog) tab_ok (m := 9) Try.f3.params.toList args.toList ds p (by kernel_rfl) (fun j t v ht hv => hval0 j t v (by simpa using ht) (by simpa using hv)) hA hsz
  refine (sound_calls (E := E) (fun _ => rfl) (law av ha) hv).mono ?_
  rintro e W' ⟨rfl, bel⟩
  have hA' := trodAll_keeps laidOut bel _ _ _ _ types hA
  have hlen : ∃ d0 d1 d2, ds = [d0, d1, d2] := by
    have h2 : DataW.TrodAll enc Try.prog W 0 (fun _ => true) true [25, 26, 27] args.toList ds p := hA
    obtain ⟨v0, vs0, d0, ds0, p0, q0, _, rfl, rfl, _, r0⟩ := trodAll_cons h2
    obtain ⟨v1, vs1, d1, ds1, p1, q1, _, rfl, rfl, _, r1⟩ := trodAll_cons r0
    obtain ⟨v2, vs2, d2, ds2, p2, q2, _, rfl, rfl, _, r2⟩ := trodAll_cons r1
    obtain ⟨rfl, rfl, rfl⟩ := trodAll_nil r2
    exact ⟨d0, d1, d2, rfl⟩
  obtain ⟨d0, d1, d2, rfl⟩ := hlen
  exact ⟨_, rfl, _, _, _, [], _, [], hW', trodAll_mk1 (shut_bool Try.underlying4 _), hA', rfl, bel.frame _, fun h => by cases h⟩
theorem over : Rows.certificateFromSegmentsMatchesReferenceRow.holds Try.pinned (OpenSpec.ofChange Rows.certificateFromSegmentsMatchesReferenceSpec) :=
  OpenClaim.holds_of_wide 3 Try.f3 rfl rfl rfl rfl rfl rfl rfl ⟨rfl, rfl, rfl, rfl, rfl⟩ rfl rfl rfl rfl rfl (by kernel_rfl) Try.func3 (by kernel_rfl)
    (of_decide_eq_true (by kernel_rfl)) (by unfold Func.isWrapper; first | (rw [if_pos (by decide +kernel)]; kernel_rfl) | (rw [if_neg (by decide +kernel)]; exact ⟨rfl, rfl⟩))
    (fun os started H enc _ => lifted os started H enc)
end Go.Proofs.Ythgamdcnomoidaa.certificateFromSegmentsMatchesReference
namespace Go.Proofs.Ythgamdcnomoidaa
theorem certificateFromSegmentsMatchesReference_holds : Rows.CertificateFromSegmentsMatchesReferenceSaid := certificateFromSegmentsMatchesReference.over
end Go.Proofs.Ythgamdcnomoidaa
