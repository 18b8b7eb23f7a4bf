/- For every raw certificate, position and pair of bytes, CertificateRoundTrip returns true: a made certificate is decoded from its encoding, and if an encoding with one changed byte is accepted, its certificate is encoded as these bytes. Conditions: none beyond those of the row. -/
import Derived.Test.YthgamdcnomoidaaM3
import Derived.Test.YthgamdcnomoidaaRows
set_option linter.unusedVariables false
set_option linter.unusedSimpArgs false
namespace Go.Proofs.Ythgamdcnomoidaa.certificateRoundTrip
open Go.Arm Go.Proofs.Ythgamdcnomoidaa.Arm Go.ChangeShapes Go.WideShapes Go.ChangeAt Go.RowKit

theorem own : ownKnob Try.prog.godebug = none := by kernel_rfl
theorem laidOut : laidOutB Try.prog = true := by kernel_rfl
theorem types : (Try.f4.params.toList.all fun t => Try.prog.readableRec t && decide (t < Try.prog.types.size)) = true := by kernel_rfl
theorem law (av : List AV) (h : OkArgs tab 9 Try.f4.params.toList av) : Sound E 4 av [] (.ret (.bool true)) [] := by
  rw [Try.params4] at h
  obtain ⟨a, b, d, rfl, h1, h2, h3⟩ := okArgs3 h
  obtain ⟨c, rfl, hc⟩ := okCert h1
  obtain ⟨o, rfl, ho⟩ := okInt (i := i40) (k := .u16) rfl rfl h2
  obtain ⟨x, y, rfl, hx, hy⟩ := okPair h3
  exact s4 c o x y (wf_u16 ho) hx hy []
set_option maxRecDepth 100000 in
theorem lifted (os : Os) (started : os.Started) (H : Type) (enc : TypeId × Value → H) :
    ReturnsInHanded {} Try.checked os 4 .any (Rows.certificateRoundTripSpec.pre6 enc Try.prog Try.f4 Rows.certificateRoundTripRow.domain false) (Rows.certificateRoundTripSpec.post enc Try.prog Try.f4 false true false false) := by
  refine returnsInHanded_of_change_sized (C := Try.checked) own started (by kernel_rfl) Try.func4
    (ChangeSpec.witness6 (enc := enc) (C := Try.checked) false ⟨#[], #[.agg #[.int .i64 0, .slice none 0 0, .slice none 0 0], .int .u16 0, .agg #[.int .u8 0, .int .u8 0]], []⟩ 8 (by kernel_rfl) (by kernel_rfl) (by kernel_rfl) (by kernel_rfl)) ?_
  intro W base args ds gs before hval0 hW hcnd hsz0 _
  have hW' := hW
  obtain ⟨p, q, hA, hV, rfl, hfz, hnd⟩ := hW
  obtain ⟨rfl, rfl⟩ := trodVars_none hV
  have hsz : ∀ n ∈ DataW.weightsEach Try.prog Try.f4.params.toList ds, n ≤ reachBytes := by
    have := hsz0
    simp only [List.all_eq_true, decide_eq_true_eq] at this
    intro n hn
    refine this n ?_
    have e : Try.f4.params.toList ++ Rows.certificateRoundTripSpec.plain.varTypes Try.prog = Try.f4.params.toList := by rw [show Rows.certificateRoundTripSpec.plain.varTypes Try.prog = [] from rfl, List.append_nil]
    show n ∈ DataW.weightsEach Try.prog (Try.f4.params.toList ++ Rows.certificateRoundTripSpec.plain.varTypes Try.prog) (ds ++ [])
    rw [e, List.append_nil]; exact hn
  obtain ⟨av, ha, hv⟩ := vals_open (P := Try.prog) tab_ok (m := 9) Try.f4.params.toList args.toList ds p (by kernel_rfl) (fun j t v ht hv => hval0 j t v (by simpa using ht) (by simpa using hv)) hA hsz
  refine (sound_calls (E := E) (fun _ => rfl) (law av ha) hv).mono ?_
  rintro e W' ⟨rfl, bel⟩
  have hA' := trodAll_keeps laidOut bel _ _ _ _ types hA
  have hlen : ∃ d0 d1 d2, ds = [d0, d1, d2] := by
    have h2 : DataW.TrodAll enc Try.prog W 0 (fun _ => true) true [25, 40, 27] args.toList ds p := hA
    obtain ⟨v0, vs0, d0, ds0, p0, q0, _, rfl, rfl, _, r0⟩ := trodAll_cons h2
    obtain ⟨v1, vs1, d1, ds1, p1, q1, _, rfl, rfl, _, r1⟩ := trodAll_cons r0
    obtain ⟨v2, vs2, d2, ds2, p2, q2, _, rfl, rfl, _, r2⟩ := trodAll_cons r1
    obtain ⟨rfl, rfl, rfl⟩ := trodAll_nil r2
    exact ⟨d0, d1, d2, rfl⟩
  obtain ⟨d0, d1, d2, rfl⟩ := hlen
  exact ⟨_, rfl, _, _, _, [], _, [], hW', trodAll_mk1 (shut_bool Try.underlying4 _), hA', rfl, bel.frame _, fun h => by cases h⟩
theorem over : Rows.certificateRoundTripRow.holds Try.pinned (OpenSpec.ofChange Rows.certificateRoundTripSpec) :=
  OpenClaim.holds_of_wide 4 Try.f4 rfl rfl rfl rfl rfl rfl rfl ⟨rfl, rfl, rfl, rfl, rfl⟩ rfl rfl rfl rfl rfl (by kernel_rfl) Try.func4 (by kernel_rfl)
    (of_decide_eq_true (by kernel_rfl)) (by unfold Func.isWrapper; first | (rw [if_pos (by decide +kernel)]; kernel_rfl) | (rw [if_neg (by decide +kernel)]; exact ⟨rfl, rfl⟩))
    (fun os started H enc _ => lifted os started H enc)
end Go.Proofs.Ythgamdcnomoidaa.certificateRoundTrip
namespace Go.Proofs.Ythgamdcnomoidaa
theorem certificateRoundTrip_holds : Rows.CertificateRoundTripSaid := certificateRoundTrip.over
end Go.Proofs.Ythgamdcnomoidaa
