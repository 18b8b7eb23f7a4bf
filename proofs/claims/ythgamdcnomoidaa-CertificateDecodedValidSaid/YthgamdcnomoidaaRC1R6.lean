/- For every byte slice, CertificateDecodedValid returns true: Decode returns a valid certificate whose encoding is the input, or the zero certificate with ErrCut or ErrForm. Conditions: none beyond those of the row. -/
import Derived.Test.YthgamdcnomoidaaM3
import Derived.Test.YthgamdcnomoidaaRows
set_option linter.unusedVariables false
set_option linter.unusedSimpArgs false
namespace Go.Proofs.Ythgamdcnomoidaa.certificateDecodedValid
open Go.Arm Go.Proofs.Ythgamdcnomoidaa.Arm Go.ChangeShapes Go.WideShapes Go.ChangeAt Go.RowKit

theorem own : ownKnob Try.prog.godebug = none := by kernel_rfl
theorem laidOut : laidOutB Try.prog = true := by kernel_rfl
theorem types : (Try.f6.params.toList.all fun t => Try.prog.readableRec t && decide (t < Try.prog.types.size)) = true := by kernel_rfl
theorem law (av : List AV) (h : OkArgs tab 9 Try.f6.params.toList av) : Sound E 6 av [] (.ret (.bool true)) [] := by
  rw [Try.params6] at h
  obtain ⟨a, rfl, h1⟩ := okArgs1 h
  obtain ⟨bs, rfl, hb, hl⟩ := okBytes h1
  exact s6 bs hb hl []
set_option maxRecDepth 100000 in
theorem lifted (os : Os) (started : os.Started) (H : Type) (enc : TypeId × Value → H) :
    ReturnsInHanded {} Try.checked os 6 .any (Rows.certificateDecodedValidSpec.pre6 enc Try.prog Try.f6 Rows.certificateDecodedValidRow.domain false) (Rows.certificateDecodedValidSpec.post enc Try.prog Try.f6 false true false false) := by
  refine returnsInHanded_of_change_sized (C := Try.checked) own started (by kernel_rfl) Try.func6
    (ChangeSpec.witness6 (enc := enc) (C := Try.checked) false ⟨#[], #[.slice none 0 0], []⟩ 8 (by kernel_rfl) (by kernel_rfl) (by kernel_rfl) (by kernel_rfl)) ?_
  intro W base args ds gs before hval0 hW hcnd hsz0 _
  have hW' := hW
  obtain ⟨p, q, hA, hV, rfl, hfz, hnd⟩ := hW
  obtain ⟨rfl, rfl⟩ := trodVars_none hV
  have hsz : ∀ n ∈ DataW.weightsEach Try.prog Try.f6.params.toList ds, n ≤ reachBytes := by
    have := hsz0
    simp only [List.all_eq_true, decide_eq_true_eq] at this
    intro n hn
    refine this n ?_
    have e : Try.f6.params.toList ++ Rows.certificateDecodedValidSpec.plain.varTypes Try.prog = Try.f6.params.toList := by rw [show Rows.certificateDecodedValidSpec.plain.varTypes Try.prog = [] from rfl, List.append_nil]
    show n ∈ DataW.weightsEach Try.prog (Try.f6.params.toList ++ Rows.certificateDecodedValidSpec.plain.varTypes Try.prog) (ds ++ [])
    rw [e, List.append_nil]; exact hn
  obtain ⟨av, ha, hv⟩ := vals_open (P := Try.prog) tab_ok (m := 9) Try.f6.params.toList args.toList ds p (by kernel_rfl) (fun j t v ht hv => hval0 j t v (by simpa using ht) (by simpa using hv)) hA hsz
  refine (sound_calls (E := E) (fun _ => rfl) (law av ha) hv).mono ?_
  rintro e W' ⟨rfl, bel⟩
  have hA' := trodAll_keeps laidOut bel _ _ _ _ types hA
  have hlen : ∃ d0, ds = [d0] := by
    have h2 : DataW.TrodAll enc Try.prog W 0 (fun _ => true) true [41] args.toList ds p := hA
    obtain ⟨v0, vs0, d0, ds0, p0, q0, _, rfl, rfl, _, r0⟩ := trodAll_cons h2
    obtain ⟨rfl, rfl, rfl⟩ := trodAll_nil r0
    exact ⟨d0, rfl⟩
  obtain ⟨d0, rfl⟩ := hlen
  exact ⟨_, rfl, _, _, _, [], _, [], hW', trodAll_mk1 (shut_bool Try.underlying4 _), hA', rfl, bel.frame _, fun h => by cases h⟩
theorem over : Rows.certificateDecodedValidRow.holds Try.pinned (OpenSpec.ofChange Rows.certificateDecodedValidSpec) :=
  OpenClaim.holds_of_wide 6 Try.f6 rfl rfl rfl rfl rfl rfl rfl ⟨rfl, rfl, rfl, rfl, rfl⟩ rfl rfl rfl rfl rfl (by kernel_rfl) Try.func6 (by kernel_rfl)
    (of_decide_eq_true (by kernel_rfl)) (by unfold Func.isWrapper; first | (rw [if_pos (by decide +kernel)]; kernel_rfl) | (rw [if_neg (by decide +kernel)]; exact ⟨rfl, rfl⟩))
    (fun os started H enc _ => lifted os started H enc)
end Go.Proofs.Ythgamdcnomoidaa.certificateDecodedValid
namespace Go.Proofs.Ythgamdcnomoidaa
theorem certificateDecodedValid_holds : Rows.CertificateDecodedValidSaid := certificateDecodedValid.over
end Go.Proofs.Ythgamdcnomoidaa
