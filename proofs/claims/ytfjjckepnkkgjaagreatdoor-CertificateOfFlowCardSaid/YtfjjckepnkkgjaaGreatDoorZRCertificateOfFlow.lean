/- The certificate of a flow. -/
import Derived.Test.YtfjjckepnkkgjaaGreatDoorM5
set_option linter.unusedVariables false
set_option linter.unusedSimpArgs false
namespace Go.Proofs.YtfjjckepnkkgjaaGreatDoor.certificateOfFlow
open Go.Arm Go.Pl Go.Proofs.YtfjjckepnkkgjaaGreatDoor.Arm Go.ChangeShapes Go.WideShapes Go.ChangeAt Go.RowKit

theorem types : (Tryz.f11.params.toList.all fun t => Tryz.prog.readableRec t && decide (t < Tryz.prog.types.size)) = true := by kernel_rfl
theorem law (av : List AV) (h : OkArgs tab 9 Tryz.f11.params.toList av) : Sound E 11 av [] (.ret (.bool true)) [] := by
  rw [Tryz.params11] at h
  obtain ⟨a, rfl, h1⟩ := okArgs1 h
  obtain ⟨q, rfl, hq⟩ := okCq h1
  exact lCertFlow q hq []
set_option maxRecDepth 100000 in
theorem lifted (os : Os) (started : os.Started) (H : Type) (enc : TypeId × Value → H) :
    ReturnsInHanded {} Tryz.checked os 11 .any (fun w args => (Rows.certificateOfFlowSpec.pre enc Tryz.prog Tryz.f11 [] false w args ∧ laidMetH Tryz.prog laidL w) ∧ sizedMet enc Tryz.prog Tryz.f11 (OpenSpec.ofChange Rows.certificateOfFlowSpec) false w args)
      (Rows.certificateOfFlowSpec.post enc Tryz.prog Tryz.f11 false true false false) := by
  refine returnsInHanded_of_change_and (C := Tryz.checked) (X := fun w _ => laidMetH Tryz.prog laidL w) (fun _ _ _ hh h => h.of_heap hh) own started (by kernel_rfl) Tryz.func11
    (ChangeSpec.witness_shaped (enc := enc) (C := Tryz.checked) (os := os) (X := fun w _ => laidMetH Tryz.prog laidL w) false (World.doorLaid Tryz.prog 600 os) #[.agg #[.slice none 0 0, .slice none 0 0, .int .u8 0, .int .i32 0, .int .u16 0]] 12 rfl (World.shaped_of_RefB (by kernel_rfl) (by kernel_rfl)) (by kernel_rfl) (by kernel_rfl) (by kernel_rfl) (door_met os _)) ?_
  intro W base args ds gs before hval0 hW hcnd hsz0 hL _
  have hW' := hW
  obtain ⟨p, q, hA, hV, rfl, hfz, hnd⟩ := hW
  obtain ⟨rfl, rfl⟩ := trodVars_none hV
  have hsz : ∀ n ∈ DataW.weightsEach Tryz.prog Tryz.f11.params.toList ds, n ≤ reachBytes := by
    have := hsz0
    simp only [List.all_eq_true, decide_eq_true_eq] at this
    intro n hn
    refine this n ?_
    have e : Tryz.f11.params.toList ++ Rows.certificateOfFlowSpec.plain.varTypes Tryz.prog = Tryz.f11.params.toList := by rw [show Rows.certificateOfFlowSpec.plain.varTypes Tryz.prog = [] from rfl, List.append_nil]
    show n ∈ DataW.weightsEach Tryz.prog (Tryz.f11.params.toList ++ Rows.certificateOfFlowSpec.plain.varTypes Tryz.prog) (ds ++ [])
    rw [e, List.append_nil]; exact hn
  obtain ⟨av, ha, hv⟩ := vals_open (P := Tryz.prog) tab_ok (m := 9) Tryz.f11.params.toList args.toList ds p (by kernel_rfl) (fun j t v ht hv => hval0 j t v (by simpa using ht) (by simpa using hv)) hA hsz
  refine (sound_callsG (E := E) (glob_met hL) (law av ha) hv).mono ?_
  rintro e W' ⟨rfl, bel⟩
  have hA' := trodAll_keeps laidOut bel _ _ _ _ types hA
  have hlen : ∃ d0, ds = [d0] := by
    have h2 : DataW.TrodAll enc Tryz.prog W 0 (fun _ => true) true [87] args.toList ds p := hA
    obtain ⟨v0, vs0, d0, ds0, p0, q0, _, rfl, rfl, _, r0⟩ := trodAll_cons h2
    obtain ⟨rfl, rfl, rfl⟩ := trodAll_nil r0
    exact ⟨d0, rfl⟩
  obtain ⟨d0, rfl⟩ := hlen
  exact ⟨_, rfl, _, _, _, [], _, [], hW', trodAll_mk1 (shut_bool Tryz.underlying4 _), hA', rfl, bel.frame _, fun h => by cases h⟩
theorem jn1 : (Rows.certificateOfFlowRow.inPlace == Tryz.prog.inPlace 11) = true := by kernel_rfl
theorem jn2 : (Rows.certificateOfFlowRow.unfollowed == Tryz.prog.unfollowed 11) = true := by kernel_rfl
theorem jn3 : (Rows.certificateOfFlowRow.recurses == Tryz.prog.recurses 11) = true := by kernel_rfl
theorem jn4 : (Rows.certificateOfFlowRow.named == Tryz.prog.varsNamed 11) = true := by kernel_rfl
theorem closed : joinedFacts Tryz.pinned.checked.prog 11 Tryz.f11 Rows.certificateOfFlowSpec Rows.certificateOfFlowRow = true := by
  show joinedFacts Tryz.prog 11 Tryz.f11 Rows.certificateOfFlowSpec Rows.certificateOfFlowRow = true
  unfold joinedFacts
  rw [jn1, jn2, jn3, jn4]
  kernel_rfl
theorem over : Rows.certificateOfFlowRow.holds Tryz.pinned (OpenSpec.ofChange Rows.certificateOfFlowSpec) :=
  OpenClaim.holds_of_wide 11 Tryz.f11 rfl rfl rfl rfl rfl rfl rfl ⟨rfl, rfl, rfl, rfl, rfl⟩ rfl rfl rfl rfl rfl (by kernel_rfl) Tryz.func11 closed
    (of_decide_eq_true (by kernel_rfl)) (by unfold Func.isWrapper; first | (rw [if_pos (by decide +kernel)]; kernel_rfl) | (rw [if_neg (by decide +kernel)]; exact ⟨rfl, rfl⟩))
    (fun os started H enc _ => lifted os started H enc)
theorem card : Claim7.holds Tryz.pinned (.plain (OpenSpec.ofChange Rows.certificateOfFlowSpec)) Rows.certificateOfFlowCard :=
  Claim7.holds_tied_plain_at .later [] [.funcs, .funcs, .funcs] true (true, "86a0bf364b3697ffcd91e917009c82fdbe1b970b8ec4ecc46e57f09cfc38fabb") true
    over (fun _ h => by cases h) (by kernel_rfl) (fun _ h => by cases h) certificateOfFlow_row_tie rfl ⟨rfl, rfl⟩ (by kernel_rfl) rfl
    (fun f fn hf hfn => by
      obtain rfl : f = 11 := Option.some.inj ((show Tryz.prog.funcNamed "armillary/armillarylaw25.CertificateOfFlow" = some 11 by kernel_rfl).symm.trans hf) |>.symm
      obtain rfl : fn = Tryz.f11 := (Option.some.inj (Tryz.func11.symm.trans hfn)).symm
      exact ⟨by kernel_rfl, fun j t ht => by
        rw [Tryz.params11] at ht
        have hm : t ∈ [87] := by simpa using Array.mem_of_getElem? ht
        have hall : ([87].all fun u => !Tryz.prog.wantsStandIn u) = true := by kernel_rfl
        exact (show Tryz.prog.wantsStandIn t = false by simpa using List.all_eq_true.1 hall t hm)⟩)
    (by kernel_rfl)
end Go.Proofs.YtfjjckepnkkgjaaGreatDoor.certificateOfFlow
namespace Go.Proofs.YtfjjckepnkkgjaaGreatDoor
theorem certificateOfFlow_holds : Rows.CertificateOfFlowCardSaid := certificateOfFlow.card
end Go.Proofs.YtfjjckepnkkgjaaGreatDoor
