/- Integration and its reference. -/
import Derived.Test.YtfjjckepnkkgjaaGreatDoorM6
set_option linter.unusedVariables false
set_option linter.unusedSimpArgs false
namespace Go.Proofs.YtfjjckepnkkgjaaGreatDoor.flowMatchesReference
open Go.Arm Go.Pl Go.Proofs.YtfjjckepnkkgjaaGreatDoor.Arm Go.ChangeShapes Go.WideShapes Go.ChangeAt Go.RowKit

theorem types : (Tryz.f3.params.toList.all fun t => Tryz.prog.readableRec t && decide (t < Tryz.prog.types.size)) = true := by kernel_rfl
theorem law (av : List AV) (h : OkArgs tab 9 Tryz.f3.params.toList av) : Sound E 3 av [] (.ret (.bool true)) [] := by
  rw [Tryz.params3] at h
  obtain ⟨a, rfl, h1⟩ := okArgs1 h
  obtain ⟨q, rfl, hq⟩ := okFq h1
  exact lMatches q hq []
set_option maxRecDepth 100000 in
theorem lifted (os : Os) (started : os.Started) (H : Type) (enc : TypeId × Value → H) :
    ReturnsInHanded {} Tryz.checked os 3 .any (fun w args => (Rows.flowMatchesReferenceSpec.pre enc Tryz.prog Tryz.f3 [] false w args ∧ laidMetH Tryz.prog laidL w) ∧ sizedMet enc Tryz.prog Tryz.f3 (OpenSpec.ofChange Rows.flowMatchesReferenceSpec) false w args)
      (Rows.flowMatchesReferenceSpec.post enc Tryz.prog Tryz.f3 false true false false) := by
  refine returnsInHanded_of_change_and (C := Tryz.checked) (X := fun w _ => laidMetH Tryz.prog laidL w) (fun _ _ _ hh h => h.of_heap hh) own started (by kernel_rfl) Tryz.func3
    (ChangeSpec.witness_shaped (enc := enc) (C := Tryz.checked) (os := os) (X := fun w _ => laidMetH Tryz.prog laidL w) false (World.doorLaid Tryz.prog 600 os) #[.agg #[.int .i64 0, .slice none 0 0, .slice none 0 0, .slice none 0 0, .int .u8 0, .int .i32 0, .int .u16 0]] 12 rfl (World.shaped_of_RefB (by kernel_rfl) (by kernel_rfl)) (by kernel_rfl) (by kernel_rfl) (by kernel_rfl) (door_met os _)) ?_
  intro W base args ds gs before hval0 hW hcnd hsz0 hL _
  have hW' := hW
  obtain ⟨p, q, hA, hV, rfl, hfz, hnd⟩ := hW
  obtain ⟨rfl, rfl⟩ := trodVars_none hV
  have hsz : ∀ n ∈ DataW.weightsEach Tryz.prog Tryz.f3.params.toList ds, n ≤ reachBytes := by
    have := hsz0
    simp only [List.all_eq_true, decide_eq_true_eq] at this
    intro n hn
    refine this n ?_
    have e : Tryz.f3.params.toList ++ Rows.flowMatchesReferenceSpec.plain.varTypes Tryz.prog = Tryz.f3.params.toList := by rw [show Rows.flowMatchesReferenceSpec.plain.varTypes Tryz.prog = [] from rfl, List.append_nil]
    show n ∈ DataW.weightsEach Tryz.prog (Tryz.f3.params.toList ++ Rows.flowMatchesReferenceSpec.plain.varTypes Tryz.prog) (ds ++ [])
    rw [e, List.append_nil]; exact hn
  obtain ⟨av, ha, hv⟩ := vals_open (P := Tryz.prog) tab_ok (m := 9) Tryz.f3.params.toList args.toList ds p (by kernel_rfl) (fun j t v ht hv => hval0 j t v (by simpa using ht) (by simpa using hv)) hA hsz
  refine (sound_callsG (E := E) (glob_met hL) (law av ha) hv).mono ?_
  rintro e W' ⟨rfl, bel⟩
  have hA' := trodAll_keeps laidOut bel _ _ _ _ types hA
  have hlen : ∃ d0, ds = [d0] := by
    have h2 : DataW.TrodAll enc Tryz.prog W 0 (fun _ => true) true [29] args.toList ds p := hA
    obtain ⟨v0, vs0, d0, ds0, p0, q0, _, rfl, rfl, _, r0⟩ := trodAll_cons h2
    obtain ⟨rfl, rfl, rfl⟩ := trodAll_nil r0
    exact ⟨d0, rfl⟩
  obtain ⟨d0, rfl⟩ := hlen
  exact ⟨_, rfl, _, _, _, [], _, [], hW', trodAll_mk1 (shut_bool Tryz.underlying4 _), hA', rfl, bel.frame _, fun h => by cases h⟩
theorem jn1 : (Rows.flowMatchesReferenceRow.inPlace == Tryz.prog.inPlace 3) = true := by kernel_rfl
theorem jn2 : (Rows.flowMatchesReferenceRow.unfollowed == Tryz.prog.unfollowed 3) = true := by kernel_rfl
theorem jn3 : (Rows.flowMatchesReferenceRow.recurses == Tryz.prog.recurses 3) = true := by kernel_rfl
theorem jn4 : (Rows.flowMatchesReferenceRow.named == Tryz.prog.varsNamed 3) = true := by kernel_rfl
theorem closed : joinedFacts Tryz.pinned.checked.prog 3 Tryz.f3 Rows.flowMatchesReferenceSpec Rows.flowMatchesReferenceRow = true := by
  show joinedFacts Tryz.prog 3 Tryz.f3 Rows.flowMatchesReferenceSpec Rows.flowMatchesReferenceRow = true
  unfold joinedFacts
  rw [jn1, jn2, jn3, jn4]
  kernel_rfl
theorem over : Rows.flowMatchesReferenceRow.holds Tryz.pinned (OpenSpec.ofChange Rows.flowMatchesReferenceSpec) :=
  OpenClaim.holds_of_wide 3 Tryz.f3 rfl rfl rfl rfl rfl rfl rfl ⟨rfl, rfl, rfl, rfl, rfl⟩ rfl rfl rfl rfl rfl (by kernel_rfl) Tryz.func3 closed
    (of_decide_eq_true (by kernel_rfl)) (by unfold Func.isWrapper; first | (rw [if_pos (by decide +kernel)]; kernel_rfl) | (rw [if_neg (by decide +kernel)]; exact ⟨rfl, rfl⟩))
    (fun os started H enc _ => lifted os started H enc)
theorem card : Claim7.holds Tryz.pinned (.plain (OpenSpec.ofChange Rows.flowMatchesReferenceSpec)) Rows.flowMatchesReferenceCard :=
  Claim7.holds_tied_plain_at .later [] [.funcs, .funcs, .funcs] true (true, "86a0bf364b3697ffcd91e917009c82fdbe1b970b8ec4ecc46e57f09cfc38fabb") true
    over (fun _ h => by cases h) (by kernel_rfl) (fun _ h => by cases h) flowMatchesReference_row_tie rfl ⟨rfl, rfl⟩ (by kernel_rfl) rfl
    (fun f fn hf hfn => by
      obtain rfl : f = 3 := Option.some.inj ((show Tryz.prog.funcNamed "armillary/armillarylaw14.FlowMatchesReference" = some 3 by kernel_rfl).symm.trans hf) |>.symm
      obtain rfl : fn = Tryz.f3 := (Option.some.inj (Tryz.func3.symm.trans hfn)).symm
      exact ⟨by kernel_rfl, fun j t ht => by
        rw [Tryz.params3] at ht
        have hm : t ∈ [29] := by simpa using Array.mem_of_getElem? ht
        have hall : ([29].all fun u => !Tryz.prog.wantsStandIn u) = true := by kernel_rfl
        exact (show Tryz.prog.wantsStandIn t = false by simpa using List.all_eq_true.1 hall t hm)⟩)
    (by kernel_rfl)
end Go.Proofs.YtfjjckepnkkgjaaGreatDoor.flowMatchesReference
namespace Go.Proofs.YtfjjckepnkkgjaaGreatDoor
theorem flowMatchesReference_holds : Rows.FlowMatchesReferenceCardSaid := flowMatchesReference.card
end Go.Proofs.YtfjjckepnkkgjaaGreatDoor
