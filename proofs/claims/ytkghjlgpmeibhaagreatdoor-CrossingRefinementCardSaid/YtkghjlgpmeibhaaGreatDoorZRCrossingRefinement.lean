/- What the statement CrossingRefinement says of the given program: proved for every input. -/
import Derived.Test.YtkghjlgpmeibhaaGreatDoorMe5
import Derived.Test.YtkghjlgpmeibhaaGreatDoorMe6
set_option linter.unusedVariables false
set_option linter.unusedSimpArgs false
namespace Go.Proofs.YtkghjlgpmeibhaaGreatDoor.crossingRefinement
open Go.Arm Go.Pl Go.Proofs.YtkghjlgpmeibhaaGreatDoor.Arm Go.ChangeShapes Go.WideShapes Go.ChangeAt Go.RowKit

theorem types : (Tryz.f8.params.toList.all fun t => Tryz.prog.readableRec t && decide (t < Tryz.prog.types.size)) = true := by kernel_rfl
theorem law (av : List AV) (h : zc7 zp 9 Tryz.f8.params.toList av) : zg E 8 av [] (.ret (.bool true)) [] := by
  rw [Tryz.params8] at h
  obtain ⟨a, b, rfl, h1, h2⟩ := okArgs2 h
  obtain ⟨q, rfl, hq⟩ := okIq h1
  obtain ⟨x, rfl, hx⟩ := Jz (k := .i64) (by rfl) rfl h2
  exact lRefine16 q hq x []
set_option maxRecDepth 100000 in
theorem lifted (os : Os) (started : os.Started) (H : Type) (enc : TypeId × Value → H) :
    ReturnsInHanded {} Tryz.checked os 8 .any (fun w args => (Rows.crossingRefinementSpec.pre enc Tryz.prog Tryz.f8 [] false w args ∧ laidMetH Tryz.prog U4 w) ∧ sizedMet enc Tryz.prog Tryz.f8 (OpenSpec.ofChange Rows.crossingRefinementSpec) false w args)
      (Rows.crossingRefinementSpec.post enc Tryz.prog Tryz.f8 false true false false) := by
  refine returnsInHanded_of_change_and (C := Tryz.checked) (X := fun w _ => laidMetH Tryz.prog U4 w) (fun _ _ _ hh h => h.of_heap hh) own started (by kernel_rfl) Tryz.func8
    (ChangeSpec.witness_shaped (enc := enc) (C := Tryz.checked) (os := os) (X := fun w _ => laidMetH Tryz.prog U4 w) false (World.doorLaid Tryz.prog 600 os) #[.agg #[.slice none 0 0, .slice none 0 0, .int .i64 0, .int .i64 0, .slice none 0 0, .int .i8 0, .int .i64 0, .int .u8 0, .int .u8 0], .int .i64 0] 12 rfl (World.shaped_of_RefB (by kernel_rfl) (by kernel_rfl)) (by kernel_rfl) (by kernel_rfl) (by kernel_rfl) (door_met os _)) ?_
  intro W base args ds gs before hval0 hW hcnd hsz0 hL _
  have hW' := hW
  obtain ⟨p, q, hA, hV, rfl, hfz, hnd⟩ := hW
  obtain ⟨rfl, rfl⟩ := trodVars_none hV
  have hsz : ∀ n ∈ DataW.weightsEach Tryz.prog Tryz.f8.params.toList ds, n ≤ reachBytes := by
    have := hsz0
    simp only [List.all_eq_true, decide_eq_true_eq] at this
    intro n hn
    refine this n ?_
    have e : Tryz.f8.params.toList ++ Rows.crossingRefinementSpec.plain.varTypes Tryz.prog = Tryz.f8.params.toList := by rw [show Rows.crossingRefinementSpec.plain.varTypes Tryz.prog = [] from rfl, List.append_nil]
    show n ∈ DataW.weightsEach Tryz.prog (Tryz.f8.params.toList ++ Rows.crossingRefinementSpec.plain.varTypes Tryz.prog) (ds ++ [])
    rw [e, List.append_nil]; exact hn
  obtain ⟨av, ha, hv⟩ := vals_open (P := Tryz.prog) W9 (m := 9) Tryz.f8.params.toList args.toList ds p (by kernel_rfl) (fun j t v ht hv => hval0 j t v (by simpa using ht) (by simpa using hv)) hA hsz
  refine (sound_callsG (E := E) (glob_met hL) (law av ha) hv).mono ?_
  rintro e W' ⟨rfl, bel⟩
  have hA' := trodAll_keeps laidOut bel _ _ _ _ types hA
  have hlen : ∃ d0 d1, ds = [d0, d1] := by
    have h2 : DataW.TrodAll enc Tryz.prog W 0 (fun _ => true) true [29, 2] args.toList ds p := hA
    obtain ⟨v0, vs0, d0, ds0, p0, q0, _, rfl, rfl, _, r0⟩ := trodAll_cons h2
    obtain ⟨v1, vs1, d1, ds1, p1, q1, _, rfl, rfl, _, r1⟩ := trodAll_cons r0
    obtain ⟨rfl, rfl, rfl⟩ := trodAll_nil r1
    exact ⟨d0, d1, rfl⟩
  obtain ⟨d0, d1, rfl⟩ := hlen
  exact ⟨_, rfl, _, _, _, [], _, [], hW', trodAll_mk1 (shut_bool Tryz.underlying4 _), hA', rfl, bel.frame _, fun h => by cases h⟩
theorem jn1 : (Rows.crossingRefinementRow.inPlace == Tryz.prog.inPlace 8) = true := by kernel_rfl
theorem jn2 : (Rows.crossingRefinementRow.unfollowed == Tryz.prog.unfollowed 8) = true := by kernel_rfl
theorem jn3 : (Rows.crossingRefinementRow.recurses == Tryz.prog.recurses 8) = true := by kernel_rfl
theorem jn4 : (Rows.crossingRefinementRow.named == Tryz.prog.varsNamed 8) = true := by kernel_rfl
theorem jk0 : Rows.crossingRefinementRow.wf (OpenSpec.ofChange Rows.crossingRefinementSpec) = true := by kernel_rfl
theorem jk1 : laidOutB Tryz.prog = true := laidOut
theorem jk2 : mapsRowed Tryz.prog = true := pgMaps
theorem jk3 : Tryz.f8.params.all (Tryz.prog.readableRec ·) = true := by kernel_rfl
theorem jk4 : namedTie Tryz.prog Rows.crossingRefinementRow.named Rows.crossingRefinementSpec.vars = true := by kernel_rfl
theorem jk5 : (Rows.crossingRefinementRow.stops == []) = true := by kernel_rfl
theorem jk6 : (Tryz.prog.stops == []) = true := by kernel_rfl
theorem jk7 : (Rows.crossingRefinementRow.knobs == []) = true := by kernel_rfl
theorem jk8 : (Tryz.prog.stopKnobs == []) = true := by kernel_rfl
theorem jk13 : (Rows.crossingRefinementRow.maps == (Tryz.f8.params.toList ++ Rows.crossingRefinementSpec.plain.varTypes Tryz.prog).any (Tryz.prog.mapsRec ·)) = true := by kernel_rfl
theorem jk14 : (Rows.crossingRefinementRow.ifaces == (Tryz.f8.params.toList ++ Rows.crossingRefinementSpec.plain.varTypes Tryz.prog).any (Tryz.prog.ifacesRec ·)) = true := by kernel_rfl
theorem jk15 : (Rows.crossingRefinementRow.mapsOut == Tryz.prog.mapsAmong Tryz.f8.resultTypes.toList) = true := by kernel_rfl
theorem jk16 : (Rows.crossingRefinementRow.loops == (Tryz.f8.params.toList ++ Rows.crossingRefinementSpec.plain.varTypes Tryz.prog).any (Tryz.prog.loopsFrom ·)) = true := by kernel_rfl
theorem jk17 : (Rows.crossingRefinementRow.wideKeys == (Tryz.f8.params.toList ++ Rows.crossingRefinementSpec.plain.varTypes Tryz.prog ++ Tryz.f8.resultTypes.toList).any (Tryz.prog.wideKeysFrom ·)) = true := by kernel_rfl
theorem jk18 : Rows.crossingRefinementSpec.vars.all (Tryz.prog.varReadable ·) = true := by kernel_rfl
theorem jk19 : Tryz.f8.resultTypes.all (fun t => Tryz.prog.readableRec t && decide (t < Tryz.prog.types.size)) = true := by kernel_rfl
theorem jk20 : (Rows.crossingRefinementRow.ifacesOut == Tryz.f8.resultTypes.toList.any (Tryz.prog.ifacesRec ·)) = true := by kernel_rfl
theorem jk21 : (Rows.crossingRefinementRow.loopsOut == Tryz.f8.resultTypes.toList.any (Tryz.prog.loopsFrom ·)) = true := by kernel_rfl
theorem jk22 : (Rows.crossingRefinementRow.plainKeys == Tryz.prog.plainKeys) = true := by rw [pgKeys]; rfl
theorem jk23 : Rows.crossingRefinementRow.shortTexts.isNone = true := by kernel_rfl
theorem jk24 : Tryz.prog.stopsHeard = true := pgHeard
theorem jk25 : Tryz.prog.mayEnter = true := pgEnter
theorem jk26 : (Rows.crossingRefinementRow.lifted == Tryz.prog.liftsFinal) = true := pgLift
theorem jk27 : (Tryz.prog.make == some Rows.crossingRefinementRow.make) = true := pgMake
theorem jk29 : (Rows.crossingRefinementRow.pinned == Rows.crossingRefinementRow.pinnedBy) = true := by kernel_rfl
theorem jk30 : (Rows.crossingRefinementRow.veiled == (Tryz.f8.params.toList ++ Rows.crossingRefinementSpec.plain.varTypes Tryz.prog ++ Tryz.f8.resultTypes.toList).any (Tryz.prog.veiledRec ·)) = true := by kernel_rfl
theorem jk31 : Rows.crossingRefinementRow.veiledFits Tryz.prog Tryz.f8.params.toList (Tryz.f8.params.toList ++ Rows.crossingRefinementSpec.plain.varTypes Tryz.prog ++ Tryz.f8.resultTypes.toList) = true := by kernel_rfl
theorem closed : joinedFacts Tryz.pinned.checked.prog 8 Tryz.f8 Rows.crossingRefinementSpec Rows.crossingRefinementRow = true := by
  show joinedFacts Tryz.prog 8 Tryz.f8 Rows.crossingRefinementSpec Rows.crossingRefinementRow = true
  unfold joinedFacts
  exact (jl (jl (jl (jl (jl (jl (jl (jl (jl (jl (jl (jl (jl (jl (jl (jl (jl (jl (jl (jl (jl (jl (jl (jl (jl (jl (jl (jl (jl (jl (jl jk0 jk1) jk2) jk3) jk4) jk5) jk6) jk7) jk8) jn1) jn2) jn3) jn4) jk13) jk14) jk15) jk16) jk17) jk18) jk19) jk20) jk21) jk22) jk23) jk24) jk25) jk26) jk27) (by kernel_rfl)) jk29) jk30) jk31)
theorem over : Rows.crossingRefinementRow.holds Tryz.pinned (OpenSpec.ofChange Rows.crossingRefinementSpec) :=
  OpenClaim.holds_of_wide 8 Tryz.f8 rfl rfl rfl rfl rfl rfl rfl ⟨rfl, rfl, rfl, rfl, rfl⟩ rfl rfl rfl rfl rfl (by kernel_rfl) Tryz.func8 closed
    (of_decide_eq_true (by kernel_rfl)) (by unfold Func.isWrapper; first | (rw [if_pos (by decide +kernel)]; kernel_rfl) | (rw [if_neg (by decide +kernel)]; exact ⟨rfl, rfl⟩))
    (fun os started H enc _ => lifted os started H enc)
theorem cd1 : Rows.crossingRefinementRow.wfByText (OpenSpec.ofChange Rows.crossingRefinementSpec) = true := by kernel_rfl
theorem cd2 : Tryz.prog.mainIs = some (((true, "c2b2307aef978d0bc4e5e9c34df894c6cea992613c063eaaec4e0c7145de29c1")).1, ((true, "c2b2307aef978d0bc4e5e9c34df894c6cea992613c063eaaec4e0c7145de29c1")).2.toList) := by kernel_rfl
theorem cd3 : true = Tryz.prog.looks [] := pgLooks
theorem cd4 : ([29, 2].all fun u => !Tryz.prog.wantsStandIn u) = true := by kernel_rfl
theorem cd5 : false = Rows.crossingRefinementRow.goesBy Tryz.prog := by kernel_rfl
theorem cd6 : Tryz.prog.funcNamed "armillary/armillarylaw16.CrossingRefinement" = some 8 := by kernel_rfl
theorem card : Claim7.holds Tryz.pinned (.plain (OpenSpec.ofChange Rows.crossingRefinementSpec)) Rows.crossingRefinementCard :=
  Claim7.holds_tied_plain_at .later [] [.funcs, .funcs] true (true, "c2b2307aef978d0bc4e5e9c34df894c6cea992613c063eaaec4e0c7145de29c1") true
    over (fun _ h => by cases h) cd1 (fun _ h => by cases h) crossingRefinement_row_tie rfl ⟨rfl, rfl⟩ cd2 rfl
    (fun f fn hf hfn => by
      obtain rfl : f = 8 := Option.some.inj (cd6.symm.trans hf) |>.symm
      obtain rfl : fn = Tryz.f8 := (Option.some.inj (Tryz.func8.symm.trans hfn)).symm
      exact ⟨cd3, fun j t ht => by
        rw [Tryz.params8] at ht
        have hm : t ∈ [29, 2] := by simpa using Array.mem_of_getElem? ht
        exact (show Tryz.prog.wantsStandIn t = false by simpa using List.all_eq_true.1 cd4 t hm)⟩)
    cd5
end Go.Proofs.YtkghjlgpmeibhaaGreatDoor.crossingRefinement
namespace Go.Proofs.YtkghjlgpmeibhaaGreatDoor
theorem crossingRefinement_holds : Rows.CrossingRefinementCardSaid := crossingRefinement.card
end Go.Proofs.YtkghjlgpmeibhaaGreatDoor
