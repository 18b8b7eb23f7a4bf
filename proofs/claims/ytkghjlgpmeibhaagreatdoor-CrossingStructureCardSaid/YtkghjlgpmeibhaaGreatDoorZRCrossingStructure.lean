/- What the statement CrossingStructure says of the given program: proved for every input. -/
import Derived.Test.YtkghjlgpmeibhaaGreatDoorM6
import Derived.Test.YtkghjlgpmeibhaaGreatDoorMTa1
set_option linter.unusedVariables false
set_option linter.unusedSimpArgs false
namespace Go.Proofs.YtkghjlgpmeibhaaGreatDoor.crossingStructure
open Go.Arm Go.Pl Go.Proofs.YtkghjlgpmeibhaaGreatDoor.Arm Go.ChangeShapes Go.WideShapes Go.ChangeAt Go.RowKit

theorem types : (Tryz.f6.params.toList.all fun t => Tryz.prog.readableRec t && decide (t < Tryz.prog.types.size)) = true := by kernel_rfl
theorem law (av : List AV) (h : zgq tab 9 Tryz.f6.params.toList av) : zaf E 6 av [] (.ret (.bool true)) [] := by
  rw [Tryz.params6] at h
  obtain ⟨a, rfl, h1⟩ := zoQ h
  obtain ⟨q, rfl, hq⟩ := okIq h1
  exact zkk q hq []
set_option maxRecDepth 100000 in
theorem lifted (os : Os) (started : os.Started) (H : Type) (enc : TypeId × Value → H) :
    ReturnsInHanded {} Tryz.checked os 6 .any (fun w args => (Rows.crossingStructureSpec.pre enc Tryz.prog Tryz.f6 [] false w args ∧ laidMetH Tryz.prog zft w) ∧ sizedMet enc Tryz.prog Tryz.f6 (OpenSpec.ofChange Rows.crossingStructureSpec) false w args)
      (Rows.crossingStructureSpec.post enc Tryz.prog Tryz.f6 false true false false) := by
  refine returnsInHanded_of_change_and (C := Tryz.checked) (X := fun w _ => laidMetH Tryz.prog zft w) (fun _ _ _ hh h => h.of_heap hh) own started (by kernel_rfl) Tryz.func6
    (ChangeSpec.witness_shaped (enc := enc) (C := Tryz.checked) (os := os) (X := fun w _ => laidMetH Tryz.prog zft w) false (World.doorLaid Tryz.prog 600 os) #[.agg #[.slice none 0 0, .slice none 0 0, .int .i64 0, .int .i64 0, .slice none 0 0, .int .i8 0, .int .i64 0, .int .u8 0, .int .u8 0]] 12 rfl (World.shaped_of_RefB (by kernel_rfl) (by kernel_rfl)) (by kernel_rfl) (by kernel_rfl) (by kernel_rfl) (zgK os _)) ?_
  intro W base args ds gs before hval0 hW hcnd hsz0 hL _
  have hW' := hW
  obtain ⟨p, q, hA, hV, rfl, hfz, hnd⟩ := hW
  obtain ⟨rfl, rfl⟩ := trodVars_none hV
  have hsz : ∀ n ∈ DataW.weightsEach Tryz.prog Tryz.f6.params.toList ds, n ≤ reachBytes := by
    have := hsz0
    simp only [List.all_eq_true, decide_eq_true_eq] at this
    intro n hn
    refine this n ?_
    have e : Tryz.f6.params.toList ++ Rows.crossingStructureSpec.plain.varTypes Tryz.prog = Tryz.f6.params.toList := by rw [show Rows.crossingStructureSpec.plain.varTypes Tryz.prog = [] from rfl, List.append_nil]
    show n ∈ DataW.weightsEach Tryz.prog (Tryz.f6.params.toList ++ Rows.crossingStructureSpec.plain.varTypes Tryz.prog) (ds ++ [])
    rw [e, List.append_nil]; exact hn
  obtain ⟨av, ha, hv⟩ := zd2 (P := Tryz.prog) zgQ (m := 9) Tryz.f6.params.toList args.toList ds p (by kernel_rfl) (fun j t v ht hv => hval0 j t v (by simpa using ht) (by simpa using hv)) hA hsz
  refine (zc1 (E := E) (zgH hL) (law av ha) hv).mono ?_
  rintro e W' ⟨rfl, bel⟩
  have hA' := zbY zjh bel _ _ _ _ types hA
  have hlen : ∃ d0, ds = [d0] := by
    have h2 : DataW.TrodAll enc Tryz.prog W 0 (fun _ => true) true [29] args.toList ds p := hA
    obtain ⟨v0, vs0, d0, ds0, p0, q0, _, rfl, rfl, _, r0⟩ := trodAll_cons h2
    obtain ⟨rfl, rfl, rfl⟩ := trodAll_nil r0
    exact ⟨d0, rfl⟩
  obtain ⟨d0, rfl⟩ := hlen
  exact ⟨_, rfl, _, _, _, [], _, [], hW', trodAll_mk1 (shut_bool Tryz.underlying4 _), hA', rfl, bel.frame _, fun h => by cases h⟩
theorem jn1 : (Rows.crossingStructureRow.inPlace == Tryz.prog.inPlace 6) = true := by kernel_rfl
theorem jn2 : (Rows.crossingStructureRow.unfollowed == Tryz.prog.unfollowed 6) = true := by kernel_rfl
theorem jn3 : (Rows.crossingStructureRow.recurses == Tryz.prog.recurses 6) = true := by kernel_rfl
theorem jn4 : (Rows.crossingStructureRow.named == Tryz.prog.varsNamed 6) = true := by kernel_rfl
theorem jk0 : Rows.crossingStructureRow.wf (OpenSpec.ofChange Rows.crossingStructureSpec) = true := by kernel_rfl
theorem jk1 : laidOutB Tryz.prog = true := zjh
theorem jk2 : mapsRowed Tryz.prog = true := pgMaps
theorem jk3 : Tryz.f6.params.all (Tryz.prog.readableRec ·) = true := by kernel_rfl
theorem jk4 : namedTie Tryz.prog Rows.crossingStructureRow.named Rows.crossingStructureSpec.vars = true := by kernel_rfl
theorem jk5 : (Rows.crossingStructureRow.stops == []) = true := by kernel_rfl
theorem jk6 : (Tryz.prog.stops == []) = true := by kernel_rfl
theorem jk7 : (Rows.crossingStructureRow.knobs == []) = true := by kernel_rfl
theorem jk8 : (Tryz.prog.stopKnobs == []) = true := by kernel_rfl
theorem jk13 : (Rows.crossingStructureRow.maps == (Tryz.f6.params.toList ++ Rows.crossingStructureSpec.plain.varTypes Tryz.prog).any (Tryz.prog.mapsRec ·)) = true := by kernel_rfl
theorem jk14 : (Rows.crossingStructureRow.ifaces == (Tryz.f6.params.toList ++ Rows.crossingStructureSpec.plain.varTypes Tryz.prog).any (Tryz.prog.ifacesRec ·)) = true := by kernel_rfl
theorem jk15 : (Rows.crossingStructureRow.mapsOut == Tryz.prog.mapsAmong Tryz.f6.resultTypes.toList) = true := by kernel_rfl
theorem jk16 : (Rows.crossingStructureRow.loops == (Tryz.f6.params.toList ++ Rows.crossingStructureSpec.plain.varTypes Tryz.prog).any (Tryz.prog.loopsFrom ·)) = true := by kernel_rfl
theorem jk17 : (Rows.crossingStructureRow.wideKeys == (Tryz.f6.params.toList ++ Rows.crossingStructureSpec.plain.varTypes Tryz.prog ++ Tryz.f6.resultTypes.toList).any (Tryz.prog.wideKeysFrom ·)) = true := by kernel_rfl
theorem jk18 : Rows.crossingStructureSpec.vars.all (Tryz.prog.varReadable ·) = true := by kernel_rfl
theorem jk19 : Tryz.f6.resultTypes.all (fun t => Tryz.prog.readableRec t && decide (t < Tryz.prog.types.size)) = true := by kernel_rfl
theorem jk20 : (Rows.crossingStructureRow.ifacesOut == Tryz.f6.resultTypes.toList.any (Tryz.prog.ifacesRec ·)) = true := by kernel_rfl
theorem jk21 : (Rows.crossingStructureRow.loopsOut == Tryz.f6.resultTypes.toList.any (Tryz.prog.loopsFrom ·)) = true := by kernel_rfl
theorem jk22 : (Rows.crossingStructureRow.plainKeys == Tryz.prog.plainKeys) = true := by rw [pgKeys]; rfl
theorem jk23 : Rows.crossingStructureRow.shortTexts.isNone = true := by kernel_rfl
theorem jk24 : Tryz.prog.stopsHeard = true := pgHeard
theorem jk25 : Tryz.prog.mayEnter = true := pgEnter
theorem jk26 : (Rows.crossingStructureRow.lifted == Tryz.prog.liftsFinal) = true := pgLift
theorem jk27 : (Tryz.prog.make == some Rows.crossingStructureRow.make) = true := pgMake
theorem jk29 : (Rows.crossingStructureRow.pinned == Rows.crossingStructureRow.pinnedBy) = true := by kernel_rfl
theorem jk30 : (Rows.crossingStructureRow.veiled == (Tryz.f6.params.toList ++ Rows.crossingStructureSpec.plain.varTypes Tryz.prog ++ Tryz.f6.resultTypes.toList).any (Tryz.prog.veiledRec ·)) = true := by kernel_rfl
theorem jk31 : Rows.crossingStructureRow.veiledFits Tryz.prog Tryz.f6.params.toList (Tryz.f6.params.toList ++ Rows.crossingStructureSpec.plain.varTypes Tryz.prog ++ Tryz.f6.resultTypes.toList) = true := by kernel_rfl
theorem closed : joinedFacts Tryz.pinned.checked.prog 6 Tryz.f6 Rows.crossingStructureSpec Rows.crossingStructureRow = true := by
  show joinedFacts Tryz.prog 6 Tryz.f6 Rows.crossingStructureSpec Rows.crossingStructureRow = true
  unfold joinedFacts
  exact (bAnd (bAnd (bAnd (bAnd (bAnd (bAnd (bAnd (bAnd (bAnd (bAnd (bAnd (bAnd (bAnd (bAnd (bAnd (bAnd (bAnd (bAnd (bAnd (bAnd (bAnd (bAnd (bAnd (bAnd (bAnd (bAnd (bAnd (bAnd (bAnd (bAnd (bAnd jk0 jk1) jk2) jk3) jk4) jk5) jk6) jk7) jk8) jn1) jn2) jn3) jn4) jk13) jk14) jk15) jk16) jk17) jk18) jk19) jk20) jk21) jk22) jk23) jk24) jk25) jk26) jk27) (by kernel_rfl)) jk29) jk30) jk31)
theorem over : Rows.crossingStructureRow.holds Tryz.pinned (OpenSpec.ofChange Rows.crossingStructureSpec) :=
  OpenClaim.holds_of_wide 6 Tryz.f6 rfl rfl rfl rfl rfl rfl rfl ⟨rfl, rfl, rfl, rfl, rfl⟩ rfl rfl rfl rfl rfl (by kernel_rfl) Tryz.func6 closed
    (of_decide_eq_true (by kernel_rfl)) (by unfold Func.isWrapper; first | (rw [if_pos (by decide +kernel)]; kernel_rfl) | (rw [if_neg (by decide +kernel)]; exact ⟨rfl, rfl⟩))
    (fun os started H enc _ => lifted os started H enc)
theorem cd1 : Rows.crossingStructureRow.wfByText (OpenSpec.ofChange Rows.crossingStructureSpec) = true := by kernel_rfl
theorem cd2 : Tryz.prog.mainIs = some (((true, "c2b2307aef978d0bc4e5e9c34df894c6cea992613c063eaaec4e0c7145de29c1")).1, ((true, "c2b2307aef978d0bc4e5e9c34df894c6cea992613c063eaaec4e0c7145de29c1")).2.toList) := by kernel_rfl
theorem cd3 : true = Tryz.prog.looks [] := pgLooks
theorem cd4 : ([29].all fun u => !Tryz.prog.wantsStandIn u) = true := by kernel_rfl
theorem cd5 : false = Rows.crossingStructureRow.goesBy Tryz.prog := by kernel_rfl
theorem cd6 : Tryz.prog.funcNamed "armillary/armillarylaw16.CrossingStructure" = some 6 := by kernel_rfl
theorem card : Claim7.holds Tryz.pinned (.plain (OpenSpec.ofChange Rows.crossingStructureSpec)) Rows.crossingStructureCard :=
  Claim7.holds_tied_plain_at .later [] [.funcs, .funcs] true (true, "c2b2307aef978d0bc4e5e9c34df894c6cea992613c063eaaec4e0c7145de29c1") true
    over (fun _ h => by cases h) cd1 (fun _ h => by cases h) crossingStructure_row_tie rfl ⟨rfl, rfl⟩ cd2 rfl
    (fun f fn hf hfn => by
      obtain rfl : f = 6 := Option.some.inj (cd6.symm.trans hf) |>.symm
      obtain rfl : fn = Tryz.f6 := (Option.some.inj (Tryz.func6.symm.trans hfn)).symm
      exact ⟨cd3, fun j t ht => by
        rw [Tryz.params6] at ht
        have hm : t ∈ [29] := by simpa using Array.mem_of_getElem? ht
        exact (show Tryz.prog.wantsStandIn t = false by simpa using List.all_eq_true.1 cd4 t hm)⟩)
    cd5
end Go.Proofs.YtkghjlgpmeibhaaGreatDoor.crossingStructure
namespace Go.Proofs.YtkghjlgpmeibhaaGreatDoor
theorem crossingStructure_holds : Rows.CrossingStructureCardSaid := crossingStructure.card
end Go.Proofs.YtkghjlgpmeibhaaGreatDoor
