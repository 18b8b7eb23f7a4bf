/- What the statement CrossingDefiniteSign says of the given program: proved for every input. -/
import Derived.Test.YtkghjlgpmeibhaaGreatDoorMc6
set_option linter.unusedVariables false
set_option linter.unusedSimpArgs false
namespace Go.Proofs.YtkghjlgpmeibhaaGreatDoor.crossingDefiniteSign
open Go.Arm Go.Pl Go.Proofs.YtkghjlgpmeibhaaGreatDoor.Arm Go.ChangeShapes Go.WideShapes Go.ChangeAt Go.RowKit

theorem types : (Tryz.f7.params.toList.all fun t => Tryz.prog.readableRec t && decide (t < Tryz.prog.types.size)) = true := by kernel_rfl
theorem law (av : List AV) (h : zmn tab 9 Tryz.f7.params.toList av) : zaf E 7 av [] (.ret (.bool true)) [] := by
  rw [Tryz.params7] at h
  obtain ⟨a, b, rfl, h1, h2⟩ := zsh h
  obtain ⟨q, rfl, hq⟩ := okIq h1
  obtain ⟨x, rfl, hx⟩ := zgT (k := .i64) (by rfl) rfl h2
  exact zld q hq x (wfK64 hx) []
set_option maxRecDepth 100000 in
theorem lifted (os : Os) (started : os.Started) (H : Type) (enc : TypeId × Value → H) :
    ReturnsInHanded {} Tryz.checked os 7 .any (fun w args => (Rows.crossingDefiniteSignSpec.pre enc Tryz.prog Tryz.f7 [] false w args ∧ laidMetH Tryz.prog zog w) ∧ sizedMet enc Tryz.prog Tryz.f7 (OpenSpec.ofChange Rows.crossingDefiniteSignSpec) false w args)
      (Rows.crossingDefiniteSignSpec.post enc Tryz.prog Tryz.f7 false true false false) := by
  refine returnsInHanded_of_change_and (C := Tryz.checked) (X := fun w _ => laidMetH Tryz.prog zog w) (fun _ _ _ hh h => h.of_heap hh) own started (by kernel_rfl) Tryz.func7
    (ChangeSpec.witness_shaped (enc := enc) (C := Tryz.checked) (os := os) (X := fun w _ => laidMetH Tryz.prog zog w) false (World.doorLaid Tryz.prog 600 os) #[.agg #[.slice none 0 0, .slice none 0 0, .int .i64 0, .int .i64 0, .slice none 0 0, .int .i8 0, .int .i64 0, .int .u8 0, .int .u8 0], .int .i64 0] 12 rfl (World.shaped_of_RefB (by kernel_rfl) (by kernel_rfl)) (by kernel_rfl) (by kernel_rfl) (by kernel_rfl) (zqy os _)) ?_
  intro W base args ds gs before hval0 hW hcnd hsz0 hL _
  have hW' := hW
  obtain ⟨p, q, hA, hV, rfl, hfz, hnd⟩ := hW
  obtain ⟨rfl, rfl⟩ := trodVars_none hV
  have hsz : ∀ n ∈ DataW.weightsEach Tryz.prog Tryz.f7.params.toList ds, n ≤ reachBytes := by
    have := hsz0
    simp only [List.all_eq_true, decide_eq_true_eq] at this
    intro n hn
    refine this n ?_
    have e : Tryz.f7.params.toList ++ Rows.crossingDefiniteSignSpec.plain.varTypes Tryz.prog = Tryz.f7.params.toList := by rw [show Rows.crossingDefiniteSignSpec.plain.varTypes Tryz.prog = [] from rfl, List.append_nil]
    show n ∈ DataW.weightsEach Tryz.prog (Tryz.f7.params.toList ++ Rows.crossingDefiniteSignSpec.plain.varTypes Tryz.prog) (ds ++ [])
    rw [e, List.append_nil]; exact hn
  obtain ⟨av, ha, hv⟩ := zjk (P := Tryz.prog) zlz (m := 9) Tryz.f7.params.toList args.toList ds p (by kernel_rfl) (fun j t v ht hv => hval0 j t v (by simpa using ht) (by simpa using hv)) hA hsz
  refine (zjp (E := E) (zqj hL) (law av ha) hv).mono ?_
  rintro e W' ⟨rfl, bel⟩
  have hA' := ze0 zof bel _ _ _ _ types hA
  have hlen : ∃ d0 d1, ds = [d0, d1] := by
    have h2 : DataW.TrodAll enc Tryz.prog W 0 (fun _ => true) true [29, 2] args.toList ds p := hA
    obtain ⟨v0, vs0, d0, ds0, p0, q0, _, rfl, rfl, _, r0⟩ := trodAll_cons h2
    obtain ⟨v1, vs1, d1, ds1, p1, q1, _, rfl, rfl, _, r1⟩ := trodAll_cons r0
    obtain ⟨rfl, rfl, rfl⟩ := trodAll_nil r1
    exact ⟨d0, d1, rfl⟩
  obtain ⟨d0, d1, rfl⟩ := hlen
  exact ⟨_, rfl, _, _, _, [], _, [], hW', trodAll_mk1 (shut_bool Tryz.underlying4 _), hA', rfl, bel.frame _, fun h => by cases h⟩
theorem jn1 : (Rows.crossingDefiniteSignRow.inPlace == Tryz.prog.inPlace 7) = true := by kernel_rfl
theorem jn2 : (Rows.crossingDefiniteSignRow.unfollowed == Tryz.prog.unfollowed 7) = true := by kernel_rfl
theorem jn3 : (Rows.crossingDefiniteSignRow.recurses == Tryz.prog.recurses 7) = true := by kernel_rfl
theorem jn4 : (Rows.crossingDefiniteSignRow.named == Tryz.prog.varsNamed 7) = true := by kernel_rfl
theorem jk0 : Rows.crossingDefiniteSignRow.wf (OpenSpec.ofChange Rows.crossingDefiniteSignSpec) = true := by kernel_rfl
theorem jk1 : laidOutB Tryz.prog = true := zof
theorem jk2 : mapsRowed Tryz.prog = true := ztS
theorem jk3 : Tryz.f7.params.all (Tryz.prog.readableRec ·) = true := by kernel_rfl
theorem jk4 : namedTie Tryz.prog Rows.crossingDefiniteSignRow.named Rows.crossingDefiniteSignSpec.vars = true := by kernel_rfl
theorem jk5 : (Rows.crossingDefiniteSignRow.stops == []) = true := by kernel_rfl
theorem jk6 : (Tryz.prog.stops == []) = true := by kernel_rfl
theorem jk7 : (Rows.crossingDefiniteSignRow.knobs == []) = true := by kernel_rfl
theorem jk8 : (Tryz.prog.stopKnobs == []) = true := by kernel_rfl
theorem jk13 : (Rows.crossingDefiniteSignRow.maps == (Tryz.f7.params.toList ++ Rows.crossingDefiniteSignSpec.plain.varTypes Tryz.prog).any (Tryz.prog.mapsRec ·)) = true := by kernel_rfl
theorem jk14 : (Rows.crossingDefiniteSignRow.ifaces == (Tryz.f7.params.toList ++ Rows.crossingDefiniteSignSpec.plain.varTypes Tryz.prog).any (Tryz.prog.ifacesRec ·)) = true := by kernel_rfl
theorem jk15 : (Rows.crossingDefiniteSignRow.mapsOut == Tryz.prog.mapsAmong Tryz.f7.resultTypes.toList) = true := by kernel_rfl
theorem jk16 : (Rows.crossingDefiniteSignRow.loops == (Tryz.f7.params.toList ++ Rows.crossingDefiniteSignSpec.plain.varTypes Tryz.prog).any (Tryz.prog.loopsFrom ·)) = true := by kernel_rfl
theorem jk17 : (Rows.crossingDefiniteSignRow.wideKeys == (Tryz.f7.params.toList ++ Rows.crossingDefiniteSignSpec.plain.varTypes Tryz.prog ++ Tryz.f7.resultTypes.toList).any (Tryz.prog.wideKeysFrom ·)) = true := by kernel_rfl
theorem jk18 : Rows.crossingDefiniteSignSpec.vars.all (Tryz.prog.varReadable ·) = true := by kernel_rfl
theorem jk19 : Tryz.f7.resultTypes.all (fun t => Tryz.prog.readableRec t && decide (t < Tryz.prog.types.size)) = true := by kernel_rfl
theorem jk20 : (Rows.crossingDefiniteSignRow.ifacesOut == Tryz.f7.resultTypes.toList.any (Tryz.prog.ifacesRec ·)) = true := by kernel_rfl
theorem jk21 : (Rows.crossingDefiniteSignRow.loopsOut == Tryz.f7.resultTypes.toList.any (Tryz.prog.loopsFrom ·)) = true := by kernel_rfl
theorem jk22 : (Rows.crossingDefiniteSignRow.plainKeys == Tryz.prog.plainKeys) = true := by rw [ztV]; rfl
theorem jk23 : Rows.crossingDefiniteSignRow.shortTexts.isNone = true := by kernel_rfl
theorem jk24 : Tryz.prog.stopsHeard = true := zr7
theorem jk25 : Tryz.prog.mayEnter = true := zr8
theorem jk26 : (Rows.crossingDefiniteSignRow.lifted == Tryz.prog.liftsFinal) = true := ztU
theorem jk27 : (Tryz.prog.make == some Rows.crossingDefiniteSignRow.make) = true := ztT
theorem jk29 : (Rows.crossingDefiniteSignRow.pinned == Rows.crossingDefiniteSignRow.pinnedBy) = true := by kernel_rfl
theorem jk30 : (Rows.crossingDefiniteSignRow.veiled == (Tryz.f7.params.toList ++ Rows.crossingDefiniteSignSpec.plain.varTypes Tryz.prog ++ Tryz.f7.resultTypes.toList).any (Tryz.prog.veiledRec ·)) = true := by kernel_rfl
theorem jk31 : Rows.crossingDefiniteSignRow.veiledFits Tryz.prog Tryz.f7.params.toList (Tryz.f7.params.toList ++ Rows.crossingDefiniteSignSpec.plain.varTypes Tryz.prog ++ Tryz.f7.resultTypes.toList) = true := by kernel_rfl
theorem closed : joinedFacts Tryz.pinned.checked.prog 7 Tryz.f7 Rows.crossingDefiniteSignSpec Rows.crossingDefiniteSignRow = true := by
  show joinedFacts Tryz.prog 7 Tryz.f7 Rows.crossingDefiniteSignSpec Rows.crossingDefiniteSignRow = true
  unfold joinedFacts
  exact (bAnd (bAnd (bAnd (bAnd (bAnd (bAnd (bAnd (bAnd (bAnd (bAnd (bAnd (bAnd (bAnd (bAnd (bAnd (bAnd (bAnd (bAnd (bAnd (bAnd (bAnd (bAnd (bAnd (bAnd (bAnd (bAnd (bAnd (bAnd (bAnd (bAnd (bAnd jk0 jk1) jk2) jk3) jk4) jk5) jk6) jk7) jk8) jn1) jn2) jn3) jn4) jk13) jk14) jk15) jk16) jk17) jk18) jk19) jk20) jk21) jk22) jk23) jk24) jk25) jk26) jk27) (by kernel_rfl)) jk29) jk30) jk31)
theorem over : Rows.crossingDefiniteSignRow.holds Tryz.pinned (OpenSpec.ofChange Rows.crossingDefiniteSignSpec) :=
  OpenClaim.holds_of_wide 7 Tryz.f7 rfl rfl rfl rfl rfl rfl rfl ⟨rfl, rfl, rfl, rfl, rfl⟩ rfl rfl rfl rfl rfl (by kernel_rfl) Tryz.func7 closed
    (of_decide_eq_true (by kernel_rfl)) (by unfold Func.isWrapper; first | (rw [if_pos (by decide +kernel)]; kernel_rfl) | (rw [if_neg (by decide +kernel)]; exact ⟨rfl, rfl⟩))
    (fun os started H enc _ => lifted os started H enc)
theorem cd1 : Rows.crossingDefiniteSignRow.wfByText (OpenSpec.ofChange Rows.crossingDefiniteSignSpec) = true := by kernel_rfl
theorem cd2 : Tryz.prog.mainIs = some (((true, "c2b2307aef978d0bc4e5e9c34df894c6cea992613c063eaaec4e0c7145de29c1")).1, ((true, "c2b2307aef978d0bc4e5e9c34df894c6cea992613c063eaaec4e0c7145de29c1")).2.toList) := by kernel_rfl
theorem cd3 : true = Tryz.prog.looks [] := zr6
theorem cd4 : ([29, 2].all fun u => !Tryz.prog.wantsStandIn u) = true := by kernel_rfl
theorem cd5 : false = Rows.crossingDefiniteSignRow.goesBy Tryz.prog := by kernel_rfl
theorem cd6 : Tryz.prog.funcNamed "armillary/armillarylaw16.CrossingDefiniteSign" = some 7 := by kernel_rfl
theorem card : Claim7.holds Tryz.pinned (.plain (OpenSpec.ofChange Rows.crossingDefiniteSignSpec)) Rows.crossingDefiniteSignCard :=
  Claim7.holds_tied_plain_at .later [] [.funcs, .funcs] true (true, "c2b2307aef978d0bc4e5e9c34df894c6cea992613c063eaaec4e0c7145de29c1") true
    over (fun _ h => by cases h) cd1 (fun _ h => by cases h) crossingDefiniteSign_row_tie rfl ⟨rfl, rfl⟩ cd2 rfl
    (fun f fn hf hfn => by
      obtain rfl : f = 7 := Option.some.inj (cd6.symm.trans hf) |>.symm
      obtain rfl : fn = Tryz.f7 := (Option.some.inj (Tryz.func7.symm.trans hfn)).symm
      exact ⟨cd3, fun j t ht => by
        rw [Tryz.params7] at ht
        have hm : t ∈ [29, 2] := by simpa using Array.mem_of_getElem? ht
        exact (show Tryz.prog.wantsStandIn t = false by simpa using List.all_eq_true.1 cd4 t hm)⟩)
    cd5
end Go.Proofs.YtkghjlgpmeibhaaGreatDoor.crossingDefiniteSign
namespace Go.Proofs.YtkghjlgpmeibhaaGreatDoor
theorem crossingDefiniteSign_holds : Rows.CrossingDefiniteSignCardSaid := crossingDefiniteSign.card
end Go.Proofs.YtkghjlgpmeibhaaGreatDoor
