/- Parabolas. -/
import Derived.Test.YtfjjckepnkkgjaaGreatDoorM6
set_option linter.unusedVariables false
set_option linter.unusedSimpArgs false
namespace Go.Proofs.YtfjjckepnkkgjaaGreatDoor.flowParabolas
open Go.Arm Go.Pl Go.Proofs.YtfjjckepnkkgjaaGreatDoor.Arm Go.ChangeShapes Go.WideShapes Go.ChangeAt Go.RowKit

theorem types : (Tryz.f6.params.toList.all fun t => Tryz.prog.readableRec t && decide (t < Tryz.prog.types.size)) = true := by kernel_rfl
theorem law (av : List AV) (h : OkArgs tab 9 Tryz.f6.params.toList av) : Sound E 6 av [] (.ret (.bool true)) [] := by
  rw [Tryz.params6] at h
  obtain ⟨a, c, d, rfl, h1, h2, h3⟩ := okArgs3 h
  obtain ⟨q, rfl, hq⟩ := okFq h1
  obtain ⟨x, rfl, hx⟩ := okInt (k := .i32) (by rfl) rfl h2
  obtain ⟨y, z, u, rfl, hy, hz, hu⟩ := okU3 h3
  exact lParab q hq x y z u (wfI32 hx) hy hz hu []
set_option maxRecDepth 100000 in
theorem lifted (os : Os) (started : os.Started) (H : Type) (enc : TypeId × Value → H) :
    ReturnsInHanded {} Tryz.checked os 6 .any (fun w args => (Rows.flowParabolasSpec.pre enc Tryz.prog Tryz.f6 [] false w args ∧ laidMetH Tryz.prog laidL w) ∧ sizedMet enc Tryz.prog Tryz.f6 (OpenSpec.ofChange Rows.flowParabolasSpec) false w args)
      (Rows.flowParabolasSpec.post enc Tryz.prog Tryz.f6 false true false false) := by
  refine returnsInHanded_of_change_and (C := Tryz.checked) (X := fun w _ => laidMetH Tryz.prog laidL w) (fun _ _ _ hh h => h.of_heap hh) own started (by kernel_rfl) Tryz.func6
    (ChangeSpec.witness_shaped (enc := enc) (C := Tryz.checked) (os := os) (X := fun w _ => laidMetH Tryz.prog laidL w) false (World.doorLaid Tryz.prog 600 os) #[.agg #[.int .i64 0, .slice none 0 0, .slice none 0 0, .slice none 0 0, .int .u8 0, .int .i32 0, .int .u16 0], .int .i32 0, .agg #[.int .u32 0, .int .u32 0, .int .u32 0]] 12 rfl (World.shaped_of_RefB (by kernel_rfl) (by kernel_rfl)) (by kernel_rfl) (by kernel_rfl) (by kernel_rfl) (door_met os _)) ?_
  intro W base args ds gs before hval0 hW hcnd hsz0 hL _
  have hW' := hW
  obtain ⟨p, q, hA, hV, rfl, hfz, hnd⟩ := hW
  obtain ⟨rfl, rfl⟩ := trodVars_none hV
  have hsz : ∀ n ∈ DataW.weightsEach Tryz.prog Tryz.f6.params.toList ds, n ≤ reachBytes := by
    have := hsz0
    simp only [List.all_eq_true, decide_eq_true_eq] at this
    intro n hn
    refine this n ?_
    have e : Tryz.f6.params.toList ++ Rows.flowParabolasSpec.plain.varTypes Tryz.prog = Tryz.f6.params.toList := by rw [show Rows.flowParabolasSpec.plain.varTypes Tryz.prog = [] from rfl, List.append_nil]
    show n ∈ DataW.weightsEach Tryz.prog (Tryz.f6.params.toList ++ Rows.flowParabolasSpec.plain.varTypes Tryz.prog) (ds ++ [])
    rw [e, List.append_nil]; exact hn
  obtain ⟨av, ha, hv⟩ := vals_open (P := Tryz.prog) tab_ok (m := 9) Tryz.f6.params.toList args.toList ds p (by kernel_rfl) (fun j t v ht hv => hval0 j t v (by simpa using ht) (by simpa using hv)) hA hsz
  refine (sound_callsG (E := E) (glob_met hL) (law av ha) hv).mono ?_
  rintro e W' ⟨rfl, bel⟩
  have hA' := trodAll_keeps laidOut bel _ _ _ _ types hA
  have hlen : ∃ d0 d1 d2, ds = [d0, d1, d2] := by
    have h2 : DataW.TrodAll enc Tryz.prog W 0 (fun _ => true) true [29, 21, 61] args.toList ds p := hA
    obtain ⟨v0, vs0, d0, ds0, p0, q0, _, rfl, rfl, _, r0⟩ := trodAll_cons h2
    obtain ⟨v1, vs1, d1, ds1, p1, q1, _, rfl, rfl, _, r1⟩ := trodAll_cons r0
    obtain ⟨v2, vs2, d2, ds2, p2, q2, _, rfl, rfl, _, r2⟩ := trodAll_cons r1
    obtain ⟨rfl, rfl, rfl⟩ := trodAll_nil r2
    exact ⟨d0, d1, d2, rfl⟩
  obtain ⟨d0, d1, d2, rfl⟩ := hlen
  exact ⟨_, rfl, _, _, _, [], _, [], hW', trodAll_mk1 (shut_bool Tryz.underlying4 _), hA', rfl, bel.frame _, fun h => by cases h⟩
theorem jn1 : (Rows.flowParabolasRow.inPlace == Tryz.prog.inPlace 6) = true := by kernel_rfl
theorem jn2 : (Rows.flowParabolasRow.unfollowed == Tryz.prog.unfollowed 6) = true := by kernel_rfl
theorem jn3 : (Rows.flowParabolasRow.recurses == Tryz.prog.recurses 6) = true := by kernel_rfl
theorem jn4 : (Rows.flowParabolasRow.named == Tryz.prog.varsNamed 6) = true := by kernel_rfl
theorem closed : joinedFacts Tryz.pinned.checked.prog 6 Tryz.f6 Rows.flowParabolasSpec Rows.flowParabolasRow = true := by
  show joinedFacts Tryz.prog 6 Tryz.f6 Rows.flowParabolasSpec Rows.flowParabolasRow = true
  unfold joinedFacts
  rw [jn1, jn2, jn3, jn4]
  kernel_rfl
theorem over : Rows.flowParabolasRow.holds Tryz.pinned (OpenSpec.ofChange Rows.flowParabolasSpec) :=
  OpenClaim.holds_of_wide 6 Tryz.f6 rfl rfl rfl rfl rfl rfl rfl ⟨rfl, rfl, rfl, rfl, rfl⟩ rfl rfl rfl rfl rfl (by kernel_rfl) Tryz.func6 closed
    (of_decide_eq_true (by kernel_rfl)) (by unfold Func.isWrapper; first | (rw [if_pos (by decide +kernel)]; kernel_rfl) | (rw [if_neg (by decide +kernel)]; exact ⟨rfl, rfl⟩))
    (fun os started H enc _ => lifted os started H enc)
theorem card : Claim7.holds Tryz.pinned (.plain (OpenSpec.ofChange Rows.flowParabolasSpec)) Rows.flowParabolasCard :=
  Claim7.holds_tied_plain_at .later [] [.funcs, .funcs, .funcs] true (true, "86a0bf364b3697ffcd91e917009c82fdbe1b970b8ec4ecc46e57f09cfc38fabb") true
    over (fun _ h => by cases h) (by kernel_rfl) (fun _ h => by cases h) flowParabolas_row_tie rfl ⟨rfl, rfl⟩ (by kernel_rfl) rfl
    (fun f fn hf hfn => by
      obtain rfl : f = 6 := Option.some.inj ((show Tryz.prog.funcNamed "armillary/armillarylaw14.FlowParabolas" = some 6 by kernel_rfl).symm.trans hf) |>.symm
      obtain rfl : fn = Tryz.f6 := (Option.some.inj (Tryz.func6.symm.trans hfn)).symm
      exact ⟨by kernel_rfl, fun j t ht => by
        rw [Tryz.params6] at ht
        have hm : t ∈ [29, 21, 61] := by simpa using Array.mem_of_getElem? ht
        have hall : ([29, 21, 61].all fun u => !Tryz.prog.wantsStandIn u) = true := by kernel_rfl
        exact (show Tryz.prog.wantsStandIn t = false by simpa using List.all_eq_true.1 hall t hm)⟩)
    (by kernel_rfl)
end Go.Proofs.YtfjjckepnkkgjaaGreatDoor.flowParabolas
namespace Go.Proofs.YtfjjckepnkkgjaaGreatDoor
theorem flowParabolas_holds : Rows.FlowParabolasCardSaid := flowParabolas.card
end Go.Proofs.YtfjjckepnkkgjaaGreatDoor
