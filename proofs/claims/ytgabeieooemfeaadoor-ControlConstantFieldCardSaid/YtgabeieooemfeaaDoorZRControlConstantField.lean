/- Law 13, ConstantField -/
import Derived.Test.YtgabeieooemfeaaDoorM5
set_option linter.unusedVariables false
set_option linter.unusedSimpArgs false
namespace Go.Proofs.YtgabeieooemfeaaDoor.controlConstantField
open Go.Arm Go.Pl Go.Proofs.YtgabeieooemfeaaDoor.Arm Go.ChangeShapes Go.WideShapes Go.ChangeAt Go.RowKit

theorem types : (Tryd.f4.params.toList.all fun t => Tryd.prog.readableRec t && decide (t < Tryd.prog.types.size)) = true := by kernel_rfl
theorem law (av : List AV) (h : OkArgs tab 9 Tryd.f4.params.toList av) : Sound E 4 av [] (.ret (.bool true)) [] := by
  rw [Tryd.params4] at h
  obtain ⟨a, c, d, rfl, h1, h2, h3⟩ := okArgs3 h
  obtain ⟨w, rfl, -⟩ := okRq h1
  obtain ⟨cs, rfl, hl, hc⟩ := okInts (k := .i32) (p := fun x => -2147483648 ≤ x ∧ x ≤ 2147483647) (by rfl) rfl (by rfl) rfl (fun x => wfI32) h2
  obtain ⟨xs, rfl, hl2, hc2⟩ := okInts (k := .i32) (p := fun x => -2147483648 ≤ x ∧ x ≤ 2147483647) (by rfl) rfl (by rfl) rfl (fun x => wfI32) h3
  obtain ⟨u, v, rfl⟩ : ∃ u v, cs = [u, v] := by
    match cs, hl with
    | [u, v], _ => exact ⟨u, v, rfl⟩
  obtain ⟨p, q, rfl⟩ : ∃ u v, xs = [u, v] := by
    match xs, hl2 with
    | [u, v], _ => exact ⟨u, v, rfl⟩
  exact lField w u v p q (hc u (by simp)) (hc v (by simp)) (hc2 p (by simp)) (hc2 q (by simp)) []
set_option maxRecDepth 100000 in
theorem lifted (os : Os) (started : os.Started) (H : Type) (enc : TypeId × Value → H) :
    ReturnsInHanded {} Tryd.checked os 4 .any (fun w args => (Rows.controlConstantFieldSpec.pre enc Tryd.prog Tryd.f4 [] false w args ∧ laidMetH Tryd.prog laidL w) ∧ sizedMet enc Tryd.prog Tryd.f4 (OpenSpec.ofChange Rows.controlConstantFieldSpec) false w args)
      (Rows.controlConstantFieldSpec.post enc Tryd.prog Tryd.f4 false true false false) := by
  refine returnsInHanded_of_change_and (C := Tryd.checked) (X := fun w _ => laidMetH Tryd.prog laidL w) (fun _ _ _ hh h => h.of_heap hh) own started (by kernel_rfl) Tryd.func4
    (ChangeSpec.witness_shaped (enc := enc) (C := Tryd.checked) (os := os) (X := fun w _ => laidMetH Tryd.prog laidL w) false (World.doorLaid Tryd.prog 600 os) #[.agg #[.int .i64 0, .int .i64 0, .int .i64 0, .int .i64 0, .int .i64 0, .int .i64 0, .int .i64 0, .int .i64 0], .agg #[.int .i32 0, .int .i32 0], .agg #[.int .i32 0, .int .i32 0]] 8 rfl (World.shaped_of_RefB (by kernel_rfl) (by kernel_rfl)) (by kernel_rfl) (by kernel_rfl) (by kernel_rfl) (door_met os _)) ?_
  intro W base args ds gs before hval0 hW hcnd hsz0 hL _
  have hW' := hW
  obtain ⟨p, q, hA, hV, rfl, hfz, hnd⟩ := hW
  obtain ⟨rfl, rfl⟩ := trodVars_none hV
  have hsz : ∀ n ∈ DataW.weightsEach Tryd.prog Tryd.f4.params.toList ds, n ≤ reachBytes := by
    have := hsz0
    simp only [List.all_eq_true, decide_eq_true_eq] at this
    intro n hn
    refine this n ?_
    have e : Tryd.f4.params.toList ++ Rows.controlConstantFieldSpec.plain.varTypes Tryd.prog = Tryd.f4.params.toList := by rw [show Rows.controlConstantFieldSpec.plain.varTypes Tryd.prog = [] from rfl, List.append_nil]
    show n ∈ DataW.weightsEach Tryd.prog (Tryd.f4.params.toList ++ Rows.controlConstantFieldSpec.plain.varTypes Tryd.prog) (ds ++ [])
    rw [e, List.append_nil]; exact hn
  obtain ⟨av, ha, hv⟩ := vals_open (P := Tryd.prog) tab_ok (m := 9) Tryd.f4.params.toList args.toList ds p (by kernel_rfl) (fun j t v ht hv => hval0 j t v (by simpa using ht) (by simpa using hv)) hA hsz
  refine (sound_callsG (E := E) (glob_met hL) (law av ha) hv).mono ?_
  rintro e W' ⟨rfl, bel⟩
  have hA' := trodAll_keeps laidOut bel _ _ _ _ types hA
  have hlen : ∃ d0 d1 d2, ds = [d0, d1, d2] := by
    have h2 : DataW.TrodAll enc Tryd.prog W 0 (fun _ => true) true [32, 33, 33] args.toList ds p := hA
    obtain ⟨v0, vs0, d0, ds0, p0, q0, _, rfl, rfl, _, r0⟩ := trodAll_cons h2
    obtain ⟨v1, vs1, d1, ds1, p1, q1, _, rfl, rfl, _, r1⟩ := trodAll_cons r0
    obtain ⟨v2, vs2, d2, ds2, p2, q2, _, rfl, rfl, _, r2⟩ := trodAll_cons r1
    obtain ⟨rfl, rfl, rfl⟩ := trodAll_nil r2
    exact ⟨d0, d1, d2, rfl⟩
  obtain ⟨d0, d1, d2, rfl⟩ := hlen
  exact ⟨_, rfl, _, _, _, [], _, [], hW', trodAll_mk1 (shut_bool Tryd.underlying4 _), hA', rfl, bel.frame _, fun h => by cases h⟩
theorem over : Rows.controlConstantFieldRow.holds Tryd.pinned (OpenSpec.ofChange Rows.controlConstantFieldSpec) :=
  OpenClaim.holds_of_wide 4 Tryd.f4 rfl rfl rfl rfl rfl rfl rfl ⟨rfl, rfl, rfl, rfl, rfl⟩ rfl rfl rfl rfl rfl (by kernel_rfl) Tryd.func4 (by kernel_rfl)
    (of_decide_eq_true (by kernel_rfl)) (by unfold Func.isWrapper; first | (rw [if_pos (by decide +kernel)]; kernel_rfl) | (rw [if_neg (by decide +kernel)]; exact ⟨rfl, rfl⟩))
    (fun os started H enc _ => lifted os started H enc)
theorem card : Claim7.holds Tryd.pinned (.plain (OpenSpec.ofChange Rows.controlConstantFieldSpec)) Rows.controlConstantFieldCard :=
  Claim7.holds_tied_plain_at .later [] [.funcs, .funcs, .funcs] true (true, "df57fb5c12df803e69751ed8ea4cc7256d80c362d2c79b1d4ce410e62cfaec4b") false
    over (fun _ h => by cases h) (by kernel_rfl) (fun _ h => by cases h) controlConstantField_row_tie rfl ⟨rfl, rfl⟩ (by kernel_rfl) rfl
    (fun f fn hf hfn => by
      obtain rfl : f = 4 := Option.some.inj ((show Tryd.prog.funcNamed "armillary/armillarylaw13.ControlConstantField" = some 4 by kernel_rfl).symm.trans hf) |>.symm
      obtain rfl : fn = Tryd.f4 := (Option.some.inj (Tryd.func4.symm.trans hfn)).symm
      exact ⟨by kernel_rfl, fun j t ht => by
        rw [Tryd.params4] at ht
        have hm : t ∈ [32, 33, 33] := by simpa using Array.mem_of_getElem? ht
        have hall : ([32, 33, 33].all fun u => !Tryd.prog.wantsStandIn u) = true := by kernel_rfl
        exact (show Tryd.prog.wantsStandIn t = false by simpa using List.all_eq_true.1 hall t hm)⟩)
    (by kernel_rfl)
end Go.Proofs.YtgabeieooemfeaaDoor.controlConstantField
namespace Go.Proofs.YtgabeieooemfeaaDoor
theorem controlConstantField_holds : Rows.ControlConstantFieldCardSaid := controlConstantField.card
end Go.Proofs.YtgabeieooemfeaaDoor
