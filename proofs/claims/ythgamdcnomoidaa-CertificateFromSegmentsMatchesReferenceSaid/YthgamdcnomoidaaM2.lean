/- Part of a proof: what the functions of the program do to abstract states, step by step. -/
import Derived.Test.YthgamdcnomoidaaM1
import Derived.Sort.LoopGhostIn
import Derived.Test.YthgamdcnomoidaaChecked
import Derived.KernelRfl
set_option linter.unusedVariables false
set_option linter.unusedSimpArgs false
/- Regions whose order is drawn (sixth part): the theorem. -/
namespace Go.Arm
open Go.RowKit

theorem tmpOk_spec {ops : Array Oper} (h : tmpOk ops = true) :
    (∀ j o, ops[j]? = some o → ∀ e ∈ o.after, Region.binds .any e = true → e.on < j) ∧
    (∀ i j x y, ops[i]? = some x → ops[j]? = some y → i < j → ((masks ops.toList []).getD j 0).testBit i = true ∨ x.apart ops y = true) := by
  have get : ∀ j o, ops[j]? = some o → (o, j) ∈ ops.toList.zipIdx := by
    intro j o ho
    rw [List.mem_iff_getElem?]
    exact ⟨j, by rw [List.getElem?_zipIdx]; simp [ho]⟩
  simp only [tmpOk, List.all_eq_true, Bool.and_eq_true, Bool.or_eq_true, decide_eq_true_eq, Bool.not_eq_true'] at h
  refine ⟨fun j o ho e he hb => ?_, fun i j x y hx hy hlt => ?_⟩
  · rcases (h _ (get j o ho)).1 e (by simpa using he) with h1 | h1
    · rw [hb] at h1; cases h1
    · exact h1
  · rcases (h _ (get j y hy)).2 _ (get i x hx) with (h1 | h1) | h1
    · exact .inl h1
    · simp only at h1; omega
    · exact .inr h1

theorem runs_wanted {G : Gh} {w : World} {ops : Array Oper} {fr : AFr} {a : Act} {o : Oper} (hfr : FR G w fr a.tmps) (h : Runs ops fr o) : Region.wanted o (yielded ops a.tmps) = true := by
  unfold Runs at h
  cases hg : o.guard with
  | none => simp [Region.wanted, hg]
  | some p =>
    obtain ⟨j, want⟩ := p
    rw [hg] at h
    obtain ⟨d, hd, hb⟩ := h
    have hy := yielded_skip (a := a) hd
    have hvd := hfr d
    rw [hb, Array.getD_eq_getD_getElem?] at hvd
    cases hg2 : a.tmps[d]? with
    | none => rw [hg2] at hvd; simp only [Option.getD_none, undef] at hvd; cases hvd
    | some u =>
      rw [hg2] at hvd hy
      simp only [Option.getD_some] at hvd
      cases hvd
      simp [Region.wanted, hg, hy]

theorem skips_not {G : Gh} {w : World} {ops : Array Oper} {fr : AFr} {a : Act} {o : Oper} (hfr : FR G w fr a.tmps) (h : Skips ops fr o) : Region.wanted o (yielded ops a.tmps) = false := by
  unfold Skips at h
  cases hg : o.guard with
  | none => rw [hg] at h; exact h.elim
  | some p =>
    obtain ⟨j, want⟩ := p
    rw [hg] at h
    rcases h with hd | ⟨d, hd, hb⟩
    · have : yielded ops a.tmps j = none := by unfold yielded; rw [hd]; rfl
      simp [Region.wanted, hg, this]
    · have hy := yielded_skip (a := a) hd
      have hvd := hfr d
      rw [Array.getD_eq_getD_getElem?] at hvd
      cases hg2 : a.tmps[d]? with
      | none => rw [hg2] at hy; simp [Region.wanted, hg, hy]
      | some u =>
        rw [hg2] at hvd hy
        simp only [Option.getD_some] at hvd
        rcases hb with ⟨b, hb, hne⟩ | ⟨vs, hb⟩
        · rw [hb] at hvd; cases hvd
          simp [Region.wanted, hg, hy, hne]
        · rw [hb] at hvd; cases hvd
          simp [Region.wanted, hg, hy]

theorem aop_call {T : Tab} {ρ : Operand → AV} {H : AH} {c : Call} {f : Operand} (h : c.callee = .value f) : aop T ρ H (.call c) = none := by
  simp only [aop, h]

section
variable {E : Env} {F : Fence} {n : Nat}

theorem foot_congr {ρ ρ' : Operand → AV} {H H' : AH} {v : AV} {op : Op} (h : ∀ x ∈ op.operands, ρ' x = ρ x) : foot ρ' H H' v op = foot ρ H H' v op := by
  cases op with
  | call c =>
    have h1 : c.args.toList.map ρ' = c.args.toList.map ρ := by
      apply List.map_congr_left
      intro x hx
      exact h x (by simp only [Op.operands, Call.operands]; simp; exact .inr (by simpa using hx))
    simp only [foot, h1]
  | buildSlice t n parts =>
    have h1 : (parts.toList.all fun p => noRef (ρ' p.2)) = (parts.toList.all fun p => noRef (ρ p.2)) := by
      rw [Bool.eq_iff_iff]
      simp only [List.all_eq_true]
      refine ⟨fun g p hp => ?_, fun g p hp => ?_⟩
      · have := g p hp; rwa [h p.2 (by simp only [Op.operands, List.mem_toArray, List.mem_map]; exact ⟨p, hp, rfl⟩)] at this
      · rw [h p.2 (by simp only [Op.operands, List.mem_toArray, List.mem_map]; exact ⟨p, hp, rfl⟩)]; exact g p hp
    simp only [foot, h1]
  | load t x => simp only [foot, h x (by simp [Op.operands])]
  | indexAddr t x y => simp only [foot, h x (by simp [Op.operands])]
  | store t x y => simp only [foot, h x (by simp [Op.operands])]
  | slice t x lo hi mx => simp only [foot, h x (by simp [Op.operands])]
  | _ => rfl

/-- An operation that runs, at another place of the order. -/
theorem stepD_sound (hT : TabOk E.P E.T) (hF : Wd F) {o : Oper} {fr fr' : AFr} {H H2 H' : AH} {e : Ent} {G : Gh} {w : World} {a : Act}
    (h : stepD E o (fun v ε H1 => v = e.v ∧ ε = e.ε ∧ H1 = H') fr H) (hI : Inv E.Γ G w H2) (hfr : FR G w fr' a.tmps) (hag : ∀ x ∈ o.op.operands, evalA E fr' x = evalA E fr x)
    (hm : Meets e.ε H H2) (hr : ∀ b ∈ e.ε.rds, b < H.length → H2[b]? = H[b]?) {next' : Act → World → Prop} {Q : Exit → Act → World → Prop}
    (hnext : ∀ G' w' u, Ext G w G' w' → Inv E.Γ G' w' (e.ε.fill H2) → VR G' w' e.v u → next' (a.put o.dst u) w') : o.wpIn F n E.P a w next' Q := by
  refine ⟨about_true hF o a, ?_⟩
  have hev : ∀ x, VR G w (evalA E fr' x) (a.eval x) := fun x => evalA_ok hI hfr x
  unfold stepD at h
  split at h
  · rename_i f args tys eo
    split at h
    · rename_i g first captured hf
      obtain ⟨r, rds, ups, ⟨c1, c2, c3⟩, h1, h2, h3⟩ := h
      have hff : evalA E fr' f = evalA E fr f := hag f (by rw [eo]; simp [Op.operands, Call.operands])
      have hargs' : args.toList.map (evalA E fr') = args.toList.map (evalA E fr) := by
        apply List.map_congr_left
        intro x hx
        exact hag x (by rw [eo]; simp only [Op.operands, Call.operands]; simp; exact .inr (by simpa using hx))
      have hvf := hev f
      rw [hff, hf] at hvf
      generalize hfv : a.eval f = fv at hvf
      cases hvf with
      | func g1 g2 g3 g4 =>
        rename_i fv cv
        have hcall := c3 H2 fun b hb => hr b (by rw [← h2]; exact hb) (c1 b hb)
        rw [← hargs'] at hcall
        have hargs : VL G w (first ++ args.toList.map (evalA E fr')) (fv.toList ++ args.toList.map a.eval) := VL.append ⟨by simp [g1], fun k x v hx hv => g3 k x v hx (by simpa using hv)⟩ (VL.of_map hev _)
        have hcap : VL G w captured cv.toList := ⟨by simp [g2], fun k x v hx hv => g4 k x v hx (by simpa using hv)⟩
        obtain ⟨hb, hc⟩ := callOk_sound (F := F) (n := n - 1) hF hcall hI hargs hcap
        have hnd : ∀ c, o.op ≠ .defer c := by intro c e2; rw [eo] at e2; cases e2
        rw [Oper.semAt_eq F.round a.eval o hnd]
        have harr : (fv.toList ++ args.toList.map a.eval ++ cv.toList).toArray = fv ++ args.map a.eval ++ cv := by simp
        rw [harr] at hc
        have hrun : (execOp a.eval o).run E.P w = .ok (.enter g (fv ++ args.map a.eval ++ cv)) w := by
          simp only [execOp, eo, resolve, hfv, Deferred.ofValue]
          simp [invoke, run_callFunc hb]
        rw [hrun]
        refine ⟨(fun hd => by rw [hF.1] at hd; cases hd), hc.mono ?_⟩
        rintro r' w' ⟨G', e1, i1, r1⟩
        cases r' with
        | returned u =>
          refine hnext G' w' u e1 ?_ (by rw [← h1]; exact r1)
          rw [← h2]; exact i1
        | panicked chain => cases chain <;> exact r1.elim
        | outgrown => exact r1.elim
    · exact h.elim
  · exact h.elim
  · rename_i op1 hnc hnp
    split at h
    · rename_i p hp
      split at h
      · rename_i ε hε
        obtain ⟨h1, h2, h3⟩ := h
        subst h2
        have hnd : ∀ c, o.op ≠ .defer c := by intro c e2; rw [e2] at hp; simp [aop] at hp
        rw [Oper.semAt_eq F.round a.eval o hnd]
        obtain ⟨v, w', G', hrn, e1, i1, r1⟩ := replay (o := o) (v := p.1) (H' := p.2) hI hT hev ((aop_congr hag).trans hp) ((foot_congr hag).trans hε) hm
        rw [h1] at r1
        rcases hrn with hrn | ⟨hrn, rfl⟩
        · rw [hrn]; exact hnext _ _ _ e1 i1 r1
        · rw [hrn]; exact hnext _ _ _ e1 i1 r1
      · exact h.elim
    · exact h.elim

/-- A region whose order is drawn. -/
theorem draw_sound (hT : TabOk E.P E.T) (hF : Wd F) {ops : Array Oper} {K : APost} {N : Nat} {dfs : List Deferred} (hok : tmpOk ops = true) (hds : dstsOk N ops.toList = true)
    {fr : AFr} {H : AH} {G0 G : Gh} {w0 w : World} {a : Act} (h : awpD E ops K ops.toList 0 fr H []) (hb : inj G0 ∧ ∀ b L, ownr G0 b = some L → L.B < w0.heap.size)
    (he : Ext G0 w0 G w) (hI : Inv E.Γ G w H) (hfr : FR G w fr a.tmps) (hN : a.tmps.size = N) (hd : a.defers = dfs) :
    wpAnyIn F n E.P .any ops (PostC E K G0 w0 N dfs) ops.size (Array.replicate ops.size false) a w := by
  obtain ⟨frs, Hs, es, tr, t1, t2, t3, t4, -, ⟨m, hm, tok⟩, tK⟩ := trace_of ops.toList 0 fr H [] h
  subst hm
  obtain ⟨k1, k2⟩ := tmpOk_spec hok
  have hlen : ops.toList.length = ops.size := Array.length_toList
  rw [hlen] at t4 tK
  have t3 : ∀ i o, ops[i]? = some o → Fact E ops o (frs i) (Hs i) (es i) (Hs (i + 1)) ∧ frs (i + 1) = put (frs i) o.dst (es i).v := fun i o ho => t3 i o (by simpa using ho)
  have at_ : ∀ i, i < ops.size → ∃ o, ops[i]? = some o := fun i hi => ⟨ops[i], by simp [hi]⟩
  -- the memory's blocks
  have hfoot : ∀ i, i < ops.size → FootOk (es i).ε (Hs i) (Hs (i + 1)) := fun i hi => by
    obtain ⟨o, ho⟩ := at_ i hi
    exact (t3 i o ho).1.footOk
  have hlen1 : ∀ j i, i ≤ j → j ≤ ops.size → (Hs i).length ≤ (Hs j).length := by
    intro j
    induction j with
    | zero => intro i hi _; have : i = 0 := by omega
              subst this; exact Nat.le_refl _
    | succ j ih =>
      intro i hi hj
      by_cases e : i = j + 1
      · subst e; exact Nat.le_refl _
      · exact Nat.le_trans (ih i (by omega) (by omega)) (foot_len (hfoot j (by omega)))
  have hblk : ∀ j, j ≤ ops.size → ∀ b, ((Hs j)[b]?).getD .dead = lastF (fun _ => true) (fun i => (es i).ε.at b) j ((H[b]?).getD .dead) := by
    intro j
    induction j with
    | zero => intro _ b; rw [t2]; rfl
    | succ j ih =>
      intro hj b
      rw [foot_get (hfoot j (by omega)) b, ih (by omega) b]
      rfl
  -- the temporaries
  have htmp : ∀ j, j ≤ ops.size → ∀ d, frs j d = lastF (fun _ => true) (fun i => if (ops[i]?).bind (·.dst) = some d then some (es i).v else none) j (fr d) := by
    intro j
    induction j with
    | zero => intro _ d; rw [t1]; rfl
    | succ j ih =>
      intro hj d
      obtain ⟨o, ho⟩ := at_ j (by omega)
      rw [(t3 j o ho).2]
      simp only [lastF, ho, Option.bind_some, if_true]
      cases hdst : o.dst with
      | none => simp [put, ih (by omega) d]
      | some d' =>
        simp only [put, upd, Option.some.injEq]
        by_cases e : d = d'
        · subst e; simp
        · rw [if_neg e, if_neg (fun e' => e e'.symm)]; simp [ih (by omega) d]
  -- who may not change places
  let ordI := fun (i j : Nat) => ((masks ops.toList []).getD (max i j) 0).testBit (min i j) = true
  have hmem : ∀ i j b, i < ops.size → j < ops.size → i ≠ j → b ∈ (es i).ε.wr → (b ∈ (es j).ε.rds ∨ b ∈ (es j).ε.wr) → ordI i j := by
    intro i j b hi hj hij hbi hbj
    have nt : ∀ (ε : Eff), (b ∈ ε.rds ∨ b ∈ ε.wr) → ε.triv = false := by
      intro ε hb
      apply Classical.byContradiction
      intro ht
      simp only [Bool.not_eq_false, Eff.triv, Bool.and_eq_true, List.isEmpty_iff, Option.isNone_iff_eq_none] at ht
      rcases hb with hb | hb
      · rw [ht.1.1] at hb; simp at hb
      · simp [Eff.wr, ht.1.2, ht.2] at hb
    have m1 := t4 i hi (nt _ (.inr hbi))
    have m2 := t4 j hj (nt _ hbj)
    rw [Nat.zero_add] at m1 m2
    rcases tok _ m1 b hbi _ m2 (fun e => hij e.symm) with h1 | ⟨h1, h2⟩
    · exact h1
    · rcases hbj with hbj | hbj
      · exact absurd rfl (h1 b hbj)
      · exact absurd rfl (h2 b hbj)
  have htm : ∀ i j x y, ops[i]? = some x → ops[j]? = some y → i ≠ j → ordI i j ∨ ((∀ d, x.dst = some d → d ∉ y.looksAt ops) ∧ (∀ d, x.dst = some d → y.dst ≠ some d)) := by
    intro i j x y hx hy hij
    rcases Nat.lt_or_ge i j with hlt | hge
    · rcases k2 i j x y hx hy hlt with h1 | h1
      · exact .inl (by show ((masks ops.toList []).getD (max i j) 0).testBit (min i j) = true; rw [Nat.max_eq_right (by omega), Nat.min_eq_left (by omega)]; exact h1)
      · obtain ⟨a1, a2, a3⟩ := Oper.apart_spec h1
        exact .inr ⟨a1, a2⟩
    · rcases k2 j i y x hy hx (by omega) with h1 | h1
      · exact .inl (by show ((masks ops.toList []).getD (max i j) 0).testBit (min i j) = true; rw [Nat.max_eq_left (by omega), Nat.min_eq_right (by omega)]; exact h1)
      · obtain ⟨a1, a2, a3⟩ := Oper.apart_spec h1
        exact .inr ⟨a3, fun d hxd hyd => a2 d hyd hxd⟩
  -- whoever is in a fixed order with the next one is listed if it comes before, and not if it comes behind
  have side : ∀ (S : Nat → Bool), Closed ops S → ∀ j o, ops[j]? = some o → S j = false → (∀ e ∈ o.after, Region.binds .any e = true → S e.on = true) → ∀ i, i ≠ j → ordI i j → S i = decide (i < j) := by
    intro S hc j o ho hj hall i hij hord
    rcases Nat.lt_or_ge i j with hlt | hge
    · have hord : ((masks ops.toList []).getD (max i j) 0).testBit (min i j) = true := hord
      rw [Nat.max_eq_right (by omega), Nat.min_eq_left (by omega)] at hord
      have := before_in hc j (fun o' ho' => by rw [ho] at ho'; cases ho'; exact hall) i hord
      rw [this]; simp [hlt]
    · have hord : ((masks ops.toList []).getD (max i j) 0).testBit (min i j) = true := hord
      rw [Nat.max_eq_left (by omega), Nat.min_eq_right (by omega)] at hord
      cases hS : S i with
      | false => simp; omega
      | true =>
        have := before_in hc i (fun o' ho' => hc i hS o' ho') j hord
        rw [hj] at this; cases this
  let HSl := fun (S : Nat → Bool) => (List.range (Hs ops.size).length).map fun b => lastF S (fun i => (es i).ε.at b) ops.size ((H[b]?).getD .dead)
  let FrS := fun (S : Nat → Bool) (d : Nat) => lastF S (fun i => if (ops[i]?).bind (·.dst) = some d then some (es i).v else none) ops.size (fr d)
  have hHget : ∀ S b, b < (Hs ops.size).length → (HSl S)[b]? = some (lastF S (fun i => (es i).ε.at b) ops.size ((H[b]?).getD .dead)) := by
    intro S b hb; simp [HSl, hb]
  have hHlen : ∀ S, (HSl S).length = (Hs ops.size).length := fun S => by simp [HSl]
  -- a place that the next one touches holds what it held in the text's order
  have same : ∀ (S : Nat → Bool), Closed ops S → ∀ j o, ops[j]? = some o → S j = false → (∀ e ∈ o.after, Region.binds .any e = true → S e.on = true) → ∀ b, (b ∈ (es j).ε.rds ∨ b ∈ (es j).ε.wr) →
      lastF S (fun i => (es i).ε.at b) ops.size ((H[b]?).getD .dead) = ((Hs j)[b]?).getD .dead := by
    intro S hc j o ho hj hall b hb
    have hlt : j < ops.size := (Array.getElem?_eq_some_iff.1 ho).1
    rw [hblk j (by omega) b, ← lastF_lt (n := ops.size) (by omega)]
    refine lastF_congr fun i hi hv => ?_
    by_cases e : i = j
    · subst e; rw [hj]; simp
    · exact side S hc j o ho hj hall i e (hmem i j b hi hlt e (at_wr hv) hb)
  -- the invariant
  let Good := fun (S : Nat → Bool) (a : Act) (w : World) => Closed ops S ∧ ∃ G, Ext G0 w0 G w ∧ Inv E.Γ G w (HSl S) ∧ FR G w (FrS S) a.tmps ∧ a.tmps.size = N ∧ a.defers = dfs
  have step : ∀ (S S' : Nat → Bool) (a : Act) (w : World) (j : Nat) (o : Oper) (K' : Act → World → Prop), ops[j]? = some o → S j = false → (∀ e ∈ o.after, Region.binds .any e = true → S e.on = true) →
      S' j = true → (∀ i, i ≠ j → S' i = S i) → Good S a w → (∀ a w, Good S' a w → K' a w) → wpOpIn F n E.P ops (PostC E K G0 w0 N dfs) j K' a w := by
    intro S S' a w j o K' ho hj hall hj' hS' hgood hK'
    obtain ⟨hc, G, e0, i0, f0, n0, d0⟩ := hgood
    have hlt : j < ops.size := (Array.getElem?_eq_some_iff.1 ho).1
    have hc' : Closed ops S' := by
      intro i hi o' ho' e he hb
      by_cases e1 : i = j
      · subst e1; rw [ho] at ho'; cases ho'
        by_cases e2 : e.on = i
        · rw [e2]; exact hj'
        · rw [hS' _ e2]; exact hall e he hb
      · rw [hS' i e1] at hi
        have := hc i hi o' ho' e he hb
        by_cases e2 : e.on = j
        · rw [e2]; exact hj'
        · rw [hS' _ e2]; exact this
    have hmem' : HSl S' = (es j).ε.fill (HSl S) := by
      apply List.ext_getElem?
      intro b
      by_cases hb : b < (Hs ops.size).length
      · rw [hHget S' b hb, fill_get (by rw [hHlen]; exact hb), hHget S b hb]
        simp only [Option.getD_some, Option.some.injEq]
        refine lastF_add (V := fun i => (es i).ε.at b) hj' hj hS' hlt fun hv i hi hn hs => ?_
        apply Classical.byContradiction
        intro hvi
        have := side S hc j o ho hj hall i (by omega) (hmem i j b hn hlt (by omega) (at_wr hvi) (.inr (at_wr hv)))
        rw [hs] at this
        simp at this
        omega
      · rw [List.getElem?_eq_none (by rw [hHlen]; omega), List.getElem?_eq_none (by rw [fill_len, hHlen]; omega)]
    have hfrm' : FrS S' = put (FrS S) o.dst (es j).v := by
      funext d
      have hadd := lastF_add (V := fun i => if (ops[i]?).bind (·.dst) = some d then some (es i).v else none) (x := fr d) hj' hj hS' hlt fun hv i hi hn hs => by
        apply Classical.byContradiction
        intro hvi
        obtain ⟨oi, hoi⟩ := at_ i hn
        simp only [ho, hoi, Option.bind_some, ne_eq, ite_eq_right_iff, reduceCtorEq, imp_false, Classical.not_not] at hv hvi
        rcases htm i j oi o hoi ho (by omega) with h1 | ⟨h1, h2⟩
        · have := side S hc j o ho hj hall i (by omega) h1
          rw [hs] at this
          simp at this
          omega
        · exact h2 d hvi hv
      show lastF S' _ ops.size (fr d) = _
      rw [hadd]
      simp only [ho, Option.bind_some]
      cases hdst : o.dst with
      | none => simp [put, FrS]
      | some d' =>
        simp only [put, upd, Option.some.injEq]
        by_cases e : d = d'
        · subst e; simp
        · rw [if_neg e, if_neg (fun e' => e e'.symm)]; rfl
    have hlook : ∀ d ∈ o.looksAt ops, FrS S d = frs j d := by
      intro d hd
      rw [htmp j (by omega) d, ← lastF_lt (n := ops.size) (by omega)]
      refine lastF_congr fun i hi hv => ?_
      by_cases e : i = j
      · subst e; rw [hj]; simp
      · obtain ⟨oi, hoi⟩ := at_ i hi
        simp only [hoi, Option.bind_some, ne_eq, ite_eq_right_iff, reduceCtorEq, imp_false, Classical.not_not] at hv
        rcases htm i j oi o hoi ho e with h1 | ⟨h1, h2⟩
        · exact side S hc j o ho hj hall i e h1
        · exact absurd hd (h1 d hv)
    have hguard : ∀ jg want, o.guard = some (jg, want) → ∀ d, (ops[jg]?).bind (·.dst) = some d → FrS S d = frs j d := by
      intro jg want hg d hd
      exact hlook d (by unfold Oper.looksAt; rw [hg]; simp only [List.mem_append]; right; simp [hd])
    have hag : ∀ x ∈ o.op.operands, evalA E (FrS S) x = evalA E (frs j) x := by
      intro x hx
      cases x with
      | tmp t => exact hlook t (List.mem_append_left _ (List.mem_filterMap.2 ⟨.tmp t, by simpa using hx, rfl⟩))
      | _ => rfl
    have hdlt : ∀ d, o.dst = some d → d < a.tmps.size := by
      intro d hd
      have : o ∈ ops.toList := by rw [Array.mem_toList_iff]; exact Array.mem_of_getElem? ho
      have := List.all_eq_true.1 hds o this
      rw [hd] at this
      rw [n0]; simpa using this
    have fin : ∀ G' w' u, Ext G w G' w' → Inv E.Γ G' w' ((es j).ε.fill (HSl S)) → VR G' w' (es j).v u → K' (a.put o.dst u) w' := by
      intro G' w' u e1 i1 r1
      refine hK' _ _ ⟨hc', G', Ext.trans hb.1 hb.2 e0 e1, by rw [hmem']; exact i1, ?_, by rw [put_size]; exact n0, by rw [put_defers]; exact d0⟩
      rw [hfrm']
      exact (f0.mono e1).put hdlt r1
    unfold wpOpIn
    simp only [ho]
    rcases (t3 j o ho).1 with ⟨hr, hs⟩ | ⟨hs, hv, hε, hH⟩
    · have hr' : Runs ops (FrS S) o := by
        unfold Runs at hr ⊢
        cases hg : o.guard with
        | none => trivial
        | some p =>
          obtain ⟨jg, want⟩ := p
          rw [hg] at hr
          obtain ⟨d, hd, hbv⟩ := hr
          exact ⟨d, hd, (hguard jg want hg d hd).trans hbv⟩
      rw [if_pos (runs_wanted f0 hr')]
      have meet : ∀ b, (b ∈ (es j).ε.rds ∨ b ∈ (es j).ε.wr) → (b < (Hs j).length → (HSl S)[b]? = (Hs j)[b]?) := by
        intro b hb hbl
        have hbL : b < (Hs ops.size).length := Nat.lt_of_lt_of_le hbl (hlen1 _ _ (by omega) (Nat.le_refl _))
        rw [hHget S b hbL, same S hc j o ho hj hall b hb]
        simp [hbl]
      have meetd : ∀ b, (b ∈ (es j).ε.rds ∨ b ∈ (es j).ε.wr) → (Hs j).length ≤ b → b < (Hs ops.size).length → (HSl S)[b]? = some .dead := by
        intro b hb hbl hbL
        rw [hHget S b hbL, same S hc j o ho hj hall b hb, List.getElem?_eq_none hbl]; rfl
      have meete : ∀ b, (b ∈ (es j).ε.rds ∨ b ∈ (es j).ε.wr) → (HSl S)[b]? = (Hs j)[b]? ∨ (HSl S)[b]? = some .dead := by
        intro b hb
        by_cases hbl : b < (Hs j).length
        · exact .inl (meet b hb hbl)
        · by_cases hbL : b < (Hs ops.size).length
          · exact .inr (meetd b hb (by omega) hbL)
          · left
            rw [List.getElem?_eq_none (by rw [hHlen]; omega), List.getElem?_eq_none (by omega)]
      refine stepD_sound hT hF hs i0 f0 hag ⟨fun b hb => meete b (.inl hb), fun p hp => meete p.1 (.inr ?_), fun p hp => ?_⟩ (fun b hb hbl => meet b (.inl hb) hbl) fin
      · simp only [Eff.wr, List.mem_append, List.mem_map]; exact .inl ⟨p, hp, rfl⟩
      · have h1 := (hfoot j hlt).new p hp
        refine ⟨h1, meetd p.1 (.inr ?_) (by omega) ?_⟩
        · simp [Eff.wr, hp]
        · have := foot_new (hfoot j hlt) hp
          have := hlen1 ops.size (j + 1) (by omega) (Nat.le_refl _)
          omega
    · have hs' : Skips ops (FrS S) o := by
        unfold Skips at hs ⊢
        cases hg : o.guard with
        | none => rw [hg] at hs; exact hs
        | some p =>
          obtain ⟨jg, want⟩ := p
          rw [hg] at hs
          rcases hs with hd | ⟨d, hd, hbv⟩
          · exact .inl hd
          · refine .inr ⟨d, hd, ?_⟩
            rw [hguard jg want hg d hd]; exact hbv
      rw [if_neg (by rw [skips_not f0 hs']; simp)]
      refine ⟨about_true hF o a, fin G w undef (.refl _ _) ?_ (by rw [hv]; exact .tuple rfl fun i a v h => by simp at h)⟩
      rw [hε]; exact i0
  -- the end
  have fin : ∀ (S : Nat → Bool) (a : Act) (w : World), (∀ i, i < ops.size → S i = true) → Good S a w → PostC E K G0 w0 N dfs .normal a w := by
    intro S a w hS hgood
    obtain ⟨hc, G, e0, i0, f0, n0, d0⟩ := hgood
    have h1 : HSl S = Hs ops.size := by
      apply List.ext_getElem?
      intro b
      by_cases hb : b < (Hs ops.size).length
      · rw [hHget S b hb]
        have := hblk ops.size (Nat.le_refl _) b
        rw [lastF_congr (S' := fun _ => true) (fun i hi _ => hS i hi), ← this]
        simp [hb]
      · rw [List.getElem?_eq_none (by rw [hHlen]; omega), List.getElem?_eq_none (by omega)]
    have h2 : FrS S = frs ops.size := by
      funext d
      rw [htmp ops.size (Nat.le_refl _) d]
      exact lastF_congr (fun i hi _ => hS i hi)
    rw [h1] at i0
    rw [h2] at f0
    exact ⟨.normal, frs ops.size, Hs ops.size, G, tK, e0, i0, f0, n0, d0, trivial⟩
  have all_ : ∀ (listed : Array Bool), listed.size = ops.size → Region.ready .any ops listed = [] → ∀ i, i < ops.size → listed.getD i false = true := by
    intro listed hsz hr i
    induction i using Nat.strongRecOn with
    | ind i ih =>
      intro hi
      apply Classical.byContradiction
      intro hnot
      obtain ⟨o, ho⟩ := at_ i hi
      have : i ∈ Region.ready .any ops listed := by
        rw [mem_ready]
        refine ⟨?_, o, ho, fun e he hb => ih e.on (k1 i o ho e he hb) (by have := k1 i o ho e he hb; omega)⟩
        rw [Array.getD_eq_getD_getElem?] at hnot ⊢
        simp only [hsz, hi, Array.getElem?_eq_getElem, Option.getD_some, Bool.not_eq_true] at hnot ⊢
        exact hnot
      rw [hr] at this; cases this
  have main : ∀ (fuel : Nat) (listed : Array Bool) (a : Act) (w : World), listed.size = ops.size → (listed.toList.count false = fuel) → Good (fun i => listed.getD i false) a w →
      wpAnyIn F n E.P .any ops (PostC E K G0 w0 N dfs) fuel listed a w := by
    intro fuel
    induction fuel with
    | zero =>
      intro listed a w hsz hcnt hgood
      have hall : ∀ i, i < ops.size → listed.getD i false = true := by
        intro i hi
        rw [List.count_eq_zero] at hcnt
        apply Classical.byContradiction
        intro hnot
        apply hcnt
        rw [Array.getD_eq_getD_getElem?] at hnot
        simp only [hsz, hi, Array.getElem?_eq_getElem, Option.getD_some, Bool.not_eq_true] at hnot
        rw [← hnot]
        exact Array.getElem_mem_toList _
      refine ⟨?_, fin _ a w hall hgood⟩
      apply Classical.byContradiction
      intro hne
      obtain ⟨j, hj⟩ := List.exists_mem_of_ne_nil _ hne
      obtain ⟨h1, o, ho, -⟩ := mem_ready.1 hj
      have hlt : j < ops.size := (Array.getElem?_eq_some_iff.1 ho).1
      have := hall j hlt
      rw [Array.getD_eq_getD_getElem?] at this h1
      simp only [hsz, hlt, Array.getElem?_eq_getElem, Option.getD_some] at this h1
      rw [h1] at this; cases this
    | succ fuel ih =>
      intro listed a w hsz hcnt hgood
      refine ⟨fun hr => fin _ a w (all_ listed hsz hr) hgood, fun j hj => ?_⟩
      obtain ⟨h1, o, ho, hall⟩ := mem_ready.1 hj
      have hlt : j < ops.size := (Array.getElem?_eq_some_iff.1 ho).1
      have hlt' : j < listed.size := by rw [hsz]; exact hlt
      have hjf : listed[j] = false := by
        rw [Array.getD_eq_getD_getElem?] at h1
        simpa [hlt'] using h1
      refine step (fun i => listed.getD i false) (fun i => (listed.setIfInBounds j true).getD i false) a w j o _ ho (by simp [Array.getD_eq_getD_getElem?, hlt', hjf]) hall (by simp [Array.getD_eq_getD_getElem?, hlt']) (fun i hi => ?_) hgood ?_
      · exact getD_set_ne false (fun e => hi e.symm)
      · intro a' w' hg'
        refine ih _ a' w' (by simp [hsz]) ?_ hg'
        rw [Array.toList_setIfInBounds, List.count_set (by simpa using hlt')]
        simp [hjf, hcnt]
  refine main ops.size _ a w (by simp) (by simp) ⟨?_, ?_⟩
  · intro j hj
    have : (Array.replicate ops.size false).getD j false = false := by
      rw [Array.getD_eq_getD_getElem?, Array.getElem?_replicate]; split <;> rfl
    simp only [this] at hj; cases hj
  · have hS0 : ∀ i, (Array.replicate ops.size false).getD i false = false := by
      intro i; rw [Array.getD_eq_getD_getElem?, Array.getElem?_replicate]; split <;> rfl
    obtain ⟨e1, i1⟩ := hI.pad ((Hs ops.size).length - H.length)
    refine ⟨_, Ext.trans hb.1 hb.2 he e1, ?_, ?_, hN, hd⟩
    · have : HSl (fun i => (Array.replicate ops.size false).getD i false) = H ++ List.replicate ((Hs ops.size).length - H.length) .dead := by
        have hle : H.length ≤ (Hs ops.size).length := by have := hlen1 ops.size 0 (by omega) (Nat.le_refl _); rwa [t2] at this
        apply List.ext_getElem?
        intro b
        by_cases hb : b < (Hs ops.size).length
        · rw [hHget _ b hb, lastF_none fun i hi hs => by rw [hS0 i] at hs; cases hs]
          by_cases hb2 : b < H.length
          · rw [List.getElem?_append_left hb2]; simp [hb2]
          · rw [List.getElem?_append_right (by omega), List.getElem?_eq_none (by omega), List.getElem?_replicate, if_pos (by omega)]; rfl
        · rw [List.getElem?_eq_none (by rw [hHlen]; omega), List.getElem?_eq_none (by simp; omega)]
      rw [this]; exact i1
    · have : FrS (fun i => (Array.replicate ops.size false).getD i false) = fr := by
        funext d
        exact lastF_none fun i hi hs => by rw [hS0 i] at hs; cases hs
      rw [this]; exact hfr.mono e1

end
end Go.Arm

/- The predicate transformer on code, and its soundness. -/
namespace Go.Arm
open Go.RowKit

def thenA (y : AFr → AH → Prop) (K : APost) : APost
  | .normal, fr, H => y fr H
  | .exit i, fr, H => K (.exit i) fr H
  | .ret, fr, H => K .ret fr H
  | .panic v, fr, H => K (.panic v) fr H

def inBlockA (id : Nat) (K : APost) : APost
  | .normal, fr, H => K .normal fr H
  | .exit i, fr, H => if i = id then K .normal fr H else K (.exit i) fr H
  | .ret, fr, H => K .ret fr H
  | .panic v, fr, H => K (.panic v) fr H

def condA (v : AV) (x y : Prop) : Prop :=
  match v with
  | .bool b => (b = true → x) ∧ (b = false → y)
  | _ => False

def loopA (body : (AFr → AH → Prop) → AFr → AH → Prop) (fr : AFr) (H : AH) : Prop :=
  ∃ (I : Nat → AFr → AH → Prop) (n : Nat), I n fr H ∧ ∀ n fr H, I n fr H → body (fun fr' H' => ∃ m, m < n ∧ I m fr' H') fr H

def awp (E : Env) : Code → APost → AFr → AH → Prop
  | .skip, K, fr, H => K .normal fr H
  | .region _ ops draw, K, fr, H => if draw = true then awpD E ops K ops.toList 0 fr H [] else awpOps E ops K ops.toList fr H
  | .seq x y, K, fr, H => awp E x (thenA (awp E y K) K) fr H
  | .cond c x y, K, fr, H => condA (evalA E fr c) (awp E x K fr H) (awp E y K fr H)
  | .block id c, K, fr, H => awp E c (inBlockA id K) fr H
  | .loop c, K, fr, H => loopA (fun y => awp E c (thenA y K)) fr H
  | .exit id, K, fr, H => K (.exit id) fr H
  | .ret, K, fr, H => K .ret fr H
  | .label _, K, fr, H => K .normal fr H
  | .scope c, K, fr, H => awp E c K fr H
  | .goto _, _, _, _ => False
  | .rangeFunc _ _ _ _, _, _, _ => False
  | .refuse _, _, _, _ => False

/-- The operations of a code lie in its frame; where the order is drawn the temporaries do not mind. -/
def codeOk (N : Nat) : Code → Bool
  | .region _ ops draw => dstsOk N ops.toList && (!draw || tmpOk ops)
  | .seq x y => codeOk N x && codeOk N y
  | .cond _ x y => codeOk N x && codeOk N y
  | .block _ c => codeOk N c
  | .loop c => codeOk N c
  | .scope c => codeOk N c
  | .rangeFunc _ _ x y => codeOk N x && codeOk N y
  | _ => true

section
variable {F : Fence} {n : Nat} {P : Program} {Q : Exit → Act → World → Prop} {a : Act} {w : World}

theorem stepRA {b : Frame} {k : List Item} {cs : List Frame} {c : Code} : step P (lone (b.atR a (.code (.scope c) :: k)) cs w) = .next (lone (b.atR a (.code c :: .inScope c :: k)) cs w) :=
  step_lone_go (by simp [stepG, stepG.exec, Frame.atR])
theorem stepRB {b : Frame} {k : List Item} {cs : List Frame} {c : Code} : step P (lone (b.atR a (.inScope c :: k)) cs w) = .next (lone (b.atR a k) cs w) :=
  step_lone_go (by simp [stepG, stepG.exec, Frame.atR])

theorem wpIn_scope {c : Code} (h : c.wpIn F n P (Exit.noGoto Q) a w) : (Code.scope c).wpIn F n P Q a w := by
  intro b k cs hro hb hr
  have h0 : (lone (b.atR a (.code (.scope c) :: k)) cs w).fenced P F := fenced_calm hb hr rfl
  obtain ⟨e, a₁, w₁, hq, harr⟩ := h b (.inScope c :: k) cs hro hb hr
  cases e with
  | normal => exact ⟨.normal, a₁, w₁, hq, .head h0 stepRA (StepsIn.trans harr (.one (fenced_calm hb hr rfl) stepRB))⟩
  | exit id =>
    have hx : exitTo id (.inScope c :: k) = exitTo id k := by simp [exitTo]
    exact ⟨.exit id, a₁, w₁, hq, fun k' hk => .head h0 stepRA (harr.1 k' (by rw [hx]; exact hk)),
      fun hr' hk => let ⟨k₁, h1, h2⟩ := harr.2 hr' (by rw [hx]; exact hk); ⟨k₁, h1, .head h0 stepRA h2⟩⟩
  | goto l => exact hq.elim
  | ret => exact ⟨_, a₁, w₁, hq, .of_steps (.one h0 stepRA) harr⟩
  | panic ch => exact ⟨_, a₁, w₁, hq, .of_steps (.one h0 stepRA) harr⟩
  | outgrown => exact ⟨_, a₁, w₁, hq, .of_steps (.one h0 stepRA) harr⟩

end

section
variable {E : Env} {F : Fence} {n : Nat}

theorem PostC.mono {K K' : APost} {G0 : Gh} {w0 : World} {N : Nat} {dfs : List Deferred} {e : Exit} {a : Act} {w : World} (h : PostC E K G0 w0 N dfs e a w) (hk : ∀ e fr H, K e fr H → K' e fr H) : PostC E K' G0 w0 N dfs e a w :=
  let ⟨e', fr, H, G, h1, h2⟩ := h; ⟨e', fr, H, G, hk _ _ _ h1, h2⟩

theorem awp_sound (hT : TabOk E.P E.T) (hF : Wd F) (hm : E.P.follows .mixedOrders = true) {N : Nat} {dfs : List Deferred} {G0 : Gh} {w0 : World} (hb : inj G0 ∧ ∀ b L, ownr G0 b = some L → L.B < w0.heap.size) :
    ∀ (c : Code) (K : APost) (fr : AFr) (H : AH) (G : Gh) (a : Act) (w : World), codeOk N c = true → awp E c K fr H → Ext G0 w0 G w → Inv E.Γ G w H → FR G w fr a.tmps → a.tmps.size = N → a.defers = dfs →
      c.wpIn F n E.P (PostC E K G0 w0 N dfs) a w := by
  intro c
  induction c with
  | skip => intro K fr H G a w _ h he hI hfr hN hd; exact wpIn_skip ⟨.normal, fr, H, G, h, he, hI, hfr, hN, hd, trivial⟩
  | region id ops draw =>
    intro K fr H G a w hok h he hI hfr hN hd
    simp only [codeOk, Bool.and_eq_true, Bool.or_eq_true, Bool.not_eq_true'] at hok
    simp only [awp] at h
    cases draw with
    | false =>
      rw [if_neg (by simp)] at h
      refine wpIn_region (awpOps_sound hT hF (List.range ops.size) ops.toList ?_ hok.1 fr H G0 G w0 w a h hb he hI hfr hN hd)
      apply List.ext_getElem?
      intro i
      simp only [List.getElem?_map]
      by_cases hi : i < ops.size
      · simp [List.getElem?_range, hi]
      · simp [hi]
    | true =>
      rw [if_pos rfl] at h
      refine wpIn_region_any hm ?_
      have e1 : Ext G w G { w with drawn := w.drawn + 1 } := Ext.same rfl rfl rfl (Nat.le_refl _) (fun _ _ => rfl) hI.lt
      refine draw_sound hT hF ?_ hok.1 h hb (Ext.trans hb.1 hb.2 he e1) (hI.same e1 fun _ _ => rfl) (hfr.mono e1) hN hd
      rcases hok.2 with h | h
      · cases h
      · exact h
  | seq x y ihx ihy =>
    intro K fr H G a w hok h he hI hfr hN hd
    simp only [codeOk, Bool.and_eq_true] at hok
    simp only [awp] at h
    refine wpIn_seq (wpIn_mono (ihx _ fr H G a w hok.1 h he hI hfr hN hd) ?_)
    rintro e a' w' ⟨e', fr', H', G', hk, h1, h2, h3, h4, h5, h6⟩
    cases e' with
    | normal => cases e <;> first | exact h6.elim | exact ihy K fr' H' G' a' w' hok.2 hk h1 h2 h3 h4 h5
    | exit i => cases e <;> first | exact h6.elim | exact ⟨_, fr', H', G', hk, h1, h2, h3, h4, h5, h6⟩
    | ret => cases e <;> first | exact h6.elim | exact ⟨_, fr', H', G', hk, h1, h2, h3, h4, h5, h6⟩
    | panic v => cases e <;> first | exact h6.elim | exact ⟨_, fr', H', G', hk, h1, h2, h3, h4, h5, h6⟩
  | cond c x y ihx ihy =>
    intro K fr H G a w hok h he hI hfr hN hd
    simp only [codeOk, Bool.and_eq_true] at hok
    simp only [awp, condA] at h
    have hc := evalA_ok hI hfr c
    split at h
    · rename_i b hb
      rw [hb] at hc
      generalize hcv : a.eval c = v at hc
      cases hc
      refine wpIn_cond hcv ?_
      cases b with
      | true => exact ihx K fr H G a w hok.1 (h.1 rfl) he hI hfr hN hd
      | false => exact ihy K fr H G a w hok.2 (h.2 rfl) he hI hfr hN hd
    · exact h.elim
  | block id c ih =>
    intro K fr H G a w hok h he hI hfr hN hd
    simp only [codeOk] at hok
    simp only [awp] at h
    refine wpIn_block (wpIn_mono (ih _ fr H G a w hok h he hI hfr hN hd) ?_)
    rintro e a' w' ⟨e', fr', H', G', hk, h1, h2, h3, h4, h5, h6⟩
    cases e' with
    | normal => cases e <;> first | exact h6.elim | exact ⟨.normal, fr', H', G', hk, h1, h2, h3, h4, h5, h6⟩
    | exit i =>
      cases e <;> first | exact h6.elim | skip
      rename_i j
      have hij : i = j := h6
      subst hij
      simp only [inBlockA] at hk
      by_cases e1 : i = id
      · rw [if_pos e1] at hk
        simp only [Exit.inBlock, e1, if_true]
        exact ⟨.normal, fr', H', G', hk, h1, h2, h3, h4, h5, trivial⟩
      · rw [if_neg e1] at hk
        simp only [Exit.inBlock, e1, if_false]
        exact ⟨.exit i, fr', H', G', hk, h1, h2, h3, h4, h5, rfl⟩
    | ret => cases e <;> first | exact h6.elim | exact ⟨_, fr', H', G', hk, h1, h2, h3, h4, h5, h6⟩
    | panic v => cases e <;> first | exact h6.elim | exact ⟨_, fr', H', G', hk, h1, h2, h3, h4, h5, h6⟩
  | loop c ih =>
    intro K fr H G a w hok h he hI hfr hN hd
    simp only [codeOk] at hok
    simp only [awp, loopA] at h
    obtain ⟨I, n0, h0, hround⟩ := h
    refine wpIn_loop_ghost (fun m a w => ∃ fr H G, I m fr H ∧ Ext G0 w0 G w ∧ Inv E.Γ G w H ∧ FR G w fr a.tmps ∧ a.tmps.size = N ∧ a.defers = dfs) n0 ⟨fr, H, G, h0, he, hI, hfr, hN, hd⟩ ?_
    rintro m a w ⟨fr, H, G, h0, he, hI, hfr, hN, hd⟩
    refine wpIn_mono (ih _ fr H G a w hok (hround m fr H h0) he hI hfr hN hd) ?_
    rintro e a' w' ⟨e', fr', H', G', hk, h1, h2, h3, h4, h5, h6⟩
    cases e' with
    | normal =>
      cases e <;> first | exact h6.elim | skip
      obtain ⟨m', hlt, hk⟩ := hk
      exact ⟨m', hlt, fr', H', G', hk, h1, h2, h3, h4, h5⟩
    | exit i => cases e <;> first | exact h6.elim | exact ⟨_, fr', H', G', hk, h1, h2, h3, h4, h5, h6⟩
    | ret => cases e <;> first | exact h6.elim | exact ⟨_, fr', H', G', hk, h1, h2, h3, h4, h5, h6⟩
    | panic v => cases e <;> first | exact h6.elim | exact ⟨_, fr', H', G', hk, h1, h2, h3, h4, h5, h6⟩
  | exit id => intro K fr H G a w _ h he hI hfr hN hd; exact wpIn_exit ⟨.exit id, fr, H, G, h, he, hI, hfr, hN, hd, rfl⟩
  | ret => intro K fr H G a w _ h he hI hfr hN hd; exact wpIn_ret ⟨.ret, fr, H, G, h, he, hI, hfr, hN, hd, trivial⟩
  | label l => intro K fr H G a w _ h he hI hfr hN hd; exact wpIn_label ⟨.normal, fr, H, G, h, he, hI, hfr, hN, hd, trivial⟩
  | scope c ih =>
    intro K fr H G a w hok h he hI hfr hN hd
    simp only [codeOk] at hok
    simp only [awp] at h
    refine wpIn_scope (wpIn_mono (ih _ fr H G a w hok h he hI hfr hN hd) ?_)
    rintro e a' w' ⟨e', fr', H', G', hk, h1, h2, h3, h4, h5, h6⟩
    cases e <;> first | exact ⟨e', fr', H', G', hk, h1, h2, h3, h4, h5, h6⟩ | (cases e' <;> exact h6.elim)
  | goto l => intro K fr H G a w _ h; exact h.elim
  | rangeFunc f ps x y _ _ => intro K fr H G a w _ h; exact h.elim
  | refuse why => intro K fr H G a w _ h; exact h.elim

/-- What holds behind may be weakened. -/
theorem awpOps_mono {ops : Array Oper} {K K' : APost} (hk : ∀ e fr H, K e fr H → K' e fr H) : ∀ (os : List Oper) (fr : AFr) (H : AH), awpOps E ops K os fr H → awpOps E ops K' os fr H
  | [], fr, H, h => hk _ _ _ h
  | o :: r, fr, H, h => by
    have step : ∀ fr H, astep E o (fun v H' => awpOps E ops K r (put fr o.dst v) H') K fr H → astep E o (fun v H' => awpOps E ops K' r (put fr o.dst v) H') K' fr H := by
      intro fr H h
      unfold astep at h ⊢
      split at h
      · split at h
        · obtain ⟨e, H', h1, h2⟩ := h
          refine ⟨e, H', h1, ?_⟩
          cases e with
          | ret v => exact awpOps_mono hk r _ _ h2
          | panic v => exact hk _ _ _ h2
        · exact h.elim
      · split at h
        · exact hk _ _ _ h
        · exact h.elim
      · split at h
        · exact awpOps_mono hk r _ _ h
        · exact h.elim
    simp only [awpOps, aguard] at h ⊢
    split
    · rename_i hg; rw [hg] at h; exact step _ _ h
    · rename_i j want hg
      rw [hg] at h
      simp only at h
      split
      · rename_i d hd
        rw [hd] at h
        simp only at h
        split
        · rename_i b hb
          rw [hb] at h
          exact ⟨fun e => step _ _ (h.1 e), fun e => awpOps_mono hk r _ _ (h.2 e)⟩
        · rename_i vs hb
          rw [hb] at h
          exact awpOps_mono hk r _ _ h
        · rename_i h1 h2
          split at h
          · rename_i b hb; exact absurd hb (h1 b)
          · rename_i vs hb; exact absurd hb (h2 vs)
          · exact h
      · rename_i hd
        rw [hd] at h
        exact awpOps_mono hk r _ _ h

end
end Go.Arm

/- A function's contract out of its body. -/
namespace Go.Arm
open Go.RowKit

/-! ### Values that speak of the first m blocks alone -/

mutual
def noF (m : Nat) : AV → Bool
  | .ptr b _ _ _ => decide (b < m)
  | .ref b _ => decide (b < m)
  | .map b => decide (b < m)
  | .eptr cs _ => noFs m cs
  | .slice xs _ => noFs m xs
  | .func _ x y => noFs m x && noFs m y
  | .iface _ v => noF m v
  | .agg cs => noFs m cs
  | .tuple vs => noFs m vs
  | .junk => true
  | .bool _ => true
  | .int _ _ => true
  | .str _ => true
  | .nilptr => true
  | .nilslice => true
  | .nilfunc => true
  | .niliface => true
  | .nilmap => true
def noFs (m : Nat) : List AV → Bool
  | [] => true
  | a :: r => noF m a && noFs m r
end

theorem noFs_iff {m : Nat} : ∀ {xs : List AV}, noFs m xs = true ↔ ∀ x ∈ xs, noF m x = true
  | [] => by simp [noFs]
  | a :: r => by simp [noFs, noFs_iff (xs := r)]

theorem noFs_get {m : Nat} {xs : List AV} (h : noFs m xs = true) {i : Nat} {a : AV} (hi : xs[i]? = some a) : noF m a = true := noFs_iff.1 h a (List.mem_of_getElem? hi)

theorem noFs_of {m : Nat} {xs : List AV} (h : ∀ (i : Nat) a, xs[i]? = some a → noF m a = true) : noFs m xs = true := by
  rw [noFs_iff]
  intro x hx
  obtain ⟨i, hi⟩ := List.mem_iff_getElem?.1 hx
  exact h i x hi

theorem noF_cells {m : Nat} {x : AV} : noFs m x.cells = true ↔ noF m x = true := by
  cases x <;> simp [AV.cells, noFs, noF]

theorem noF_mono {m m' : Nat} (hm : m ≤ m') : ∀ {x : AV}, noF m x = true → noF m' x = true := by
  have key : ∀ (x : AV), noF m x = true → noF m' x = true := by
    intro x
    refine AV.rec (motive_1 := fun x => noF m x = true → noF m' x = true) (motive_2 := fun xs => noFs m xs = true → noFs m' xs = true) ?_ ?_ ?_ ?_ ?_ ?_ ?_ ?_ ?_ ?_ ?_ ?_ ?_ ?_ ?_ ?_ ?_ ?_ ?_ ?_ x
    all_goals (intros; simp_all [noF, noFs])
    all_goals omega
  exact fun {x} => key x

section
variable {G : Gh} {w : World} {H : AH} {Γ : Nat → Option (List AV)}

theorem VR.noF {a : AV} {v : Value} (h : VR G w a v) : noF G.length a = true := by
  induction h with
  | ptr h1 _ _ _ => simpa [Arm.noF] using own_lt h1
  | ref h1 _ _ _ _ => simpa [Arm.noF] using own_lt h1
  | map h1 _ => simpa [Arm.noF] using own_lt h1
  | eptr vals hB hc hr hl ih => simp only [Arm.noF]; exact noFs_of fun i a hi => ih i a hi
  | slice vals hB hs hc hr hl hcap hf ih =>
    simp only [Arm.noF]
    exact noFs_of fun i x hi => noF_cells.1 (noFs_of fun j c hj => ih i x j c hi hj)
  | func h1 h2 hf hc ih1 ih2 =>
    rename_i f first captured fv cv
    simp only [Arm.noF, Bool.and_eq_true]
    refine ⟨noFs_of fun i a hi => ?_, noFs_of fun i a hi => ?_⟩
    · have hlt := (List.getElem?_eq_some_iff.1 hi).1
      exact ih1 i a fv[i] hi (by simp [h1, hlt])
    · have hlt := (List.getElem?_eq_some_iff.1 hi).1
      exact ih2 i a cv[i] hi (by simp [h2, hlt])
  | iface _ ih => simpa [Arm.noF] using ih
  | agg h1 hr ih =>
    rename_i cs vs
    simp only [Arm.noF]
    refine noFs_of fun i a hi => ?_
    have hlt := (List.getElem?_eq_some_iff.1 hi).1
    exact ih i a vs[i] hi (by simp [h1, hlt])
  | tuple h1 hr ih =>
    rename_i cs vs
    simp only [Arm.noF]
    refine noFs_of fun i a hi => ?_
    have hlt := (List.getElem?_eq_some_iff.1 hi).1
    exact ih i a vs[i] hi (by simp [h1, hlt])
  | _ => simp [Arm.noF, noFs]

theorem own_take {m b : Nat} : ownr (G.take m) b = if b < m then ownr G b else none := by
  unfold ownr
  rw [List.getElem?_take]
  split <;> rfl

theorem own_take_some {m b : Nat} {L : GL} (h : ownr (G.take m) b = some L) : ownr G b = some L ∧ b < m := by
  rw [own_take] at h
  split at h
  · rename_i hb; exact ⟨h, hb⟩
  · cases h

theorem VR.take {m : Nat} {a : AV} {v : Value} (h : VR G w a v) : Arm.noF m a = true → VR (G.take m) w a v := by
  have fitsT : ∀ {B e : Nat}, fits G B e → fits (G.take m) B e := fun hl b L hb hB => hl b L (own_take_some hb).1 hB
  induction h with
  | junk v => intro _; exact .junk v
  | bool b => intro _; exact .bool b
  | int k n => intro _; exact .int k n
  | str s => intro _; exact .str s
  | nilptr => intro _; exact .nilptr
  | ptr h1 hg hs hv => intro hn; simp only [Arm.noF, decide_eq_true_eq] at hn; exact .ptr (by rw [own_take, if_pos hn]; exact h1) hg hs hv
  | eptr vals hB hc hr hl ih => intro hn; simp only [Arm.noF] at hn; exact .eptr vals hB hc (fun j a hj => ih j a hj (noFs_get hn hj)) (fitsT hl)
  | nilslice => intro _; exact .nilslice
  | slice0 hf => intro _; exact .slice0 hf
  | slice vals hB hs hc hr hl hcap hf ih =>
    intro hn
    simp only [Arm.noF] at hn
    exact .slice vals hB hs hc (fun i x j c hi hj => ih i x j c hi hj (noFs_get (noF_cells.2 (noFs_get hn hi)) hj)) (fitsT hl) hcap hf
  | ref h1 hfx hg hs hv => intro hn; simp only [Arm.noF, decide_eq_true_eq] at hn; exact .ref (by rw [own_take, if_pos hn]; exact h1) hfx hg hs hv
  | func h1 h2 _ _ ih1 ih2 =>
    intro hn
    simp only [Arm.noF, Bool.and_eq_true] at hn
    exact .func h1 h2 (fun i a v ha hv => ih1 i a v ha hv (noFs_get hn.1 ha)) (fun i a v ha hv => ih2 i a v ha hv (noFs_get hn.2 ha))
  | nilfunc => intro _; exact .nilfunc
  | iface _ ih => intro hn; simp only [Arm.noF] at hn; exact .iface (ih hn)
  | niliface => intro _; exact .niliface
  | agg h1 _ ih => intro hn; simp only [Arm.noF] at hn; exact .agg h1 fun i a v ha hv => ih i a v ha hv (noFs_get hn ha)
  | tuple h1 _ ih => intro hn; simp only [Arm.noF] at hn; exact .tuple h1 fun i a v ha hv => ih i a v ha hv (noFs_get hn ha)
  | nilmap => intro _; exact .nilmap
  | map h1 hfx => intro hn; simp only [Arm.noF, decide_eq_true_eq] at hn; exact .map (by rw [own_take, if_pos hn]; exact h1) hfx

def noFB (m : Nat) : ABlk → Bool
  | .dead => true
  | .row _ _ xs => noFs m xs
  | .map es => es.all fun e => noF m e.1 && noF m e.2

theorem BlkOk.noF {b : Nat} {k : ABlk} (h : BlkOk G w b k) : noFB G.length k = true := by
  cases k with
  | dead => rfl
  | row wr sz xs =>
    obtain ⟨L, _, _, _, _, _, _, _, c, e, _, _, hv⟩ := h
    simp only [noFB]
    refine noFs_of fun i x hi => noF_cells.1 (noFs_of fun j a hj => ?_)
    obtain ⟨v, _, hr⟩ := hv i x j a hi hj
    exact hr.noF
  | map es =>
    obtain ⟨L, _, _, ents, clock, _, hsz, hv⟩ := h
    simp only [noFB, List.all_eq_true, Bool.and_eq_true]
    intro e he
    obtain ⟨j, hj⟩ := List.mem_iff_getElem?.1 he
    have hlt := (List.getElem?_eq_some_iff.1 hj).1
    have := hv j e ents[j] hj (by simp [hsz, hlt])
    exact ⟨this.1.noF, this.2.noF⟩

theorem BlkOk.take {m b : Nat} (hb : b < m) {k : ABlk} (h : BlkOk G w b k) (hn : noFB m k = true) : BlkOk (G.take m) w b k := by
  have ho : ownr (G.take m) b = ownr G b := by rw [own_take, if_pos hb]
  cases k with
  | dead => exact ho.trans h
  | row wr sz xs =>
    obtain ⟨L, h1, h2, h3, h4, h5, h6, h7, c, e, h8, h9, hv⟩ := h
    simp only [noFB] at hn
    refine ⟨L, ho.trans h1, h2, h3, h4, h5, h6, h7, c, e, h8, h9, fun i x j a hi hj => ?_⟩
    obtain ⟨v, g1, g2⟩ := hv i x j a hi hj
    exact ⟨v, g1, g2.take (noFs_get (noF_cells.2 (noFs_get hn hi)) hj)⟩
  | map es =>
    obtain ⟨L, h1, h2, ents, clock, h3, h4, h5⟩ := h
    simp only [noFB, List.all_eq_true, Bool.and_eq_true] at hn
    refine ⟨L, ho.trans h1, h2, ents, clock, h3, h4, fun j e v hj hv => ?_⟩
    have := h5 j e v hj hv
    have h6 := hn e (List.mem_of_getElem? hj)
    exact ⟨this.1.take h6.1, this.2.take h6.2⟩

theorem Ext.take {G0 : Gh} {w0 : World} {m : Nat} (h : Ext G0 w0 G w) (hm : G0.length ≤ m) : Ext G0 w0 (G.take m) w := by
  refine ⟨h.os, h.tape, h.output, h.size, h.keep, fun b L hb => ?_, fun b L' hb => h.back b L' (own_take_some hb).1⟩
  obtain ⟨L', h1, h2⟩ := h.own b L hb
  refine ⟨L', ?_, h2⟩
  rw [own_take, if_pos (by have := own_lt hb; omega)]; exact h1

/-! ### A new block that fills a place that waits for it -/
section
variable {G : Gh} {w : World} {H : AH} {Γ : Nat → Option (List AV)}

/-- The ghost state behind it: the first m blocks, block k in place b. -/
def fiG (G : Gh) (m b k : Nat) : Gh := (G.take m).set b (ownr G k)

theorem fi_at {m b k : Nat} (hb : b < m) (hm : m ≤ G.length) : ownr (fiG G m b k) b = ownr G k := by
  unfold fiG; exact own_set_same (by rw [List.length_take]; omega)
theorem fi_ne {m b k c : Nat} (hb : c ≠ b) : ownr (fiG G m b k) c = if c < m then ownr G c else none := by
  unfold fiG; rw [own_set_ne hb, own_take]
theorem fi_some {m b k c : Nat} {L : GL} (hb : b < m) (hm : m ≤ G.length) (h : ownr (fiG G m b k) c = some L) : (c = b ∧ ownr G k = some L) ∨ (c ≠ b ∧ c < m ∧ ownr G c = some L) := by
  by_cases h1 : c = b
  · subst h1; rw [fi_at hb hm] at h; exact .inl ⟨rfl, h⟩
  · rw [fi_ne h1] at h
    split at h
    · rename_i hc; exact .inr ⟨h1, hc, h⟩
    · cases h

theorem VR.fill {m b k : Nat} (hb : b < m) (hm : m ≤ G.length) (hbn : ownr G b = none) {a : AV} {v : Value} (h : VR G w a v) : Arm.noF m a = true → VR (fiG G m b k) w a v := by
  have keep : ∀ {c : Nat} {L : GL}, ownr G c = some L → c < m → ownr (fiG G m b k) c = some L := fun {c L} h hk => by
    have : c ≠ b := by intro e; subst e; rw [hbn] at h; cases h
    rw [fi_ne this, if_pos hk]; exact h
  have fitsT : ∀ {B e : Nat}, fits G B e → fits (fiG G m b k) B e := fun hl c L hc hB => by
    rcases fi_some hb hm hc with ⟨_, h⟩ | ⟨_, _, h⟩ <;> exact hl _ L h hB
  induction h with
  | junk v => intro _; exact .junk v
  | bool b => intro _; exact .bool b
  | int k n => intro _; exact .int k n
  | str s => intro _; exact .str s
  | nilptr => intro _; exact .nilptr
  | ptr h1 hg hs hv => intro hn; simp only [Arm.noF, decide_eq_true_eq] at hn; exact .ptr (keep h1 hn) hg hs hv
  | eptr vals hB hc hr hl ih => intro hn; simp only [Arm.noF] at hn; exact .eptr vals hB hc (fun j a hj => ih j a hj (noFs_get hn hj)) (fitsT hl)
  | nilslice => intro _; exact .nilslice
  | slice0 hf => intro _; exact .slice0 hf
  | slice vals hB hs hc hr hl hcap hf ih =>
    intro hn
    simp only [Arm.noF] at hn
    exact .slice vals hB hs hc (fun i x j c hi hj => ih i x j c hi hj (noFs_get (noF_cells.2 (noFs_get hn hi)) hj)) (fitsT hl) hcap hf
  | ref h1 hfx hg hs hv => intro hn; simp only [Arm.noF, decide_eq_true_eq] at hn; exact .ref (keep h1 hn) hfx hg hs hv
  | func h1 h2 _ _ ih1 ih2 =>
    intro hn
    simp only [Arm.noF, Bool.and_eq_true] at hn
    exact .func h1 h2 (fun i a v ha hv => ih1 i a v ha hv (noFs_get hn.1 ha)) (fun i a v ha hv => ih2 i a v ha hv (noFs_get hn.2 ha))
  | nilfunc => intro _; exact .nilfunc
  | iface _ ih => intro hn; simp only [Arm.noF] at hn; exact .iface (ih hn)
  | niliface => intro _; exact .niliface
  | agg h1 _ ih => intro hn; simp only [Arm.noF] at hn; exact .agg h1 fun i a v ha hv => ih i a v ha hv (noFs_get hn ha)
  | tuple h1 _ ih => intro hn; simp only [Arm.noF] at hn; exact .tuple h1 fun i a v ha hv => ih i a v ha hv (noFs_get hn ha)
  | nilmap => intro _; exact .nilmap
  | map h1 hfx => intro hn; simp only [Arm.noF, decide_eq_true_eq] at hn; exact .map (keep h1 hn) hfx

/-- The values that speak of the block that moves. -/
def fiC (b k : Nat) : AV → AV
  | .ref c n => if c = k then .ref b n else .ref c n
  | v => v
def fiA (b k : Nat) : AV → AV
  | .agg cs => .agg (cs.map (fiC b k))
  | v => fiC b k v

theorem VR.fiC {m b k : Nat} (hb : b < m) (hm : m ≤ G.length) (hbn : ownr G b = none) {a : AV} {v : Value} (h : VR G w a v) (hok : Arm.noF m (Arm.fiC b k a) = true) : VR (fiG G m b k) w (Arm.fiC b k a) v := by
  cases a with
  | ref c n =>
    simp only [Arm.fiC] at hok ⊢
    by_cases hc : c = k
    · subst hc
      rw [if_pos rfl]
      cases h with
      | ref h1 hfx hg hs hv => exact .ref (by rw [fi_at hb hm]; exact h1) hfx hg hs hv
    · rw [if_neg hc] at hok ⊢
      exact h.fill hb hm hbn hok
  | _ => exact h.fill hb hm hbn hok

theorem VR.fiA {m b k : Nat} (hb : b < m) (hm : m ≤ G.length) (hbn : ownr G b = none) {a : AV} {v : Value} (h : VR G w a v) (hok : Arm.noF m (Arm.fiA b k a) = true) : VR (fiG G m b k) w (Arm.fiA b k a) v := by
  cases a with
  | agg cs =>
    cases h with
    | agg h1 hr =>
      simp only [Arm.fiA, Arm.noF] at hok ⊢
      refine .agg (by simpa using h1) ?_
      intro i a v ha hv
      have hna := noFs_get hok ha
      simp only [List.getElem?_map, Option.map_eq_some_iff] at ha
      obtain ⟨c, hc, rfl⟩ := ha
      exact (hr i c v hc hv).fiC hb hm hbn hna
  | ref c n => exact h.fiC hb hm hbn hok
  | _ => exact h.fill hb hm hbn hok

theorem BlkOk.fill {m b k c d : Nat} (hb : b < m) (hm : m ≤ G.length) (hbn : ownr G b = none) {x : ABlk} (ho : ownr (fiG G m b k) d = ownr G c) (h : BlkOk G w c x) (hn : noFB m x = true) : BlkOk (fiG G m b k) w d x := by
  cases x with
  | dead => exact ho.trans h
  | row wr sz xs =>
    obtain ⟨L, h1, h2, h3, h4, h5, h6, h7, c', e, h8, h9, hv⟩ := h
    simp only [noFB] at hn
    refine ⟨L, ho.trans h1, h2, h3, h4, h5, h6, h7, c', e, h8, h9, fun i x j a hi hj => ?_⟩
    obtain ⟨v, g1, g2⟩ := hv i x j a hi hj
    exact ⟨v, g1, g2.fill hb hm hbn (noFs_get (noF_cells.2 (noFs_get hn hi)) hj)⟩
  | map es =>
    obtain ⟨L, h1, h2, ents, clock, h3, h4, h5⟩ := h
    simp only [noFB, List.all_eq_true, Bool.and_eq_true] at hn
    refine ⟨L, ho.trans h1, h2, ents, clock, h3, h4, fun j e v hj hv => ?_⟩
    have := h5 j e v hj hv
    have h6 := hn e (List.mem_of_getElem? hj)
    exact ⟨this.1.fill hb hm hbn h6.1, this.2.fill hb hm hbn h6.2⟩

theorem fill_ok {G0 : Gh} {w0 : World} {H0 : AH} (hI0 : Inv Γ G0 w0 H0) {b k : Nat} {blk : ABlk} (hd : H0[b]? = some .dead) (hbH : H[b]? = some .dead) (hk : H0.length ≤ k) (hkH : H[k]? = some blk) (hn : ∀ c, c < H0.length → H[c]? = H0[c]?) (hblk : noFB H0.length blk = true)
    (he : Ext G0 w0 G w) (hI : Inv Γ G w H) : Ext G0 w0 (fiG G H0.length b k) w ∧ Inv Γ (fiG G H0.length b k) w (H0.set b blk) := by
  have hb0 := (List.getElem?_eq_some_iff.1 hd).1
  have hkl := (List.getElem?_eq_some_iff.1 hkH).1
  have hm : H0.length ≤ G.length := by rw [hI.len]; omega
  have hbn : ownr G b = none := hI.blk b _ hbH
  have hb00 : ownr G0 b = none := hI0.blk b _ hd
  have e1 : Ext G0 w0 (fiG G H0.length b k) w := by
    refine ⟨he.os, he.tape, he.output, he.size, he.keep, fun c L hc => ?_, fun c L' hc hlt => ?_⟩
    · obtain ⟨L', h1, h2⟩ := he.own c L hc
      have hc0 := own_lt hc
      rw [hI0.len] at hc0
      have : c ≠ b := by intro e; subst e; rw [hb00] at hc; cases hc
      exact ⟨L', by rw [fi_ne this, if_pos hc0]; exact h1, h2⟩
    · rcases fi_some hb0 hm hc with ⟨rfl, h⟩ | ⟨_, _, h⟩
      · obtain ⟨L, h1, _⟩ := he.back k L' h hlt
        have := own_lt h1
        rw [hI0.len] at this
        omega
      · exact he.back c L' h hlt
  refine ⟨e1, ⟨?_, ?_, ?_, fun g cs hg => (hI0.glob g cs hg).mono e1⟩⟩
  · simp only [fiG, List.length_set, List.length_take]; omega
  · intro c x hx
    by_cases h1 : c = b
    · subst h1
      rw [List.getElem?_set_self hb0] at hx
      cases hx
      exact (hI.blk k _ hkH).fill hb0 hm hbn (fi_at hb0 hm) hblk
    · rw [List.getElem?_set_ne (Ne.symm h1)] at hx
      have hc := (List.getElem?_eq_some_iff.1 hx).1
      have hx0 := (hI0.blk c x hx).noF
      rw [hI0.len] at hx0
      exact (hI.blk c x ((hn c hc).trans hx)).fill hb0 hm hbn (by rw [fi_ne h1, if_pos hc]) hx0
  · intro c c' L L' h1 h2 h3
    rcases fi_some hb0 hm h1 with ⟨rfl, g1⟩ | ⟨g0, g0', g1⟩ <;> rcases fi_some hb0 hm h2 with ⟨rfl, g2⟩ | ⟨q0, q0', g2⟩
    · rfl
    · have := hI.inj k c' L L' g1 g2 h3; omega
    · have := hI.inj c k L L' g1 g2 h3; omega
    · exact hI.inj c c' L L' g1 g2 h3
end

/-- What a function leaves behind: as it is; its rows read as values; with the blocks forgotten that it alone knew. -/
inductive Leaves (H0 : AH) : List AV → AH → List AV → AH → Prop
  | keep (vs : List AV) (H : AH) : Leaves H0 vs H vs H
  | conv {vs vs' : List AV} {H H' : AH} (h : Leaves H0 (convL H vs).1 (convL H vs).2 vs' H') : Leaves H0 vs H vs' H'
  | fill {vs : List AV} {H : AH} (b k : Nat) (blk : ABlk) (hd : H0[b]? = some .dead) (hbH : H[b]? = some .dead) (hk : H0.length ≤ k) (hkH : H[k]? = some blk) (hn : ∀ c, c < H0.length → H[c]? = H0[c]?) (hblk : noFB H0.length blk = true)
      (hv : noFs H0.length (vs.map (fiA b k)) = true) : Leaves H0 vs H (vs.map (fiA b k)) (H0.set b blk)
  | cut {vs : List AV} {H H' : AH} (m : Nat) (hm : H0.length ≤ m) (hH : H.take m = H') (hb : ∀ b, b < m → H'[b]? = H0[b]? ∨ ∃ k, H'[b]? = some k ∧ noFB m k = true) (hv : noFs m vs = true) : Leaves H0 vs H vs H'

theorem leaves_ok {G0 : Gh} {w0 : World} {H0 : AH} (hI0 : Inv Γ G0 w0 H0) {vs vs' : List AV} {H H' : AH} (h : Leaves H0 vs H vs' H') : ∀ {G : Gh} {us : List Value}, Ext G0 w0 G w → Inv Γ G w H → VL G w vs us →
    ∃ G', Ext G0 w0 G' w ∧ Inv Γ G' w H' ∧ VL G' w vs' us := by
  induction h with
  | keep vs H => intro G us he hI hv; exact ⟨G, he, hI, hv⟩
  | conv h ih =>
    intro G us he hI hv
    obtain ⟨G1, e1, i1, r1⟩ := convL_ok _ us hI hv
    exact ih (hI0.trans he e1) i1 r1
  | fill b k blk hd hbH hk hkH hn hblk hv =>
    rename_i vs H
    intro G us he hI hvl
    obtain ⟨e1, i1⟩ := fill_ok hI0 hd hbH hk hkH hn hblk he hI
    have hb0 := (List.getElem?_eq_some_iff.1 hd).1
    have hkl := (List.getElem?_eq_some_iff.1 hkH).1
    refine ⟨_, e1, i1, by simpa using hvl.1, fun i a v ha hv' => ?_⟩
    have hna := noFs_get hv ha
    simp only [List.getElem?_map, Option.map_eq_some_iff] at ha
    obtain ⟨c, hc, rfl⟩ := ha
    exact (hvl.2 i c v hc hv').fiA hb0 (by rw [hI.len]; omega) (hI.blk b _ hbH) hna
  | cut m hm hH hb hn =>
    rename_i vs H H'
    intro G us he hI hv
    have e1 : Ext G0 w0 (G.take m) w := he.take (by rw [hI0.len]; exact hm)
    refine ⟨G.take m, e1, ⟨?_, ?_, ?_, fun g cs hg => (hI0.glob g cs hg).mono e1⟩, hv.1, fun k a v ha hu => (hv.2 k a v ha hu).take (noFs_get hn ha)⟩
    · rw [← hH]; simp [hI.len]
    · intro b k hk
      have hlt : b < m := by
        rw [← hH, List.getElem?_take] at hk
        split at hk
        · assumption
        · cases hk
      have hk0 : H[b]? = some k := by rw [← hH, List.getElem?_take, if_pos hlt] at hk; exact hk
      refine (hI.blk b k hk0).take hlt ?_
      rcases hb b hlt with h1 | ⟨k', h1, h2⟩
      · have := (hI0.blk b k (h1 ▸ hk)).noF
        rw [hI0.len] at this
        cases k with
        | dead => rfl
        | row wr sz xs => simp only [noFB] at this ⊢; rw [noFs_iff] at this ⊢; exact fun x hx => noF_mono hm (this x hx)
        | map es =>
          simp only [noFB, List.all_eq_true, Bool.and_eq_true] at this ⊢
          exact fun e hx => ⟨noF_mono hm (this e hx).1, noF_mono hm (this e hx).2⟩
      · rw [hk] at h1; cases h1; exact h2
    · intro b b' L L' h1 h2 h3
      exact hI.inj b b' L L' (own_take_some h1).1 (own_take_some h2).1 h3

/-- The usual end: everything new is forgotten. -/
theorem Leaves.drop {H0 J : AH} {vs : List AV} (hv : noFs H0.length vs = true) : Leaves H0 vs (H0 ++ J) vs H0 :=
  .cut H0.length (Nat.le_refl _) (by simp) (fun b _ => .inl rfl) hv

def one : List AV → AV
  | [a] => a
  | l => .tuple l

def resA (E : Env) (fr : AFr) (H : AH) : List ResultVar → Option (List AV)
  | [] => some []
  | .tmp t :: r => (resA E fr H r).map fun vs => fr t :: vs
  | .cell a t :: r => (E.T t).bind fun i => (rd H (fr a)).bind fun p => (partA i p.1.cells p.2).bind fun v => (resA E fr H r).map fun vs => v :: vs

def resF (tmps : Array Value) : ResultVar → Sem Value
  | .tmp t => pure (tmps.getD t undef)
  | .cell a t => do loadVar t (← asAddr (tmps.getD a undef))

theorem resA_ok {E : Env} (hT : TabOk E.P E.T) (hI : Inv E.Γ G w H) {fr : AFr} {tmps : Array Value} (hfr : FR G w fr tmps) : ∀ (l : List ResultVar) (vs : List AV), resA E fr H l = some vs →
    ∃ us, VL G w vs us ∧ (l.mapM (resF tmps)).run E.P w = .ok us w
  | [], vs, h => by simp only [resA, Option.some.injEq] at h; subst h; exact ⟨[], .nil, by simp⟩
  | .tmp t :: r, vs, h => by
    simp only [resA, Option.map_eq_some_iff] at h
    obtain ⟨vs, h, rfl⟩ := h
    obtain ⟨us, h1, h2⟩ := resA_ok hT hI hfr r vs h
    exact ⟨tmps.getD t undef :: us, .cons (hfr t) h1, by simp only [List.mapM_cons, resF]; simp [h2]⟩
  | .cell a t :: r, vs, h => by
    simp only [resA, Option.bind_eq_some_iff, Option.map_eq_some_iff] at h
    obtain ⟨i, hi, p, hp, v, hv, vs, h, rfl⟩ := h
    obtain ⟨us, h1, h2⟩ := resA_ok hT hI hfr r vs h
    obtain ⟨B, o, vals, hB, g1, g2⟩ := rd_ok hI hp (hfr a)
    obtain ⟨u, hu, hr⟩ := run_loadVar' (hT _ _ hi) vals g1 g2 hv
    refine ⟨u :: us, .cons hr h1, ?_⟩
    simp only [List.mapM_cons, resF, hB, asAddr]
    simp [h2, hu]

def oneV (us : List Value) : Value := if h : us.length = 1 then us[0] else .tuple us.toArray

theorem results_ok {E : Env} (hT : TabOk E.P E.T) (hI : Inv E.Γ G w H) {fr : AFr} {tmps : Array Value} (hfr : FR G w fr tmps) {fn : Func} {vs : List AV} (h : resA E fr H fn.results.toList = some vs) :
    ∃ us : List Value, VL G w vs us ∧ (results fn tmps).run E.P w = .ok (oneV us) w := by
  obtain ⟨us, h1, h2⟩ := resA_ok hT hI hfr _ vs h
  refine ⟨us, h1, ?_⟩
  have e : results fn tmps = (fn.results.mapM (resF tmps) >>= fun vs => pure (if h : vs.size = 1 then vs[0] else .tuple vs)) := rfl
  rw [e, Array.mapM_eq_mapM_toList]
  simp [h2, oneV]

theorem one_ok {vs : List AV} {us : List Value} (h : VL G w vs us) : VR G w (one vs) (oneV us) := by
  match vs, us, h with
  | [a], [u], h => exact h.2 0 a u rfl rfl
  | [], us, h =>
    have h0 := h.1
    have : us = [] := List.length_eq_zero_iff.1 (by simpa using h0.symm)
    subst this
    exact .tuple rfl fun i a v h => by simp at h
  | [a], [], h => have := h.1; simp at this
  | [a], _ :: _ :: _, h => have := h.1; simp at this
  | a :: b :: r, us, h =>
    have hl := h.1
    simp only [List.length_cons] at hl
    have : oneV us = .tuple us.toArray := by unfold oneV; rw [dif_neg (by omega)]
    rw [this]
    exact .tuple (by simp [← hl]) fun i x v hx hv => h.2 i x v hx (by simpa using hv)

end

/-- What is known at the end of a body. -/
def bodyK (E : Env) (fn : Func) (H0 : AH) (e : AEnd) (H' : AH) : APost
  | .normal, fr, H => ∃ vs vs', resA E fr H fn.results.toList = some vs ∧ Leaves H0 vs H vs' H' ∧ e = .ret (one vs')
  | .ret, fr, H => ∃ vs vs', resA E fr H fn.results.toList = some vs ∧ Leaves H0 vs H vs' H' ∧ e = .ret (one vs')
  | .panic v, _, H => ∃ v', Leaves H0 [v] H [v'] H' ∧ e = .panic v'
  | .exit _, _, _ => False

def argFr (args : List AV) : AFr := fun i => (args[i]?).getD (.tuple [])

theorem argFr_ok {G : Gh} {w : World} {args : List AV} {vs : Array Value} (h : VL G w args vs.toList) (k : Nat) : FR G w (argFr args) (vs ++ Array.replicate k undef) := by
  intro t
  unfold argFr
  rw [Array.getD_eq_getD_getElem?, Array.getElem?_append]
  have hl : args.length = vs.size := by simpa using h.1
  by_cases ht : t < vs.size
  · rw [if_pos ht]
    have h1 : args[t]? = some args[t] := by simp [hl, ht]
    have h2 : vs[t]? = some vs[t] := by simp [ht]
    rw [h1, h2]
    exact h.2 t _ _ h1 (by simp [ht])
  · rw [if_neg ht, List.getElem?_eq_none (by omega), Array.getElem?_replicate]
    split <;> exact .tuple rfl fun i a v h => by simp at h

/-- A contract out of the body. -/
theorem sound_of_awp {E : Env} (hT : TabOk E.P E.T) (hm : E.P.follows .mixedOrders = true) {f : FuncId} {fn : Func} {c : Code} (hf : E.P.funcs[f]? = some fn) (hb : fn.body = some c)
    (hname : (fn.name == "runtime.NumGoroutine") = false) {N : Nat} (hN : fn.ntmps = N) (hok : codeOk N c = true) {args : List AV} {H H' : AH} {e : AEnd} (hl : args.length ≤ N)
    (h : awp E c (bodyK E fn H e H') (argFr args) H) : Sound E f args H e H' := by
  subst hN
  refine ⟨⟨fn, hf, by rw [hb]; rfl, hname⟩, fun F n hF G w vs hI hv => ?_⟩
  have hF' : Wd F.plain := hF
  have hvl : args.length = vs.size := by simpa using hv.1
  refine (callsIn_of_wp (F := F.plain) (n := n) (P := E.P) (f := f) (fn := fn) (c := c) (args := vs) (w := w) hf hb (hF.2 f) ?_ rfl : CallsIn F.plain n E.P f vs w _)
  refine wpIn_mono (awp_sound hT hF' hm (N := fn.ntmps) (dfs := []) ⟨hI.inj, hI.lt⟩ c _ (argFr args) H G _ w hok h (.refl _ _) hI (argFr_ok hv _) (by simp; omega) rfl) ?_
  rintro x a w' ⟨e', fr, H1, G1, hk, e1, i1, f1, n1, d1, r1⟩
  have ret : (∃ vs vs', resA E fr H1 fn.results.toList = some vs ∧ Leaves H vs H1 vs' H' ∧ e = .ret (one vs')) →
      a.defers = [] ∧ ∃ v, (results fn a.tmps).run E.P w' = .ok v w' ∧ ∃ G', Ext G w G' w' ∧ Inv E.Γ G' w' H' ∧ EndRel G' w' e (.returned v) := by
    rintro ⟨vs1, vs', h1, h2, rfl⟩
    obtain ⟨us, h3, h4⟩ := results_ok hT i1 f1 h1
    obtain ⟨G', e2, i2, r2⟩ := leaves_ok hI h2 e1 i1 h3
    exact ⟨d1, _, h4, G', e2, i2, one_ok r2⟩
  cases e' with
  | normal => cases x <;> first | exact r1.elim | exact ret hk
  | ret => cases x <;> first | exact r1.elim | exact ret hk
  | exit i => exact hk.elim
  | panic v =>
    cases x <;> first | exact r1.elim | skip
    rename_i chain
    obtain ⟨v', h2, rfl⟩ := hk
    match chain, r1 with
    | [x], r1 =>
      obtain ⟨G', e2, i2, r2⟩ := leaves_ok hI h2 e1 i1 (VL.nil.cons r1.2.2)
      exact ⟨d1, G', e2, i2, r1.1, r1.2.1, r2.2 0 _ _ rfl rfl⟩

/-- A contract out of the body, with places that wait for blocks. -/
theorem sound_of_awp_pad {E : Env} (q : Nat) (hT : TabOk E.P E.T) (hm : E.P.follows .mixedOrders = true) {f : FuncId} {fn : Func} {c : Code} (hf : E.P.funcs[f]? = some fn) (hb : fn.body = some c)
    (hname : (fn.name == "runtime.NumGoroutine") = false) {N : Nat} (hN : fn.ntmps = N) (hok : codeOk N c = true) {args : List AV} {H H' : AH} {e : AEnd} (hl : args.length ≤ N)
    (h : awp E c (bodyK E fn H e H') (argFr args) (H ++ List.replicate q .dead)) : Sound E f args H e H' := by
  subst hN
  refine ⟨⟨fn, hf, by rw [hb]; rfl, hname⟩, fun F n hF G w vs hI hv => ?_⟩
  have hF' : Wd F.plain := hF
  have hvl : args.length = vs.size := by simpa using hv.1
  obtain ⟨pe, pi⟩ := hI.pad q
  refine (callsIn_of_wp (F := F.plain) (n := n) (P := E.P) (f := f) (fn := fn) (c := c) (args := vs) (w := w) hf hb (hF.2 f) ?_ rfl : CallsIn F.plain n E.P f vs w _)
  refine wpIn_mono (awp_sound hT hF' hm (N := fn.ntmps) (dfs := []) ⟨hI.inj, hI.lt⟩ c _ (argFr args) _ _ _ w hok h pe pi (argFr_ok (hv.mono pe) _) (by simp; omega) rfl) ?_
  rintro x a w' ⟨e', fr, H1, G1, hk, e1, i1, f1, n1, d1, r1⟩
  have ret : (∃ vs vs', resA E fr H1 fn.results.toList = some vs ∧ Leaves H vs H1 vs' H' ∧ e = .ret (one vs')) →
      a.defers = [] ∧ ∃ v, (results fn a.tmps).run E.P w' = .ok v w' ∧ ∃ G', Ext G w G' w' ∧ Inv E.Γ G' w' H' ∧ EndRel G' w' e (.returned v) := by
    rintro ⟨vs1, vs', h1, h2, rfl⟩
    obtain ⟨us, h3, h4⟩ := results_ok hT i1 f1 h1
    obtain ⟨G', e2, i2, r2⟩ := leaves_ok hI h2 e1 i1 h3
    exact ⟨d1, _, h4, G', e2, i2, one_ok r2⟩
  cases e' with
  | normal => cases x <;> first | exact r1.elim | exact ret hk
  | ret => cases x <;> first | exact r1.elim | exact ret hk
  | exit i => exact hk.elim
  | panic v =>
    cases x <;> first | exact r1.elim | skip
    rename_i chain
    obtain ⟨v', h2, rfl⟩ := hk
    match chain, r1 with
    | [x], r1 =>
      obtain ⟨G', e2, i2, r2⟩ := leaves_ok hI h2 e1 i1 (VL.nil.cons r1.2.2)
      exact ⟨d1, G', e2, i2, r1.1, r1.2.1, r2.2 0 _ _ rfl rfl⟩

end Go.Arm

/- Rules by which 'simp' walks a code: head first, nothing behind the operation at hand is looked at. -/
namespace Go.Arm
open Go.RowKit

theorem nd {p : Prop} (h : p) : p := h

/-! ### What stands still until its first part is known -/

/-- Under a binder its place is held by a variable: so nothing is walked ahead of time. -/
inductive Tok where
  | go

abbrev Nx := Tok → AV → AH → Prop

def bindA (x : Option (AV × AH)) (next : Nx) : Prop :=
  match x with
  | some p => next .go p.1 p.2
  | none => False

def gateA (v : AV) (want : Bool) (run skip : Tok → Prop) : Prop :=
  match v with
  | .bool b => (b = want → run .go) ∧ (b ≠ want → skip .go)
  | .tuple _ => skip .go
  | _ => False

def brA (v : AV) (x y : Tok → Prop) : Prop := condA v (x .go) (y .go)

def callA (E : Env) (f : AV) (args : List AV) (next : Nx) (K : APost) (fr : AFr) (H : AH) : Prop :=
  match f with
  | .func (.func g) first captured => ∃ e H', CallOk E g (first ++ args) captured H e H' ∧ (match e with
    | .ret v => next .go v H'
    | .panic v => K (.panic v) fr H')
  | _ => False

def panicA (v : AV) (K : APost) (fr : AFr) (H : AH) : Prop :=
  match v with
  | .iface t v => K (.panic (.iface t v)) fr H
  | _ => False

@[congr] theorem bindA_congr {x x' : Option (AV × AH)} {next : Nx} (h : x = x') : bindA x next = bindA x' next := by rw [h]
@[congr] theorem gateA_congr {v v' : AV} {want : Bool} {run skip : Tok → Prop} (h : v = v') : gateA v want run skip = gateA v' want run skip := by rw [h]
@[congr] theorem brA_congr {v v' : AV} {x y : Tok → Prop} (h : v = v') : brA v x y = brA v' x y := by rw [h]
@[congr] theorem callA_congr {E : Env} {f f' : AV} {args args' : List AV} {next : Nx} {K : APost} {fr : AFr} {H H' : AH} (h : f = f') (h2 : args = args') (h3 : H = H') : callA E f args next K fr H = callA E f' args' next K fr H' := by rw [h, h2, h3]
@[congr] theorem panicA_congr {v v' : AV} {K : APost} {fr : AFr} {H : AH} (h : v = v') : panicA v K fr H = panicA v' K fr H := by rw [h]

@[simp ↓] theorem bindA_some {v : AV} {H : AH} {next : Nx} : bindA (some (v, H)) next = next .go v H := nd rfl
@[simp ↓] theorem gateA_tt {run skip : Tok → Prop} : gateA (.bool true) true run skip = run .go := by simp [gateA]
@[simp ↓] theorem gateA_ff {run skip : Tok → Prop} : gateA (.bool false) false run skip = run .go := by simp [gateA]
@[simp ↓] theorem gateA_tf {run skip : Tok → Prop} : gateA (.bool true) false run skip = skip .go := by simp [gateA]
@[simp ↓] theorem gateA_ft {run skip : Tok → Prop} : gateA (.bool false) true run skip = skip .go := by simp [gateA]
@[simp ↓] theorem gateA_tuple {l : List AV} {want : Bool} {run skip : Tok → Prop} : gateA (.tuple l) want run skip = skip .go := nd rfl
@[simp ↓] theorem brA_t {x y : Tok → Prop} : brA (.bool true) x y = x .go := by simp [brA, condA]
@[simp ↓] theorem brA_f {x y : Tok → Prop} : brA (.bool false) x y = y .go := by simp [brA, condA]
@[simp ↓] theorem panicA_iface {t : TypeId} {v : AV} {K : APost} {fr : AFr} {H : AH} : panicA (.iface t v) K fr H = K (.panic (.iface t v)) fr H := nd rfl

theorem gateT {b : Bool} {run skip : Tok → Prop} (h1 : b = true → run .go) (h2 : b = false → skip .go) : gateA (.bool b) true run skip :=
  ⟨h1, fun h => h2 (by simpa using h)⟩
theorem gateF {b : Bool} {run skip : Tok → Prop} (h1 : b = false → run .go) (h2 : b = true → skip .go) : gateA (.bool b) false run skip :=
  ⟨h1, fun h => h2 (by simpa using h)⟩

theorem gate {b want : Bool} {run skip : Tok → Prop} (h1 : b = want → run .go) (h2 : b = !want → skip .go) : gateA (.bool b) want run skip :=
  ⟨h1, fun h => h2 (by cases b <;> cases want <;> simp_all)⟩

theorem branch {b : Bool} {x y : Tok → Prop} (h1 : b = true → x .go) (h2 : b = false → y .go) : brA (.bool b) x y := ⟨h1, h2⟩

theorem call_fst {E : Env} {g : FuncId} {first captured args : List AV} {next : Nx} {K : APost} {fr : AFr} {H H' : AH} {v : AV} (h : Sound E g (first ++ args ++ captured) H (.ret v) H') (k : next .go v H') :
    callA E (.func (.func g) first captured) args next K fr H := ⟨_, _, .inl h, k⟩

theorem call_fst_panic {E : Env} {g : FuncId} {first captured args : List AV} {next : Nx} {K : APost} {fr : AFr} {H H' : AH} {v : AV} (h : Sound E g (first ++ args ++ captured) H (.panic v) H') (k : K (.panic v) fr H') :
    callA E (.func (.func g) first captured) args next K fr H := ⟨_, _, .inl h, k⟩

theorem call_ret {E : Env} {g : FuncId} {captured args : List AV} {next : Nx} {K : APost} {fr : AFr} {H H' : AH} {v : AV} (h : Sound E g (args ++ captured) H (.ret v) H') (k : next .go v H') :
    callA E (.func (.func g) [] captured) args next K fr H := ⟨_, _, .inl h, k⟩

theorem call_conv {E : Env} {g : FuncId} {captured args args' : List AV} {next : Nx} {K : APost} {fr : AFr} {H H1 H' : AH} {v : AV} (h : Sound E g (args' ++ captured) H1 (.ret v) H') (hc : convL H args = (args', H1)) (k : next .go v H') :
    callA E (.func (.func g) [] captured) args next K fr H := ⟨_, _, .inr (by rw [List.nil_append, hc]; exact h), k⟩

theorem call_panic {E : Env} {g : FuncId} {captured args : List AV} {next : Nx} {K : APost} {fr : AFr} {H H' : AH} {v : AV} (h : Sound E g (args ++ captured) H (.panic v) H') (k : K (.panic v) fr H') :
    callA E (.func (.func g) [] captured) args next K fr H := ⟨_, _, .inl h, k⟩

/-! ### Code -/
section
variable {E : Env} {K : APost} {fr : AFr} {H : AH}

@[simp ↓] theorem awp_skip : awp E .skip K fr H = K .normal fr H := nd rfl
@[simp ↓] theorem awp_region {id : Nat} {ops : List Oper} : awp E (.region id ops.toArray false) K fr H = awpOps E ops.toArray K ops fr H := nd rfl
@[simp ↓] theorem awp_draw {id : Nat} {ops : List Oper} : awp E (.region id ops.toArray true) K fr H = awpD E ops.toArray K ops 0 fr H [] := nd rfl
@[simp ↓] theorem awp_seq {x y : Code} : awp E (.seq x y) K fr H = awp E x (thenA (awp E y K) K) fr H := nd rfl
def lockW (t : Tok) (E : Env) (c : Code) (K : APost) (fr : AFr) (H : AH) : Prop := match t with | .go => awp E c K fr H
@[simp ↓] theorem lockW_go {c : Code} : lockW .go E c K fr H = awp E c K fr H := nd rfl
@[simp ↓] theorem awp_cond {c : Operand} {x y : Code} : awp E (.cond c x y) K fr H = brA (evalA E fr c) (fun t => lockW t E x K fr H) (fun t => lockW t E y K fr H) := nd rfl
@[simp ↓] theorem awp_block {id : Nat} {c : Code} : awp E (.block id c) K fr H = awp E c (inBlockA id K) fr H := nd rfl
@[simp ↓] theorem awp_loop {c : Code} : awp E (.loop c) K fr H = loopA (fun y => awp E c (thenA y K)) fr H := nd rfl
@[simp ↓] theorem awp_exit {id : Nat} : awp E (.exit id) K fr H = K (.exit id) fr H := nd rfl
@[simp ↓] theorem awp_ret : awp E .ret K fr H = K .ret fr H := nd rfl
@[simp ↓] theorem awp_label {l : Nat} : awp E (.label l) K fr H = K .normal fr H := nd rfl
@[simp ↓] theorem awp_scope {c : Code} : awp E (.scope c) K fr H = awp E c K fr H := nd rfl

@[simp ↓] theorem thenA_normal {y : AFr → AH → Prop} : thenA y K .normal fr H = y fr H := nd rfl
@[simp ↓] theorem thenA_exit {y : AFr → AH → Prop} {i : Nat} : thenA y K (.exit i) fr H = K (.exit i) fr H := nd rfl
@[simp ↓] theorem thenA_ret {y : AFr → AH → Prop} : thenA y K .ret fr H = K .ret fr H := nd rfl
@[simp ↓] theorem thenA_panic {y : AFr → AH → Prop} {v : AV} : thenA y K (.panic v) fr H = K (.panic v) fr H := nd rfl
@[simp ↓] theorem inBlockA_normal {id : Nat} : inBlockA id K .normal fr H = K .normal fr H := nd rfl
@[simp ↓] theorem inBlockA_exit {id i : Nat} : inBlockA id K (.exit i) fr H = if i = id then K .normal fr H else K (.exit i) fr H := nd rfl
@[simp ↓] theorem inBlockA_ret {id : Nat} : inBlockA id K .ret fr H = K .ret fr H := nd rfl
@[simp ↓] theorem inBlockA_panic {id : Nat} {v : AV} : inBlockA id K (.panic v) fr H = K (.panic v) fr H := nd rfl

/-! ### Frames -/
@[simp ↓] theorem put_some_apply {d t : Nat} {v : AV} : put fr (some d) v t = if t = d then v else fr t := nd rfl
@[simp ↓] theorem put_none_apply {t : Nat} {v : AV} : put fr none v t = fr t := nd rfl
@[simp ↓] theorem upd_apply {d t : Nat} {v : AV} : upd fr d v t = if t = d then v else fr t := nd rfl
@[simp ↓] theorem argFr_nil {t : Nat} : argFr [] t = .tuple [] := by simp [argFr]
@[simp ↓] theorem argFr_zero {a : AV} {l : List AV} : argFr (a :: l) 0 = a := nd rfl
@[simp ↓] theorem argFr_succ {a : AV} {l : List AV} {t : Nat} : argFr (a :: l) (t + 1) = argFr l t := by simp [argFr]

@[simp ↓] theorem evalA_tmp {t : Nat} : evalA E fr (.tmp t) = fr t := nd rfl
@[simp ↓] theorem evalA_const {v : Value} : evalA E fr (.const v) = absC v := nd rfl
@[simp ↓] theorem evalA_func {f : Nat} : evalA E fr (.func f) = .func (.func f) [] [] := nd rfl
@[simp ↓] theorem evalA_global {g : Nat} : evalA E fr (.global g) = match E.Γ g with | some cs => .eptr cs 0 | none => .junk := nd rfl
attribute [simp] absC absA

/-! ### Operations -/
def gtmp (ops : Array Oper) (j : Nat) : Option Tmp := (ops[j]?).bind (·.dst)

def guardA (g : Option Tmp) (fr : AFr) (want : Bool) (run skip : Tok → Prop) : Prop :=
  match g with
  | some d => gateA (fr d) want run skip
  | none => skip .go
@[congr] theorem guardA_congr {g g' : Option Tmp} {want : Bool} {run skip : Tok → Prop} (h : g = g') : guardA g fr want run skip = guardA g' fr want run skip := by rw [h]
@[simp ↓] theorem guardA_some {d : Tmp} {want : Bool} {run skip : Tok → Prop} : guardA (some d) fr want run skip = gateA (fr d) want run skip := nd rfl
@[simp ↓] theorem guardA_none {want : Bool} {run skip : Tok → Prop} : guardA none fr want run skip = skip .go := nd rfl

def opA (E : Env) (op : Op) (next : Nx) (K : APost) (fr : AFr) (H : AH) : Prop :=
  match op with
  | .call { callee := .value f, args, .. } => callA E (evalA E fr f) (args.toList.map (evalA E fr)) next K fr H
  | .panic x => panicA (evalA E fr x) K fr H
  | op => bindA (aop E.T (evalA E fr) H op) next

theorem astep_opA {o : Oper} {next : AV → AH → Prop} : astep E o next K fr H = opA E o.op (fun _ v H' => next v H') K fr H := by
  obtain ⟨dst, op, ty, pos, after, guard⟩ := o
  unfold astep opA callA panicA bindA
  cases op with
  | call c => obtain ⟨f, args, ts⟩ := c; cases f <;> rfl
  | _ => rfl

def lockO (t : Tok) (E : Env) (op : Op) (next : Nx) (K : APost) (fr : AFr) (H : AH) : Prop := match t with | .go => opA E op next K fr H
@[simp ↓] theorem lockO_go {op : Op} {next : Nx} : lockO .go E op next K fr H = opA E op next K fr H := nd rfl
def lockR (t : Tok) (E : Env) (ops : Array Oper) (K : APost) (r : List Oper) (fr : AFr) (H : AH) : Prop := match t with | .go => awpOps E ops K r fr H
@[simp ↓] theorem lockR_go {ops : Array Oper} {r : List Oper} : lockR .go E ops K r fr H = awpOps E ops K r fr H := nd rfl
theorem opA_tok {op : Op} {n1 n2 : Nx} (h : ∀ v H, n1 .go v H = n2 .go v H) : opA E op n1 K fr H = opA E op n2 K fr H := by
  have : n1 = n2 := by funext t v H; cases t; exact h v H
  rw [this]

@[simp ↓] theorem awpOps_nil {ops : Array Oper} : awpOps E ops K [] fr H = K .normal fr H := nd rfl
@[simp ↓] theorem awpOps_free {ops : Array Oper} {r : List Oper} {dst : Option Tmp} {op : Op} {ty : TypeId} {pos : String} {after : Array Edge} :
    awpOps E ops K (⟨dst, op, ty, pos, after, none⟩ :: r) fr H = opA E op (fun t v H' => lockR t E ops K r (put fr dst v) H') K fr H := by
  simp only [awpOps, aguard, astep_opA]
  exact opA_tok fun v H => rfl
@[simp ↓] theorem awpOps_guard {ops : Array Oper} {r : List Oper} {dst : Option Tmp} {op : Op} {ty : TypeId} {pos : String} {after : Array Edge} {j : Nat} {want : Bool} :
    awpOps E ops K (⟨dst, op, ty, pos, after, some (j, want)⟩ :: r) fr H = guardA (gtmp ops j) fr want (fun t => lockO t E op (fun t v H' => lockR t E ops K r (put fr dst v) H') K fr H) (fun t => lockR t E ops K r (put fr dst (.tuple [])) H) := by
  have e : opA E op (fun _ v H' => awpOps E ops K r (put fr dst v) H') K fr H = opA E op (fun t v H' => lockR t E ops K r (put fr dst v) H') K fr H := opA_tok fun v H => rfl
  simp only [awpOps, aguard, astep_opA, guardA, gateA, gtmp, e]
  generalize (ops[j]?).bind (·.dst) = g
  cases g <;> rfl

attribute [simp] gtmp

/-- The operations' values, each on its own. -/
def loadA (T : Tab) (H : AH) (t : TypeId) (a : AV) : Option (AV × AH) := (T t).bind fun i => (rd H a).bind fun p => (partA i p.1.cells p.2).map fun v => (v, H)
def pickA (H : AH) (c a b : AV) : Option (AV × AH) := match c with
  | .bool t => some (if t then a else b, H)
  | _ => none
def storeOp (T : Tab) (H : AH) (t : TypeId) (a x : AV) : Option (AV × AH) := (storeA T H t a x).map fun H' => (.junk, H')
def withH (H : AH) (x : Option AV) : Option (AV × AH) := x.map fun v => (v, H)
@[simp] theorem withH_some {v : AV} : withH H (some v) = some (v, H) := nd rfl
def nilCheckA (H : AH) (x : AV) : Option (AV × AH) := match x with
  | .ptr b g i off => some (.ptr b g i off, H)
  | .eptr cs off => some (.eptr cs off, H)
  | .func (.func f) a b => some (.func (.func f) a b, H)
  | _ => none
def extractA (H : AH) (x : AV) (i : Nat) : Option (AV × AH) := match x with
  | .tuple vs => (vs[i]?).map fun v => (v, H)
  | _ => none
def sliceOp (T : Tab) (H : AH) (t : TypeId) (x : AV) (lo hi mx : Option AV) : Option (AV × AH) := match ((T t).map TI.d : Option TD) with
    | some (.slice e) => (T e).bind fun ie => sliceA ie H x lo hi mx
    | some .str => (strCut x lo hi mx).map fun v => (v, H)
    | _ => none
def allocA (T : Tab) (H : AH) (e : TypeId) : Option (AV × AH) := match T e with
    | some i => (vcells i.zero).bind fun cs => if cs.length = i.size then some (.ptr H.length 1 0 0, H ++ [.row true i.size [i.zero]]) else none
    | none => none
def boxA (H : AH) (x : AV) : Option (AV × AH) := (vcells x).map fun cs => (.ptr H.length 1 0 0, H ++ [.row true cs.length [x]])
def binOpA (T : Tab) (H : AH) (op : BinOp) (t : TypeId) (x y : AV) (c : Bool) : Option (AV × AH) := if nilI x && nilI y && c then none else (binA T op t x y).map fun v => (v, H)
def makeSliceA (T : Tab) (H : AH) (t : TypeId) (l c : AV) : Option (AV × AH) := match l, c, T t with
    | .int _ l, .int _ c, some i => match i.d with
      | .slice e => match T e with
        | some ie => if 0 ≤ l ∧ l ≤ c ∧ c * ie.bytes ≤ 140737488355328 ∧ c ≤ 9223372036854775807 ∧ 0 < ie.size ∧ (vcells ie.zero).map List.length = some ie.size then some (.ref H.length l.toNat, H ++ [.row true ie.size (List.replicate l.toNat ie.zero)]) else none
        | none => none
      | _ => none
    | _, _, _ => none
def ifaceA (T : Tab) (H : AH) (t : TypeId) (x : AV) : Option (AV × AH) := match ((T t).map TI.d : Option TD) with
    | some .iface | none => none
    | _ => some (.iface t x, H)
def assertA (T : Tab) (H : AH) (x : AV) (asserted : TypeId) (ok : Bool) : Option (AV × AH) := match x, ((T asserted).map TI.d : Option TD) with
    | .iface _ _, some .iface | .iface _ _, none => none
    | .iface t v, some _ => if t = asserted then some (if ok then .tuple [v, .bool true] else v, H) else none
    | _, _ => none
def builtinA (T : Tab) (H : AH) (b : Builtin) (args : List AV) (ts : List TypeId) : Option (AV × AH) := match b, args, ts with
    | .len, [x], [t] => (lenA T H t x).map fun v => (v, H)
    | .append, [s, x], [t, t'] => if t = t' then appendA T H t s x else none
    | .min, x :: r, _ => (minmaxA false x r).map fun v => (v, H)
    | .max, x :: r, _ => (minmaxA true x r).map fun v => (v, H)
    | _, _, _ => none

variable {next : Nx}
@[simp ↓] theorem op_move {x : Operand} : opA E (.move x) next K fr H = next .go (evalA E fr x) H := nd rfl
@[simp ↓] theorem op_assign {x : Operand} : opA E (.assign x) next K fr H = next .go (evalA E fr x) H := nd rfl
@[simp ↓] theorem op_pick {c a b : Operand} : opA E (.pick c a b) next K fr H = bindA (pickA H (evalA E fr c) (evalA E fr a) (evalA E fr b)) next := nd rfl
@[simp ↓] theorem op_load {t : TypeId} {a : Operand} : opA E (.load t a) next K fr H = bindA (loadA E.T H t (evalA E fr a)) next := nd rfl
@[simp ↓] theorem op_store {t : TypeId} {a x : Operand} : opA E (.store t a x) next K fr H = bindA (storeOp E.T H t (evalA E fr a) (evalA E fr x)) next := nd rfl
@[simp ↓] theorem op_nilCheck {x : Operand} : opA E (.nilCheck x) next K fr H = bindA (nilCheckA H (evalA E fr x)) next := nd rfl
@[simp ↓] theorem op_bin {op : BinOp} {t u : TypeId} {x y : Operand} : opA E (.binOp op t x y u) next K fr H = bindA (binOpA E.T H op t (evalA E fr x) (evalA E fr y) (!isC x && !isC y)) next := by
  simp only [opA, aop, binOpA, Bool.and_assoc]
@[simp ↓] theorem op_un {op : UnOp} {t : TypeId} {x : Operand} : opA E (.unOp op t x) next K fr H = bindA (withH H (unA op (evalA E fr x))) next := nd rfl
@[simp ↓] theorem op_convert {s d : TypeId} {x : Operand} : opA E (.convert s d x) next K fr H = bindA (withH H (convertA E.T s d (evalA E fr x))) next := nd rfl
@[simp ↓] theorem op_iface {t : TypeId} {x : Operand} : opA E (.makeInterface t x) next K fr H = bindA (ifaceA E.T H t (evalA E fr x)) next := nd rfl
@[simp ↓] theorem op_func {f : Fn} {a b : Array Operand} : opA E (.makeFunc f a b) next K fr H = next .go (.func f (a.toList.map (evalA E fr)) (b.toList.map (evalA E fr))) H := nd rfl
@[simp ↓] theorem op_makeSlice {t : TypeId} {l c : Operand} : opA E (.makeSlice t l c) next K fr H = bindA (makeSliceA E.T H t (evalA E fr l) (evalA E fr c)) next := nd rfl
@[simp ↓] theorem op_slice {t : TypeId} {x : Operand} {lo hi mx : Option Operand} : opA E (.slice t x lo hi mx) next K fr H = bindA (sliceOp E.T H t (evalA E fr x) (lo.map (evalA E fr)) (hi.map (evalA E fr)) (mx.map (evalA E fr))) next := nd rfl
@[simp ↓] theorem op_fieldAddr {t : TypeId} {x : Operand} {f : Nat} : opA E (.fieldAddr t x f) next K fr H = bindA (withH H (fieldAddrA E.T t (evalA E fr x) f)) next := nd rfl
@[simp ↓] theorem op_field {t : TypeId} {x : Operand} {f : Nat} : opA E (.field t x f) next K fr H = bindA (withH H (fieldA E.T t (evalA E fr x) f)) next := nd rfl
@[simp ↓] theorem op_indexAddr {t : TypeId} {x i : Operand} : opA E (.indexAddr t x i) next K fr H = bindA (withH H (indexAddrA E.T H t (evalA E fr x) (evalA E fr i))) next := nd rfl
@[simp ↓] theorem op_index {t : TypeId} {x i : Operand} : opA E (.index t x i) next K fr H = bindA (withH H (indexA E.T t (evalA E fr x) (evalA E fr i))) next := nd rfl
@[simp ↓] theorem op_assert {x : Operand} {t u : TypeId} {ok : Bool} : opA E (.typeAssert x t u ok) next K fr H = bindA (assertA E.T H (evalA E fr x) u ok) next := nd rfl
@[simp ↓] theorem op_extract {x : Operand} {i : Nat} : opA E (.extract x i) next K fr H = bindA (extractA H (evalA E fr x) i) next := nd rfl
@[simp ↓] theorem op_alloc {e : TypeId} : opA E (.alloc e) next K fr H = bindA (allocA E.T H e) next := nd rfl
@[simp ↓] theorem op_box {e : TypeId} {x : Operand} : opA E (.box e x) next K fr H = bindA (boxA H (evalA E fr x)) next := nd rfl
@[simp ↓] theorem op_build {t : TypeId} {parts : Array (Nat × Operand)} : opA E (.build t parts) next K fr H = bindA (withH H (buildA E.T t (parts.toList.map fun p => (p.1, evalA E fr p.2)))) next := nd rfl
@[simp ↓] theorem op_buildSlice {t : TypeId} {n : Nat} {parts : Array (Nat × Operand)} : opA E (.buildSlice t n parts) next K fr H = bindA (buildSliceA E.T H t n (parts.toList.map fun p => (p.1, evalA E fr p.2))) next := nd rfl
@[simp ↓] theorem op_panic {x : Operand} : opA E (.panic x) next K fr H = panicA (evalA E fr x) K fr H := nd rfl
@[simp ↓] theorem op_call {f : Operand} {args : Array Operand} {ts : Array TypeId} : opA E (.call ⟨.value f, args, ts⟩) next K fr H = callA E (evalA E fr f) (args.toList.map (evalA E fr)) next K fr H := nd rfl
@[simp ↓] theorem op_builtin {b : Builtin} {args : Array Operand} {ts : Array TypeId} : opA E (.call ⟨.builtin b, args, ts⟩) next K fr H = bindA (builtinA E.T H b (args.toList.map (evalA E fr)) ts.toList) next := by
  simp only [opA, aop, builtinA]
  congr 1
  generalize List.map (evalA E fr) args.toList = l
  generalize ts.toList = t
  cases b <;> rcases l with _ | ⟨x, _ | ⟨y, _ | _⟩⟩ <;> rcases t with _ | ⟨t, _ | ⟨u, _ | _⟩⟩ <;> rfl

/-! ### Regions of drawn order -/
abbrev NxD := Tok → AV → Eff → AH → Prop

def bindE (x : Option Eff) (next : Tok → Eff → Prop) : Prop :=
  match x with
  | some ε => next .go ε
  | none => False
@[congr] theorem bindE_congr {x x' : Option Eff} {next : Tok → Eff → Prop} (h : x = x') : bindE x next = bindE x' next := by rw [h]
@[simp ↓] theorem bindE_some {ε : Eff} {next : Tok → Eff → Prop} : bindE (some ε) next = next .go ε := nd rfl

def callD (E : Env) (f : AV) (args : List AV) (next : NxD) (H : AH) : Prop :=
  match f with
  | .func (.func g) first captured => ∃ r rds ups, CallD E g (first ++ args) captured H r rds ups ∧ next .go r ⟨rds, ups, none, true⟩ (applyUps H ups)
  | _ => False
@[congr] theorem callD_congr {f f' : AV} {args args' : List AV} {next : NxD} {H H' : AH} (h : f = f') (h2 : args = args') (h3 : H = H') : callD E f args next H = callD E f' args' next H' := by rw [h, h2, h3]

theorem callD_ret {g : FuncId} {captured args : List AV} {next : NxD} {r : AV} (h : ∀ Hx, Sound E g (args ++ captured) Hx (.ret r) Hx) (k : next .go r ⟨[], [], none, true⟩ H) : callD E (.func (.func g) [] captured) args next H :=
  ⟨r, [], [], ⟨fun b hb => by simp at hb, fun p hp => by simp at hp, fun Hx _ => .inl (h Hx)⟩, k⟩
theorem callD_conv {g : FuncId} {captured args args' : List AV} {next : NxD} {r : AV} (h : ∀ Hx, Sound E g (args' ++ captured) Hx (.ret r) Hx) (hc : ∀ Hx, convL Hx args = (args', Hx)) (k : next .go r ⟨[], [], none, true⟩ H) : callD E (.func (.func g) [] captured) args next H :=
  ⟨r, [], [], ⟨fun b hb => by simp at hb, fun p hp => by simp at hp, fun Hx _ => .inr (by rw [List.nil_append, hc Hx]; exact h Hx)⟩, k⟩

def opD (E : Env) (op : Op) (next : NxD) (fr : AFr) (H : AH) : Prop :=
  match op with
  | .call { callee := .value f, args, .. } => callD E (evalA E fr f) (args.toList.map (evalA E fr)) next H
  | .panic _ => False
  | op => bindA (aop E.T (evalA E fr) H op) fun _ v H' => bindE (foot (evalA E fr) H H' v op) fun t ε => next t v ε H'

theorem stepD_opD {o : Oper} {next : AV → Eff → AH → Prop} : stepD E o next fr H = opD E o.op (fun _ v ε H' => next v ε H') fr H := by
  obtain ⟨dst, op, ty, pos, after, guard⟩ := o
  unfold stepD opD callD bindA bindE
  cases op with
  | call c => obtain ⟨f, args, ts⟩ := c; cases f <;> rfl
  | _ => rfl

def lockD (t : Tok) (E : Env) (ops : Array Oper) (K : APost) (r : List Oper) (k : Nat) (fr : AFr) (H : AH) (tr : List (Nat × Eff)) : Prop := match t with | .go => awpD E ops K r k fr H tr
@[simp ↓] theorem lockD_go {ops : Array Oper} {r : List Oper} {k : Nat} {tr : List (Nat × Eff)} : lockD .go E ops K r k fr H tr = awpD E ops K r k fr H tr := nd rfl
def lockP (t : Tok) (E : Env) (op : Op) (next : NxD) (fr : AFr) (H : AH) : Prop := match t with | .go => opD E op next fr H
@[simp ↓] theorem lockP_go {op : Op} {next : NxD} : lockP .go E op next fr H = opD E op next fr H := nd rfl
def lockK (t : Tok) (K : APost) (fr : AFr) (H : AH) : Prop := match t with | .go => K .normal fr H
@[simp ↓] theorem lockK_go : lockK .go K fr H = K .normal fr H := nd rfl

def endA (ops : Array Oper) (tr : List (Nat × Eff)) (k : Tok → Prop) : Prop := (∃ m, masks ops.toList [] = m ∧ okAll m tr) ∧ k .go

def ordsB (ops : Array Oper) (w : List (Nat × Nat)) : Bool := let m := masks ops.toList []; w.all fun p => (m.getD p.2 0).testBit p.1 && decide (p.1 ≤ p.2)
def okW (w : List (Nat × Nat)) (tr : List (Nat × Eff)) : Prop :=
  ∀ p ∈ tr, ∀ b ∈ p.2.wr, ∀ q ∈ tr, q.1 ≠ p.1 → (p.1, q.1) ∈ w ∨ (q.1, p.1) ∈ w ∨ ((∀ c ∈ q.2.rds, c ≠ b) ∧ (∀ c ∈ q.2.wr, c ≠ b))

theorem endD (w : List (Nat × Nat)) {ops : Array Oper} {tr : List (Nat × Eff)} {k : Tok → Prop} (hw : ordsB ops w = true) (h : okW w tr) (hk : k .go) : endA ops tr k := by
  refine ⟨⟨_, rfl, ?_⟩, hk⟩
  intro p hp b hb q hq hne
  simp only [ordsB, List.all_eq_true, Bool.and_eq_true, decide_eq_true_eq] at hw
  rcases h p hp b hb q hq hne with h1 | h1 | h1
  · have := hw _ h1
    left; unfold ord; rw [Nat.max_eq_right this.2, Nat.min_eq_left this.2]; exact this.1
  · have := hw _ h1
    left; unfold ord; rw [Nat.max_eq_left this.2, Nat.min_eq_right this.2]; exact this.1
  · exact .inr h1

@[simp ↓] theorem awpD_nil {ops : Array Oper} {k : Nat} {tr : List (Nat × Eff)} : awpD E ops K [] k fr H tr = endA ops tr (fun t => lockK t K fr H) := nd rfl
theorem opD_tok {op : Op} {n1 n2 : NxD} (h : ∀ v ε H, n1 .go v ε H = n2 .go v ε H) : opD E op n1 fr H = opD E op n2 fr H := by
  have : n1 = n2 := by funext t v ε H; cases t; exact h v ε H
  rw [this]
@[simp ↓] theorem awpD_free {ops : Array Oper} {r : List Oper} {k : Nat} {tr : List (Nat × Eff)} {dst : Option Tmp} {op : Op} {ty : TypeId} {pos : String} {after : Array Edge} :
    awpD E ops K (⟨dst, op, ty, pos, after, none⟩ :: r) k fr H tr = opD E op (fun t v ε H' => lockD t E ops K r (k + 1) (put fr dst v) H' (note tr k ε)) fr H := by
  simp only [awpD, aguard, stepD_opD]
  exact opD_tok fun v ε H => rfl
@[simp ↓] theorem awpD_guard {ops : Array Oper} {r : List Oper} {k : Nat} {tr : List (Nat × Eff)} {dst : Option Tmp} {op : Op} {ty : TypeId} {pos : String} {after : Array Edge} {j : Nat} {want : Bool} :
    awpD E ops K (⟨dst, op, ty, pos, after, some (j, want)⟩ :: r) k fr H tr = guardA (gtmp ops j) fr want (fun t => lockP t E op (fun t v ε H' => lockD t E ops K r (k + 1) (put fr dst v) H' (note tr k ε)) fr H) (fun t => lockD t E ops K r (k + 1) (put fr dst (.tuple [])) H tr) := by
  have e : opD E op (fun _ v ε H' => awpD E ops K r (k + 1) (put fr dst v) H' (note tr k ε)) fr H = opD E op (fun t v ε H' => lockD t E ops K r (k + 1) (put fr dst v) H' (note tr k ε)) fr H := opD_tok fun v ε H => rfl
  simp only [awpD, aguard, stepD_opD, guardA, gateA, gtmp, e]
  generalize (ops[j]?).bind (·.dst) = g
  cases g <;> rfl

variable {nxd : NxD}
/-- An operation that touches no memory: as in the text's order. -/
def quiet : Op → Bool
  | .load _ _ | .indexAddr _ _ _ | .store _ _ _ | .slice _ _ _ _ _ | .alloc _ | .box _ _ | .makeSlice _ _ _ | .buildSlice _ _ _ | .call _ | .panic _ => false
  | _ => true
theorem opD_quiet {op : Op} (h : quiet op = true) : opD E op nxd fr H = opA E op (fun t v H' => nxd t v .none H') K fr H := by
  have : ∀ (x : Option (AV × AH)), (bindA x fun _ v H' => nxd .go v .none H') = bindA x fun t v H' => nxd t v .none H' := by intro x; cases x <;> rfl
  cases op <;> first | (cases h; done) | rfl | exact this _
@[simp ↓] theorem opD_move {x : Operand} : opD E (.move x) nxd fr H = nxd .go (evalA E fr x) .none H := nd rfl
@[simp ↓] theorem opD_assign {x : Operand} : opD E (.assign x) nxd fr H = nxd .go (evalA E fr x) .none H := nd rfl
def nxd0 : APost := fun _ _ _ => True
@[simp ↓] theorem opD_pick {c a b : Operand} : opD E (.pick c a b) nxd fr H = opA E (.pick c a b) (fun t v H' => nxd t v .none H') nxd0 fr H := opD_quiet rfl
@[simp ↓] theorem opD_nilCheck {x : Operand} : opD E (.nilCheck x) nxd fr H = opA E (.nilCheck x) (fun t v H' => nxd t v .none H') nxd0 fr H := opD_quiet rfl
@[simp ↓] theorem opD_bin {op : BinOp} {t u : TypeId} {x y : Operand} : opD E (.binOp op t x y u) nxd fr H = opA E (.binOp op t x y u) (fun t v H' => nxd t v .none H') nxd0 fr H := opD_quiet rfl
@[simp ↓] theorem opD_un {op : UnOp} {t : TypeId} {x : Operand} : opD E (.unOp op t x) nxd fr H = opA E (.unOp op t x) (fun t v H' => nxd t v .none H') nxd0 fr H := opD_quiet rfl
@[simp ↓] theorem opD_convert {t u : TypeId} {x : Operand} : opD E (.convert t u x) nxd fr H = opA E (.convert t u x) (fun t v H' => nxd t v .none H') nxd0 fr H := opD_quiet rfl
@[simp ↓] theorem opD_iface {t : TypeId} {x : Operand} : opD E (.makeInterface t x) nxd fr H = opA E (.makeInterface t x) (fun t v H' => nxd t v .none H') nxd0 fr H := opD_quiet rfl
@[simp ↓] theorem opD_func {f : Fn} {a b : Array Operand} : opD E (.makeFunc f a b) nxd fr H = opA E (.makeFunc f a b) (fun t v H' => nxd t v .none H') nxd0 fr H := opD_quiet rfl
@[simp ↓] theorem opD_fieldAddr {t : TypeId} {x : Operand} {f : Nat} : opD E (.fieldAddr t x f) nxd fr H = opA E (.fieldAddr t x f) (fun t v H' => nxd t v .none H') nxd0 fr H := opD_quiet rfl
@[simp ↓] theorem opD_field {t : TypeId} {x : Operand} {f : Nat} : opD E (.field t x f) nxd fr H = opA E (.field t x f) (fun t v H' => nxd t v .none H') nxd0 fr H := opD_quiet rfl
@[simp ↓] theorem opD_index {t : TypeId} {x y : Operand} : opD E (.index t x y) nxd fr H = opA E (.index t x y) (fun t v H' => nxd t v .none H') nxd0 fr H := opD_quiet rfl
@[simp ↓] theorem opD_assert {x : Operand} {t u : TypeId} {ok : Bool} : opD E (.typeAssert x t u ok) nxd fr H = opA E (.typeAssert x t u ok) (fun t v H' => nxd t v .none H') nxd0 fr H := opD_quiet rfl
@[simp ↓] theorem opD_extract {x : Operand} {i : Nat} : opD E (.extract x i) nxd fr H = opA E (.extract x i) (fun t v H' => nxd t v .none H') nxd0 fr H := opD_quiet rfl
@[simp ↓] theorem opD_build {t : TypeId} {parts : Array (Nat × Operand)} : opD E (.build t parts) nxd fr H = opA E (.build t parts) (fun t v H' => nxd t v .none H') nxd0 fr H := opD_quiet rfl

def stFoot (a : AV) (H' : AH) : Option Eff := match a with
  | .ptr b _ _ _ => some (upTo H' b)
  | _ => none
def slFoot (a : AV) (H' : AH) : Option Eff := match a with
  | .ref b _ => some (upTo H' b)
  | _ => some .none
def apFoot (s x v : AV) (H H' : AH) : Option Eff := if isRef x then none else match s, v with
      | .ref b _, _ => some (upTo H' b)
      | _, .ref _ _ => some (newAt H H')
      | _, _ => some .none
def biFoot (b : Builtin) (args : List AV) (v : AV) (H H' : AH) : Option Eff := match b, args with
  | .len, [x] => some (rdRef x)
  | .append, [s, x] => apFoot s x v H H'
  | _, _ => some .none
@[simp ↓] theorem opD_load {t : TypeId} {a : Operand} : opD E (.load t a) nxd fr H = bindA (loadA E.T H t (evalA E fr a)) fun t v H' => nxd t v (rdPtr (evalA E fr a)) H' := by
  show (bindA _ fun _ v H' => bindE (some (rdPtr (evalA E fr a))) fun t ε => nxd t v ε H') = _
  unfold loadA
  generalize hx : aop E.T (evalA E fr) H (Op.load t a) = x
  simp only [aop] at hx
  rw [hx]
  cases x <;> rfl
@[simp ↓] theorem opD_indexAddr {t : TypeId} {x i : Operand} : opD E (.indexAddr t x i) nxd fr H = bindA (withH H (indexAddrA E.T H t (evalA E fr x) (evalA E fr i))) fun t v H' => nxd t v (rdRef (evalA E fr x)) H' := by
  show (bindA (withH H (indexAddrA E.T H t (evalA E fr x) (evalA E fr i))) fun _ v H' => bindE (some (rdRef (evalA E fr x))) fun t ε => nxd t v ε H') = _
  generalize withH H (indexAddrA E.T H t (evalA E fr x) (evalA E fr i)) = y
  cases y <;> rfl
@[simp ↓] theorem opD_store {t : TypeId} {a x : Operand} : opD E (.store t a x) nxd fr H = bindA (storeOp E.T H t (evalA E fr a) (evalA E fr x)) fun _ v H' => bindE (stFoot (evalA E fr a) H') fun t ε => nxd t v ε H' := nd rfl
@[simp ↓] theorem opD_slice {t : TypeId} {x : Operand} {lo hi mx : Option Operand} : opD E (.slice t x lo hi mx) nxd fr H = bindA (sliceOp E.T H t (evalA E fr x) (lo.map (evalA E fr)) (hi.map (evalA E fr)) (mx.map (evalA E fr))) fun _ v H' => bindE (slFoot (evalA E fr x) H') fun t ε => nxd t v ε H' := nd rfl
@[simp ↓] theorem opD_alloc {e : TypeId} : opD E (.alloc e) nxd fr H = bindA (allocA E.T H e) fun t v H' => nxd t v (newAt H H') H' := by
  show (bindA (allocA E.T H e) fun _ v H' => bindE (some (newAt H H')) fun t ε => nxd t v ε H') = _
  generalize allocA E.T H e = y
  cases y <;> rfl
@[simp ↓] theorem opD_box {e : TypeId} {x : Operand} : opD E (.box e x) nxd fr H = bindA (boxA H (evalA E fr x)) fun t v H' => nxd t v (newAt H H') H' := by
  show (bindA (boxA H (evalA E fr x)) fun _ v H' => bindE (some (newAt H H')) fun t ε => nxd t v ε H') = _
  generalize boxA H (evalA E fr x) = y
  cases y <;> rfl
@[simp ↓] theorem opD_makeSlice {t : TypeId} {l c : Operand} : opD E (.makeSlice t l c) nxd fr H = bindA (makeSliceA E.T H t (evalA E fr l) (evalA E fr c)) fun t v H' => nxd t v (newAt H H') H' := by
  show (bindA (makeSliceA E.T H t (evalA E fr l) (evalA E fr c)) fun _ v H' => bindE (some (newAt H H')) fun t ε => nxd t v ε H') = _
  generalize makeSliceA E.T H t (evalA E fr l) (evalA E fr c) = y
  cases y <;> rfl
def bsFoot (parts : List (Nat × AV)) : Option Eff := if parts.all (fun p => noRef p.2) then some .none else none
@[simp ↓] theorem opD_buildSlice {t : TypeId} {n : Nat} {parts : Array (Nat × Operand)} : opD E (.buildSlice t n parts) nxd fr H = bindA (buildSliceA E.T H t n (parts.toList.map fun p => (p.1, evalA E fr p.2))) fun _ v H' => bindE (bsFoot (parts.toList.map fun p => (p.1, evalA E fr p.2))) fun t ε => nxd t v ε H' := by
  have : bsFoot (parts.toList.map fun p => (p.1, evalA E fr p.2)) = if parts.toList.all (fun p => noRef (evalA E fr p.2)) then some .none else none := by
    unfold bsFoot; simp [List.all_map, Function.comp_def]
  rw [this]; rfl
@[simp ↓] theorem opD_call {f : Operand} {args : Array Operand} {ts : Array TypeId} : opD E (.call ⟨.value f, args, ts⟩) nxd fr H = callD E (evalA E fr f) (args.toList.map (evalA E fr)) nxd H := nd rfl
@[simp ↓] theorem opD_builtin {b : Builtin} {args : Array Operand} {ts : Array TypeId} : opD E (.call ⟨.builtin b, args, ts⟩) nxd fr H = bindA (builtinA E.T H b (args.toList.map (evalA E fr)) ts.toList) fun _ v H' => bindE (biFoot b (args.toList.map (evalA E fr)) v H H') fun t ε => nxd t v ε H' := by
  have e1 : aop E.T (evalA E fr) H (.call ⟨.builtin b, args, ts⟩) = builtinA E.T H b (args.toList.map (evalA E fr)) ts.toList := by
    simp only [aop, builtinA]
    generalize List.map (evalA E fr) args.toList = l
    generalize ts.toList = t
    cases b <;> rcases l with _ | ⟨x, _ | ⟨y, _ | _⟩⟩ <;> rcases t with _ | ⟨t, _ | ⟨u, _ | _⟩⟩ <;> rfl
  have e2 : ∀ v H', foot (evalA E fr) H H' v (.call ⟨.builtin b, args, ts⟩) = biFoot b (args.toList.map (evalA E fr)) v H H' := by
    intro v H'
    simp only [foot, biFoot, apFoot]
    generalize List.map (evalA E fr) args.toList = l
    cases b <;> rcases l with _ | ⟨x, _ | ⟨y, _ | _⟩⟩ <;> rfl
  simp only [opD, e1, e2]

attribute [simp] stFoot slFoot apFoot biFoot bsFoot isRef noRef rdPtr rdRef

attribute [simp] loadA pickA storeOp nilCheckA extractA sliceOp allocA boxA makeSliceA ifaceA assertA builtinA
attribute [simp] afill setPart rd partA okc TD.isAgg unA convertA indexAddrA indexA fieldAddrA fieldA buildA buildSliceA lenA minmaxA storeA sliceA intOfA cut strCut vcells AV.cells

@[simp] theorem szOk_nil {ie : TI} : szOk ie [] = true := rfl
@[simp] theorem szOk_cons {ie : TI} {x : AV} {l : List AV} : szOk ie (x :: l) = (x.cells.length == ie.size) := rfl
theorem szOk_map {α : Type} {f : α → AV} {ie : TI} {l : List α} (h : ∀ x, (f x).cells.length = ie.size) : szOk ie (l.map f) = true := by
  cases l with
  | nil => rfl
  | cons x r => rw [List.map_cons, szOk_cons, h x]; exact beq_self_eq_true _

/-! ### Arithmetic, comparisons -/
def andA (k : IntKind) (a b : Int) : Int := k.wrap (BitVec.ofInt k.bits a &&& BitVec.ofInt k.bits b).toNat
def orA (k : IntKind) (a b : Int) : Int := k.wrap (BitVec.ofInt k.bits a ||| BitVec.ofInt k.bits b).toNat
def xorA (k : IntKind) (a b : Int) : Int := k.wrap (BitVec.ofInt k.bits a ^^^ BitVec.ofInt k.bits b).toNat
def andNotA (k : IntKind) (a b : Int) : Int := k.wrap (BitVec.ofInt k.bits a &&& ~~~ BitVec.ofInt k.bits b).toNat
section
variable {T : Tab} {t : TypeId} {k : IntKind} {a b : Int} {c : Bool}
@[simp] theorem bin_add : binOpA T H .add t (.int k a) (.int k b) c = some (.int k (k.wrap (a + b)), H) := by simp [binOpA, binA, intOp, nilI]
@[simp] theorem bin_sub : binOpA T H .sub t (.int k a) (.int k b) c = some (.int k (k.wrap (a - b)), H) := by simp [binOpA, binA, intOp, nilI]
@[simp] theorem bin_mul : binOpA T H .mul t (.int k a) (.int k b) c = some (.int k (k.wrap (a * b)), H) := by simp [binOpA, binA, intOp, nilI]
@[simp] theorem bin_eql : binOpA T H .eql t (.int k a) (.int k b) c = some (.bool (a == b), H) := by simp [binOpA, binA, intOp, nilI]
@[simp] theorem bin_neq : binOpA T H .neq t (.int k a) (.int k b) c = some (.bool (a != b), H) := by simp [binOpA, binA, intOp, nilI]
@[simp] theorem bin_lss : binOpA T H .lss t (.int k a) (.int k b) c = some (.bool (decide (a < b)), H) := by simp [binOpA, binA, intOp, nilI]
@[simp] theorem bin_leq : binOpA T H .leq t (.int k a) (.int k b) c = some (.bool (decide (a ≤ b)), H) := by simp [binOpA, binA, intOp, nilI]
@[simp] theorem bin_gtr : binOpA T H .gtr t (.int k a) (.int k b) c = some (.bool (decide (b < a)), H) := by simp [binOpA, binA, intOp, nilI]
@[simp] theorem bin_geq : binOpA T H .geq t (.int k a) (.int k b) c = some (.bool (decide (b ≤ a)), H) := by simp [binOpA, binA, intOp, nilI]
@[simp] theorem bin_rem : binOpA T H .rem t (.int k a) (.int k b) c = if b = 0 then none else some (.int k (a.tmod b), H) := by simp [binOpA, binA, intOp, nilI]; split <;> rfl
@[simp] theorem bin_quo : binOpA T H .quo t (.int k a) (.int k b) c = if b = 0 then none else some (.int k (k.wrap (a.tdiv b)), H) := by simp [binOpA, binA, intOp, nilI]; split <;> rfl
@[simp] theorem bin_and : binOpA T H .and t (.int k a) (.int k b) c = some (.int k (andA k a b), H) := by simp only [binOpA, nilI]; simp [binA, intOp, andA]
@[simp] theorem bin_or : binOpA T H .or t (.int k a) (.int k b) c = some (.int k (orA k a b), H) := by simp only [binOpA, nilI]; simp [binA, intOp, orA]
@[simp] theorem bin_xor : binOpA T H .xor t (.int k a) (.int k b) c = some (.int k (xorA k a b), H) := by simp only [binOpA, nilI]; simp [binA, intOp, xorA]
@[simp] theorem bin_andNot : binOpA T H .andNot t (.int k a) (.int k b) c = some (.int k (andNotA k a b), H) := by simp only [binOpA, nilI]; simp [binA, intOp, andNotA]
@[simp] theorem bin_shl {k' : IntKind} : binOpA T H .shl t (.int k a) (.int k' b) c = if b < 0 then none else some (.int k (k.wrap (a * 2 ^ (min b.toNat k.bits))), H) := by simp [binOpA, binA, shiftA, nilI]; split <;> rfl
@[simp] theorem bin_shr {k' : IntKind} : binOpA T H .shr t (.int k a) (.int k' b) c = if b < 0 then none else some (.int k (a.fdiv (2 ^ (min b.toNat k.bits))), H) := by simp [binOpA, binA, shiftA, nilI]; split <;> rfl
@[simp] theorem bin_beq {p q : Bool} (h : T t = some ⟨.bool, 1, 1, .bool false, true⟩) : binOpA T H .eql t (.bool p) (.bool q) c = some (.bool (p == q), H) := by simp [binOpA, binA, eqA, h, nilI]
@[simp] theorem bin_bne {p q : Bool} (h : T t = some ⟨.bool, 1, 1, .bool false, true⟩) : binOpA T H .neq t (.bool p) (.bool q) c = some (.bool (!(p == q)), H) := by simp [binOpA, binA, eqA, h, nilI]
end

/-! ### Memory -/
@[simp ↓] theorem lget0 {α : Type} {a : α} {l : List α} : (a :: l)[0]? = some a := nd rfl
@[simp ↓] theorem lgetS {α : Type} {a : α} {l : List α} {n : Nat} : (a :: l)[n + 1]? = l[n]? := nd rfl
@[simp ↓] theorem lgetN {α : Type} {n : Nat} : ([] : List α)[n]? = none := nd rfl
section
variable {L : List ABlk} {x : ABlk}
@[simp ↓] theorem get_at {n : Nat} : (H ++ L)[H.length + n]? = L[n]? := by rw [List.getElem?_append_right (by omega)]; congr 1; omega
@[simp ↓] theorem get_at0 : (H ++ L)[H.length]? = L[0]? := by rw [List.getElem?_append_right (by omega)]; simp
@[simp ↓] theorem set_at {n : Nat} : (H ++ L).set (H.length + n) x = H ++ L.set n x := by rw [List.set_append_right _ _ (by omega)]; congr 2; omega
@[simp ↓] theorem set_at0 : (H ++ L).set H.length x = H ++ L.set 0 x := by rw [List.set_append_right _ _ (by omega)]; simp
theorem get_old {b : Nat} {k : ABlk} (h : H[b]? = some k) : (H ++ L)[b]? = some k := by
  rw [List.getElem?_append_left (List.getElem?_eq_some_iff.1 h).1]; exact h
theorem set_old {b : Nat} {k : ABlk} (h : H[b]? = some k) : (H ++ L).set b x = H.set b x ++ L := List.set_append_left _ _ (List.getElem?_eq_some_iff.1 h).1
end

/-! ### The end -/
theorem bodyK_ret {fn : Func} {H0 H' : AH} {e : AEnd} : bodyK E fn H0 e H' .ret fr H = ∃ vs vs', resA E fr H fn.results.toList = some vs ∧ Leaves H0 vs H vs' H' ∧ e = .ret (one vs') := rfl
theorem bodyK_normal {fn : Func} {H0 H' : AH} {e : AEnd} : bodyK E fn H0 e H' .normal fr H = ∃ vs vs', resA E fr H fn.results.toList = some vs ∧ Leaves H0 vs H vs' H' ∧ e = .ret (one vs') := rfl
/-- A function that ends with one value and leaves nothing. -/
theorem fin1 {fn : Func} {rs : List ResultVar} {H0 J : AH} {v : AV} {x : AExit} (hr : fn.results.toList = rs) (h : resA E fr (H0 ++ J) rs = some [v]) (hv : noF H0.length v = true) (hx : x = .ret ∨ x = .normal := by simp) : bodyK E fn H0 (.ret v) H0 x fr (H0 ++ J) := by
  rcases hx with rfl | rfl <;> exact ⟨[v], [v], hr ▸ h, .drop (by simp [noFs, hv]), rfl⟩
theorem fin0 {fn : Func} {rs : List ResultVar} {H0 : AH} {v : AV} {x : AExit} (hr : fn.results.toList = rs) (h : resA E fr H0 rs = some [v]) (hx : x = .ret ∨ x = .normal := by simp) : bodyK E fn H0 (.ret v) H0 x fr H0 := by
  rcases hx with rfl | rfl <;> exact ⟨[v], [v], hr ▸ h, .keep _ _, rfl⟩

end
end Go.Arm

/- Loops, numbers, lists. -/
namespace Go.Arm
open Go.RowKit

/-- What a round of a loop must bring about. -/
def Again {α : Type} (St : α → AFr → AH → Prop) (μ : α → Nat) (a : α) (fr : AFr) (H : AH) : Prop := ∃ a', μ a' < μ a ∧ St a' fr H

theorem loop_count {E : Env} {c : Code} {K : APost} {fr : AFr} {H : AH} {α : Type} (St : α → AFr → AH → Prop) (μ : α → Nat) (a : α) (h0 : St a fr H)
    (hr : ∀ a fr H, St a fr H → awp E c (thenA (Again St μ a) K) fr H) : loopA (fun y => awp E c (thenA y K)) fr H := by
  refine ⟨fun n fr H => ∃ a, μ a = n ∧ St a fr H, μ a, ⟨a, rfl, h0⟩, ?_⟩
  rintro n fr H ⟨a, rfl, h⟩
  have := hr a fr H h
  have e : Again St μ a = fun fr' H' => ∃ m, m < μ a ∧ ∃ a, μ a = m ∧ St a fr' H' := by
    funext fr' H'
    apply propext
    exact ⟨fun ⟨a', h1, h2⟩ => ⟨μ a', h1, a', rfl, h2⟩, fun ⟨m, h1, a', h2, h3⟩ => ⟨a', h2 ▸ h1, h3⟩⟩
  rw [e] at this
  exact this

theorem wrap64 {n : Int} (h1 : -9223372036854775808 ≤ n) (h2 : n ≤ 9223372036854775807) : IntKind.i64.wrap n = n := by
  simp only [IntKind.wrap, IntKind.bits, IntKind.signed]; simp; split <;> omega
theorem wrap8 {n : Int} (h1 : 0 ≤ n) (h2 : n ≤ 255) : IntKind.u8.wrap n = n := by
  simp only [IntKind.wrap, IntKind.bits, IntKind.signed]; simp; omega
theorem wrapu64 {n : Int} (h1 : 0 ≤ n) (h2 : n ≤ 18446744073709551615) : IntKind.u64.wrap n = n := by
  simp only [IntKind.wrap, IntKind.bits, IntKind.signed]; simp; omega

theorem get_lt {α : Type} {l : List α} {i : Nat} (h : i < l.length) : ∃ x, l[i]? = some x := ⟨l[i], by simp [h]⟩

theorem bind_if {C : Prop} [Decidable C] {x : Option (AV × AH)} {next : Nx} (h : C) (k : bindA x next) : bindA (if C then x else none) next := by rw [if_pos h]; exact k

attribute [simp] convL conv convs conv1 slOk els literalA

section
variable {E : Env} {fr : AFr} {J L : List ABlk} {k : Nat} {x y : ABlk}
/-- The end with values that are rows of one's own: they are read as lists, everything new is forgotten. -/
theorem finC {fn : Func} {rs : List ResultVar} {H0 J J' : AH} {vs vs' : List AV} {v : AV} {e : AExit} (hr : fn.results.toList = rs) (h : resA E fr (H0 ++ J) rs = some vs) (hc : convL (H0 ++ J) vs = (vs', H0 ++ J')) (hv : noFs H0.length vs' = true) (ho : one vs' = v)
    (hx : e = .ret ∨ e = .normal := by simp) : bodyK E fn H0 (.ret v) H0 e fr (H0 ++ J) := by
  have hl : Leaves H0 vs (H0 ++ J) vs' H0 := .conv (by rw [hc]; exact .drop hv)
  subst ho
  rcases hx with rfl | rfl <;> exact ⟨vs, vs', hr ▸ h, hl, rfl⟩
/-- The end that keeps the memory as it is. -/
theorem finK {fn : Func} {rs : List ResultVar} {H0 H1 : AH} {vs : List AV} {v : AV} {e : AExit} (hr : fn.results.toList = rs) (h : resA E fr H1 rs = some vs) (ho : one vs = v) (hx : e = .ret ∨ e = .normal := by simp) : bodyK E fn H0 (.ret v) H1 e fr H1 := by
  subst ho
  rcases hx with rfl | rfl <;> exact ⟨vs, vs, hr ▸ h, .keep _ _, rfl⟩

theorem set_get (h : J[k]? = some y) : (J.set k x)[k]? = some x := List.getElem?_set_self (List.getElem?_eq_some_iff.1 h).1
theorem set_get' (h : J[k]? = some y) : (J.set k x ++ L)[k]? = some x := get_old (set_get h)
theorem old (h : J[k]? = some y) : ∀ L, (J ++ L)[k]? = some y := fun _ => get_old h
theorem olds (h : J[k]? = some y) : ∀ L x, (J ++ L).set k x = J.set k x ++ L := fun _ _ => set_old h
end

/-- A row that is being built: nothing yet (v0: the nil slice or an empty one), or a block of one's own. -/
def Acc (H J : AH) (v : AV) (sz : Nat) (xs : List AV) (v0 : AV) : Prop := (xs = [] ∧ v = v0) ∨ ∃ k, v = .ref (H.length + k) xs.length ∧ J[k]? = some (.row true sz xs)

def emptyA : AV → Bool
  | .nilslice => true
  | .slice [] true => true
  | _ => false

theorem Acc.push {T : Tab} {t : TypeId} {i ie : TI} {e : TypeId} {H J : AH} {v v0 x : AV} {xs ys : List AV} (hacc : Acc H J v ie.size xs v0) (hi : T t = some i) (hd : i.d = .slice e) (he : T e = some ie) (h0 : emptyA v0 = true)
    (hels : els (H ++ J) x = some ys) (hys : ys.all (fun y => y.cells.length == ie.size && y.cells.all okc) = true) (hz : 0 < ie.size ∧ (vcells ie.zero).map List.length = some ie.size) (hb : (xs.length + ys.length) * ie.bytes ≤ 140737488355328) (hb2 : xs.length + ys.length ≤ 9223372036854775807) :
    ∃ v' J', appendA T (H ++ J) t v x = some (v', H ++ J') ∧ Acc H J' v' ie.size (xs ++ ys) v0 ∧ (∀ j y, J[j]? = some y → (∀ n, v ≠ .ref (H.length + j) n) → J'[j]? = some y) ∧ J.length ≤ J'.length ∧ (∀ j n, v' = .ref (H.length + j) n → (∃ m, v = .ref (H.length + j) m) ∨ J.length ≤ j) := by
  by_cases hem : ys.isEmpty = true
  · have : ys = [] := by simpa using hem
    subst this
    refine ⟨v, J, ?_, by simpa using hacc, fun j y hj _ => hj, Nat.le_refl _, fun j n hv => .inl ⟨n, hv⟩⟩
    simp only [appendA, hi, hd, he, hels, List.isEmpty_nil, if_true]
    rcases hacc with ⟨rfl, rfl⟩ | ⟨k, rfl, hk⟩
    · unfold emptyA at h0
      split at h0 <;> first | (cases h0; done) | rfl
    · simp [slOk, hk]
  · have hcond : 0 < ie.size ∧ (vcells ie.zero).map List.length = some ie.size ∧ ys.all (fun y => y.cells.length == ie.size && y.cells.all okc) = true := ⟨hz.1, hz.2, hys⟩
    have hap : appendA T (H ++ J) t v x = growA ie (H ++ J) v ys := by
      simp only [appendA, hi, hd, he, hels]
      rw [if_neg hem, if_pos hcond]
    rcases hacc with ⟨rfl, rfl⟩ | ⟨k, rfl, hk⟩
    · have hg : growNew ie v ys = some ys := by
        unfold emptyA at h0
        split at h0
        · simp only [growNew]; rw [if_pos (by simpa using And.intro hb hb2)]
        · simp only [growNew]; rw [if_pos (by simp at hb hb2 ⊢; exact ⟨hb, hb2⟩)]; rfl
        · cases h0
      have hv : growA ie (H ++ J) v ys = (growNew ie v ys).map fun zs => (.ref (H ++ J).length zs.length, (H ++ J) ++ [.row true ie.size zs]) := by
        unfold emptyA at h0
        split at h0 <;> first | (cases h0; done) | rfl
      refine ⟨.ref (H.length + J.length) ys.length, J ++ [.row true ie.size ys], ?_, .inr ⟨J.length, by simp, by simp⟩, fun j y hj _ => ?_, by simp, fun j n hv' => ?_⟩
      · rw [hap, hv, hg]; simp
      · rw [List.getElem?_append_left (List.getElem?_eq_some_iff.1 hj).1]; exact hj
      · right
        simp only [AV.ref.injEq] at hv'
        omega
    · refine ⟨.ref (H.length + k) (xs.length + ys.length), J.set k (.row true ie.size (xs ++ ys)), ?_, .inr ⟨k, by simp, by simp [(List.getElem?_eq_some_iff.1 hk).1]⟩, fun j y hj hne => ?_, by simp, fun j n hv' => ?_⟩
      · rw [hap]
        simp only [growA, get_at, hk]
        rw [if_pos (by simpa using And.intro hb hb2)]
        simp
      · by_cases hjk : k = j
        · subst hjk; exact absurd rfl (hne _)
        · rw [List.getElem?_set_ne hjk]; exact hj
      · left
        simp only [AV.ref.injEq] at hv'
        exact ⟨xs.length, by rw [hv'.1]⟩

theorem Acc.len {H J L : AH} {v v0 : AV} {sz : Nat} {xs : List AV} (h : Acc H J v sz xs v0) : Acc H (J ++ L) v sz xs v0 := by
  rcases h with h | ⟨k, h1, h2⟩
  · exact .inl h
  · exact .inr ⟨k, h1, get_old h2⟩

theorem Acc.set {H J : AH} {v v0 : AV} {sz : Nat} {xs : List AV} {j : Nat} {y : ABlk} (h : Acc H J v sz xs v0) (hj : ∀ n, v ≠ .ref (H.length + j) n) : Acc H (J.set j y) v sz xs v0 := by
  rcases h with h | ⟨k, h1, h2⟩
  · exact .inl h
  · refine .inr ⟨k, h1, ?_⟩
    by_cases e : j = k
    · subst e; exact absurd h1 (hj _)
    · rw [List.getElem?_set_ne e]; exact h2

/-- The end of a function that hands the row out. -/
theorem Acc.conv {H J : AH} {v v0 : AV} {sz : Nat} {xs : List AV} (h : Acc H J v sz xs v0) (h0 : emptyA v0 = true) : ∃ J', conv1 (H ++ J) v = (.slice xs false, H ++ J') ∧ (∀ j y, J[j]? = some y → (∀ n, v ≠ .ref (H.length + j) n) → J'[j]? = some y) := by
  rcases h with ⟨rfl, rfl⟩ | ⟨k, rfl, hk⟩
  · refine ⟨J, ?_, fun j y hj _ => hj⟩
    unfold emptyA at h0
    split at h0 <;> first | (cases h0; done) | rfl
  · refine ⟨J.set k (.row false sz xs), by simp [conv1, hk], fun j y hj hne => ?_⟩
    by_cases hjk : k = j
    · subst hjk; exact absurd rfl (hne _)
    · rw [List.getElem?_set_ne hjk]; exact hj

theorem bind_some {x : Option (AV × AH)} {v : AV} {H : AH} {next : Nx} (h : x = some (v, H)) (k : next .go v H) : bindA x next := by rw [h]; exact k

/-- A function that hands out a row of its own. -/
theorem finS {E : Env} {fr : AFr} {fn : Func} {t : Tmp} {H0 J : AH} {v v0 : AV} {sz : Nat} {xs : List AV} {e : AExit} (hr : fn.results.toList = [.tmp t]) (h : fr t = v) (hacc : Acc H0 J v sz xs v0) (h0 : emptyA v0 = true) (hv : noFs H0.length xs = true)
    (hx : e = .ret ∨ e = .normal := by simp) : bodyK E fn H0 (.ret (.slice xs false)) H0 e fr (H0 ++ J) := by
  obtain ⟨J', hc, _⟩ := hacc.conv h0
  have hnot : ∀ cs, v ≠ .agg cs := by
    rintro cs rfl
    rcases hacc with ⟨_, h2⟩ | ⟨k, h2, _⟩
    · rw [← h2] at h0; cases h0
    · cases h2
  have hcv : conv (H0 ++ J) v = conv1 (H0 ++ J) v := by cases v <;> first | rfl | exact absurd rfl (hnot _)
  exact finC (rs := [.tmp t]) (vs := [v]) (vs' := [.slice xs false]) (J' := J') hr (by simp [resA, h]) (by simp only [convL, hcv, hc]) (by simp [noFs, noF, hv]) rfl hx

/-- A call in a region of drawn order that reads and writes one block. -/
theorem callD_at {E : Env} {g : FuncId} {captured args : List AV} {next : NxD} {H : AH} {r : AV} {b : Nat} {k k' : ABlk} (hb : H[b]? = some k) (h : ∀ Hx, Hx[b]? = some k → Sound E g (args ++ captured) Hx (.ret r) (Hx.set b k'))
    (kk : next .go r ⟨[b], [(b, k')], none, true⟩ (H.set b k')) : callD E (.func (.func g) [] captured) args next H :=
  ⟨r, [b], [(b, k')], ⟨fun c hc => by simp at hc; subst hc; exact (List.getElem?_eq_some_iff.1 hb).1, fun p hp => by simp at hp; subst hp; simp, fun Hx hx => .inl (h Hx ((hx b (by simp)).trans hb))⟩, kk⟩

/-- The end of a function that has changed old blocks: the new ones are forgotten. -/
theorem finU {E : Env} {fr : AFr} {fn : Func} {rs : List ResultVar} {H0 H1 J : AH} {v : AV} {e : AExit} (hr : fn.results.toList = rs) (h : resA E fr (H1 ++ J) rs = some [v]) (hl : H1.length = H0.length)
    (hb : ∀ b : Nat, H1[b]? = H0[b]? ∨ ∃ k, H1[b]? = some k ∧ noFB H0.length k = true) (hv : noF H0.length v = true) (hx : e = .ret ∨ e = .normal := by simp) : bodyK E fn H0 (.ret v) H1 e fr (H1 ++ J) := by
  have hL : Leaves H0 [v] (H1 ++ J) [v] H1 := .cut H0.length (Nat.le_refl _) (by rw [← hl]; simp) (fun b _ => hb b) (by simp [noFs, hv])
  rcases hx with rfl | rfl <;> exact ⟨[v], [v], hr ▸ h, hL, rfl⟩

theorem set_blocks {H : AH} {b : Nat} {k : ABlk} {m : Nat} (hk : noFB m k = true) (c : Nat) : (H.set b k)[c]? = H[c]? ∨ ∃ k', (H.set b k)[c]? = some k' ∧ noFB m k' = true := by
  by_cases h : b = c
  · subst h
    by_cases hlt : b < H.length
    · exact .inr ⟨k, by simp [hlt], hk⟩
    · left; simp [List.set_eq_of_length_le (by omega : H.length ≤ b)]
  · left; rw [List.getElem?_set_ne h]

/-- Ends by a panic. -/
theorem finP0 {E : Env} {fr : AFr} {fn : Func} {H : AH} {v : AV} {H0 : AH} : bodyK E fn H0 (.panic v) H (.panic v) fr H := ⟨v, .keep _ _, rfl⟩
theorem finPU {E : Env} {fr : AFr} {fn : Func} {H0 H1 J : AH} {v : AV} (hl : H1.length = H0.length)
    (hb : ∀ b : Nat, H1[b]? = H0[b]? ∨ ∃ k, H1[b]? = some k ∧ noFB H0.length k = true) (hv : noF H0.length v = true) : bodyK E fn H0 (.panic v) H1 (.panic v) fr (H1 ++ J) :=
  ⟨v, .cut H0.length (Nat.le_refl _) (by rw [← hl]; simp) (fun b _ => hb b) (by simp [noFs, hv]), rfl⟩

end Go.Arm

namespace Go.Proofs.Ythgamdcnomoidaa.Arm
open Go.Arm
def i1 : TI := ⟨.func, 1, 8, .nilfunc, true⟩
theorem ok1 : TyOk Try.prog 1 i1 := ⟨by kernel_rfl, by kernel_rfl, fun _ => by kernel_rfl⟩
def i2 : TI := ⟨.int .i64, 1, 8, .int .i64 0, true⟩
theorem ok2 : TyOk Try.prog 2 i2 := ⟨by kernel_rfl, by kernel_rfl, fun _ => by kernel_rfl⟩
def i3 : TI := ⟨.int .i64, 1, 8, .int .i64 0, true⟩
theorem ok3 : TyOk Try.prog 3 i3 := ⟨by kernel_rfl, by kernel_rfl, fun _ => by kernel_rfl⟩
def i4 : TI := ⟨.bool, 1, 1, .bool false, true⟩
theorem ok4 : TyOk Try.prog 4 i4 := ⟨by kernel_rfl, by kernel_rfl, fun _ => by kernel_rfl⟩
def i5 : TI := ⟨.int .u8, 1, 1, .int .u8 0, true⟩
theorem ok5 : TyOk Try.prog 5 i5 := ⟨by kernel_rfl, by kernel_rfl, fun _ => by kernel_rfl⟩
def i6 : TI := ⟨.int .u8, 1, 1, .int .u8 0, true⟩
theorem ok6 : TyOk Try.prog 6 i6 := ⟨by kernel_rfl, by kernel_rfl, fun _ => by kernel_rfl⟩
def i7 : TI := ⟨.struct [(2, 0), (3, 1), (4, 2), (6, 3)], 4, 24, .agg [.int .i64 0, .int .i64 0, .bool false, .int .u8 0], true⟩
theorem ok7 : TyOk Try.prog 7 i7 := ⟨by kernel_rfl, by kernel_rfl, fun _ => by kernel_rfl⟩
def i8 : TI := ⟨.struct [(2, 0), (3, 1), (4, 2), (6, 3)], 4, 24, .agg [.int .i64 0, .int .i64 0, .bool false, .int .u8 0], true⟩
theorem ok8 : TyOk Try.prog 8 i8 := ⟨by kernel_rfl, by kernel_rfl, fun _ => by kernel_rfl⟩
def i9 : TI := ⟨.str, 1, 16, .str ⟨#[]⟩, true⟩
theorem ok9 : TyOk Try.prog 9 i9 := ⟨by kernel_rfl, by kernel_rfl, fun _ => by kernel_rfl⟩
def i10 : TI := ⟨.str, 1, 16, .str ⟨#[]⟩, true⟩
theorem ok10 : TyOk Try.prog 10 i10 := ⟨by kernel_rfl, by kernel_rfl, fun _ => by kernel_rfl⟩
def i11 : TI := ⟨.str, 1, 16, .str ⟨#[]⟩, true⟩
theorem ok11 : TyOk Try.prog 11 i11 := ⟨by kernel_rfl, by kernel_rfl, fun _ => by kernel_rfl⟩
def i12 : TI := ⟨.int .u64, 1, 8, .int .u64 0, true⟩
theorem ok12 : TyOk Try.prog 12 i12 := ⟨by kernel_rfl, by kernel_rfl, fun _ => by kernel_rfl⟩
def i13 : TI := ⟨.struct [(9, 0), (12, 1)], 2, 24, .agg [.str ⟨#[]⟩, .int .u64 0], false⟩
theorem ok13 : TyOk Try.prog 13 i13 := ⟨by kernel_rfl, by kernel_rfl, fun h => by cases h⟩
def i14 : TI := ⟨.struct [(9, 0), (12, 1)], 2, 24, .agg [.str ⟨#[]⟩, .int .u64 0], false⟩
theorem ok14 : TyOk Try.prog 14 i14 := ⟨by kernel_rfl, by kernel_rfl, fun h => by cases h⟩
def i15 : TI := ⟨.ptr, 1, 8, .nilptr, true⟩
theorem ok15 : TyOk Try.prog 15 i15 := ⟨by kernel_rfl, by kernel_rfl, fun _ => by kernel_rfl⟩
def i16 : TI := ⟨.ptr, 1, 8, .nilptr, true⟩
theorem ok16 : TyOk Try.prog 16 i16 := ⟨by kernel_rfl, by kernel_rfl, fun _ => by kernel_rfl⟩
def i17 : TI := ⟨.ptr, 1, 8, .nilptr, true⟩
theorem ok17 : TyOk Try.prog 17 i17 := ⟨by kernel_rfl, by kernel_rfl, fun _ => by kernel_rfl⟩
def i18 : TI := ⟨.struct [(17, 0)], 1, 8, .agg [.nilptr], false⟩
theorem ok18 : TyOk Try.prog 18 i18 := ⟨by kernel_rfl, by kernel_rfl, fun h => by cases h⟩
def i19 : TI := ⟨.struct [(17, 0)], 1, 8, .agg [.nilptr], false⟩
theorem ok19 : TyOk Try.prog 19 i19 := ⟨by kernel_rfl, by kernel_rfl, fun h => by cases h⟩
def i20 : TI := ⟨.iface, 1, 16, .niliface, true⟩
theorem ok20 : TyOk Try.prog 20 i20 := ⟨by kernel_rfl, by kernel_rfl, fun _ => by kernel_rfl⟩
def i21 : TI := ⟨.int .i32, 1, 4, .int .i32 0, true⟩
theorem ok21 : TyOk Try.prog 21 i21 := ⟨by kernel_rfl, by kernel_rfl, fun _ => by kernel_rfl⟩
def i22 : TI := ⟨.slice 62, 1, 24, .nilslice, true⟩
theorem ok22 : TyOk Try.prog 22 i22 := ⟨by kernel_rfl, by kernel_rfl, fun _ => by kernel_rfl⟩
def i23 : TI := ⟨.slice 52, 1, 24, .nilslice, true⟩
theorem ok23 : TyOk Try.prog 23 i23 := ⟨by kernel_rfl, by kernel_rfl, fun _ => by kernel_rfl⟩
def i24 : TI := ⟨.struct [(2, 0), (22, 1), (23, 2)], 3, 56, .agg [.int .i64 0, .nilslice, .nilslice], true⟩
theorem ok24 : TyOk Try.prog 24 i24 := ⟨by kernel_rfl, by kernel_rfl, fun _ => by kernel_rfl⟩
def i25 : TI := ⟨.struct [(2, 0), (22, 1), (23, 2)], 3, 56, .agg [.int .i64 0, .nilslice, .nilslice], true⟩
theorem ok25 : TyOk Try.prog 25 i25 := ⟨by kernel_rfl, by kernel_rfl, fun _ => by kernel_rfl⟩
def i26 : TI := ⟨.int .i8, 1, 1, .int .i8 0, true⟩
theorem ok26 : TyOk Try.prog 26 i26 := ⟨by kernel_rfl, by kernel_rfl, fun _ => by kernel_rfl⟩
def i27 : TI := ⟨.arr 2 5, 2, 2, .agg [.int .u8 0, .int .u8 0], true⟩
theorem ok27 : TyOk Try.prog 27 i27 := ⟨by kernel_rfl, by kernel_rfl, fun _ => by kernel_rfl⟩
def i28 : TI := ⟨.func, 1, 8, .nilfunc, true⟩
theorem ok28 : TyOk Try.prog 28 i28 := ⟨by kernel_rfl, by kernel_rfl, fun _ => by kernel_rfl⟩
def i29 : TI := ⟨.func, 1, 8, .nilfunc, true⟩
theorem ok29 : TyOk Try.prog 29 i29 := ⟨by kernel_rfl, by kernel_rfl, fun _ => by kernel_rfl⟩
def i30 : TI := ⟨.func, 1, 8, .nilfunc, true⟩
theorem ok30 : TyOk Try.prog 30 i30 := ⟨by kernel_rfl, by kernel_rfl, fun _ => by kernel_rfl⟩
def i31 : TI := ⟨.slice 34, 1, 24, .nilslice, true⟩
theorem ok31 : TyOk Try.prog 31 i31 := ⟨by kernel_rfl, by kernel_rfl, fun _ => by kernel_rfl⟩
def i32 : TI := ⟨.func, 1, 8, .nilfunc, true⟩
theorem ok32 : TyOk Try.prog 32 i32 := ⟨by kernel_rfl, by kernel_rfl, fun _ => by kernel_rfl⟩
def i33 : TI := ⟨.struct [(2, 0), (2, 1), (22, 2), (22, 3), (22, 4), (22, 5)], 6, 112, .agg [.int .i64 0, .int .i64 0, .nilslice, .nilslice, .nilslice, .nilslice], true⟩
theorem ok33 : TyOk Try.prog 33 i33 := ⟨by kernel_rfl, by kernel_rfl, fun _ => by kernel_rfl⟩
def i34 : TI := ⟨.struct [(2, 0), (2, 1), (22, 2), (22, 3), (22, 4), (22, 5)], 6, 112, .agg [.int .i64 0, .int .i64 0, .nilslice, .nilslice, .nilslice, .nilslice], true⟩
theorem ok34 : TyOk Try.prog 34 i34 := ⟨by kernel_rfl, by kernel_rfl, fun _ => by kernel_rfl⟩
def i35 : TI := ⟨.func, 1, 8, .nilfunc, true⟩
theorem ok35 : TyOk Try.prog 35 i35 := ⟨by kernel_rfl, by kernel_rfl, fun _ => by kernel_rfl⟩
def i37 : TI := ⟨.func, 1, 8, .nilfunc, true⟩
theorem ok37 : TyOk Try.prog 37 i37 := ⟨by kernel_rfl, by kernel_rfl, fun _ => by kernel_rfl⟩
def i38 : TI := ⟨.func, 1, 8, .nilfunc, true⟩
theorem ok38 : TyOk Try.prog 38 i38 := ⟨by kernel_rfl, by kernel_rfl, fun _ => by kernel_rfl⟩
def i39 : TI := ⟨.func, 1, 8, .nilfunc, true⟩
theorem ok39 : TyOk Try.prog 39 i39 := ⟨by kernel_rfl, by kernel_rfl, fun _ => by kernel_rfl⟩
def i40 : TI := ⟨.int .u16, 1, 2, .int .u16 0, true⟩
theorem ok40 : TyOk Try.prog 40 i40 := ⟨by kernel_rfl, by kernel_rfl, fun _ => by kernel_rfl⟩
def i41 : TI := ⟨.slice 5, 1, 24, .nilslice, true⟩
theorem ok41 : TyOk Try.prog 41 i41 := ⟨by kernel_rfl, by kernel_rfl, fun _ => by kernel_rfl⟩
def i42 : TI := ⟨.func, 1, 8, .nilfunc, true⟩
theorem ok42 : TyOk Try.prog 42 i42 := ⟨by kernel_rfl, by kernel_rfl, fun _ => by kernel_rfl⟩
def i43 : TI := ⟨.int .i64, 1, 8, .int .i64 0, true⟩
theorem ok43 : TyOk Try.prog 43 i43 := ⟨by kernel_rfl, by kernel_rfl, fun _ => by kernel_rfl⟩
def i45 : TI := ⟨.func, 1, 8, .nilfunc, true⟩
theorem ok45 : TyOk Try.prog 45 i45 := ⟨by kernel_rfl, by kernel_rfl, fun _ => by kernel_rfl⟩
def i46 : TI := ⟨.func, 1, 8, .nilfunc, true⟩
theorem ok46 : TyOk Try.prog 46 i46 := ⟨by kernel_rfl, by kernel_rfl, fun _ => by kernel_rfl⟩
def i47 : TI := ⟨.func, 1, 8, .nilfunc, true⟩
theorem ok47 : TyOk Try.prog 47 i47 := ⟨by kernel_rfl, by kernel_rfl, fun _ => by kernel_rfl⟩
def i48 : TI := ⟨.func, 1, 8, .nilfunc, true⟩
theorem ok48 : TyOk Try.prog 48 i48 := ⟨by kernel_rfl, by kernel_rfl, fun _ => by kernel_rfl⟩
def i49 : TI := ⟨.func, 1, 8, .nilfunc, true⟩
theorem ok49 : TyOk Try.prog 49 i49 := ⟨by kernel_rfl, by kernel_rfl, fun _ => by kernel_rfl⟩
def i50 : TI := ⟨.func, 1, 8, .nilfunc, true⟩
theorem ok50 : TyOk Try.prog 50 i50 := ⟨by kernel_rfl, by kernel_rfl, fun _ => by kernel_rfl⟩
def i51 : TI := ⟨.struct [(2, 0), (3, 1), (22, 2), (22, 3)], 4, 64, .agg [.int .i64 0, .int .i64 0, .nilslice, .nilslice], true⟩
theorem ok51 : TyOk Try.prog 51 i51 := ⟨by kernel_rfl, by kernel_rfl, fun _ => by kernel_rfl⟩
def i52 : TI := ⟨.struct [(2, 0), (3, 1), (22, 2), (22, 3)], 4, 64, .agg [.int .i64 0, .int .i64 0, .nilslice, .nilslice], true⟩
theorem ok52 : TyOk Try.prog 52 i52 := ⟨by kernel_rfl, by kernel_rfl, fun _ => by kernel_rfl⟩
def i53 : TI := ⟨.func, 1, 8, .nilfunc, true⟩
theorem ok53 : TyOk Try.prog 53 i53 := ⟨by kernel_rfl, by kernel_rfl, fun _ => by kernel_rfl⟩
def i54 : TI := ⟨.func, 1, 8, .nilfunc, true⟩
theorem ok54 : TyOk Try.prog 54 i54 := ⟨by kernel_rfl, by kernel_rfl, fun _ => by kernel_rfl⟩
def i55 : TI := ⟨.func, 1, 8, .nilfunc, true⟩
theorem ok55 : TyOk Try.prog 55 i55 := ⟨by kernel_rfl, by kernel_rfl, fun _ => by kernel_rfl⟩
def i56 : TI := ⟨.func, 1, 8, .nilfunc, true⟩
theorem ok56 : TyOk Try.prog 56 i56 := ⟨by kernel_rfl, by kernel_rfl, fun _ => by kernel_rfl⟩
def i57 : TI := ⟨.func, 1, 8, .nilfunc, true⟩
theorem ok57 : TyOk Try.prog 57 i57 := ⟨by kernel_rfl, by kernel_rfl, fun _ => by kernel_rfl⟩
def i58 : TI := ⟨.func, 1, 8, .nilfunc, true⟩
theorem ok58 : TyOk Try.prog 58 i58 := ⟨by kernel_rfl, by kernel_rfl, fun _ => by kernel_rfl⟩
def i59 : TI := ⟨.func, 1, 8, .nilfunc, true⟩
theorem ok59 : TyOk Try.prog 59 i59 := ⟨by kernel_rfl, by kernel_rfl, fun _ => by kernel_rfl⟩
def i60 : TI := ⟨.func, 1, 8, .nilfunc, true⟩
theorem ok60 : TyOk Try.prog 60 i60 := ⟨by kernel_rfl, by kernel_rfl, fun _ => by kernel_rfl⟩
def i61 : TI := ⟨.struct [(2, 0), (2, 1)], 2, 16, .agg [.int .i64 0, .int .i64 0], true⟩
theorem ok61 : TyOk Try.prog 61 i61 := ⟨by kernel_rfl, by kernel_rfl, fun _ => by kernel_rfl⟩
def i62 : TI := ⟨.struct [(2, 0), (2, 1)], 2, 16, .agg [.int .i64 0, .int .i64 0], true⟩
theorem ok62 : TyOk Try.prog 62 i62 := ⟨by kernel_rfl, by kernel_rfl, fun _ => by kernel_rfl⟩
def i63 : TI := ⟨.func, 1, 8, .nilfunc, true⟩
theorem ok63 : TyOk Try.prog 63 i63 := ⟨by kernel_rfl, by kernel_rfl, fun _ => by kernel_rfl⟩
def i64 : TI := ⟨.func, 1, 8, .nilfunc, true⟩
theorem ok64 : TyOk Try.prog 64 i64 := ⟨by kernel_rfl, by kernel_rfl, fun _ => by kernel_rfl⟩
def i65 : TI := ⟨.func, 1, 8, .nilfunc, true⟩
theorem ok65 : TyOk Try.prog 65 i65 := ⟨by kernel_rfl, by kernel_rfl, fun _ => by kernel_rfl⟩
def i66 : TI := ⟨.func, 1, 8, .nilfunc, true⟩
theorem ok66 : TyOk Try.prog 66 i66 := ⟨by kernel_rfl, by kernel_rfl, fun _ => by kernel_rfl⟩
def i67 : TI := ⟨.func, 1, 8, .nilfunc, true⟩
theorem ok67 : TyOk Try.prog 67 i67 := ⟨by kernel_rfl, by kernel_rfl, fun _ => by kernel_rfl⟩
def i69 : TI := ⟨.func, 1, 8, .nilfunc, true⟩
theorem ok69 : TyOk Try.prog 69 i69 := ⟨by kernel_rfl, by kernel_rfl, fun _ => by kernel_rfl⟩
def i70 : TI := ⟨.ptr, 1, 8, .nilptr, true⟩
theorem ok70 : TyOk Try.prog 70 i70 := ⟨by kernel_rfl, by kernel_rfl, fun _ => by kernel_rfl⟩
def i71 : TI := ⟨.struct [(41, 0)], 1, 24, .agg [.nilslice], true⟩
theorem ok71 : TyOk Try.prog 71 i71 := ⟨by kernel_rfl, by kernel_rfl, fun _ => by kernel_rfl⟩
def i72 : TI := ⟨.struct [(41, 0)], 1, 24, .agg [.nilslice], true⟩
theorem ok72 : TyOk Try.prog 72 i72 := ⟨by kernel_rfl, by kernel_rfl, fun _ => by kernel_rfl⟩
def i73 : TI := ⟨.func, 1, 8, .nilfunc, true⟩
theorem ok73 : TyOk Try.prog 73 i73 := ⟨by kernel_rfl, by kernel_rfl, fun _ => by kernel_rfl⟩
def i74 : TI := ⟨.func, 1, 8, .nilfunc, true⟩
theorem ok74 : TyOk Try.prog 74 i74 := ⟨by kernel_rfl, by kernel_rfl, fun _ => by kernel_rfl⟩
def i75 : TI := ⟨.arr 4 22, 4, 96, .agg [.nilslice, .nilslice, .nilslice, .nilslice], true⟩
theorem ok75 : TyOk Try.prog 75 i75 := ⟨by kernel_rfl, by kernel_rfl, fun _ => by kernel_rfl⟩
def i76 : TI := ⟨.func, 1, 8, .nilfunc, true⟩
theorem ok76 : TyOk Try.prog 76 i76 := ⟨by kernel_rfl, by kernel_rfl, fun _ => by kernel_rfl⟩
def i77 : TI := ⟨.func, 1, 8, .nilfunc, true⟩
theorem ok77 : TyOk Try.prog 77 i77 := ⟨by kernel_rfl, by kernel_rfl, fun _ => by kernel_rfl⟩
def i78 : TI := ⟨.slice 22, 1, 24, .nilslice, true⟩
theorem ok78 : TyOk Try.prog 78 i78 := ⟨by kernel_rfl, by kernel_rfl, fun _ => by kernel_rfl⟩
def i79 : TI := ⟨.int .u64, 1, 8, .int .u64 0, true⟩
theorem ok79 : TyOk Try.prog 79 i79 := ⟨by kernel_rfl, by kernel_rfl, fun _ => by kernel_rfl⟩
def i80 : TI := ⟨.int .u64, 1, 8, .int .u64 0, true⟩
theorem ok80 : TyOk Try.prog 80 i80 := ⟨by kernel_rfl, by kernel_rfl, fun _ => by kernel_rfl⟩
def i81 : TI := ⟨.func, 1, 8, .nilfunc, true⟩
theorem ok81 : TyOk Try.prog 81 i81 := ⟨by kernel_rfl, by kernel_rfl, fun _ => by kernel_rfl⟩
def i82 : TI := ⟨.func, 1, 8, .nilfunc, true⟩
theorem ok82 : TyOk Try.prog 82 i82 := ⟨by kernel_rfl, by kernel_rfl, fun _ => by kernel_rfl⟩
def i83 : TI := ⟨.func, 1, 8, .nilfunc, true⟩
theorem ok83 : TyOk Try.prog 83 i83 := ⟨by kernel_rfl, by kernel_rfl, fun _ => by kernel_rfl⟩
def i84 : TI := ⟨.func, 1, 8, .nilfunc, true⟩
theorem ok84 : TyOk Try.prog 84 i84 := ⟨by kernel_rfl, by kernel_rfl, fun _ => by kernel_rfl⟩
def i85 : TI := ⟨.func, 1, 8, .nilfunc, true⟩
theorem ok85 : TyOk Try.prog 85 i85 := ⟨by kernel_rfl, by kernel_rfl, fun _ => by kernel_rfl⟩
def i86 : TI := ⟨.func, 1, 8, .nilfunc, true⟩
theorem ok86 : TyOk Try.prog 86 i86 := ⟨by kernel_rfl, by kernel_rfl, fun _ => by kernel_rfl⟩
def i87 : TI := ⟨.func, 1, 8, .nilfunc, true⟩
theorem ok87 : TyOk Try.prog 87 i87 := ⟨by kernel_rfl, by kernel_rfl, fun _ => by kernel_rfl⟩
def i88 : TI := ⟨.struct [(17, 0), (17, 1), (17, 2), (9, 3)], 4, 40, .agg [.nilptr, .nilptr, .nilptr, .str ⟨#[]⟩], false⟩
theorem ok88 : TyOk Try.prog 88 i88 := ⟨by kernel_rfl, by kernel_rfl, fun h => by cases h⟩
def i89 : TI := ⟨.struct [(17, 0), (17, 1), (17, 2), (9, 3)], 4, 40, .agg [.nilptr, .nilptr, .nilptr, .str ⟨#[]⟩], false⟩
theorem ok89 : TyOk Try.prog 89 i89 := ⟨by kernel_rfl, by kernel_rfl, fun h => by cases h⟩
def i90 : TI := ⟨.arr 0 16, 0, 0, .agg [], true⟩
theorem ok90 : TyOk Try.prog 90 i90 := ⟨by kernel_rfl, by kernel_rfl, fun _ => by kernel_rfl⟩
def i91 : TI := ⟨.struct [(90, 0)], 0, 0, .agg [], false⟩
theorem ok91 : TyOk Try.prog 91 i91 := ⟨by kernel_rfl, by kernel_rfl, fun h => by cases h⟩
def i92 : TI := ⟨.struct [(90, 0)], 0, 0, .agg [], false⟩
theorem ok92 : TyOk Try.prog 92 i92 := ⟨by kernel_rfl, by kernel_rfl, fun h => by cases h⟩
def i93 : TI := ⟨.func, 1, 8, .nilfunc, true⟩
theorem ok93 : TyOk Try.prog 93 i93 := ⟨by kernel_rfl, by kernel_rfl, fun _ => by kernel_rfl⟩
def i94 : TI := ⟨.int .u32, 1, 4, .int .u32 0, true⟩
theorem ok94 : TyOk Try.prog 94 i94 := ⟨by kernel_rfl, by kernel_rfl, fun _ => by kernel_rfl⟩
def i95 : TI := ⟨.int .u8, 1, 1, .int .u8 0, true⟩
theorem ok95 : TyOk Try.prog 95 i95 := ⟨by kernel_rfl, by kernel_rfl, fun _ => by kernel_rfl⟩
def i96 : TI := ⟨.int .u8, 1, 1, .int .u8 0, true⟩
theorem ok96 : TyOk Try.prog 96 i96 := ⟨by kernel_rfl, by kernel_rfl, fun _ => by kernel_rfl⟩
def i97 : TI := ⟨.func, 1, 8, .nilfunc, true⟩
theorem ok97 : TyOk Try.prog 97 i97 := ⟨by kernel_rfl, by kernel_rfl, fun _ => by kernel_rfl⟩
def i98 : TI := ⟨.ptr, 1, 8, .nilptr, true⟩
theorem ok98 : TyOk Try.prog 98 i98 := ⟨by kernel_rfl, by kernel_rfl, fun _ => by kernel_rfl⟩
def i99 : TI := ⟨.int .i32, 1, 4, .int .i32 0, true⟩
theorem ok99 : TyOk Try.prog 99 i99 := ⟨by kernel_rfl, by kernel_rfl, fun _ => by kernel_rfl⟩
def i100 : TI := ⟨.int .i32, 1, 4, .int .i32 0, true⟩
theorem ok100 : TyOk Try.prog 100 i100 := ⟨by kernel_rfl, by kernel_rfl, fun _ => by kernel_rfl⟩
def i101 : TI := ⟨.struct [(12, 0), (12, 1), (94, 2), (95, 3), (5, 4), (5, 5), (96, 6), (97, 7), (98, 8), (99, 9), (100, 10)], 11, 48, .agg [.int .u64 0, .int .u64 0, .int .u32 0, .int .u8 0, .int .u8 0, .int .u8 0, .int .u8 0, .nilfunc, .nilptr, .int .i32 0, .int .i32 0], false⟩
theorem ok101 : TyOk Try.prog 101 i101 := ⟨by kernel_rfl, by kernel_rfl, fun h => by cases h⟩
def i102 : TI := ⟨.struct [(12, 0), (12, 1), (94, 2), (95, 3), (5, 4), (5, 5), (96, 6), (97, 7), (98, 8), (99, 9), (100, 10)], 11, 48, .agg [.int .u64 0, .int .u64 0, .int .u32 0, .int .u8 0, .int .u8 0, .int .u8 0, .int .u8 0, .nilfunc, .nilptr, .int .i32 0, .int .i32 0], false⟩
theorem ok102 : TyOk Try.prog 102 i102 := ⟨by kernel_rfl, by kernel_rfl, fun h => by cases h⟩
def tab : Tab := fun t => match t with
  | 1 => some i1
  | 2 => some i2
  | 3 => some i3
  | 4 => some i4
  | 5 => some i5
  | 6 => some i6
  | 7 => some i7
  | 8 => some i8
  | 9 => some i9
  | 10 => some i10
  | 11 => some i11
  | 12 => some i12
  | 13 => some i13
  | 14 => some i14
  | 15 => some i15
  | 16 => some i16
  | 17 => some i17
  | 18 => some i18
  | 19 => some i19
  | 20 => some i20
  | 21 => some i21
  | 22 => some i22
  | 23 => some i23
  | 24 => some i24
  | 25 => some i25
  | 26 => some i26
  | 27 => some i27
  | 28 => some i28
  | 29 => some i29
  | 30 => some i30
  | 31 => some i31
  | 32 => some i32
  | 33 => some i33
  | 34 => some i34
  | 35 => some i35
  | 37 => some i37
  | 38 => some i38
  | 39 => some i39
  | 40 => some i40
  | 41 => some i41
  | 42 => some i42
  | 43 => some i43
  | 45 => some i45
  | 46 => some i46
  | 47 => some i47
  | 48 => some i48
  | 49 => some i49
  | 50 => some i50
  | 51 => some i51
  | 52 => some i52
  | 53 => some i53
  | 54 => some i54
  | 55 => some i55
  | 56 => some i56
  | 57 => some i57
  | 58 => some i58
  | 59 => some i59
  | 60 => some i60
  | 61 => some i61
  | 62 => some i62
  | 63 => some i63
  | 64 => some i64
  | 65 => some i65
  | 66 => some i66
  | 67 => some i67
  | 69 => some i69
  | 70 => some i70
  | 71 => some i71
  | 72 => some i72
  | 73 => some i73
  | 74 => some i74
  | 75 => some i75
  | 76 => some i76
  | 77 => some i77
  | 78 => some i78
  | 79 => some i79
  | 80 => some i80
  | 81 => some i81
  | 82 => some i82
  | 83 => some i83
  | 84 => some i84
  | 85 => some i85
  | 86 => some i86
  | 87 => some i87
  | 88 => some i88
  | 89 => some i89
  | 90 => some i90
  | 91 => some i91
  | 92 => some i92
  | 93 => some i93
  | 94 => some i94
  | 95 => some i95
  | 96 => some i96
  | 97 => some i97
  | 98 => some i98
  | 99 => some i99
  | 100 => some i100
  | 101 => some i101
  | 102 => some i102
  | _ => none
theorem tab_ok : TabOk Try.prog tab := by
  intro t i h
  unfold tab at h
  split at h <;> cases h
  · exact ok1
  · exact ok2
  · exact ok3
  · exact ok4
  · exact ok5
  · exact ok6
  · exact ok7
  · exact ok8
  · exact ok9
  · exact ok10
  · exact ok11
  · exact ok12
  · exact ok13
  · exact ok14
  · exact ok15
  · exact ok16
  · exact ok17
  · exact ok18
  · exact ok19
  · exact ok20
  · exact ok21
  · exact ok22
  · exact ok23
  · exact ok24
  · exact ok25
  · exact ok26
  · exact ok27
  · exact ok28
  · exact ok29
  · exact ok30
  · exact ok31
  · exact ok32
  · exact ok33
  · exact ok34
  · exact ok35
  · exact ok37
  · exact ok38
  · exact ok39
  · exact ok40
  · exact ok41
  · exact ok42
  · exact ok43
  · exact ok45
  · exact ok46
  · exact ok47
  · exact ok48
  · exact ok49
  · exact ok50
  · exact ok51
  · exact ok52
  · exact ok53
  · exact ok54
  · exact ok55
  · exact ok56
  · exact ok57
  · exact ok58
  · exact ok59
  · exact ok60
  · exact ok61
  · exact ok62
  · exact ok63
  · exact ok64
  · exact ok65
  · exact ok66
  · exact ok67
  · exact ok69
  · exact ok70
  · exact ok71
  · exact ok72
  · exact ok73
  · exact ok74
  · exact ok75
  · exact ok76
  · exact ok77
  · exact ok78
  · exact ok79
  · exact ok80
  · exact ok81
  · exact ok82
  · exact ok83
  · exact ok84
  · exact ok85
  · exact ok86
  · exact ok87
  · exact ok88
  · exact ok89
  · exact ok90
  · exact ok91
  · exact ok92
  · exact ok93
  · exact ok94
  · exact ok95
  · exact ok96
  · exact ok97
  · exact ok98
  · exact ok99
  · exact ok100
  · exact ok101
  · exact ok102
@[simp] theorem tab1 : tab 1 = some ⟨.func, 1, 8, .nilfunc, true⟩ := nd rfl
@[simp] theorem tab2 : tab 2 = some ⟨.int .i64, 1, 8, .int .i64 0, true⟩ := nd rfl
@[simp] theorem tab3 : tab 3 = some ⟨.int .i64, 1, 8, .int .i64 0, true⟩ := nd rfl
@[simp] theorem tab4 : tab 4 = some ⟨.bool, 1, 1, .bool false, true⟩ := nd rfl
@[simp] theorem tab5 : tab 5 = some ⟨.int .u8, 1, 1, .int .u8 0, true⟩ := nd rfl
@[simp] theorem tab6 : tab 6 = some ⟨.int .u8, 1, 1, .int .u8 0, true⟩ := nd rfl
@[simp] theorem tab7 : tab 7 = some ⟨.struct [(2, 0), (3, 1), (4, 2), (6, 3)], 4, 24, .agg [.int .i64 0, .int .i64 0, .bool false, .int .u8 0], true⟩ := nd rfl
@[simp] theorem tab8 : tab 8 = some ⟨.struct [(2, 0), (3, 1), (4, 2), (6, 3)], 4, 24, .agg [.int .i64 0, .int .i64 0, .bool false, .int .u8 0], true⟩ := nd rfl
@[simp] theorem tab9 : tab 9 = some ⟨.str, 1, 16, .str ⟨#[]⟩, true⟩ := nd rfl
@[simp] theorem tab10 : tab 10 = some ⟨.str, 1, 16, .str ⟨#[]⟩, true⟩ := nd rfl
@[simp] theorem tab11 : tab 11 = some ⟨.str, 1, 16, .str ⟨#[]⟩, true⟩ := nd rfl
@[simp] theorem tab12 : tab 12 = some ⟨.int .u64, 1, 8, .int .u64 0, true⟩ := nd rfl
@[simp] theorem tab13 : tab 13 = some ⟨.struct [(9, 0), (12, 1)], 2, 24, .agg [.str ⟨#[]⟩, .int .u64 0], false⟩ := nd rfl
@[simp] theorem tab14 : tab 14 = some ⟨.struct [(9, 0), (12, 1)], 2, 24, .agg [.str ⟨#[]⟩, .int .u64 0], false⟩ := nd rfl
@[simp] theorem tab15 : tab 15 = some ⟨.ptr, 1, 8, .nilptr, true⟩ := nd rfl
@[simp] theorem tab16 : tab 16 = some ⟨.ptr, 1, 8, .nilptr, true⟩ := nd rfl
@[simp] theorem tab17 : tab 17 = some ⟨.ptr, 1, 8, .nilptr, true⟩ := nd rfl
@[simp] theorem tab18 : tab 18 = some ⟨.struct [(17, 0)], 1, 8, .agg [.nilptr], false⟩ := nd rfl
@[simp] theorem tab19 : tab 19 = some ⟨.struct [(17, 0)], 1, 8, .agg [.nilptr], false⟩ := nd rfl
@[simp] theorem tab20 : tab 20 = some ⟨.iface, 1, 16, .niliface, true⟩ := nd rfl
@[simp] theorem tab21 : tab 21 = some ⟨.int .i32, 1, 4, .int .i32 0, true⟩ := nd rfl
@[simp] theorem tab22 : tab 22 = some ⟨.slice 62, 1, 24, .nilslice, true⟩ := nd rfl
@[simp] theorem tab23 : tab 23 = some ⟨.slice 52, 1, 24, .nilslice, true⟩ := nd rfl
@[simp] theorem tab24 : tab 24 = some ⟨.struct [(2, 0), (22, 1), (23, 2)], 3, 56, .agg [.int .i64 0, .nilslice, .nilslice], true⟩ := nd rfl
@[simp] theorem tab25 : tab 25 = some ⟨.struct [(2, 0), (22, 1), (23, 2)], 3, 56, .agg [.int .i64 0, .nilslice, .nilslice], true⟩ := nd rfl
@[simp] theorem tab26 : tab 26 = some ⟨.int .i8, 1, 1, .int .i8 0, true⟩ := nd rfl
@[simp] theorem tab27 : tab 27 = some ⟨.arr 2 5, 2, 2, .agg [.int .u8 0, .int .u8 0], true⟩ := nd rfl
@[simp] theorem tab28 : tab 28 = some ⟨.func, 1, 8, .nilfunc, true⟩ := nd rfl
@[simp] theorem tab29 : tab 29 = some ⟨.func, 1, 8, .nilfunc, true⟩ := nd rfl
@[simp] theorem tab30 : tab 30 = some ⟨.func, 1, 8, .nilfunc, true⟩ := nd rfl
@[simp] theorem tab31 : tab 31 = some ⟨.slice 34, 1, 24, .nilslice, true⟩ := nd rfl
@[simp] theorem tab32 : tab 32 = some ⟨.func, 1, 8, .nilfunc, true⟩ := nd rfl
@[simp] theorem tab33 : tab 33 = some ⟨.struct [(2, 0), (2, 1), (22, 2), (22, 3), (22, 4), (22, 5)], 6, 112, .agg [.int .i64 0, .int .i64 0, .nilslice, .nilslice, .nilslice, .nilslice], true⟩ := nd rfl
@[simp] theorem tab34 : tab 34 = some ⟨.struct [(2, 0), (2, 1), (22, 2), (22, 3), (22, 4), (22, 5)], 6, 112, .agg [.int .i64 0, .int .i64 0, .nilslice, .nilslice, .nilslice, .nilslice], true⟩ := nd rfl
@[simp] theorem tab35 : tab 35 = some ⟨.func, 1, 8, .nilfunc, true⟩ := nd rfl
@[simp] theorem tab37 : tab 37 = some ⟨.func, 1, 8, .nilfunc, true⟩ := nd rfl
@[simp] theorem tab38 : tab 38 = some ⟨.func, 1, 8, .nilfunc, true⟩ := nd rfl
@[simp] theorem tab39 : tab 39 = some ⟨.func, 1, 8, .nilfunc, true⟩ := nd rfl
@[simp] theorem tab40 : tab 40 = some ⟨.int .u16, 1, 2, .int .u16 0, true⟩ := nd rfl
@[simp] theorem tab41 : tab 41 = some ⟨.slice 5, 1, 24, .nilslice, true⟩ := nd rfl
@[simp] theorem tab42 : tab 42 = some ⟨.func, 1, 8, .nilfunc, true⟩ := nd rfl
@[simp] theorem tab43 : tab 43 = some ⟨.int .i64, 1, 8, .int .i64 0, true⟩ := nd rfl
@[simp] theorem tab45 : tab 45 = some ⟨.func, 1, 8, .nilfunc, true⟩ := nd rfl
@[simp] theorem tab46 : tab 46 = some ⟨.func, 1, 8, .nilfunc, true⟩ := nd rfl
@[simp] theorem tab47 : tab 47 = some ⟨.func, 1, 8, .nilfunc, true⟩ := nd rfl
@[simp] theorem tab48 : tab 48 = some ⟨.func, 1, 8, .nilfunc, true⟩ := nd rfl
@[simp] theorem tab49 : tab 49 = some ⟨.func, 1, 8, .nilfunc, true⟩ := nd rfl
@[simp] theorem tab50 : tab 50 = some ⟨.func, 1, 8, .nilfunc, true⟩ := nd rfl
@[simp] theorem tab51 : tab 51 = some ⟨.struct [(2, 0), (3, 1), (22, 2), (22, 3)], 4, 64, .agg [.int .i64 0, .int .i64 0, .nilslice, .nilslice], true⟩ := nd rfl
@[simp] theorem tab52 : tab 52 = some ⟨.struct [(2, 0), (3, 1), (22, 2), (22, 3)], 4, 64, .agg [.int .i64 0, .int .i64 0, .nilslice, .nilslice], true⟩ := nd rfl
@[simp] theorem tab53 : tab 53 = some ⟨.func, 1, 8, .nilfunc, true⟩ := nd rfl
@[simp] theorem tab54 : tab 54 = some ⟨.func, 1, 8, .nilfunc, true⟩ := nd rfl
@[simp] theorem tab55 : tab 55 = some ⟨.func, 1, 8, .nilfunc, true⟩ := nd rfl
@[simp] theorem tab56 : tab 56 = some ⟨.func, 1, 8, .nilfunc, true⟩ := nd rfl
@[simp] theorem tab57 : tab 57 = some ⟨.func, 1, 8, .nilfunc, true⟩ := nd rfl
@[simp] theorem tab58 : tab 58 = some ⟨.func, 1, 8, .nilfunc, true⟩ := nd rfl
@[simp] theorem tab59 : tab 59 = some ⟨.func, 1, 8, .nilfunc, true⟩ := nd rfl
@[simp] theorem tab60 : tab 60 = some ⟨.func, 1, 8, .nilfunc, true⟩ := nd rfl
@[simp] theorem tab61 : tab 61 = some ⟨.struct [(2, 0), (2, 1)], 2, 16, .agg [.int .i64 0, .int .i64 0], true⟩ := nd rfl
@[simp] theorem tab62 : tab 62 = some ⟨.struct [(2, 0), (2, 1)], 2, 16, .agg [.int .i64 0, .int .i64 0], true⟩ := nd rfl
@[simp] theorem tab63 : tab 63 = some ⟨.func, 1, 8, .nilfunc, true⟩ := nd rfl
@[simp] theorem tab64 : tab 64 = some ⟨.func, 1, 8, .nilfunc, true⟩ := nd rfl
@[simp] theorem tab65 : tab 65 = some ⟨.func, 1, 8, .nilfunc, true⟩ := nd rfl
@[simp] theorem tab66 : tab 66 = some ⟨.func, 1, 8, .nilfunc, true⟩ := nd rfl
@[simp] theorem tab67 : tab 67 = some ⟨.func, 1, 8, .nilfunc, true⟩ := nd rfl
@[simp] theorem tab69 : tab 69 = some ⟨.func, 1, 8, .nilfunc, true⟩ := nd rfl
@[simp] theorem tab70 : tab 70 = some ⟨.ptr, 1, 8, .nilptr, true⟩ := nd rfl
@[simp] theorem tab71 : tab 71 = some ⟨.struct [(41, 0)], 1, 24, .agg [.nilslice], true⟩ := nd rfl
@[simp] theorem tab72 : tab 72 = some ⟨.struct [(41, 0)], 1, 24, .agg [.nilslice], true⟩ := nd rfl
@[simp] theorem tab73 : tab 73 = some ⟨.func, 1, 8, .nilfunc, true⟩ := nd rfl
@[simp] theorem tab74 : tab 74 = some ⟨.func, 1, 8, .nilfunc, true⟩ := nd rfl
@[simp] theorem tab75 : tab 75 = some ⟨.arr 4 22, 4, 96, .agg [.nilslice, .nilslice, .nilslice, .nilslice], true⟩ := nd rfl
@[simp] theorem tab76 : tab 76 = some ⟨.func, 1, 8, .nilfunc, true⟩ := nd rfl
@[simp] theorem tab77 : tab 77 = some ⟨.func, 1, 8, .nilfunc, true⟩ := nd rfl
@[simp] theorem tab78 : tab 78 = some ⟨.slice 22, 1, 24, .nilslice, true⟩ := nd rfl
@[simp] theorem tab79 : tab 79 = some ⟨.int .u64, 1, 8, .int .u64 0, true⟩ := nd rfl
@[simp] theorem tab80 : tab 80 = some ⟨.int .u64, 1, 8, .int .u64 0, true⟩ := nd rfl
@[simp] theorem tab81 : tab 81 = some ⟨.func, 1, 8, .nilfunc, true⟩ := nd rfl
@[simp] theorem tab82 : tab 82 = some ⟨.func, 1, 8, .nilfunc, true⟩ := nd rfl
@[simp] theorem tab83 : tab 83 = some ⟨.func, 1, 8, .nilfunc, true⟩ := nd rfl
@[simp] theorem tab84 : tab 84 = some ⟨.func, 1, 8, .nilfunc, true⟩ := nd rfl
@[simp] theorem tab85 : tab 85 = some ⟨.func, 1, 8, .nilfunc, true⟩ := nd rfl
@[simp] theorem tab86 : tab 86 = some ⟨.func, 1, 8, .nilfunc, true⟩ := nd rfl
@[simp] theorem tab87 : tab 87 = some ⟨.func, 1, 8, .nilfunc, true⟩ := nd rfl
@[simp] theorem tab88 : tab 88 = some ⟨.struct [(17, 0), (17, 1), (17, 2), (9, 3)], 4, 40, .agg [.nilptr, .nilptr, .nilptr, .str ⟨#[]⟩], false⟩ := nd rfl
@[simp] theorem tab89 : tab 89 = some ⟨.struct [(17, 0), (17, 1), (17, 2), (9, 3)], 4, 40, .agg [.nilptr, .nilptr, .nilptr, .str ⟨#[]⟩], false⟩ := nd rfl
@[simp] theorem tab90 : tab 90 = some ⟨.arr 0 16, 0, 0, .agg [], true⟩ := nd rfl
@[simp] theorem tab91 : tab 91 = some ⟨.struct [(90, 0)], 0, 0, .agg [], false⟩ := nd rfl
@[simp] theorem tab92 : tab 92 = some ⟨.struct [(90, 0)], 0, 0, .agg [], false⟩ := nd rfl
@[simp] theorem tab93 : tab 93 = some ⟨.func, 1, 8, .nilfunc, true⟩ := nd rfl
@[simp] theorem tab94 : tab 94 = some ⟨.int .u32, 1, 4, .int .u32 0, true⟩ := nd rfl
@[simp] theorem tab95 : tab 95 = some ⟨.int .u8, 1, 1, .int .u8 0, true⟩ := nd rfl
@[simp] theorem tab96 : tab 96 = some ⟨.int .u8, 1, 1, .int .u8 0, true⟩ := nd rfl
@[simp] theorem tab97 : tab 97 = some ⟨.func, 1, 8, .nilfunc, true⟩ := nd rfl
@[simp] theorem tab98 : tab 98 = some ⟨.ptr, 1, 8, .nilptr, true⟩ := nd rfl
@[simp] theorem tab99 : tab 99 = some ⟨.int .i32, 1, 4, .int .i32 0, true⟩ := nd rfl
@[simp] theorem tab100 : tab 100 = some ⟨.int .i32, 1, 4, .int .i32 0, true⟩ := nd rfl
@[simp] theorem tab101 : tab 101 = some ⟨.struct [(12, 0), (12, 1), (94, 2), (95, 3), (5, 4), (5, 5), (96, 6), (97, 7), (98, 8), (99, 9), (100, 10)], 11, 48, .agg [.int .u64 0, .int .u64 0, .int .u32 0, .int .u8 0, .int .u8 0, .int .u8 0, .int .u8 0, .nilfunc, .nilptr, .int .i32 0, .int .i32 0], false⟩ := nd rfl
@[simp] theorem tab102 : tab 102 = some ⟨.struct [(12, 0), (12, 1), (94, 2), (95, 3), (5, 4), (5, 5), (96, 6), (97, 7), (98, 8), (99, 9), (100, 10)], 11, 48, .agg [.int .u64 0, .int .u64 0, .int .u32 0, .int .u8 0, .int .u8 0, .int .u8 0, .int .u8 0, .nilfunc, .nilptr, .int .i32 0, .int .i32 0], false⟩ := nd rfl
end Go.Proofs.Ythgamdcnomoidaa.Arm

namespace Go.Proofs.Ythgamdcnomoidaa.Arm
open Go.Arm

noncomputable def E : Env := ⟨Try.prog, tab, fun _ => none⟩
@[simp] theorem E_T : E.T = tab := rfl
@[simp] theorem E_G (g : Nat) : E.Γ g = none := rfl
theorem mixed : E.P.follows .mixedOrders = true := by kernel_rfl

def iv (p : Int × Int) : AV := .agg [.int .i64 p.1, .int .i64 p.2]
@[simp] theorem iv_eq (p : Int × Int) : iv p = .agg [.int .i64 p.1, .int .i64 p.2] := rfl
def numB (a : Int) : Bool := decide (-2147483648 < a) && decide (a < 2147483648)
def entB (p : Int × Int) : Bool := p.1 == -2147483648 && p.2 == 2147483648
def ivB (p : Int × Int) : Bool := entB p || (numB p.1 && numB p.2 && decide (p.1 ≤ p.2))

theorem s43 (a : Int) (H : AH) : Sound E 43 [.int .i64 a] H (.ret (.bool (numB a))) H := by
  refine sound_of_awp tab_ok mixed Try.func43 rfl (by rfl) Try.ntmps43 (by kernel_rfl) (by simp) ?_
  simp
  refine gateT (fun h => ?_) (fun h => ?_)
  all_goals
    simp [h]
    exact fin0 (rs := [.tmp 2]) (by rfl) (by simp [resA, numB, h])
theorem s38 (a : Int) (H : AH) : Sound E 38 [.int .i64 a] H (.ret (.bool (numB a))) H := by
  refine sound_of_awp tab_ok mixed Try.func38 rfl (by rfl) Try.ntmps38 (by kernel_rfl) (by simp) ?_
  simp
  refine gateT (fun h => ?_) (fun h => ?_)
  all_goals
    simp [h]
    exact fin0 (rs := [.tmp 2]) (by rfl) (by simp [resA, numB, h])
theorem s40 (a : Int) (H : AH) : Sound E 40 [.int .i64 a] H (.ret (.bool (numB a))) H := by
  refine sound_of_awp tab_ok mixed Try.func40 rfl (by rfl) Try.ntmps40 (by kernel_rfl) (by simp) ?_
  simp
  refine gateT (fun h => ?_) (fun h => ?_)
  all_goals
    simp [h]
    exact fin0 (rs := [.tmp 2]) (by rfl) (by simp [resA, numB, h])
theorem s31 (a : Int) (H : AH) : Sound E 31 [.int .i64 a] H (.ret (.bool (decide (0 ≤ a) && decide (a < 8)))) H := by
  refine sound_of_awp tab_ok mixed Try.func31 rfl (by rfl) Try.ntmps31 (by kernel_rfl) (by simp) ?_
  simp
  refine gateT (fun h => ?_) (fun h => ?_)
  all_goals
    simp [h]
    exact fin0 (rs := [.tmp 2]) (by rfl) (by simp [resA, h])
theorem s60 (H : AH) : Sound E 60 [] H (.ret (iv (-2147483648, 2147483648))) H := by
  refine sound_of_awp tab_ok mixed Try.func60 rfl (by rfl) Try.ntmps60 (by kernel_rfl) (by simp) ?_
  simp
  exact fin1 (rs := [.cell 0 62]) (by rfl) (by simp [resA]) (by simp [noF, noFs])
theorem s46 (H : AH) : Sound E 46 [] H (.ret (iv (-2147483648, 2147483648))) H := by
  refine sound_of_awp tab_ok mixed Try.func46 rfl (by rfl) Try.ntmps46 (by kernel_rfl) (by simp) ?_
  simp
  exact fin1 (rs := [.cell 0 62]) (by rfl) (by simp [resA]) (by simp [noF, noFs])
theorem s29 (p : Int × Int) (H : AH) : Sound E 29 [iv p] H (.ret (.bool (entB p))) H := by
  refine sound_of_awp tab_ok mixed Try.func29 rfl (by rfl) Try.ntmps29 (by kernel_rfl) (by simp) ?_
  simp
  refine gateT (fun h => ?_) (fun h => ?_)
  all_goals
    simp [h]
    exact fin1 (rs := [.tmp 2]) (by rfl) (by simp [resA, entB, h]) (by simp [noF])
theorem s50 (p : Int × Int) (H : AH) : Sound E 50 [iv p] H (.ret (.bool (ivB p))) H := by
  refine sound_of_awp tab_ok mixed Try.func50 rfl (by rfl) Try.ntmps50 (by kernel_rfl) (by simp) ?_
  simp
  refine call_ret (s29 p _) ?_
  simp
  refine gateF (fun h => ?_) (fun h => ?_)
  · simp [h]
    refine call_ret (s38 _ _) ?_
    simp [h]
    refine gateT (fun h2 => ?_) (fun h2 => ?_)
    · simp [h, h2]
      refine call_ret (s38 _ _) ?_
      simp [h, h2]
      refine gateT (fun h3 => ?_) (fun h3 => ?_)
      all_goals
        simp [h, h2, h3]
        exact fin1 (rs := [.tmp 2]) (by rfl) (by simp [resA, ivB, h, h2, h3]) (by simp [noF])
    · simp [h, h2]
      exact fin1 (rs := [.tmp 2]) (by rfl) (by simp [resA, ivB, h, h2]) (by simp [noF])
  · simp [h]
    exact fin1 (rs := [.tmp 2]) (by rfl) (by simp [resA, ivB, h]) (by simp [noF])
@[simp] theorem bin_iv (H : AH) (a b c d : Int) (z : Bool) : binOpA tab H .eql 62 (.agg [.int .i64 a, .int .i64 b]) (.agg [.int .i64 c, .int .i64 d]) z = some (.bool (a == c && b == d), H) := by
  simp [binOpA, binA, eqA, eqFs, nilI]
  by_cases h : a = c <;> by_cases h2 : b = d <;> simp [h, h2]
@[simp] theorem bin_iv_ne (H : AH) (a b c d : Int) (z : Bool) : binOpA tab H .neq 62 (.agg [.int .i64 a, .int .i64 b]) (.agg [.int .i64 c, .int .i64 d]) z = some (.bool (!(a == c && b == d)), H) := by
  simp [binOpA, binA, eqA, eqFs, nilI]
  by_cases h : a = c <;> by_cases h2 : b = d <;> simp [h, h2]
theorem s58 (p : Int × Int) (H : AH) : Sound E 58 [iv p] H (.ret (.bool (entB p))) H := by
  refine sound_of_awp tab_ok mixed Try.func58 rfl (by rfl) Try.ntmps58 (by kernel_rfl) (by simp) ?_
  simp
  refine callD_ret (fun Hx => s60 Hx) ?_
  simp
  refine endD [] (by rfl) (by simp [okW, note, Eff.triv, Eff.wr, Eff.none]) ?_
  simp
  exact fin1 (rs := [.tmp 2]) (by rfl) (by simp [resA, entB]) (by simp [noF])
theorem s52 (p : Int × Int) (H : AH) : Sound E 52 [iv p] H (.ret (.bool (ivB p))) H := by
  refine sound_of_awp tab_ok mixed Try.func52 rfl (by rfl) Try.ntmps52 (by kernel_rfl) (by simp) ?_
  simp
  refine call_ret (s58 p _) ?_
  simp
  refine gateF (fun h => ?_) (fun h => ?_)
  · simp [h]
    refine call_ret (s43 _ _) ?_
    simp [h]
    refine gateT (fun h2 => ?_) (fun h2 => ?_)
    · simp [h, h2]
      refine call_ret (s43 _ _) ?_
      simp [h, h2]
      refine gateT (fun h3 => ?_) (fun h3 => ?_)
      all_goals
        simp [h, h2, h3]
        exact fin1 (rs := [.tmp 2]) (by rfl) (by simp [resA, ivB, h, h2, h3]) (by simp [noF])
    · simp [h, h2]
      exact fin1 (rs := [.tmp 2]) (by rfl) (by simp [resA, ivB, h, h2]) (by simp [noF])
  · simp [h]
    exact fin1 (rs := [.tmp 2]) (by rfl) (by simp [resA, ivB, h]) (by simp [noF])

def L39 (b : List (Int × Int)) (H : AH) (i : Nat) (fr : AFr) (H' : AH) : Prop :=
  fr 0 = .slice (b.map iv) false ∧ fr 3 = .int .i64 i ∧ (∃ J, H' = H ++ J) ∧ i ≤ b.length ∧ (b.take i).all ivB = true
def boxB (b : List (Int × Int)) : Bool := b.all ivB && decide (1 ≤ b.length) && decide (b.length ≤ 6)
theorem all_take {α : Type} {p : α → Bool} {l : List α} {i : Nat} {x : α} (h : (l.take i).all p = true) (hx : l[i]? = some x) (hp : p x = true) : (l.take (i + 1)).all p = true := by
  rw [List.take_add_one, hx]; simp only [List.all_append, h]; simpa using hp
theorem all_end {α : Type} {p : α → Bool} {l : List α} {i : Nat} (h : (l.take i).all p = true) (hi : ¬ i < l.length) : l.all p = true := by
  rwa [List.take_of_length_le (by omega)] at h
theorem all_not {α : Type} {p : α → Bool} {l : List α} {i : Nat} {x : α} (hx : l[i]? = some x) (hp : p x = false) : l.all p = false := by
  rw [List.all_eq_false]; exact ⟨x, List.mem_of_getElem? hx, by simp [hp]⟩

theorem s39 (b : List (Int × Int)) (hb : b.length ≤ 9223372036854775807) (H : AH) : Sound E 39 [.slice (b.map iv) false] H (.ret (.bool (boxB b))) H := by
  refine sound_of_awp tab_ok mixed Try.func39 rfl (by rfl) Try.ntmps39 (by kernel_rfl) (by simp) ?_
  simp
  refine loop_count (L39 b H) (fun i => b.length - i) 0 ⟨by simp, by simp, ⟨[], by simp⟩, by simp, by simp⟩ ?_
  rintro i fr H' ⟨h0, h3, ⟨J, rfl⟩, hi, hall⟩
  simp [h0, h3]
  refine branch (fun hc => ?_) (fun hc => ?_)
  · simp at hc
    obtain ⟨p, hp⟩ := get_lt hc
    simp [h0, h3, hp]
    refine call_ret (s50 p _) ?_
    simp [h0, h3, hp]
    refine branch (fun hv => ?_) (fun hv => ?_)
    · simp
      simp at hv
      exact fin1 (rs := [.tmp 2]) (by rfl) (by simp [resA, boxB, all_not hp hv]) (by simp [noF])
    · simp (disch := omega) [h0, h3, wrap64]
      simp at hv
      exact ⟨i + 1, by dsimp only; omega, by simp [h0], by simp, ⟨_, rfl⟩, by omega, all_take hall hp hv⟩
  · simp at hc
    simp [h0, h3]
    have hb := all_end hall (by omega)
    refine gateT (fun h => ?_) (fun h => ?_)
    all_goals
      simp [h, h0]
      exact fin1 (rs := [.tmp 2]) (by rfl) (by simp at h; simp [resA]; rw [Bool.eq_iff_iff]; simp [boxB, hb]; omega) (by simp [noF])
end Go.Proofs.Ythgamdcnomoidaa.Arm

namespace Go.Proofs.Ythgamdcnomoidaa.Arm
open Go.Arm

theorem take_step {α : Type} {a b : List α} {i : Nat} {x : α} (h : a.take i = b.take i) (hx : a[i]? = some x) (hy : b[i]? = some x) : a.take (i + 1) = b.take (i + 1) := by
  rw [List.take_add_one, List.take_add_one, hx, hy, h]
theorem take_end {α : Type} {a b : List α} {i : Nat} (h : a.take i = b.take i) (hl : a.length = b.length) (hi : ¬ i < a.length) : a = b := by
  rwa [List.take_of_length_le (by omega), List.take_of_length_le (by omega)] at h
theorem get_ne {α : Type} {a b : List α} {i : Nat} {x y : α} (hx : a[i]? = some x) (hy : b[i]? = some y) (h : x ≠ y) : a ≠ b := by
  rintro rfl; rw [hx] at hy; cases hy; exact h rfl

def u8 (x : Int) : AV := .int .u8 x
@[simp] theorem u8_eq (x : Int) : u8 x = .int .u8 x := rfl

def L24 (a b : List (Int × Int)) (H : AH) (i : Nat) (fr : AFr) (H' : AH) : Prop :=
  fr 0 = .slice (a.map iv) false ∧ fr 1 = .slice (b.map iv) false ∧ fr 5 = .int .i64 i ∧ (∃ J, H' = H ++ J) ∧ i ≤ a.length ∧ a.take i = b.take i
theorem s24 (a b : List (Int × Int)) (ha : a.length ≤ 9223372036854775807) (H : AH) : Sound E 24 [.slice (a.map iv) false, .slice (b.map iv) false] H (.ret (.bool (decide (a = b)))) H := by
  refine sound_of_awp tab_ok mixed Try.func24 rfl (by rfl) Try.ntmps24 (by kernel_rfl) (by simp) ?_
  simp
  refine branch (fun hc => ?_) (fun hc => ?_)
  · simp
    simp at hc
    exact fin0 (rs := [.tmp 4]) (by rfl) (by simp [resA]; rintro rfl; exact hc rfl)
  simp
  simp at hc
  refine loop_count (L24 a b H) (fun i => a.length - i) 0 ⟨by simp, by simp, by simp, ⟨[], by simp⟩, by simp, by simp⟩ ?_
  rintro i fr H' ⟨h0, h1, h5, ⟨J, rfl⟩, hi, heq⟩
  simp [h0, h5]
  refine branch (fun hl => ?_) (fun hl => ?_)
  · simp at hl
    obtain ⟨p, hp⟩ := get_lt hl
    obtain ⟨q, hq⟩ := get_lt (l := b) (i := i) (by omega)
    simp [h0, h1, h5, hp, hq]
    refine endD [] (by rfl) (by simp [okW, note, Eff.triv, Eff.wr, Eff.none, h0, h1]) ?_
    simp
    refine branch (fun hv => ?_) (fun hv => ?_)
    · simp
      simp at hv
      exact fin1 (rs := [.tmp 4]) (by rfl) (by simp [resA]; exact get_ne hp hq (fun e => by rw [e] at hv; simp at hv)) (by simp [noF])
    · simp (disch := omega) [h5, wrap64]
      simp at hv
      have : p = q := Prod.ext hv.1 hv.2
      subst this
      exact ⟨i + 1, by dsimp only; omega, by simp [h0], by simp [h1], by simp, ⟨_, rfl⟩, by omega, take_step heq hp hq⟩
  · simp at hl
    simp
    exact fin1 (rs := [.tmp 4]) (by rfl) (by simp [resA]; exact take_end heq (by omega) (by omega)) (by simp [noF])

def L32 (a b : List (Int × Int)) (H : AH) (i : Nat) (fr : AFr) (H' : AH) : Prop :=
  fr 0 = .slice (a.map iv) false ∧ fr 1 = .slice (b.map iv) false ∧ fr 12 = .int .i64 a.length ∧ fr 13 = .int .i64 i ∧ (∃ J, H' = H ++ J) ∧ i ≤ a.length ∧ a.take i = b.take i
theorem s32 (a b : List (Int × Int)) (ha : a.length ≤ 9223372036854775807) (H : AH) : Sound E 32 [.slice (a.map iv) false, .slice (b.map iv) false] H (.ret (.bool (decide (a = b)))) H := by
  refine sound_of_awp tab_ok mixed Try.func32 rfl (by rfl) Try.ntmps32 (by kernel_rfl) (by simp) ?_
  simp
  refine branch (fun hc => ?_) (fun hc => ?_)
  · simp
    simp at hc
    exact fin0 (rs := [.tmp 4]) (by rfl) (by simp [resA]; rintro rfl; exact hc rfl)
  simp
  simp at hc
  refine loop_count (L32 a b H) (fun i => a.length - i) 0 ⟨by simp, by simp, by simp, by simp, ⟨[], by simp⟩, by simp, by simp⟩ ?_
  rintro i fr H' ⟨h0, h1, h12, h13, ⟨J, rfl⟩, hi, heq⟩
  simp [h12, h13]
  refine branch (fun hl => ?_) (fun hl => ?_)
  · simp at hl
    obtain ⟨p, hp⟩ := get_lt hl
    obtain ⟨q, hq⟩ := get_lt (l := b) (i := i) (by omega)
    simp [h0, h1, h13, hp, hq]
    refine endD [] (by rfl) (by simp [okW, note, Eff.triv, Eff.wr, Eff.none, h0, h1]) ?_
    simp
    refine branch (fun hv => ?_) (fun hv => ?_)
    · simp
      simp at hv
      exact fin1 (rs := [.tmp 4]) (by rfl) (by simp [resA]; exact get_ne hp hq (fun e => by rw [e] at hv; simp at hv)) (by simp [noF])
    · simp (disch := omega) [h13, wrap64]
      simp at hv
      have : p = q := Prod.ext hv.1 hv.2
      subst this
      exact ⟨i + 1, by dsimp only; omega, by simp [h0], by simp [h1], by simp [h12], by simp, ⟨_, rfl⟩, by omega, take_step heq hp hq⟩
  · simp at hl
    simp
    exact fin1 (rs := [.tmp 4]) (by rfl) (by simp [resA]; exact take_end heq (by omega) (by omega)) (by simp [noF])

def L19 (a b : List Int) (H : AH) (i : Nat) (fr : AFr) (H' : AH) : Prop :=
  fr 0 = .slice (a.map u8) false ∧ fr 1 = .slice (b.map u8) false ∧ fr 5 = .int .i64 i ∧ (∃ J, H' = H ++ J) ∧ i ≤ a.length ∧ a.take i = b.take i
theorem s19 (a b : List Int) (ha : a.length ≤ 9223372036854775807) (H : AH) : Sound E 19 [.slice (a.map u8) false, .slice (b.map u8) false] H (.ret (.bool (decide (a = b)))) H := by
  refine sound_of_awp tab_ok mixed Try.func19 rfl (by rfl) Try.ntmps19 (by kernel_rfl) (by simp) ?_
  simp
  refine branch (fun hc => ?_) (fun hc => ?_)
  · simp
    simp at hc
    exact fin0 (rs := [.tmp 4]) (by rfl) (by simp [resA]; rintro rfl; exact hc rfl)
  simp
  simp at hc
  refine loop_count (L19 a b H) (fun i => a.length - i) 0 ⟨by simp, by simp, by simp, ⟨[], by simp⟩, by simp, by simp⟩ ?_
  rintro i fr H' ⟨h0, h1, h5, ⟨J, rfl⟩, hi, heq⟩
  simp [h0, h5]
  refine branch (fun hl => ?_) (fun hl => ?_)
  · simp at hl
    obtain ⟨p, hp⟩ := get_lt hl
    obtain ⟨q, hq⟩ := get_lt (l := b) (i := i) (by omega)
    simp [h0, h1, h5, hp, hq]
    refine endD [] (by rfl) (by simp [okW, note, Eff.triv, Eff.wr, Eff.none, h0, h1]) ?_
    simp
    refine branch (fun hv => ?_) (fun hv => ?_)
    · simp
      simp at hv
      exact fin1 (rs := [.tmp 4]) (by rfl) (by simp [resA]; exact get_ne hp hq hv) (by simp [noF])
    · simp (disch := omega) [h5, wrap64]
      simp at hv
      subst hv
      exact ⟨i + 1, by dsimp only; omega, by simp [h0], by simp [h1], by simp, ⟨_, rfl⟩, by omega, take_step heq hp hq⟩
  · simp at hl
    simp
    exact fin1 (rs := [.tmp 4]) (by rfl) (by simp [resA]; exact take_end heq (by omega) (by omega)) (by simp [noF])
end Go.Proofs.Ythgamdcnomoidaa.Arm

namespace Go.Proofs.Ythgamdcnomoidaa.Arm
open Go.Arm

theorem s11 (n : Int) (h0 : 0 ≤ n) (h1 : n ≤ 255) (H : AH) : Sound E 11 [.int .u8 n] H (.ret (.int .i64 (1 + n % 3))) H := by
  refine sound_of_awp tab_ok mixed Try.func11 rfl (by rfl) Try.ntmps11 (by kernel_rfl) (by simp) ?_
  have h2 : n.tmod 3 = n % 3 := Int.tmod_eq_emod_of_nonneg h0
  simp (disch := omega) [wrap64, h2]
  exact fin0 (rs := [.tmp 2]) (by rfl) (by simp [resA])

def smallIv (p : Int × Int) : Int × Int :=
  (if p.2.tmod 16777216 < p.1.tmod 16777216 then p.2.tmod 16777216 else p.1.tmod 16777216, if p.1.tmod 16777216 < p.2.tmod 16777216 then p.2.tmod 16777216 else p.1.tmod 16777216)
def and31 (n : Int) : Int := andA .i64 n 31
def madeIv (p : Int × Int) : Int × Int := if ivB p then p else if and31 p.1 == 7 then (-2147483648, 2147483648) else smallIv p

theorem tmod24 (n : Int) : -16777216 < n.tmod 16777216 ∧ n.tmod 16777216 < 16777216 :=
  ⟨by have := Int.lt_tmod_of_pos n (b := 16777216) (by omega); omega, Int.tmod_lt_of_pos n (by omega)⟩
theorem small_ok {x y : Int} (hx : -16777216 < x ∧ x < 16777216) (hy : -16777216 < y ∧ y < 16777216) :
    ((-2147483648 < (if y < x then y else x) ∧ (if y < x then y else x) < 2147483648) ∧ -2147483648 < (if x < y then y else x) ∧ (if x < y then y else x) < 2147483648) ∧ (if y < x then y else x) ≤ if x < y then y else x := by
  by_cases h1 : x < y <;> by_cases h2 : y < x <;> simp only [h1, h2, if_true, if_false] <;> omega
theorem ivB_of {x y : Int} (h : ((-2147483648 < x ∧ x < 2147483648) ∧ -2147483648 < y ∧ y < 2147483648) ∧ x ≤ y) : ivB (x, y) = true := by
  simp only [ivB, numB, Bool.or_eq_true, Bool.and_eq_true, decide_eq_true_eq]
  exact .inr h
theorem madeIv_ok (p : Int × Int) : ivB (madeIv p) = true := by
  unfold madeIv
  split
  · assumption
  · split
    · rfl
    · exact ivB_of (small_ok (tmod24 p.1) (tmod24 p.2))

theorem s55 (p : Int × Int) (H : AH) : Sound E 55 [iv p] H (.ret (iv (smallIv p))) H := by
  refine sound_of_awp tab_ok mixed Try.func55 rfl (by rfl) Try.ntmps55 (by kernel_rfl) (by simp) ?_
  simp
  refine endD [] (by rfl) (by simp [okW, note, Eff.triv, Eff.wr, Eff.none]) ?_
  simp
  exact fin1 (rs := [.cell 2 62]) (by rfl) (by simp [resA, smallIv]) (by simp [noF, noFs])

theorem s45 (p : Int × Int) (H : AH) : Sound E 45 [iv p] H (.ret (iv (madeIv p))) H := by
  refine sound_of_awp tab_ok mixed Try.func45 rfl (by rfl) Try.ntmps45 (by kernel_rfl) (by simp) ?_
  simp
  refine call_ret (s50 p _) ?_
  simp
  refine branch (fun h => ?_) (fun h => ?_)
  · simp
    exact fin1 (rs := [.cell 2 62]) (by rfl) (by simp [resA, madeIv, h]) (by simp [noF, noFs])
  · simp
    refine branch (fun h2 => ?_) (fun h2 => ?_)
    · simp
      refine call_ret (s46 _) ?_
      simp
      exact fin1 (rs := [.cell 2 62]) (by rfl) (by simp [resA, madeIv, h, and31, h2]) (by simp [noF, noFs])
    · simp
      refine call_ret (s55 p _) ?_
      simp
      exact fin1 (rs := [.cell 2 62]) (by rfl) (by simp [resA, madeIv, h, and31, h2]) (by simp [noF, noFs])

def newIv (a b : Int) : Int × Int := if numB a && numB b then (a, b) else (-2147483648, 2147483648)
theorem s30 (a b : Int) (H : AH) : Sound E 30 [.int .i64 a, .int .i64 b] H (.ret (iv (newIv a b))) H := by
  refine sound_of_awp tab_ok mixed Try.func30 rfl (by rfl) Try.ntmps30 (by kernel_rfl) (by simp) ?_
  simp
  refine call_ret (s38 a _) ?_
  simp
  refine gateF (fun h => ?_) (fun h => ?_)
  · simp [h]
    refine call_ret (s38 b _) ?_
    simp [h]
    refine branch (fun h2 => ?_) (fun h2 => ?_)
    · simp
      refine call_ret (s46 _) ?_
      simp
      simp at h h2
      exact fin1 (rs := [.cell 4 62]) (by rfl) (by simp [resA, newIv, h, h2]) (by simp [noF, noFs])
    · simp
      simp at h h2
      exact fin1 (rs := [.cell 4 62]) (by rfl) (by simp [resA, newIv, h, h2]) (by simp [noF, noFs])
  · simp [h]
    refine call_ret (s46 _) ?_
    simp
    simp at h
    exact fin1 (rs := [.cell 4 62]) (by rfl) (by simp [resA, newIv, h]) (by simp [noF, noFs])

theorem s51 (p : Int × Int) (H : AH) : Sound E 51 [iv p] H (.ret (.bool (!ivB p))) H := by
  refine sound_of_awp tab_ok mixed Try.func51 rfl (by rfl) Try.ntmps51 (by kernel_rfl) (by simp) ?_
  simp
  refine call_ret (s52 p _) ?_
  simp
  exact fin1 (rs := [.tmp 2]) (by rfl) (by simp [resA]) (by simp [noF])

def L59 (b : List (Int × Int)) (g : Nat) (H : AH) (i : Nat) (fr : AFr) (H' : AH) : Prop :=
  fr 0 = .slice (b.map iv) false ∧ fr 1 = .func (.func g) [] [] ∧ fr 7 = .int .i64 b.length ∧ fr 8 = .int .i64 i ∧ (∃ J, H' = H ++ J) ∧ i ≤ b.length
def idx (f : Int × Int → Bool) (b : List (Int × Int)) (r : Int) : Prop := (0 ≤ r ↔ b.any f = true)
def N59 (b : List (Int × Int)) (f : Int × Int → Bool) (i : Nat) : Prop := ∀ j x, j < i → b[j]? = some x → f x = false
theorem s59 (b : List (Int × Int)) (hb : b.length ≤ 9223372036854775807) (g : Nat) (f : Int × Int → Bool) (hg : ∀ p H, Sound E g [iv p] H (.ret (.bool (f p))) H) (H : AH) :
    Sound E 59 [.slice (b.map iv) false, .func (.func g) [] []] H (.ret (.int .i64 (match b.findIdx? f with | some i => (i : Int) | none => -1))) H := by
  refine sound_of_awp tab_ok mixed Try.func59 rfl (by rfl) Try.ntmps59 (by kernel_rfl) (by simp) ?_
  simp
  refine loop_count (fun i fr H' => L59 b g H i fr H' ∧ N59 b f i) (fun i => b.length - i) 0 ⟨⟨by simp, by simp, by simp, by simp, ⟨[], by simp⟩, by simp⟩, fun j x hj => by omega⟩ ?_
  rintro i fr H' ⟨⟨h0, h1, h7, h8, ⟨J, rfl⟩, hi⟩, hall⟩
  simp [h7, h8]
  refine branch (fun hl => ?_) (fun hl => ?_)
  · simp at hl
    obtain ⟨p, hp⟩ := get_lt hl
    simp [h0, h1, h8, hp]
    refine call_ret (hg p _) ?_
    simp
    refine branch (fun hv => ?_) (fun hv => ?_)
    · simp
      have : b.findIdx? f = some i := by
        rw [List.findIdx?_eq_some_iff_getElem]
        refine ⟨hl, ?_, fun j hj => ?_⟩
        · rw [List.getElem?_eq_getElem hl] at hp; cases hp; exact hv
        · have := hall j b[j] hj (by simp); simp [this]
      exact fin1 (rs := [.tmp 4]) (by rfl) (by simp [resA, this]) (by simp [noF])
    · simp (disch := omega) [h8, wrap64]
      refine ⟨i + 1, by dsimp only; omega, ⟨by simp [h0], by simp [h1], by simp [h7], by simp, ⟨_, rfl⟩, by omega⟩, ?_⟩
      intro j x hj hx
      by_cases e : j = i
      · subst e; rw [hp] at hx; cases hx; exact hv
      · exact hall j x (by omega) hx
  · simp at hl
    simp
    have : b.findIdx? f = none := by
      rw [List.findIdx?_eq_none_iff]
      intro x hx
      obtain ⟨j, hj⟩ := List.mem_iff_getElem?.1 hx
      exact hall j x (by have := (List.getElem?_eq_some_iff.1 hj).1; omega) hj
    exact fin1 (rs := [.tmp 4]) (by rfl) (by simp [resA, this]) (by simp [noF])

theorem s53 (b : List (Int × Int)) (hb : b.length ≤ 9223372036854775807) (g : Nat) (f : Int × Int → Bool) (hg : ∀ p H, Sound E g [iv p] H (.ret (.bool (f p))) H) (H : AH) :
    Sound E 53 [.slice (b.map iv) false, .func (.func g) [] []] H (.ret (.bool (b.any f))) H := by
  refine sound_of_awp tab_ok mixed Try.func53 rfl (by rfl) Try.ntmps53 (by kernel_rfl) (by simp) ?_
  simp
  refine call_ret (s59 b hb g f hg _) ?_
  simp
  refine fin0 (rs := [.tmp 4]) (by rfl) ?_
  simp [resA]
  cases h : b.findIdx? f with
  | none =>
    rw [List.findIdx?_eq_none_iff] at h
    simp
    intro x y hx; exact h (x, y) hx
  | some i =>
    rw [List.findIdx?_eq_some_iff_getElem] at h
    simp
    obtain ⟨h1, h2, h3⟩ := h
    exact ⟨b[i].1, b[i].2, List.getElem_mem h1, h2⟩

theorem s41 (b : List (Int × Int)) (hb : b.length ≤ 9223372036854775807) (H : AH) : Sound E 41 [.slice (b.map iv) false] H (.ret (.bool (boxB b))) H := by
  refine sound_of_awp tab_ok mixed Try.func41 rfl (by rfl) Try.ntmps41 (by kernel_rfl) (by simp) ?_
  simp
  refine gateT (fun h => ?_) (fun h => ?_)
  · simp [h]
    refine gateT (fun h2 => ?_) (fun h2 => ?_)
    · simp [h, h2]
      refine call_ret (s53 b hb 51 (fun p => !ivB p) s51 _) ?_
      simp [h, h2]
      refine fin0 (rs := [.tmp 2]) (by rfl) ?_
      simp at h h2
      have h3 : 1 ≤ b.length := by omega
      have h4 : b.length ≤ 6 := by omega
      simp [resA, boxB, h3, h4]
      exact List.not_all_eq_any_not.symm
    · simp [h, h2]
      refine fin0 (rs := [.tmp 2]) (by rfl) ?_
      simp at h h2
      have h3 : ¬ b.length ≤ 6 := by omega
      simp [resA, boxB, h3]
  · simp [h]
    refine fin0 (rs := [.tmp 2]) (by rfl) ?_
    simp at h
    simp [resA, boxB]
    try intros
    omega
end Go.Proofs.Ythgamdcnomoidaa.Arm

namespace Go.Proofs.Ythgamdcnomoidaa.Arm
open Go.Arm

abbrev Box := List (Int × Int)
structure Step where
  h : Int
  o : Int
  pre : Box
  to : Box
  deriving DecidableEq
structure Cert where
  t : Int
  fr : Box
  l : List Step
  deriving DecidableEq
structure Seg where
  t : Int
  h : Int
  fr : Box
  pre : Box
  tube : Box
  to : Box
  deriving DecidableEq
def stp (s : Step) : AV := .agg [.int .i64 s.h, .int .i64 s.o, .slice (s.pre.map iv) false, .slice (s.to.map iv) false]
def crt (c : Cert) : AV := .agg [.int .i64 c.t, .slice (c.fr.map iv) false, .slice (c.l.map stp) false]
def sgm (s : Seg) : AV := .agg [.int .i64 s.t, .int .i64 s.h, .slice (s.fr.map iv) false, .slice (s.pre.map iv) false, .slice (s.tube.map iv) false, .slice (s.to.map iv) false]
@[simp] theorem stp_eq (s : Step) : stp s = .agg [.int .i64 s.h, .int .i64 s.o, .slice (s.pre.map iv) false, .slice (s.to.map iv) false] := rfl
@[simp] theorem crt_eq (c : Cert) : crt c = .agg [.int .i64 c.t, .slice (c.fr.map iv) false, .slice (c.l.map stp) false] := rfl
@[simp] theorem sgm_eq (s : Seg) : sgm s = .agg [.int .i64 s.t, .int .i64 s.h, .slice (s.fr.map iv) false, .slice (s.pre.map iv) false, .slice (s.tube.map iv) false, .slice (s.to.map iv) false] := rfl
@[simp] theorem noF_ivs (m : Nat) (b : Box) : noFs m (b.map iv) = true := by rw [noFs_iff]; intro x hx; obtain ⟨p, _, rfl⟩ := List.mem_map.1 hx; simp [noF, noFs]
@[simp] theorem noF_stps (m : Nat) (b : List Step) : noFs m (b.map stp) = true := by rw [noFs_iff]; intro x hx; obtain ⟨p, _, rfl⟩ := List.mem_map.1 hx; simp [noF, noFs]
@[simp] theorem noF_sgms (m : Nat) (b : List Seg) : noFs m (b.map sgm) = true := by rw [noFs_iff]; intro x hx; obtain ⟨p, _, rfl⟩ := List.mem_map.1 hx; simp [noF, noFs]
@[simp] theorem noF_u8s (m : Nat) (b : List Int) : noFs m (b.map u8) = true := by rw [noFs_iff]; intro x hx; obtain ⟨p, _, rfl⟩ := List.mem_map.1 hx; simp [noF]

def madeAt (b : Box) (i : Nat) : Int × Int := match b[i]? with
  | some p => madeIv p
  | none => (0, 0)
def madeBox (b : Box) (n : Nat) : Box := (List.range n).map (madeAt b)
@[simp] theorem madeBox_len (b : Box) (n : Nat) : (madeBox b n).length = n := by simp [madeBox]
theorem madeBox_succ (b : Box) (n : Nat) : madeBox b (n + 1) = madeBox b n ++ [madeAt b n] := by simp [madeBox, List.range_succ]

def L28 (b : Box) (n : Nat) (H : AH) (i : Nat) (fr : AFr) (H' : AH) : Prop :=
  fr 0 = .slice (b.map iv) false ∧ fr 1 = .int .i64 n ∧ fr 6 = .int .i64 i ∧ i ≤ n ∧ ∃ J, H' = H ++ J ∧ Acc H J (fr 5) 2 ((madeBox b i).map iv) (.slice [] true)
theorem s28 (b : Box) (n : Nat) (hn : n ≤ 1000) (H : AH) : Sound E 28 [.slice (b.map iv) false, .int .i64 n] H (.ret (.slice ((madeBox b n).map iv) false)) H := by
  refine sound_of_awp tab_ok mixed Try.func28 rfl (by rfl) Try.ntmps28 (by kernel_rfl) (by simp) ?_
  simp
  refine loop_count (L28 b n H) (fun i => n - i) 0 ⟨by simp, by simp, by simp, by omega, [], by simp, .inl ⟨by simp [madeBox], by simp⟩⟩ ?_
  rintro i fr H' ⟨h0, h1, h6, hi, J, rfl, hacc⟩
  simp [h1, h6]
  refine branch (fun hl => ?_) (fun hl => ?_)
  · simp at hl
    simp [h0, h6]
    have fin : ∀ (q : Int × Int), q = madeAt b i → ∀ J, Acc H J (fr 5) 2 ((madeBox b i).map iv) (.slice [] true) → ∃ v' J', appendA tab (H ++ J) 22 (fr 5) (.slice [.agg [.int .i64 q.1, .int .i64 q.2]] true) = some (v', H ++ J') ∧ Acc H J' v' 2 ((madeBox b (i + 1)).map iv) (.slice [] true) := by
      rintro q rfl J hacc
      obtain ⟨v', J', h1, h2, -, -, -⟩ := hacc.push (T := tab) (t := 22) (x := .slice [iv (madeAt b i)] true) (ys := [iv (madeAt b i)]) (i := i22) (ie := i62) (e := 62) rfl rfl rfl rfl rfl (by simp [i62]) (by simp [i62]) (by simp [i62]; omega) (by simp; omega)
      refine ⟨v', J', h1, ?_⟩
      rw [madeBox_succ, List.map_append]
      exact h2
    refine branch (fun hb => ?_) (fun hb => ?_)
    · simp at hb
      obtain ⟨p, hp⟩ := get_lt hb
      simp [h0, h6, hp]
      refine call_ret (s45 p _) ?_
      simp
      obtain ⟨v', J', hap, hacc'⟩ := fin (madeIv p) (by simp [madeAt, hp]) _ hacc.len
      refine bind_some hap ?_
      simp (disch := omega) [h6, wrap64]
      exact ⟨i + 1, by dsimp only; omega, by simp [h0], by simp [h1], by simp, by omega, J', rfl, by simpa using hacc'⟩
    · simp at hb
      simp
      obtain ⟨v', J', hap, hacc'⟩ := fin (0, 0) (by simp [madeAt, hb]) _ hacc.len
      refine bind_some hap ?_
      simp (disch := omega) [h6, wrap64]
      exact ⟨i + 1, by dsimp only; omega, by simp [h0], by simp [h1], by simp, by omega, J', rfl, by simpa using hacc'⟩
  · simp at hl
    simp
    have : i = n := by omega
    subst this
    exact finS (t := 4) (by rfl) (by simp) hacc rfl (by simp)
end Go.Proofs.Ythgamdcnomoidaa.Arm

namespace Go.Proofs.Ythgamdcnomoidaa.Arm
open Go.Arm

def inflIv (p : Int × Int) : Int × Int := if entB p then p else newIv (p.1 - 1) (p.2 + 1)
def inflBox (b : Box) : Box := b.map inflIv
theorem inflBox_succ (b : Box) (i : Nat) (p : Int × Int) (hp : b[i]? = some p) : inflBox (b.take (i + 1)) = inflBox (b.take i) ++ [inflIv p] := by
  unfold inflBox; rw [List.take_add_one, hp, List.map_append]; rfl
@[simp] theorem inflBox_len (b : Box) : (inflBox b).length = b.length := by simp [inflBox]
theorem ivB_range {p : Int × Int} (h : ivB p = true) : -2147483648 ≤ p.1 ∧ p.1 ≤ 2147483648 ∧ -2147483648 ≤ p.2 ∧ p.2 ≤ 2147483648 := by
  simp only [ivB, entB, numB, Bool.or_eq_true, Bool.and_eq_true, decide_eq_true_eq, beq_iff_eq] at h
  omega
def L13 (b : Box) (H : AH) (i : Nat) (fr : AFr) (H' : AH) : Prop :=
  fr 0 = .slice (b.map iv) false ∧ fr 1 = .int .i64 1 ∧ fr 6 = .int .i64 i ∧ i ≤ b.length ∧ ∃ J, H' = H ++ J ∧ Acc H J (fr 5) 2 ((inflBox (b.take i)).map iv) (.slice [] true)
theorem s13 (b : Box) (hb : b.all ivB = true) (hl : b.length ≤ 1000) (H : AH) : Sound E 13 [.slice (b.map iv) false, .int .i64 1] H (.ret (.slice ((inflBox b).map iv) false)) H := by
  refine sound_of_awp tab_ok mixed Try.func13 rfl (by rfl) Try.ntmps13 (by kernel_rfl) (by simp) ?_
  simp
  refine loop_count (L13 b H) (fun i => b.length - i) 0 ⟨by simp, by simp, by simp, by omega, [], by simp, .inl ⟨by simp [inflBox], by simp⟩⟩ ?_
  rintro i fr H' ⟨h0, h1, h6, hi, J, rfl, hacc⟩
  simp [h0, h6]
  refine branch (fun hc => ?_) (fun hc => ?_)
  · simp at hc
    obtain ⟨p, hp⟩ := get_lt hc
    have hr := ivB_range (List.all_eq_true.1 hb p (List.mem_of_getElem? hp))
    simp [h0, h6, hp]
    refine call_ret (s29 p _) ?_
    simp
    have fin : ∀ (q : Int × Int), q = inflIv p → ∀ J, Acc H J (fr 5) 2 ((inflBox (b.take i)).map iv) (.slice [] true) → ∃ v' J', appendA tab (H ++ J) 22 (fr 5) (.slice [.agg [.int .i64 q.1, .int .i64 q.2]] true) = some (v', H ++ J') ∧ Acc H J' v' 2 ((inflBox (b.take (i + 1))).map iv) (.slice [] true) := by
      rintro q rfl J hacc
      obtain ⟨v', J', h1, h2, -, -, -⟩ := hacc.push (T := tab) (t := 22) (x := .slice [iv (inflIv p)] true) (ys := [iv (inflIv p)]) (i := i22) (ie := i62) (e := 62) rfl rfl rfl rfl rfl (by simp [i62]) (by simp [i62]) (by simp [i62]; omega) (by simp; omega)
      refine ⟨v', J', h1, ?_⟩
      rw [inflBox_succ b i p hp, List.map_append]
      exact h2
    refine branch (fun he => ?_) (fun he => ?_)
    · have w1 : IntKind.i64.wrap (p.1 - 1) = p.1 - 1 := wrap64 (by omega) (by omega)
      have w2 : IntKind.i64.wrap (p.2 + 1) = p.2 + 1 := wrap64 (by omega) (by omega)
      simp [h1, w1, w2]
      refine call_ret (s30 _ _ _) ?_
      simp
      simp at he
      obtain ⟨v', J', hap, hacc'⟩ := fin (newIv (p.1 - 1) (p.2 + 1)) (by simp [inflIv, he]) _ hacc.len
      refine bind_some hap ?_
      simp (disch := omega) [h6, wrap64]
      exact ⟨i + 1, by dsimp only; omega, by simp [h0], by simp [h1], by simp, by omega, J', rfl, by simpa using hacc'⟩
    · simp
      simp at he
      obtain ⟨v', J', hap, hacc'⟩ := fin p (by simp [inflIv, he]) _ hacc.len
      refine bind_some hap ?_
      simp (disch := omega) [h6, wrap64]
      exact ⟨i + 1, by dsimp only; omega, by simp [h0], by simp [h1], by simp, by omega, J', rfl, by simpa using hacc'⟩
  · simp at hc
    simp
    have : b.take i = b := List.take_of_length_le (by omega)
    rw [this] at hacc
    exact finS (t := 4) (by rfl) (by simp) hacc rfl (by simp)

theorem s42 (c : Cert) (b : Box) (hb : b.length ≤ 9223372036854775807) (H : AH) (k : Nat) (hk : H[k]? = some (.row true 3 [crt c])) :
    Sound E 42 [.slice (b.map iv) false, .ptr k 1 0 0] H (.ret (.bool (boxB b && b.length == c.fr.length))) H := by
  refine sound_of_awp tab_ok mixed Try.func42 rfl (by rfl) Try.ntmps42 (by kernel_rfl) (by simp) ?_
  simp
  refine call_ret (s41 b hb _) ?_
  simp
  refine gateT (fun h => ?_) (fun h => ?_)
  · simp [h, hk]
    exact fin0 (rs := [.tmp 3]) (by rfl) (by simp [resA, h]; rw [Bool.eq_iff_iff]; simp; omega)
  · simp [h]
    exact fin0 (rs := [.tmp 3]) (by rfl) (by simp [resA, h])

/-! ### Same certificates -/
def L16 (c d : Cert) (H : AH) (i : Nat) (fr : AFr) (H' : AH) : Prop :=
  fr 2 = .ptr H.length 1 0 0 ∧ fr 3 = .ptr (H.length + 1) 1 0 0 ∧ fr 5 = .int .i64 i ∧ i ≤ c.l.length ∧ c.l.take i = d.l.take i ∧ ∃ J, H' = H ++ J ∧ J[0]? = some (.row true 3 [crt c]) ∧ J[1]? = some (.row true 3 [crt d])
theorem cert_ext {c d : Cert} (h1 : c.t = d.t) (h2 : c.fr = d.fr) (h3 : c.l = d.l) : c = d := by cases c; cases d; simp only at h1 h2 h3; subst h1 h2 h3; rfl
set_option maxRecDepth 10000 in
theorem s16 (c d : Cert) (h1 : c.fr.length ≤ 9223372036854775807) (h2 : ∀ s ∈ c.l, s.pre.length ≤ 9223372036854775807 ∧ s.to.length ≤ 9223372036854775807) (h3 : c.l.length ≤ 9223372036854775807) (H : AH) :
    Sound E 16 [crt c, crt d] H (.ret (.bool (decide (c = d)))) H := by
  refine sound_of_awp tab_ok mixed Try.func16 rfl (by rfl) Try.ntmps16 (by kernel_rfl) (by simp) ?_
  have ne : ∀ {q : Bool}, (c = d → q = true) → q = false → c ≠ d := fun h e e2 => by rw [h e2] at e; cases e
  simp
  refine gateF (fun ht => ?_) (fun ht => ?_)
  rotate_left
  · simp [ht]
    simp at ht
    exact fin1 (rs := [.tmp 4]) (by rfl) (by simp [resA]; rintro rfl; exact ht rfl) (by simp [noF])
  simp [ht]
  refine call_ret (s24 c.fr d.fr h1 _) ?_
  simp [ht]
  refine gateF (fun hf => ?_) (fun hf => ?_)
  rotate_left
  · simp [ht, hf]
    simp at hf
    exact fin1 (rs := [.tmp 4]) (by rfl) (by simp [resA]; rintro rfl; exact hf rfl) (by simp [noF])
  simp [ht, hf]
  have hfr : c.fr = d.fr := by simpa using hf
  have ht' : c.t = d.t := by simpa using ht
  refine branch (fun hc => ?_) (fun hc => ?_)
  · simp at hc
    simp
    exact fin1 (rs := [.tmp 4]) (by rfl) (by simp [resA]; rintro rfl; exact hc rfl) (by simp [noF])
  simp at hc
  simp
  refine loop_count (L16 c d H) (fun i => c.l.length - i) 0 ⟨by simp, by simp, by simp, by omega, by simp, _, rfl, by simp, by simp⟩ ?_
  rintro i fr H' ⟨g2, g3, g5, hi, heq, J, rfl, hJ0, hJ1⟩
  simp [g2, g3, g5, hJ0, hJ1]
  refine branch (fun hl => ?_) (fun hl => ?_)
  rotate_left
  · simp at hl
    simp
    exact fin1 (rs := [.tmp 4]) (by rfl) (by simp [resA]; exact cert_ext ht' hfr (take_end heq (by omega) (by omega))) (by simp [noF])
  simp at hl
  obtain ⟨p, hp⟩ := get_lt hl
  obtain ⟨q, hq⟩ := get_lt (l := d.l) (i := i) (by omega)
  have hpm := h2 p (List.mem_of_getElem? hp)
  have bad : p ≠ q → decide (c = d) = false := by
    intro h; simp only [decide_eq_false_iff_not]; rintro rfl; rw [hp] at hq; cases hq; exact h rfl
  simp [g2, g3, g5, hJ0, hJ1, hp, hq]
  refine gateF (fun e1 => ?_) (fun e1 => ?_)
  rotate_left
  · simp [e1]
    refine endD [] (by rfl) (by simp [okW, note, Eff.triv, Eff.wr, Eff.none]) ?_
    simp
    exact fin1 (rs := [.tmp 4]) (by rfl) (by rw [bad (by rintro rfl; simp at e1)]; simp [resA]) (by simp [noF])
  simp [e1, g2, g3, g5, hJ0, hJ1, hp, hq]
  refine gateF (fun e2 => ?_) (fun e2 => ?_)
  rotate_left
  · simp [e1, e2]
    refine endD [] (by rfl) (by simp [okW, note, Eff.triv, Eff.wr, Eff.none]) ?_
    simp
    exact fin1 (rs := [.tmp 4]) (by rfl) (by rw [bad (by rintro rfl; simp at e2)]; simp [resA]) (by simp [noF])
  simp [e1, e2, g2, g3, g5, hJ0, hJ1, hp, hq]
  refine callD_ret (fun Hx => s24 p.pre q.pre hpm.1 Hx) ?_
  simp [e1, e2]
  refine gateF (fun e3 => ?_) (fun e3 => ?_)
  rotate_left
  · simp [e1, e2, e3]
    refine endD [] (by rfl) (by simp [okW, note, Eff.triv, Eff.wr, Eff.none]) ?_
    simp
    exact fin1 (rs := [.tmp 4]) (by rfl) (by rw [bad (by rintro rfl; simp at e3)]; simp [resA]) (by simp [noF])
  simp [e1, e2, e3, g2, g3, g5, hJ0, hJ1, hp, hq]
  refine callD_ret (fun Hx => s24 p.to q.to hpm.2 Hx) ?_
  simp [e1, e2, e3]
  refine endD [] (by rfl) (by simp [okW, note, Eff.triv, Eff.wr, Eff.none]) ?_
  simp
  refine branch (fun e4 => ?_) (fun e4 => ?_)
  · simp
    exact fin1 (rs := [.tmp 4]) (by rfl) (by rw [bad (by rintro rfl; simp at e4)]; simp [resA]) (by simp [noF])
  · simp (disch := omega) [g5, wrap64]
    have : p = q := by
      simp at e1 e2 e3 e4
      cases p; cases q; simp only [Step.mk.injEq]; exact ⟨e1, e2, e3, e4⟩
    subst this
    exact ⟨i + 1, by dsimp only; omega, by simp [g2], by simp [g3], by simp, by omega, take_step heq hp hq, J, rfl, hJ0, hJ1⟩
end Go.Proofs.Ythgamdcnomoidaa.Arm

namespace Go.Proofs.Ythgamdcnomoidaa.Arm
open Go.Arm

def stepB (n : Nat) (t : Int) (s : Step) : Bool :=
  decide (1 ≤ s.h) && numB s.h && decide (0 ≤ s.o) && decide (s.o ≤ 7) && boxB s.pre && boxB s.to && (s.pre.length == n) && (s.to.length == n) && numB (t + s.h)
def stepsB (n : Nat) : Int → List Step → Bool
  | _, [] => true
  | t, s :: r => stepB n t s && stepsB n (t + s.h) r
def certB (c : Cert) : Bool := decide (1 ≤ c.l.length) && decide (c.l.length ≤ 256) && numB c.t && boxB c.fr && stepsB c.fr.length c.t c.l
theorem drop_at {α : Type} {l : List α} {i : Nat} {p : α} (h : l[i]? = some p) : l.drop i = p :: l.drop (i + 1) := by
  obtain ⟨hl, h⟩ := List.getElem?_eq_some_iff.1 h
  rw [List.drop_eq_getElem_cons hl, h]
theorem numB_range {a : Int} (h : numB a = true) : -2147483648 < a ∧ a < 2147483648 := by simpa [numB] using h

def L20 (c : Cert) (H : AH) (i : Nat) (fr : AFr) (H' : AH) : Prop :=
  fr 1 = .ptr H.length 1 0 0 ∧ fr 4 = .int .i64 i ∧ i ≤ c.l.length ∧ (∃ t, fr 3 = .int .i64 t ∧ numB t = true ∧ stepsB c.fr.length c.t c.l = stepsB c.fr.length t (c.l.drop i)) ∧ ∃ J, H' = H ++ J ∧ J[0]? = some (.row true 3 [crt c])
set_option maxRecDepth 10000 in
theorem s20 (c : Cert) (h1 : c.fr.length ≤ 9223372036854775807) (h2 : ∀ s ∈ c.l, s.pre.length ≤ 9223372036854775807 ∧ s.to.length ≤ 9223372036854775807) (H : AH) :
    Sound E 20 [crt c] H (.ret (.bool (certB c))) H := by
  refine sound_of_awp tab_ok mixed Try.func20 rfl (by rfl) Try.ntmps20 (by kernel_rfl) (by simp) ?_
  simp
  refine gateF (fun g1 => ?_) (fun g1 => ?_)
  rotate_left
  · simp [g1]
    exact fin1 (rs := [.tmp 2]) (by rfl) (by rw [(show certB c = false by simp at g1; simp [certB]; (try intros); first | omega | simp_all | (simp_all; omega))]; simp [resA]) (by simp [noF])
  simp [g1]
  refine gateF (fun g2 => ?_) (fun g2 => ?_)
  rotate_left
  · simp [g2, g1]
    exact fin1 (rs := [.tmp 2]) (by rfl) (by rw [(show certB c = false by simp at g2; simp [certB]; (try intros); first | omega | simp_all | (simp_all; omega))]; simp [resA]) (by simp [noF])
  simp [g1, g2]
  refine call_ret (s38 c.t _) ?_
  simp [g1, g2]
  refine gateF (fun g3 => ?_) (fun g3 => ?_)
  rotate_left
  · simp [g3, g1, g2]
    exact fin1 (rs := [.tmp 2]) (by rfl) (by rw [(show certB c = false by simp at g3; simp [certB]; (try intros); first | omega | simp_all | (simp_all; omega))]; simp [resA]) (by simp [noF])
  simp [g1, g2, g3]
  refine call_ret (s39 c.fr h1 _) ?_
  simp [g1, g2, g3]
  refine branch (fun g4 => ?_) (fun g4 => ?_)
  · simp
    exact fin1 (rs := [.tmp 2]) (by rfl) (by rw [(show certB c = false by simp at g4; simp [certB]; (try intros); first | omega | simp_all | (simp_all; omega))]; simp [resA]) (by simp [noF])
  simp
  have f1 : 1 ≤ c.l.length := by simp at g1; omega
  have f2 : c.l.length ≤ 256 := by simp at g2; omega
  have f3 : numB c.t = true := by simpa using g3
  have f4 : boxB c.fr = true := by simpa using g4
  have cert : certB c = stepsB c.fr.length c.t c.l := by simp [certB, f1, f2, f3, f4]
  refine loop_count (L20 c H) (fun i => c.l.length - i) 0 ⟨by simp, by simp, by omega, ⟨c.t, by simp, f3, by simp⟩, _, rfl, by simp⟩ ?_
  rintro i fr H' ⟨k1, k4, hi, ⟨t, k3, ht, hs⟩, J, rfl, hJ⟩
  simp [k1, k4, hJ]
  refine branch (fun hl => ?_) (fun hl => ?_)
  rotate_left
  · simp at hl
    simp
    have : c.l.drop i = [] := List.drop_of_length_le (by omega)
    exact fin1 (rs := [.tmp 2]) (by rfl) (by rw [cert, hs, this]; simp [resA, stepsB]) (by simp [noF])
  simp at hl
  obtain ⟨p, hp⟩ := get_lt hl
  have hpm := h2 p (List.mem_of_getElem? hp)
  have bad : stepB c.fr.length t p = false → certB c = false := by
    intro h; rw [cert, hs, drop_at hp]; simp [stepsB, h]
  have o0 := old hJ
  simp [k1, k4, hJ, ↓o0, hp]
  refine gateF (fun e1 => ?_) (fun e1 => ?_)
  rotate_left
  · simp [e1, k1, k3, k4, hJ, ↓o0, hp]
    exact fin1 (rs := [.tmp 2]) (by rfl) (by rw [bad (by simp at e1; simp [stepB]; (try intros); first | omega | simp_all | (simp_all; omega))]; simp [resA]) (by simp [noF])
  simp [e1, k1, k3, k4, hJ, ↓o0, hp]
  refine call_ret (s38 p.h _) ?_
  simp [e1, k1, k3, k4, hJ, ↓o0, hp]
  refine gateF (fun e2 => ?_) (fun e2 => ?_)
  rotate_left
  · simp [e2, e1, k1, k3, k4, hJ, ↓o0, hp]
    exact fin1 (rs := [.tmp 2]) (by rfl) (by rw [bad (by simp at e2; simp [stepB]; (try intros); first | omega | simp_all | (simp_all; omega))]; simp [resA]) (by simp [noF])
  simp [e1, e2, k1, k3, k4, hJ, ↓o0, hp]
  refine gateF (fun e3 => ?_) (fun e3 => ?_)
  rotate_left
  · simp [e3, e1, e2, k1, k3, k4, hJ, ↓o0, hp]
    exact fin1 (rs := [.tmp 2]) (by rfl) (by rw [bad (by simp at e3; simp [stepB]; (try intros); first | omega | simp_all | (simp_all; omega))]; simp [resA]) (by simp [noF])
  simp [e1, e2, e3, k1, k3, k4, hJ, ↓o0, hp]
  refine gateF (fun e4 => ?_) (fun e4 => ?_)
  rotate_left
  · simp [e4, e1, e2, e3, k1, k3, k4, hJ, ↓o0, hp]
    exact fin1 (rs := [.tmp 2]) (by rfl) (by rw [bad (by simp at e4; simp [stepB]; (try intros); first | omega | simp_all | (simp_all; omega))]; simp [resA]) (by simp [noF])
  simp [e1, e2, e3, e4, k1, k3, k4, hJ, ↓o0, hp]
  refine call_ret (s39 p.pre hpm.1 _) ?_
  simp [e1, e2, e3, e4, k1, k3, k4, hJ, ↓o0, hp]
  refine gateF (fun e5 => ?_) (fun e5 => ?_)
  rotate_left
  · simp [e5, e1, e2, e3, e4, k1, k3, k4, hJ, ↓o0, hp]
    exact fin1 (rs := [.tmp 2]) (by rfl) (by rw [bad (by simp at e5; simp [stepB]; (try intros); first | omega | simp_all | (simp_all; omega))]; simp [resA]) (by simp [noF])
  simp [e1, e2, e3, e4, e5, k1, k3, k4, hJ, ↓o0, hp]
  refine call_ret (s39 p.to hpm.2 _) ?_
  simp [e1, e2, e3, e4, e5, k1, k3, k4, hJ, ↓o0, hp]
  refine gateF (fun e6 => ?_) (fun e6 => ?_)
  rotate_left
  · simp [e6, e1, e2, e3, e4, e5, k1, k3, k4, hJ, ↓o0, hp]
    exact fin1 (rs := [.tmp 2]) (by rfl) (by rw [bad (by simp at e6; simp [stepB]; (try intros); first | omega | simp_all | (simp_all; omega))]; simp [resA]) (by simp [noF])
  simp [e1, e2, e3, e4, e5, e6, k1, k3, k4, hJ, ↓o0, hp]
  refine gateF (fun e7 => ?_) (fun e7 => ?_)
  rotate_left
  · simp [e7, e1, e2, e3, e4, e5, e6, k1, k3, k4, hJ, ↓o0, hp]
    exact fin1 (rs := [.tmp 2]) (by rfl) (by rw [bad (by simp at e7; simp [stepB]; (try intros); first | omega | simp_all | (simp_all; omega))]; simp [resA]) (by simp [noF])
  simp [e1, e2, e3, e4, e5, e6, e7, k1, k3, k4, hJ, ↓o0, hp]
  refine branch (fun e8 => ?_) (fun e8 => ?_)
  · simp
    exact fin1 (rs := [.tmp 2]) (by rfl) (by rw [bad (by simp at e8; simp [stepB]; (try intros); first | omega | simp_all | (simp_all; omega))]; simp [resA]) (by simp [noF])
  have v1 : 1 ≤ p.h := by simp at e1; omega
  have v2 := numB_range (show numB p.h = true by simpa using e2)
  have v3 := numB_range ht
  have w1 : IntKind.i64.wrap (t + p.h) = t + p.h := wrap64 (by omega) (by omega)
  simp [k3, w1]
  refine call_ret (s38 _ _) ?_
  simp
  refine branch (fun e9 => ?_) (fun e9 => ?_)
  · simp
    exact fin1 (rs := [.tmp 2]) (by rfl) (by rw [bad (by simp at e9; simp [stepB]; (try intros); first | omega | simp_all | (simp_all; omega))]; simp [resA]) (by simp [noF])
  simp (disch := omega) [k4, wrap64]
  have good : stepB c.fr.length t p = true := by
    simp at e1 e2 e3 e4 e5 e6 e7 e8 e9
    simp [stepB]; (repeat' constructor) <;> first | assumption | omega
  exact ⟨i + 1, by dsimp only; omega, by simp [k1], by simp, by omega, ⟨t + p.h, by simp, by simpa using e9, by rw [hs, drop_at hp]; simp [stepsB, good]⟩, _, rfl, o0 _⟩


def L21 (c : Cert) (H : AH) (i : Nat) (fr : AFr) (H' : AH) : Prop :=
  fr 1 = .ptr H.length 1 0 0 ∧ fr 4 = .func (.func 42) [] [.ptr H.length 1 0 0] ∧ fr 33 = .slice (c.l.map stp) false ∧ fr 34 = .int .i64 c.l.length ∧ fr 35 = .int .i64 i ∧ i ≤ c.l.length ∧ (∃ t, fr 3 = .int .i64 t ∧ numB t = true ∧ stepsB c.fr.length c.t c.l = stepsB c.fr.length t (c.l.drop i)) ∧ ∃ J, H' = H ++ J ∧ J[0]? = some (.row true 3 [crt c])
set_option maxRecDepth 10000 in
theorem s21 (c : Cert) (h1 : c.fr.length ≤ 9223372036854775807) (h2 : ∀ s ∈ c.l, s.pre.length ≤ 9223372036854775807 ∧ s.to.length ≤ 9223372036854775807) (H : AH) :
    Sound E 21 [crt c] H (.ret (.bool (certB c))) H := by
  refine sound_of_awp tab_ok mixed Try.func21 rfl (by rfl) Try.ntmps21 (by kernel_rfl) (by simp) ?_
  simp
  refine gateF (fun g1 => ?_) (fun g1 => ?_)
  rotate_left
  · simp [g1]
    exact fin1 (rs := [.tmp 2]) (by rfl) (by rw [(show certB c = false by simp at g1; simp [certB]; (try intros); first | omega | simp_all | (simp_all; omega))]; simp [resA]) (by simp [noF])
  simp [g1]
  refine gateF (fun g2 => ?_) (fun g2 => ?_)
  rotate_left
  · simp [g2, g1]
    exact fin1 (rs := [.tmp 2]) (by rfl) (by rw [(show certB c = false by simp at g2; simp [certB]; (try intros); first | omega | simp_all | (simp_all; omega))]; simp [resA]) (by simp [noF])
  simp [g1, g2]
  refine call_ret (s40 c.t _) ?_
  simp [g1, g2]
  refine gateF (fun g3 => ?_) (fun g3 => ?_)
  rotate_left
  · simp [g3, g1, g2]
    exact fin1 (rs := [.tmp 2]) (by rfl) (by rw [(show certB c = false by simp at g3; simp [certB]; (try intros); first | omega | simp_all | (simp_all; omega))]; simp [resA]) (by simp [noF])
  simp [g1, g2, g3]
  refine call_ret (s41 c.fr h1 _) ?_
  simp [g1, g2, g3]
  refine branch (fun g4 => ?_) (fun g4 => ?_)
  · simp
    exact fin1 (rs := [.tmp 2]) (by rfl) (by rw [(show certB c = false by simp at g4; simp [certB]; (try intros); first | omega | simp_all | (simp_all; omega))]; simp [resA]) (by simp [noF])
  simp
  have f1 : 1 ≤ c.l.length := by simp at g1; omega
  have f2 : c.l.length ≤ 256 := by simp at g2; omega
  have f3 : numB c.t = true := by simpa using g3
  have f4 : boxB c.fr = true := by simpa using g4
  have cert : certB c = stepsB c.fr.length c.t c.l := by simp [certB, f1, f2, f3, f4]
  refine loop_count (L21 c H) (fun i => c.l.length - i) 0 ⟨by simp, by simp, by simp, by simp, by simp, by omega, ⟨c.t, by simp, f3, by simp⟩, _, rfl, by simp⟩ ?_
  rintro i fr H' ⟨k1, k4, k33, k34, k35, hi, ⟨t, k3, ht, hs⟩, J, rfl, hJ⟩
  simp [k34, k35]
  refine branch (fun hl => ?_) (fun hl => ?_)
  rotate_left
  · simp at hl
    simp
    have : c.l.drop i = [] := List.drop_of_length_le (by omega)
    exact fin1 (rs := [.tmp 2]) (by rfl) (by rw [cert, hs, this]; simp [resA, stepsB]) (by simp [noF])
  simp at hl
  obtain ⟨p, hp⟩ := get_lt hl
  have hpm := h2 p (List.mem_of_getElem? hp)
  have bad : stepB c.fr.length t p = false → certB c = false := by
    intro h; rw [cert, hs, drop_at hp]; simp [stepsB, h]
  have o0 := old hJ
  simp [k1, k4, k33, k35, hJ, ↓o0, hp]
  refine gateF (fun e1 => ?_) (fun e1 => ?_)
  rotate_left
  · simp [e1, k1, k3, k4, k33, k34, k35, hJ, ↓o0, hp]
    exact fin1 (rs := [.tmp 2]) (by rfl) (by rw [bad (by simp at e1; simp [stepB]; (try intros); first | omega | simp_all | (simp_all; omega))]; simp [resA]) (by simp [noF])
  simp [e1, k1, k3, k4, k33, k34, k35, hJ, ↓o0, hp]
  refine call_ret (s40 p.h _) ?_
  simp [e1, k1, k3, k4, k33, k34, k35, hJ, ↓o0, hp]
  refine gateF (fun e2 => ?_) (fun e2 => ?_)
  rotate_left
  · simp [e2, e1, k1, k3, k4, k33, k34, k35, hJ, ↓o0, hp]
    exact fin1 (rs := [.tmp 2]) (by rfl) (by rw [bad (by simp at e2; simp [stepB]; (try intros); first | omega | simp_all | (simp_all; omega))]; simp [resA]) (by simp [noF])
  have v1 : 1 ≤ p.h := by simp at e1; omega
  have v2 := numB_range (show numB p.h = true by simpa using e2)
  have v3 := numB_range ht
  have w1 : IntKind.i64.wrap (t + p.h) = t + p.h := wrap64 (by omega) (by omega)
  simp [e1, e2, w1, k1, k3, k4, k33, k34, k35, hJ, ↓o0, hp]
  refine call_ret (s40 (t + p.h) _) ?_
  simp [e1, e2, w1, k1, k3, k4, k33, k34, k35, hJ, ↓o0, hp]
  refine gateF (fun e3 => ?_) (fun e3 => ?_)
  rotate_left
  · simp [e3, e1, e2, k1, k3, k4, k33, k34, k35, hJ, ↓o0, hp]
    exact fin1 (rs := [.tmp 2]) (by rfl) (by rw [bad (by simp at e3; simp [stepB]; (try intros); first | omega | simp_all | (simp_all; omega))]; simp [resA]) (by simp [noF])
  simp [e1, e2, e3, k1, k3, k4, k33, k34, k35, hJ, ↓o0, hp]
  refine call_ret (s31 p.o _) ?_
  simp [e1, e2, e3, k1, k3, k4, k33, k34, k35, hJ, ↓o0, hp]
  refine gateF (fun e4 => ?_) (fun e4 => ?_)
  rotate_left
  · simp [e4, e1, e2, e3, k1, k3, k4, k33, k34, k35, hJ, ↓o0, hp]
    exact fin1 (rs := [.tmp 2]) (by rfl) (by rw [bad (by simp at e4; simp [stepB]; (try intros); first | omega | simp_all | (simp_all; omega))]; simp [resA]) (by simp [noF])
  simp [e1, e2, e3, e4, k1, k3, k4, k33, k34, k35, hJ, ↓o0, hp]
  refine call_ret (s42 c p.pre hpm.1 _ H.length (by simp [↓o0])) ?_
  simp [e1, e2, e3, e4, k1, k3, k4, k33, k34, k35, hJ, ↓o0, hp]
  refine gateF (fun e5 => ?_) (fun e5 => ?_)
  rotate_left
  · simp [e5, e1, e2, e3, e4, k1, k3, k4, k33, k34, k35, hJ, ↓o0, hp]
    exact fin1 (rs := [.tmp 2]) (by rfl) (by rw [bad (by simp at e5; simp [stepB]; (try intros); first | omega | simp_all | (simp_all; omega))]; simp [resA]) (by simp [noF])
  simp [e1, e2, e3, e4, e5, k1, k3, k4, k33, k34, k35, hJ, ↓o0, hp]
  refine call_ret (s42 c p.to hpm.2 _ H.length (by simp [↓o0])) ?_
  simp [e1, e2, e3, e4, e5, k1, k3, k4, k33, k34, k35, hJ, ↓o0, hp]
  refine branch (fun e6 => ?_) (fun e6 => ?_)
  · simp
    exact fin1 (rs := [.tmp 2]) (by rfl) (by rw [bad (by simp at e6; simp [stepB]; (try intros); first | omega | simp_all | (simp_all; omega))]; simp [resA]) (by simp [noF])
  simp [k3, w1]
  have w2 : IntKind.i64.wrap ((i : Int) + 1) = i + 1 := wrap64 (by omega) (by omega)
  simp [k35, w2]
  have e3' : numB (t + p.h) = true := by simpa using e3
  have good : stepB c.fr.length t p = true := by
    simp at e1 e2 e3 e4 e5 e6
    simp [stepB]; (repeat' constructor) <;> first | assumption | omega | simp_all
  exact ⟨i + 1, by dsimp only; omega, by simp [k1], by simp [k4], by simp [k33], by simp [k34], by simp, by omega, ⟨t + p.h, by simp, e3', by rw [hs, drop_at hp]; simp [stepsB, good]⟩, _, rfl, o0 _⟩

end Go.Proofs.Ythgamdcnomoidaa.Arm

namespace Go.Proofs.Ythgamdcnomoidaa.Arm
open Go.Arm

def and7 (n : Int) : Int := andA .i64 n 7
def mag (n : Int) : Int := if n.tmod 65536 < -(n.tmod 65536) then -(n.tmod 65536) else n.tmod 65536
def zeroStep : Step := ⟨1, 0, [], []⟩
def madeStep (n : Nat) (s : Step) : Step := ⟨1 + mag s.h, and7 s.o, madeBox s.pre n, madeBox s.to n⟩
def madeStepAt (c : Cert) (n : Nat) (i : Nat) : Step := madeStep n (match c.l[i]? with
  | some s => s
  | none => zeroStep)
def madeSteps (c : Cert) (n k : Nat) : List Step := (List.range k).map (madeStepAt c n)
def madeCert (c : Cert) (n most : Nat) : Cert := ⟨c.t.tmod 1048576, madeBox c.fr n, madeSteps c n (max 1 (min c.l.length most))⟩
@[simp] theorem madeSteps_len (c : Cert) (n k : Nat) : (madeSteps c n k).length = k := by simp [madeSteps]
theorem madeSteps_succ (c : Cert) (n k : Nat) : madeSteps c n (k + 1) = madeSteps c n k ++ [madeStepAt c n k] := by simp [madeSteps, List.range_succ]
theorem tmod16 (n : Int) : -65536 < n.tmod 65536 ∧ n.tmod 65536 < 65536 :=
  ⟨by have := Int.lt_tmod_of_pos n (b := 65536) (by omega); omega, Int.tmod_lt_of_pos n (by omega)⟩
theorem mag_range (n : Int) : 0 ≤ mag n ∧ mag n < 65536 := by
  have := tmod16 n
  unfold mag
  split <;> omega
theorem and7_range (n : Int) : 0 ≤ and7 n ∧ and7 n ≤ 7 := by
  have h : (BitVec.ofInt 64 n &&& BitVec.ofInt 64 7).toNat ≤ 7 := by
    rw [BitVec.toNat_and]; exact Nat.le_trans Nat.and_le_right (by decide)
  have e : and7 n = ((BitVec.ofInt 64 n &&& BitVec.ofInt 64 7).toNat : Int) := by
    have e0 : and7 n = IntKind.i64.wrap ((BitVec.ofInt 64 n &&& BitVec.ofInt 64 7).toNat : Int) := rfl
    rw [e0]; exact wrap64 (by omega) (by omega)
  rw [e]; omega

def Lv (c : Cert) (n : Nat) (H J : AH) (i : Nat) (v : AV) : Prop := (i = 0 ∧ v = .nilslice) ∨ ∃ k, 3 ≤ k ∧ v = .ref (H.length + k) i ∧ J[k]? = some (.row true 4 ((madeSteps c n i).map stp))
def L10 (c : Cert) (n most : Nat) (H : AH) (i : Nat) (fr : AFr) (H' : AH) : Prop :=
  fr 1 = .int .i64 n ∧ fr 2 = .int .i64 most ∧ fr 3 = .ptr H.length 1 0 0 ∧ fr 6 = .ptr (H.length + 1) 1 0 0 ∧ fr 7 = .ptr (H.length + 2) 1 0 0 ∧ fr 8 = .int .i64 i ∧ i ≤ max 1 (min c.l.length most) ∧
  ∃ J v, H' = H ++ J ∧ J[0]? = some (.row true 3 [crt c]) ∧ J[1]? = some (.row true 3 [.agg [.int .i64 0, .nilslice, .nilslice]]) ∧ J[2]? = some (.row true 3 [.agg [.int .i64 (c.t.tmod 1048576), .slice ((madeBox c.fr n).map iv) false, v]]) ∧ Lv c n H J i v
set_option maxRecDepth 10000 in
theorem s10 (c : Cert) (n most : Nat) (hn : n ≤ 6) (hm : most ≤ 256) (H : AH) : Sound E 10 [crt c, .int .i64 n, .int .i64 most] H (.ret (crt (madeCert c n most))) H := by
  refine sound_of_awp tab_ok mixed Try.func10 rfl (by rfl) Try.ntmps10 (by kernel_rfl) (by simp) ?_
  simp
  refine callD_ret (fun Hx => s28 c.fr n (by omega) Hx) ?_
  simp
  refine endD [(8, 9)] (by rfl) (by simp [okW, note, Eff.triv, Eff.wr, Eff.none, upTo, newAt]) ?_
  simp
  refine loop_count (L10 c n most H) (fun i => max 1 (min c.l.length most) - i) 0 ⟨by simp, by simp, by simp, by simp, by simp, by simp, by omega, _, .nilslice, rfl, by simp, by simp, by simp, .inl ⟨rfl, rfl⟩⟩ ?_
  rintro i fr H' ⟨k1, k2, k3, k6, k7, k8, hi, J, v, rfl, hJ0, hJ1, hJ2, hv⟩
  simp [k2, k3, k8, hJ0]
  refine branch (fun hc => ?_) (fun hc => ?_)
  rotate_left
  · simp only [decide_eq_false_iff_not] at hc
    have hi' : i = max 1 (min c.l.length most) := by
      (repeat' split at hc) <;> omega
    rcases hv with ⟨h, -⟩ | ⟨k, hk3, rfl, hk⟩
    · omega
    simp [k6, k7, hJ1, hJ2]
    have hk1 : 1 ≠ k := by omega
    have hJk : (J.set 1 (ABlk.row true 3 [.agg [.int .i64 (c.t.tmod 1048576), .slice ((madeBox c.fr n).map iv) false, .ref (H.length + k) i]]))[k]? = some (.row true 4 ((madeSteps c n i).map stp)) := by
      rw [List.getElem?_set_ne hk1]; exact hk
    refine finC (rs := [.cell 6 25]) (J' := _) (by rfl) (by simp [resA, k6, set_get hJ1]; rfl) (by simp [hJk]; exact ⟨rfl, rfl⟩) (by simp [noFs, noF]) ?_
    simp [one, madeCert, ← hi']
  simp only [decide_eq_true_eq] at hc
  have hi' : i < max 1 (min c.l.length most) := by
    (repeat' split at hc) <;> omega
  have o0 := old hJ0
  have o1 := old hJ1
  have o2 := old hJ2
  simp [k3, k7, k8, hJ0, ↓o0]
  refine branch (fun hb => ?_) (fun hb => ?_)
  · simp at hb
    obtain ⟨p, hp⟩ := get_lt hb
    have hr := tmod16 p.h
    have hg := mag_range p.h
    have w3 : IntKind.i64.wrap (-(p.h.tmod 65536)) = -(p.h.tmod 65536) := wrap64 (by omega) (by omega)
    have w4 : IntKind.i64.wrap (1 + if p.h.tmod 65536 < -(p.h.tmod 65536) then -(p.h.tmod 65536) else p.h.tmod 65536) = 1 + mag p.h := wrap64 (by unfold mag at hg; omega) (by unfold mag at hg; omega)
    simp [k1, k3, k7, k8, hJ0, ↓o0, ↓o2, hp]

    refine callD_ret (fun Hx => s28 p.pre n (by omega) Hx) ?_
    simp [k1, k3, k7, k8, hJ0, ↓o0, ↓o2, hp, w3, w4]
    refine callD_ret (fun Hx => s28 p.to n (by omega) Hx) ?_
    simp [k1, k3, k7, k8, hJ0, ↓o0, ↓o2, hp, w3, w4]
    rcases hv with ⟨rfl, rfl⟩ | ⟨k, hk3, rfl, hk⟩
    · simp [appendA, growA, growNew, k7, ↓o2, olds hJ2]
      have hlen := (List.getElem?_eq_some_iff.1 hJ2).1
      refine endD [(1, 22), (20, 22)] (by rfl) (by simp [okW, note, Eff.triv, Eff.wr, Eff.none, upTo, newAt]; try omega) ?_
      simp [k8, wrap64]
      refine ⟨1, by dsimp only; omega, by simp [k1], by simp [k2], by simp [k3], by simp [k6], by simp [k7], by simp, by omega, _, .ref (H.length + (J.length + 1)) 1, rfl, ?_, ?_, set_get' hJ2, .inr ⟨J.length + 1, by omega, rfl, ?_⟩⟩
      · rw [get_old (by rw [List.getElem?_set_ne (by omega)]; exact hJ0)]
      · rw [get_old (by rw [List.getElem?_set_ne (by omega)]; exact hJ1)]
      · rw [List.getElem?_append_right (by simp)]
        simp [madeSteps, madeStepAt, madeStep, hp, and7]
    · have ok := old hk
      have hbd : (i + 1) * 64 ≤ 140737488355328 := by omega
      simp [appendA, growA, growNew, k7, ↓ok, olds hk]
      have hn2 : k ≠ 2 := by omega
      have s2 : ∀ X, (J.set k X)[2]? = J[2]? := fun X => List.getElem?_set_ne hn2
      have s3 : ∀ X L, (J.set k X ++ L)[2]? = J[2]? := fun X L => (get_old ((s2 X).trans hJ2)).trans hJ2.symm
      have s4 : ∀ X L y, (J.set k X ++ L).set 2 y = (J.set k X).set 2 y ++ L := fun X L y => set_old ((s2 X).trans hJ2)
      have hk' := (List.getElem?_eq_some_iff.1 hk).1
      refine bind_if ⟨hbd, by omega⟩ ?_
      simp [↓s3, hJ2, ↓s4]
      refine endD [(1, 22), (20, 22)] (by rfl) (by simp [okW, note, Eff.triv, Eff.wr, Eff.none, upTo, newAt]; try omega) ?_
      simp (disch := omega) [k8, wrap64]
      refine ⟨i + 1, by dsimp only; omega, by simp [k1], by simp [k2], by simp [k3], by simp [k6], by simp [k7], by simp, by omega, _, .ref (H.length + k) (i + 1), rfl, ?_, ?_, set_get' ((s2 _).trans hJ2), .inr ⟨k, by omega, rfl, ?_⟩⟩
      · rw [get_old (by rw [List.getElem?_set_ne (by omega), List.getElem?_set_ne (by omega)]; exact hJ0)]
      · rw [get_old (by rw [List.getElem?_set_ne (by omega), List.getElem?_set_ne (by omega)]; exact hJ1)]
      · rw [get_old (by rw [List.getElem?_set_ne (by omega), List.getElem?_set_self hk'])]
        simp [madeSteps_succ, madeStepAt, madeStep, hp, and7]
  · simp at hb
    have hnone : c.l[i]? = none := by simp [hb]
    have w5 : mag 1 = 1 := by decide
    simp [k1, k3, k7, k8, hJ0, ↓o0, ↓o2]

    refine callD_conv (args' := [.slice (([] : Box).map iv) false, .int .i64 n]) (fun Hx => s28 [] n (by omega) Hx) (fun Hx => by simp) ?_
    simp [k1, k3, k7, k8, hJ0, ↓o0, ↓o2]
    refine callD_conv (args' := [.slice (([] : Box).map iv) false, .int .i64 n]) (fun Hx => s28 [] n (by omega) Hx) (fun Hx => by simp) ?_
    simp [k1, k3, k7, k8, hJ0, ↓o0, ↓o2]
    rcases hv with ⟨rfl, rfl⟩ | ⟨k, hk3, rfl, hk⟩
    · simp [appendA, growA, growNew, k7, ↓o2, olds hJ2]
      have hlen := (List.getElem?_eq_some_iff.1 hJ2).1
      refine endD [(1, 22), (20, 22)] (by rfl) (by simp [okW, note, Eff.triv, Eff.wr, Eff.none, upTo, newAt]; try omega) ?_
      simp [k8, wrap64]
      refine ⟨1, by dsimp only; omega, by simp [k1], by simp [k2], by simp [k3], by simp [k6], by simp [k7], by simp, by omega, _, .ref (H.length + (J.length + 1)) 1, rfl, ?_, ?_, set_get' hJ2, .inr ⟨J.length + 1, by omega, rfl, ?_⟩⟩
      · rw [get_old (by rw [List.getElem?_set_ne (by omega)]; exact hJ0)]
      · rw [get_old (by rw [List.getElem?_set_ne (by omega)]; exact hJ1)]
      · rw [List.getElem?_append_right (by simp)]
        simp [madeSteps, madeStepAt, madeStep, hnone, zeroStep, w5, and7]
    · have ok := old hk
      have hbd : (i + 1) * 64 ≤ 140737488355328 := by omega
      simp [appendA, growA, growNew, k7, ↓ok, olds hk]
      have hn2 : k ≠ 2 := by omega
      have s2 : ∀ X, (J.set k X)[2]? = J[2]? := fun X => List.getElem?_set_ne hn2
      have s3 : ∀ X L, (J.set k X ++ L)[2]? = J[2]? := fun X L => (get_old ((s2 X).trans hJ2)).trans hJ2.symm
      have s4 : ∀ X L y, (J.set k X ++ L).set 2 y = (J.set k X).set 2 y ++ L := fun X L y => set_old ((s2 X).trans hJ2)
      have hk' := (List.getElem?_eq_some_iff.1 hk).1
      refine bind_if ⟨hbd, by omega⟩ ?_
      simp [↓s3, hJ2, ↓s4]
      refine endD [(1, 22), (20, 22)] (by rfl) (by simp [okW, note, Eff.triv, Eff.wr, Eff.none, upTo, newAt]; try omega) ?_
      simp (disch := omega) [k8, wrap64]
      refine ⟨i + 1, by dsimp only; omega, by simp [k1], by simp [k2], by simp [k3], by simp [k6], by simp [k7], by simp, by omega, _, .ref (H.length + k) (i + 1), rfl, ?_, ?_, set_get' ((s2 _).trans hJ2), .inr ⟨k, by omega, rfl, ?_⟩⟩
      · rw [get_old (by rw [List.getElem?_set_ne (by omega), List.getElem?_set_ne (by omega)]; exact hJ0)]
      · rw [get_old (by rw [List.getElem?_set_ne (by omega), List.getElem?_set_ne (by omega)]; exact hJ1)]
      · rw [get_old (by rw [List.getElem?_set_ne (by omega), List.getElem?_set_self hk'])]
        simp [madeSteps_succ, madeStepAt, madeStep, hnone, zeroStep, w5, and7]

end Go.Proofs.Ythgamdcnomoidaa.Arm

namespace Go.Proofs.Ythgamdcnomoidaa.Arm
open Go.Arm

def segs (t : Int) (f : Box) : List Step → List Seg
  | [] => []
  | s :: r => ⟨t, s.h, f, s.pre, s.pre, s.to⟩ :: segs (t + s.h) s.to r
@[simp] theorem segs_len (t : Int) (f : Box) (l : List Step) : (segs t f l).length = l.length := by induction l generalizing t f with
  | nil => rfl
  | cons s r ih => simp [segs, ih]

def L22 (c : Cert) (H : AH) (i : Nat) (fr : AFr) (H' : AH) : Prop :=
  fr 13 = .slice (c.l.map stp) false ∧ fr 14 = .int .i64 c.l.length ∧ fr 15 = .int .i64 i ∧ i ≤ c.l.length ∧
  ∃ t f xs, fr 4 = .int .i64 t ∧ fr 5 = .slice (f.map iv) false ∧ numB t = true ∧ stepsB c.fr.length t (c.l.drop i) = true ∧ xs ++ segs t f (c.l.drop i) = segs c.t c.fr c.l ∧ xs.length = i ∧
  ∃ J, H' = H ++ J ∧ Acc H J (fr 3) 6 (xs.map sgm) .nilslice
set_option maxRecDepth 10000 in
theorem s22 (c : Cert) (hc : certB c = true) (H : AH) : Sound E 22 [crt c] H (.ret (.slice ((segs c.t c.fr c.l).map sgm) false)) H := by
  have hc' := hc
  simp only [certB, Bool.and_eq_true, decide_eq_true_eq] at hc'
  obtain ⟨⟨⟨⟨f1, f2⟩, f3⟩, f4⟩, f5⟩ := hc'
  refine sound_of_awp tab_ok mixed Try.func22 rfl (by rfl) Try.ntmps22 (by kernel_rfl) (by simp) ?_
  simp
  refine endD [] (by rfl) (by simp [okW, note, Eff.triv, Eff.wr, Eff.none]) ?_
  simp
  refine loop_count (L22 c H) (fun i => c.l.length - i) 0 ⟨by simp, by simp, by simp, by omega, c.t, c.fr, [], by simp, by simp, f3, by simpa using f5, by simp, rfl, _, rfl, .inl ⟨rfl, by simp⟩⟩ ?_
  rintro i fr H' ⟨k13, k14, k15, hi, t, f, xs, k4, k5, ht, hs, hxs, hlen, J, rfl, hacc⟩
  simp [k14, k15]
  refine branch (fun hl => ?_) (fun hl => ?_)
  rotate_left
  · simp at hl
    simp
    have hd : c.l.drop i = [] := List.drop_of_length_le (by omega)
    rw [hd] at hxs
    have hxs : xs = segs c.t c.fr c.l := by simpa [segs] using hxs
    subst hxs
    exact finS (t := 2) (by rfl) (by simp) hacc rfl (by simp)
  simp at hl
  obtain ⟨p, hp⟩ := get_lt hl
  rw [drop_at hp] at hs hxs
  simp only [stepsB, stepB, Bool.and_eq_true, decide_eq_true_eq, beq_iff_eq] at hs
  obtain ⟨⟨⟨⟨⟨⟨⟨⟨⟨a1, a2⟩, a3⟩, a4⟩, a5⟩, a6⟩, a7⟩, a8⟩, a9⟩, hs⟩ := hs
  have r1 := numB_range a9
  have w1 : IntKind.i64.wrap (t + p.h) = t + p.h := wrap64 (by omega) (by omega)
  simp [k4, k5, k13, k15, hp]
  obtain ⟨v', J', hap, hacc', hold, hle, -⟩ := (hacc.len (L := [.row true 4 [stp p]])).push (T := tab) (t := 31) (x := .slice [sgm ⟨t, p.h, f, p.pre, p.pre, p.to⟩] true) (ys := [sgm ⟨t, p.h, f, p.pre, p.pre, p.to⟩]) (i := i31) (ie := i34) (e := 34) rfl rfl rfl rfl rfl (by simp [i34]) (by simp [i34]) (by simp [i34]; omega) (by simp; omega)
  have hJ : J'[J.length]? = some (.row true 4 [stp p]) := by
    refine hold J.length _ (by simp) ?_
    rintro n hn
    rcases hacc with ⟨_, h2⟩ | ⟨k, h2, h3⟩
    · rw [h2] at hn; cases hn
    · rw [h2] at hn
      simp only [AV.ref.injEq] at hn
      have := (List.getElem?_eq_some_iff.1 h3).1
      omega
  refine bind_some hap ?_
  simp [hJ, k4, w1]
  refine endD [] (by rfl) (by simp [okW, note, Eff.triv, Eff.wr, Eff.none]) ?_
  simp (disch := omega) [k15, wrap64]
  refine ⟨i + 1, by dsimp only; omega, by simp [k13], by simp [k14], by simp, by omega, t + p.h, p.to, xs ++ [⟨t, p.h, f, p.pre, p.pre, p.to⟩], by simp, by simp, a9, hs, ?_, by simp [hlen], J', rfl, ?_⟩
  · simpa [segs] using hxs
  · rw [List.map_append]; exact hacc'
end Go.Proofs.Ythgamdcnomoidaa.Arm

namespace Go.Proofs.Ythgamdcnomoidaa.Arm
open Go.Arm

def example_ (o : Int) : Cert := ⟨0, [(0, 1)], [⟨2, o, [(0, 3)], [(2, 3)]⟩]⟩
theorem s27 (o : Int) (H : AH) : Sound E 27 [.int .i64 o] H (.ret (crt (example_ o))) H := by
  refine sound_of_awp tab_ok mixed Try.func27 rfl (by rfl) Try.ntmps27 (by kernel_rfl) (by simp) ?_
  simp
  exact finC (rs := [.cell 2 25]) (vs' := [crt (example_ o)]) (J' := _) (by rfl) (by simp [resA]; rfl) (by simp [example_]; rfl) (by simp [noFs, noF, example_]) (by simp [one])

def smallSeg (s : Seg) : Prop := s.fr.length ≤ 9223372036854775807 ∧ s.pre.length ≤ 9223372036854775807 ∧ s.tube.length ≤ 9223372036854775807 ∧ s.to.length ≤ 9223372036854775807
theorem seg_ext {a b : Seg} (h1 : a.t = b.t) (h2 : a.h = b.h) (h3 : a.fr = b.fr) (h4 : a.pre = b.pre) (h5 : a.tube = b.tube) (h6 : a.to = b.to) : a = b := by
  cases a; cases b; simp only at h1 h2 h3 h4 h5 h6; subst h1 h2 h3 h4 h5 h6; rfl
set_option maxRecDepth 10000 in
theorem s54 (a b : Seg) (ha : smallSeg a) (H : AH) : Sound E 54 [sgm a, sgm b] H (.ret (.bool (decide (a = b)))) H := by
  refine sound_of_awp tab_ok mixed Try.func54 rfl (by rfl) Try.ntmps54 (by kernel_rfl) (by simp) ?_
  simp
  refine gateT (fun e0 => ?_) (fun e0 => ?_)
  rotate_left
  · simp [e0]
    exact fin1 (rs := [.tmp 4]) (by rfl) (by simp [resA]; rintro rfl; simp at e0) (by simp [noF])
  simp [e0]
  refine gateT (fun e1 => ?_) (fun e1 => ?_)
  rotate_left
  · simp [e1, e0]
    exact fin1 (rs := [.tmp 4]) (by rfl) (by simp [resA]; rintro rfl; simp at e1) (by simp [noF])
  simp [e0, e1]
  refine call_ret (s24 a.fr b.fr ha.1 _) ?_
  simp [e0, e1]
  refine gateT (fun e2 => ?_) (fun e2 => ?_)
  rotate_left
  · simp [e2, e0, e1]
    exact fin1 (rs := [.tmp 4]) (by rfl) (by simp [resA]; rintro rfl; simp at e2) (by simp [noF])
  simp [e0, e1, e2]
  refine call_ret (s24 a.pre b.pre ha.2.1 _) ?_
  simp [e0, e1, e2]
  refine gateT (fun e3 => ?_) (fun e3 => ?_)
  rotate_left
  · simp [e3, e0, e1, e2]
    exact fin1 (rs := [.tmp 4]) (by rfl) (by simp [resA]; rintro rfl; simp at e3) (by simp [noF])
  simp [e0, e1, e2, e3]
  refine call_ret (s24 a.tube b.tube ha.2.2.1 _) ?_
  simp [e0, e1, e2, e3]
  refine gateT (fun e4 => ?_) (fun e4 => ?_)
  rotate_left
  · simp [e4, e0, e1, e2, e3]
    exact fin1 (rs := [.tmp 4]) (by rfl) (by simp [resA]; rintro rfl; simp at e4) (by simp [noF])
  simp [e0, e1, e2, e3, e4]
  refine call_ret (s24 a.to b.to ha.2.2.2 _) ?_
  simp [e0, e1, e2, e3, e4]
  simp at e0 e1 e2 e3 e4
  exact fin1 (rs := [.tmp 4]) (by rfl) (by simp [resA]; exact ⟨fun h => seg_ext e0 e1 e2 e3 e4 h, fun h => by rw [h]⟩) (by simp [noF])

def L44 (a b : List Seg) (H : AH) (i : Nat) (fr : AFr) (H' : AH) : Prop :=
  fr 0 = .slice (a.map sgm) false ∧ fr 1 = .slice (b.map sgm) false ∧ fr 5 = .int .i64 i ∧ (∃ J, H' = H ++ J) ∧ i ≤ a.length ∧ a.take i = b.take i
theorem s44 (a b : List Seg) (ha : a.length ≤ 9223372036854775807) (hs : ∀ s ∈ a, smallSeg s) (H : AH) : Sound E 44 [.slice (a.map sgm) false, .slice (b.map sgm) false] H (.ret (.bool (decide (a = b)))) H := by
  refine sound_of_awp tab_ok mixed Try.func44 rfl (by rfl) Try.ntmps44 (by kernel_rfl) (by simp) ?_
  simp
  refine branch (fun hc => ?_) (fun hc => ?_)
  · simp
    simp at hc
    exact fin0 (rs := [.tmp 4]) (by rfl) (by simp [resA]; rintro rfl; exact hc rfl)
  simp
  simp at hc
  refine loop_count (L44 a b H) (fun i => a.length - i) 0 ⟨by simp, by simp, by simp, ⟨[], by simp⟩, by simp, by simp⟩ ?_
  rintro i fr H' ⟨h0, h1, h5, ⟨J, rfl⟩, hi, heq⟩
  simp [h0, h5]
  refine branch (fun hl => ?_) (fun hl => ?_)
  · simp at hl
    obtain ⟨p, hp⟩ := get_lt hl
    obtain ⟨q, hq⟩ := get_lt (l := b) (i := i) (by omega)
    simp [h0, h1, h5, hp, hq]
    refine callD_ret (fun Hx => s54 p q (hs p (List.mem_of_getElem? hp)) Hx) ?_
    simp
    refine endD [] (by rfl) (by simp [okW, note, Eff.triv, Eff.wr, Eff.none, h0, h1]) ?_
    simp
    refine branch (fun hv => ?_) (fun hv => ?_)
    · simp
      simp at hv
      exact fin1 (rs := [.tmp 4]) (by rfl) (by simp [resA]; exact get_ne hp hq hv) (by simp [noF])
    · simp (disch := omega) [h5, wrap64]
      simp at hv
      subst hv
      exact ⟨i + 1, by dsimp only; omega, by simp [h0], by simp [h1], by simp, ⟨_, rfl⟩, by omega, take_step heq hp hq⟩
  · simp at hl
    simp
    exact fin1 (rs := [.tmp 4]) (by rfl) (by simp [resA]; exact take_end heq (by omega) (by omega)) (by simp [noF])
theorem s26 (a b : List Seg) (ha : a.length ≤ 9223372036854775807) (hs : ∀ s ∈ a, smallSeg s) (H : AH) : Sound E 26 [.slice (a.map sgm) false, .slice (b.map sgm) false] H (.ret (.bool (decide (a = b)))) H := by
  refine sound_of_awp tab_ok mixed Try.func26 rfl (by rfl) Try.ntmps26 (by kernel_rfl) (by simp) ?_
  simp
  refine call_ret (s44 a b ha hs _) ?_
  simp
  exact fin0 (rs := [.tmp 4]) (by rfl) (by simp [resA])

def prefN (c : Cert) (n : Int) : Nat := (min (max n 1) c.l.length).toNat
def prefCert (c : Cert) (n : Int) : Cert := ⟨c.t, c.fr, c.l.take (prefN c n)⟩
theorem s25 (c : Cert) (n : Int) (H : AH) : Sound E 25 [crt c, .int .i64 n] H (.ret (crt (prefCert c n))) H := by
  refine sound_of_awp tab_ok mixed Try.func25 rfl (by rfl) Try.ntmps25 (by kernel_rfl) (by simp) ?_
  have hk : (if (c.l.length : Int) < (if n < 1 then 1 else n) then (c.l.length : Int) else if n < 1 then 1 else n) = (prefN c n : Nat) := by
    unfold prefN; split <;> split <;> omega
  have hk2 : prefN c n ≤ c.l.length := by unfold prefN; omega
  simp [hk]
  refine bind_if (szOk_map fun x => rfl) ?_
  refine bind_if hk2 ?_
  simp
  refine endD [] (by rfl) (by simp [okW, note, Eff.triv, Eff.wr, Eff.none, upTo]) ?_
  simp
  have hm : List.take (prefN c n) (List.map stp c.l) = List.map stp (prefCert c n).l := by simp [prefCert, List.map_take]
  exact finC (rs := [.cell 4 25]) (vs' := [crt (prefCert c n)]) (J' := _) (by rfl) (by simp [resA]; rfl) (by simp [hm]; exact ⟨⟨rfl, rfl⟩, rfl⟩) (by simp [noFs, noF]) (by simp [one])
end Go.Proofs.Ythgamdcnomoidaa.Arm

namespace Go.Proofs.Ythgamdcnomoidaa.Arm
open Go.Arm

def bxs (s : Seg) : List Box := [s.fr, s.pre, s.tube, s.to]
def boxN (n : Nat) (b : Box) : Bool := b.length == n && boxB b
def segB (n : Nat) (t : Int) (s : Seg) : Bool := decide (1 ≤ s.h) && s.t == t && numB s.t && numB s.h && numB (s.t + s.h) && (bxs s).all (boxN n)
def flowsB (n : Nat) : Int → List Seg → Bool
  | _, [] => true
  | t, s :: r => segB n t s && flowsB n (s.t + s.h) r
def flowB (l : List Seg) : Bool := match l with
  | [] => false
  | s :: _ => decide (l.length ≤ 256) && flowsB s.fr.length s.t l
def slb (b : Box) : AV := .slice (b.map iv) false
@[simp] theorem slb_eq (b : Box) : slb b = .slice (b.map iv) false := rfl
theorem bxs_len (s : Seg) : (bxs s).length = 4 := rfl

def L23 (l : List Seg) (n : Nat) (t0 : Int) (H : AH) (i : Nat) (fr : AFr) (H' : AH) : Prop :=
  fr 0 = .slice (l.map sgm) false ∧ fr 20 = .slice (l.map sgm) false ∧ fr 21 = .int .i64 l.length ∧ fr 22 = .int .i64 i ∧ i ≤ l.length ∧ (∃ t, fr 3 = .int .i64 t ∧ flowsB n t0 l = flowsB n t (l.drop i)) ∧ ∃ J, H' = H ++ J
def M23 (l : List Seg) (n : Nat) (t : Int) (p : Seg) (H : AH) (i : Nat) (j : Nat) (fr : AFr) (H' : AH) : Prop :=
  fr 0 = .slice (l.map sgm) false ∧ fr 20 = .slice (l.map sgm) false ∧ fr 21 = .int .i64 l.length ∧ fr 22 = .int .i64 i ∧ fr 3 = .int .i64 t ∧ fr 69 = .agg ((bxs p).map slb) ∧ fr 70 = .int .i64 j ∧ j ≤ 4 ∧ ((bxs p).take j).all (boxN n) = true ∧ ∃ J, H' = H ++ J
set_option maxRecDepth 10000 in
theorem s23 (l : List Seg) (hl1 : l.length ≤ 9223372036854775807) (hs : ∀ s ∈ l, ∀ b ∈ bxs s, b.length ≤ 9223372036854775807) (H : AH) : Sound E 23 [.slice (l.map sgm) false] H (.ret (.bool (flowB l))) H := by
  refine sound_of_awp tab_ok mixed Try.func23 rfl (by rfl) Try.ntmps23 (by kernel_rfl) (by simp) ?_
  simp
  refine gateF (fun g1 => ?_) (fun g1 => ?_)
  rotate_left
  · simp [g1]
    exact fin0 (rs := [.tmp 2]) (by rfl) (by have : l = [] := by simp at g1; exact List.length_eq_zero_iff.1 (by omega)
                                             subst this; simp [resA, flowB])
  simp [g1]
  obtain ⟨s0, r0, rfl⟩ : ∃ s0 r0, l = s0 :: r0 := by cases l with
    | nil => simp at g1
    | cons a b => exact ⟨a, b, rfl⟩
  generalize hl : s0 :: r0 = l at *
  have h0 : l[0]? = some s0 := by rw [← hl]; rfl
  have hfl : flowB l = (decide (l.length ≤ 256) && flowsB s0.fr.length s0.t l) := by rw [← hl]; rfl
  refine branch (fun g2 => ?_) (fun g2 => ?_)
  · simp
    exact fin0 (rs := [.tmp 2]) (by rfl) (by have : ¬ l.length ≤ 256 := by simp at g2; omega
                                             rw [hfl]; simp [resA, this])
  have f2 : l.length ≤ 256 := by simp at g2; omega
  have cert : flowB l = flowsB s0.fr.length s0.t l := by rw [hfl]; simp [f2]
  simp [h0]
  refine loop_count (L23 l s0.fr.length s0.t H) (fun i => l.length - i) 0 ⟨by simp, by simp, by simp, by simp, by omega, ⟨s0.t, by simp, by simp⟩, [], by simp⟩ ?_
  rintro i fr H' ⟨k0, k20, k21, k22, hi, ⟨t, k3, hfs⟩, J, rfl⟩
  simp [k21, k22]
  refine branch (fun hc => ?_) (fun hc => ?_)
  rotate_left
  · simp at hc
    simp
    have : l.drop i = [] := List.drop_of_length_le (by omega)
    exact fin1 (rs := [.tmp 2]) (by rfl) (by rw [cert, hfs, this]; simp [resA, flowsB]) (by simp [noF])
  simp at hc
  obtain ⟨p, hp⟩ := get_lt hc
  have hpb := hs p (List.mem_of_getElem? hp)
  have bad : segB s0.fr.length t p = false → flowB l = false := by
    intro h; rw [cert, hfs, drop_at hp]; simp [flowsB, h]
  simp [k20, k22, hp]
  refine gateF (fun e1 => ?_) (fun e1 => ?_)
  rotate_left
  · simp [e1, k3]
    exact fin1 (rs := [.tmp 2]) (by rfl) (by rw [bad (by simp at e1; simp [segB]; (try intros); first | omega | simp_all | (simp_all; omega))]; simp [resA]) (by simp [noF])
  simp [e1, k3]
  refine gateF (fun e2 => ?_) (fun e2 => ?_)
  rotate_left
  · simp [e2, e1, k3]
    exact fin1 (rs := [.tmp 2]) (by rfl) (by rw [bad (by simp at e2; simp [segB]; (try intros); first | omega | simp_all | (simp_all; omega))]; simp [resA]) (by simp [noF])
  simp [e1, e2, k3]
  refine call_ret (s43 p.t _) ?_
  simp [e1, e2, k3]
  refine gateF (fun e3 => ?_) (fun e3 => ?_)
  rotate_left
  · simp [e3, e1, e2, k3]
    exact fin1 (rs := [.tmp 2]) (by rfl) (by rw [bad (by simp at e3; simp [segB]; (try intros); first | omega | simp_all | (simp_all; omega))]; simp [resA]) (by simp [noF])
  simp [e1, e2, e3, k3]
  refine call_ret (s43 p.h _) ?_
  simp [e1, e2, e3, k3]
  refine gateF (fun e4 => ?_) (fun e4 => ?_)
  rotate_left
  · simp [e4, e1, e2, e3, k3]
    exact fin1 (rs := [.tmp 2]) (by rfl) (by rw [bad (by simp at e4; simp [segB]; (try intros); first | omega | simp_all | (simp_all; omega))]; simp [resA]) (by simp [noF])
  have v1 := numB_range (show numB p.t = true by simpa using e3)
  have v2 := numB_range (show numB p.h = true by simpa using e4)
  have w1 : IntKind.i64.wrap (p.t + p.h) = p.t + p.h := wrap64 (by omega) (by omega)
  simp [e1, e2, e3, e4, k3, w1]
  refine call_ret (s43 _ _) ?_
  simp [e1, e2, e3, e4, k3, w1]
  refine branch (fun e5 => ?_) (fun e5 => ?_)
  · simp
    exact fin1 (rs := [.tmp 2]) (by rfl) (by rw [bad (by simp at e5; simp [segB]; (try intros); first | omega | simp_all | (simp_all; omega))]; simp [resA]) (by simp [noF])
  simp [w1]
  refine loop_count (M23 l s0.fr.length (p.t + p.h) p H i) (fun j => 4 - j) 0 ⟨by simp [k0], by simp [k20], by simp [k21], by simp [k22], by simp, by simp [bxs], by simp, by omega, by simp, _, rfl⟩ ?_
  rintro j fr H' ⟨k0, k20, k21, k22, k3, k69, k70, hj, hall, J, rfl⟩
  simp [k70]
  refine branch (fun hjc => ?_) (fun hjc => ?_)
  · simp at hjc
    obtain ⟨b, hb⟩ := get_lt (l := bxs p) (i := j) (by rw [bxs_len]; omega)
    have hbl := hpb b (List.mem_of_getElem? hb)
    have badb : boxN s0.fr.length b = false → flowB l = false := fun h => bad (by simp [segB, all_not hb h])
    have hj4 : ((j : Int) < 4) := by omega
    simp [k69, k70, hb, k0, h0, hj4]
    refine gateF (fun e6 => ?_) (fun e6 => ?_)
    rotate_left
    · simp [e6]
      exact fin1 (rs := [.tmp 2]) (by rfl) (by rw [badb (by simp at e6; simp [boxN]; intro h; omega)]; simp [resA]) (by simp [noF])
    simp [e6]
    refine call_ret (s41 b hbl _) ?_
    simp [e6]
    refine branch (fun e7 => ?_) (fun e7 => ?_)
    · simp
      exact fin1 (rs := [.tmp 2]) (by rfl) (by rw [badb (by simp at e7; simp [boxN, e7])]; simp [resA]) (by simp [noF])
    simp (disch := omega) [k70, wrap64]
    have hbn : boxN s0.fr.length b = true := by simp at e6 e7; simp [boxN, e7]; omega
    exact ⟨j + 1, by dsimp only; omega, by simp [k0], by simp [k20], by simp [k21], by simp [k22], by simp [k3], by simp [k69], by simp, by omega, all_take hall hb hbn, J, rfl⟩
  · simp at hjc
    have hall' := all_end hall (by rw [bxs_len]; omega)
    simp (disch := omega) [k22, wrap64]
    have good : segB s0.fr.length t p = true := by
      simp at e1 e2 e3 e4 e5
      simp only [segB, Bool.and_eq_true, decide_eq_true_eq, beq_iff_eq]
      exact ⟨⟨⟨⟨⟨by omega, e2⟩, e3⟩, e4⟩, e5⟩, hall'⟩
    exact ⟨i + 1, by dsimp only; omega, by simp [k0], by simp [k20], by simp [k21], by simp, by omega, ⟨p.t + p.h, by simp [k3], by rw [hfs, drop_at hp]; simp [flowsB, good]⟩, _, rfl⟩

end Go.Proofs.Ythgamdcnomoidaa.Arm

namespace Go.Proofs.Ythgamdcnomoidaa.Arm
open Go.Arm

def L33 (l : List Seg) (s0 : Seg) (H : AH) (i : Nat) (fr : AFr) (H' : AH) : Prop :=
  fr 0 = .slice (l.map sgm) false ∧ fr 3 = .int .i64 s0.fr.length ∧ fr 4 = .int .i64 i ∧ i ≤ l.length ∧ (∃ t, flowsB s0.fr.length s0.t l = flowsB s0.fr.length t (l.drop i) ∧
    ((i = 0 ∧ t = s0.t) ∨ ∃ q k, i = k + 1 ∧ l[k]? = some q ∧ t = q.t + q.h ∧ numB (q.t + q.h) = true)) ∧ ∃ J, H' = H ++ J
def M33 (l : List Seg) (s0 : Seg) (p : Seg) (H : AH) (i : Nat) (j : Nat) (fr : AFr) (H' : AH) : Prop :=
  fr 0 = .slice (l.map sgm) false ∧ fr 3 = .int .i64 s0.fr.length ∧ fr 4 = .int .i64 i ∧ fr 6 = .slice ((bxs p).map slb) true ∧ fr 7 = .int .i64 j ∧ j ≤ 4 ∧ ((bxs p).take j).all (boxN s0.fr.length) = true ∧ ∃ J, H' = H ++ J
set_option maxRecDepth 10000 in
theorem s33 (l : List Seg) (hl1 : l.length ≤ 9223372036854775807) (hs : ∀ s ∈ l, ∀ b ∈ bxs s, b.length ≤ 9223372036854775807) (H : AH) : Sound E 33 [.slice (l.map sgm) false] H (.ret (.bool (flowB l))) H := by
  refine sound_of_awp tab_ok mixed Try.func33 rfl (by rfl) Try.ntmps33 (by kernel_rfl) (by simp) ?_
  simp
  refine gateF (fun g1 => ?_) (fun g1 => ?_)
  rotate_left
  · simp [g1]
    exact fin0 (rs := [.tmp 2]) (by rfl) (by have : l = [] := by simp at g1; exact List.length_eq_zero_iff.1 (by omega)
                                             subst this; simp [resA, flowB])
  simp [g1]
  obtain ⟨s0, r0, rfl⟩ : ∃ s0 r0, l = s0 :: r0 := by cases l with
    | nil => simp at g1
    | cons a b => exact ⟨a, b, rfl⟩
  generalize hl : s0 :: r0 = l at *
  have h0 : l[0]? = some s0 := by rw [← hl]; rfl
  have hfl : flowB l = (decide (l.length ≤ 256) && flowsB s0.fr.length s0.t l) := by rw [← hl]; rfl
  refine branch (fun g2 => ?_) (fun g2 => ?_)
  · simp
    exact fin0 (rs := [.tmp 2]) (by rfl) (by have : ¬ l.length ≤ 256 := by simp at g2; omega
                                             rw [hfl]; simp [resA, this])
  have f2 : l.length ≤ 256 := by simp at g2; omega
  have cert : flowB l = flowsB s0.fr.length s0.t l := by rw [hfl]; simp [f2]
  simp [h0]
  refine loop_count (L33 l s0 H) (fun i => l.length - i) 0 ⟨by simp, by simp, by simp, by omega, ⟨s0.t, by simp, .inl ⟨rfl, rfl⟩⟩, [], by simp⟩ ?_
  rintro i fr H' ⟨k0, k3, k4, hi, ⟨t, hfs, hprev⟩, J, rfl⟩
  simp [k0, k4]
  refine branch (fun hc => ?_) (fun hc => ?_)
  rotate_left
  · simp at hc
    simp
    have : l.drop i = [] := List.drop_of_length_le (by omega)
    exact fin1 (rs := [.tmp 2]) (by rfl) (by rw [cert, hfs, this]; simp [resA, flowsB]) (by simp [noF])
  simp at hc
  obtain ⟨p, hp⟩ := get_lt hc
  have hpb := hs p (List.mem_of_getElem? hp)
  have bad : segB s0.fr.length t p = false → flowB l = false := by
    intro h; rw [cert, hfs, drop_at hp]; simp [flowsB, h]
  simp [k0, k4, hp]
  refine gateF (fun e1 => ?_) (fun e1 => ?_)
  rotate_left
  · simp [e1, k4]
    refine endD [] (by rfl) (by simp [okW, note, Eff.triv, Eff.wr, Eff.none]) ?_
    simp
    exact fin1 (rs := [.tmp 2]) (by rfl) (by rw [bad (by simp at e1; simp [segB]; (try intros); first | omega | simp_all | (simp_all; omega))]; simp [resA]) (by simp [noF])
  simp [e1, k4]
  refine callD_ret (fun Hx => s38 p.t Hx) ?_
  simp [e1, k4]
  refine gateF (fun e2 => ?_) (fun e2 => ?_)
  rotate_left
  · simp [e2, e1, k4]
    refine endD [] (by rfl) (by simp [okW, note, Eff.triv, Eff.wr, Eff.none]) ?_
    simp
    exact fin1 (rs := [.tmp 2]) (by rfl) (by rw [bad (by simp at e2; simp [segB]; (try intros); first | omega | simp_all | (simp_all; omega))]; simp [resA]) (by simp [noF])
  simp [e1, e2, k4]
  refine callD_ret (fun Hx => s38 p.h Hx) ?_
  simp [e1, e2, k4]
  refine gateF (fun e3 => ?_) (fun e3 => ?_)
  rotate_left
  · simp [e3, e1, e2, k4]
    refine endD [] (by rfl) (by simp [okW, note, Eff.triv, Eff.wr, Eff.none]) ?_
    simp
    exact fin1 (rs := [.tmp 2]) (by rfl) (by rw [bad (by simp at e3; simp [segB]; (try intros); first | omega | simp_all | (simp_all; omega))]; simp [resA]) (by simp [noF])
  have v1 := numB_range (show numB p.t = true by simpa using e2)
  have v2 := numB_range (show numB p.h = true by simpa using e3)
  have w1 : IntKind.i64.wrap (p.t + p.h) = p.t + p.h := wrap64 (by omega) (by omega)
  simp [e1, e2, e3, k4, w1]
  refine callD_ret (fun Hx => s38 (p.t + p.h) Hx) ?_
  simp [e1, e2, e3, k4, w1]
  refine gateF (fun e4 => ?_) (fun e4 => ?_)
  rotate_left
  · simp [e4, e1, e2, e3, k4]
    refine endD [] (by rfl) (by simp [okW, note, Eff.triv, Eff.wr, Eff.none]) ?_
    simp
    exact fin1 (rs := [.tmp 2]) (by rfl) (by rw [bad (by simp at e4; simp [segB]; (try intros); first | omega | simp_all | (simp_all; omega))]; simp [resA]) (by simp [noF])
  simp [e1, e2, e3, e4, k4]
  have inner : ∀ (fr : AFr) (J : AH), fr 0 = .slice (l.map sgm) false → fr 3 = .int .i64 s0.fr.length → fr 4 = .int .i64 i → fr 6 = .slice ((bxs p).map slb) true → fr 7 = .int .i64 (0 : Nat) → p.t = t → M33 l s0 p H i 0 fr (H ++ J) :=
    fun fr J a b c d e _ => ⟨a, b, c, d, e, by omega, by simp, J, rfl⟩

  rcases hprev with ⟨hi0, ht⟩ | ⟨q, k, hik, hq, ht, hqn⟩
  · have hpt : p.t = t := by rw [hi0, h0] at hp; cases hp; exact ht.symm
    refine gateT (fun e0 => ?_) (fun e0 => ?_)
    · simp at e0; omega
    simp [e0]
    refine endD [] (by rfl) (by simp [okW, note, Eff.triv, Eff.wr, Eff.none]) ?_
    simp
    refine loop_count (M33 l s0 p H i) (fun j => 4 - j) 0 ⟨by simp [k0], by simp [k3], by simp [k4], by simp [bxs], by simp, by omega, by simp, _, rfl⟩ ?_
    rintro j fr H' ⟨k0, k3, k4, k6, k7, hj, hall, J, rfl⟩
    simp [k7]
    refine branch (fun hjc => ?_) (fun hjc => ?_)
    · simp at hjc
      obtain ⟨b, hb⟩ := get_lt (l := bxs p) (i := j) (by rw [bxs_len]; omega)
      have hbl := hpb b (List.mem_of_getElem? hb)
      have badb : boxN s0.fr.length b = false → flowB l = false := fun h => bad (by simp [segB, all_not hb h])
      simp [k3, k6, k7, hb]
      refine gateF (fun e6 => ?_) (fun e6 => ?_)
      rotate_left
      · simp [e6]
        exact fin1 (rs := [.tmp 2]) (by rfl) (by rw [badb (by simp at e6; simp [boxN]; intro h; omega)]; simp [resA]) (by simp [noF])
      simp [e6, k6, k7, hb]
      refine call_ret (s39 b hbl _) ?_
      simp [e6]
      refine branch (fun e7 => ?_) (fun e7 => ?_)
      · simp
        exact fin1 (rs := [.tmp 2]) (by rfl) (by rw [badb (by simp at e7; simp [boxN, e7])]; simp [resA]) (by simp [noF])
      simp (disch := omega) [k7, wrap64]
      have hbn : boxN s0.fr.length b = true := by simp at e6 e7; simp [boxN, e7]; omega
      exact ⟨j + 1, by dsimp only; omega, by simp [k0], by simp [k3], by simp [k4], by simp [k6], by simp, by omega, all_take hall hb hbn, J, rfl⟩
    · simp at hjc
      have hall' := all_end hall (by rw [bxs_len]; omega)
      simp (disch := omega) [k4, wrap64]
      have good : segB s0.fr.length t p = true := by
        simp at e1 e2 e3 e4
        simp only [segB, Bool.and_eq_true, decide_eq_true_eq, beq_iff_eq]
        exact ⟨⟨⟨⟨⟨by omega, hpt⟩, e2⟩, e3⟩, e4⟩, hall'⟩
      exact ⟨i + 1, by dsimp only; omega, by simp [k0], by simp [k3], by simp, by omega, ⟨p.t + p.h, by rw [hfs, drop_at hp]; simp [flowsB, good], .inr ⟨p, i, rfl, hp, rfl, by simpa using e4⟩⟩, _, rfl⟩

  · have hkp : (0 : Int) < i := by omega
    have w2 : IntKind.i64.wrap ((i : Int) - 1) = k := (wrap64 (by omega) (by omega)).trans (by omega)
    have vq := numB_range hqn
    have w3 : IntKind.i64.wrap (q.t + q.h) = t := (wrap64 (by omega) (by omega)).trans ht.symm
    refine gateT (fun e0 => ?_) (fun e0 => ?_)
    rotate_left
    · simp at e0; omega
    simp [e0, k0, k4, w2, hq, w3]
    refine endD [] (by rfl) (by simp [okW, note, Eff.triv, Eff.wr, Eff.none, k0]) ?_
    simp
    refine branch (fun e5 => ?_) (fun e5 => ?_)
    · simp
      exact fin1 (rs := [.tmp 2]) (by rfl) (by rw [bad (by simp at e5; simp [segB]; (try intros); first | omega | simp_all | (simp_all; omega))]; simp [resA]) (by simp [noF])
    have hpt : p.t = t := by simpa using e5
    simp
    refine loop_count (M33 l s0 p H i) (fun j => 4 - j) 0 ⟨by simp [k0], by simp [k3], by simp [k4], by simp [bxs], by simp, by omega, by simp, _, rfl⟩ ?_
    rintro j fr H' ⟨k0, k3, k4, k6, k7, hj, hall, J, rfl⟩
    simp [k7]
    refine branch (fun hjc => ?_) (fun hjc => ?_)
    · simp at hjc
      obtain ⟨b, hb⟩ := get_lt (l := bxs p) (i := j) (by rw [bxs_len]; omega)
      have hbl := hpb b (List.mem_of_getElem? hb)
      have badb : boxN s0.fr.length b = false → flowB l = false := fun h => bad (by simp [segB, all_not hb h])
      simp [k3, k6, k7, hb]
      refine gateF (fun e6 => ?_) (fun e6 => ?_)
      rotate_left
      · simp [e6]
        exact fin1 (rs := [.tmp 2]) (by rfl) (by rw [badb (by simp at e6; simp [boxN]; intro h; omega)]; simp [resA]) (by simp [noF])
      simp [e6, k6, k7, hb]
      refine call_ret (s39 b hbl _) ?_
      simp [e6]
      refine branch (fun e7 => ?_) (fun e7 => ?_)
      · simp
        exact fin1 (rs := [.tmp 2]) (by rfl) (by rw [badb (by simp at e7; simp [boxN, e7])]; simp [resA]) (by simp [noF])
      simp (disch := omega) [k7, wrap64]
      have hbn : boxN s0.fr.length b = true := by simp at e6 e7; simp [boxN, e7]; omega
      exact ⟨j + 1, by dsimp only; omega, by simp [k0], by simp [k3], by simp [k4], by simp [k6], by simp, by omega, all_take hall hb hbn, J, rfl⟩
    · simp at hjc
      have hall' := all_end hall (by rw [bxs_len]; omega)
      simp (disch := omega) [k4, wrap64]
      have good : segB s0.fr.length t p = true := by
        simp at e1 e2 e3 e4
        simp only [segB, Bool.and_eq_true, decide_eq_true_eq, beq_iff_eq]
        exact ⟨⟨⟨⟨⟨by omega, hpt⟩, e2⟩, e3⟩, e4⟩, hall'⟩
      exact ⟨i + 1, by dsimp only; omega, by simp [k0], by simp [k3], by simp, by omega, ⟨p.t + p.h, by rw [hfs, drop_at hp]; simp [flowsB, good], .inr ⟨p, i, rfl, hp, rfl, by simpa using e4⟩⟩, _, rfl⟩

end Go.Proofs.Ythgamdcnomoidaa.Arm

namespace Go.Proofs.Ythgamdcnomoidaa.Arm
open Go.Arm

def toStep (o : Int) (s : Seg) : Step := ⟨s.h, o, s.pre, s.to⟩
def steps (o : Int) (l : List Seg) : List Step := l.map (toStep o)
theorem steps_succ {o : Int} {l : List Seg} {i : Nat} {p : Seg} (hp : l[i]? = some p) : steps o (l.take (i + 1)) = steps o (l.take i) ++ [toStep o p] := by
  unfold steps; rw [List.take_add_one, hp, List.map_append]; rfl
@[simp] theorem steps_len (o : Int) (l : List Seg) : (steps o l).length = l.length := by simp [steps]
def chainB : Box → List Seg → Bool
  | _, [] => true
  | f, s :: r => decide (s.fr = f) && chainB s.to r
def zeroCert : Cert := ⟨0, [], []⟩
def okFrom (l : List Seg) (o : Int) : Bool := flowB l && decide (0 ≤ o) && decide (o < 8) && (match l with
  | [] => false
  | s :: _ => chainB s.fr l)
def certOf (l : List Seg) (o : Int) : Cert := match l with
  | [] => zeroCert
  | s :: _ => ⟨s.t, s.fr, steps o l⟩
def fromSegs (l : List Seg) (o : Int) : AV := if okFrom l o then .tuple [crt (certOf l o), .bool true] else .tuple [crt zeroCert, .bool false]

def L14 (l : List Seg) (s0 : Seg) (o : Int) (H : AH) (i : Nat) (fr : AFr) (H' : AH) : Prop :=
  fr 1 = .int .i64 o ∧ fr 4 = .ptr H.length 1 0 0 ∧ fr 6 = .ptr (H.length + 1) 1 0 0 ∧ fr 32 = .slice (l.map sgm) false ∧ fr 33 = .int .i64 l.length ∧ fr 34 = .int .i64 i ∧ i ≤ l.length ∧
  (∃ f : Box, fr 7 = .slice (f.map iv) false ∧ chainB s0.fr l = chainB f (l.drop i)) ∧
  ∃ J v, H' = H ++ J ∧ J[0]? = some (.row true 3 [.agg [.int .i64 0, .nilslice, .nilslice]]) ∧ J[1]? = some (.row true 3 [.agg [.int .i64 s0.t, .slice (s0.fr.map iv) false, v]]) ∧
    Acc H J v 4 ((steps o (l.take i)).map stp) .nilslice ∧ (∀ j n, v = .ref (H.length + j) n → 2 ≤ j)
set_option maxRecDepth 10000 in
theorem s14 (l : List Seg) (o : Int) (hl1 : l.length ≤ 1000) (hs : ∀ s ∈ l, ∀ b ∈ bxs s, b.length ≤ 9223372036854775807) (H : AH) : Sound E 14 [.slice (l.map sgm) false, .int .i64 o] H (.ret (fromSegs l o)) H := by
  refine sound_of_awp tab_ok mixed Try.func14 rfl (by rfl) Try.ntmps14 (by kernel_rfl) (by simp) ?_
  have die : okFrom l o = false → fromSegs l o = .tuple [crt zeroCert, .bool false] := fun h => by simp [fromSegs, h]
  simp
  refine call_ret (s23 l (by omega) hs _) ?_
  simp
  refine gateF (fun e1 => ?_) (fun e1 => ?_)
  rotate_left
  · simp [e1]
    simp at e1
    refine finC (rs := [.cell 4 25, .tmp 5]) (vs' := [crt zeroCert, .bool false]) (J' := _) (by rfl) (by simp [resA]; rfl) (by simp [zeroCert]; rfl) (by simp [noFs, noF]) ?_
    rw [die (by simp [okFrom, e1])]; rfl
  simp [e1]
  refine call_ret (s31 o _) ?_
  simp [e1]
  refine branch (fun e2 => ?_) (fun e2 => ?_)
  · simp
    refine finC (rs := [.cell 4 25, .tmp 5]) (vs' := [crt zeroCert, .bool false]) (J' := _) (by rfl) (by simp [resA]; rfl) (by simp [zeroCert]; rfl) (by simp [noFs, noF]) ?_
    rw [die (by simp at e2; simp [okFrom]; intros; omega)]; rfl
  have hf : flowB l = true := by simpa using e1
  have ho : 0 ≤ o ∧ o < 8 := by simpa using e2
  obtain ⟨s0, r0, rfl⟩ : ∃ s0 r0, l = s0 :: r0 := by cases l with
    | nil => simp [flowB] at hf
    | cons a b => exact ⟨a, b, rfl⟩
  have hok : okFrom (s0 :: r0) o = chainB s0.fr (s0 :: r0) := by simp [okFrom, hf, ho.1, ho.2]
  have hcert : certOf (s0 :: r0) o = ⟨s0.t, s0.fr, steps o (s0 :: r0)⟩ := rfl
  generalize hl : s0 :: r0 = l at *
  have h0 : l[0]? = some s0 := by rw [← hl]; rfl
  simp [h0]
  refine endD [(9, 10)] (by rfl) (by simp [okW, note, Eff.triv, Eff.wr, Eff.none, upTo, newAt]) ?_
  simp [h0]
  refine loop_count (L14 l s0 o H) (fun i => l.length - i) 0 ⟨by simp, by simp, by simp, by simp, by simp, by simp, by omega, ⟨s0.fr, by simp, by simp⟩, _, .nilslice, rfl, by simp, by simp, .inl ⟨by simp [steps], rfl⟩, fun j n h => by cases h⟩ ?_
  rintro i fr H' ⟨k1, k4, k6, k32, k33, k34, hi, ⟨f, k7, hch⟩, J, v, rfl, hJ0, hJ1, hacc, hv⟩
  have o0 := old hJ0
  have o1 := old hJ1
  have sg : ∀ X L, (J.set 0 X ++ L)[0]? = some X := fun X L => set_get' hJ0
  simp [k33, k34]
  refine branch (fun hc => ?_) (fun hc => ?_)
  rotate_left
  · simp at hc
    have hd : l.drop i = [] := List.drop_of_length_le (by omega)
    have ht : l.take i = l := List.take_of_length_le (by omega)
    rw [ht] at hacc
    rw [hd] at hch
    rcases hacc with ⟨hnil, -⟩ | ⟨k, rfl, hk⟩
    · rw [← hl] at hnil; simp [steps] at hnil
    have hk2 := hv k _ rfl
    simp [k4, k6, hJ0, hJ1]
    have hk0 : (J.set 0 (ABlk.row true 3 [.agg [.int .i64 s0.t, .slice (s0.fr.map iv) false, .ref (H.length + k) l.length]]))[k]? = some (.row true 4 ((steps o l).map stp)) := by
      rw [List.getElem?_set_ne (by omega)]; exact hk
    refine finC (rs := [.cell 4 25, .tmp 5]) (vs' := [crt (certOf l o), .bool true]) (J' := _) (by rfl) (by simp [resA, k4, set_get hJ0]; rfl) (by simp [hk0, hcert]; rfl) (by simp [noFs, noF]) ?_
    simp [fromSegs, hok, hch, chainB, one]
  simp at hc
  obtain ⟨p, hp⟩ := get_lt hc
  have hpb := hs p (List.mem_of_getElem? hp)
  simp [k7, k32, k34, hp]
  refine call_ret (s32 p.fr f (hpb p.fr (by simp [bxs])) _) ?_
  simp
  refine branch (fun e3 => ?_) (fun e3 => ?_)
  · simp [k4, ↓o0, olds hJ0]
    refine finC (rs := [.cell 4 25, .tmp 5]) (vs' := [crt zeroCert, .bool false]) (J' := _) (by rfl) (by simp [resA, k4, ↓sg]; rfl) (by simp [zeroCert]; rfl) (by simp [noFs, noF]) ?_
    rw [die (by rw [hok, hch, drop_at hp]; simp at e3; simp [chainB, e3])]; rfl
  simp at e3
  simp [k1, k6, ↓o1]
  obtain ⟨v', J', hap, hacc', hold, hle, hnew⟩ := (hacc.len (L := [.row true 6 [sgm p]])).push (T := tab) (t := 23) (x := .slice [stp (toStep o p)] true) (ys := [stp (toStep o p)]) (i := i23) (ie := i52) (e := 52) rfl rfl rfl rfl rfl (by simp [i52]) (by simp [i52]) (by simp [i52]; omega) (by simp; omega)
  have p0 : J'[0]? = J[0]? := (hold 0 _ (o0 _) fun n h => by have := hv 0 n h; omega).trans hJ0.symm
  have p1 : J'[1]? = J[1]? := (hold 1 _ (o1 _) fun n h => by have := hv 1 n h; omega).trans hJ1.symm
  have hv' : ∀ j n, v' = .ref (H.length + j) n → 2 ≤ j := by
    intro j n h
    rcases hnew j n h with ⟨m, hm⟩ | h2
    · exact hv j m hm
    · have := (List.getElem?_eq_some_iff.1 hJ1).1
      simp at h2; omega
  refine bind_some hap ?_
  rcases hacc' with ⟨h, _⟩ | ⟨k, rfl, hk⟩
  · simp at h
  have hk2 := hv' k _ rfl
  simp (disch := omega) [k6, ↓p1, hJ1, k34, wrap64]
  refine ⟨i + 1, by dsimp only; omega, by simp [k1], by simp [k4], by simp [k6], by simp [k32], by simp [k33], by simp, by omega, ⟨p.to, by simp, ?_⟩, _, _, rfl, ?_, set_get (p1.trans hJ1), .inr ⟨k, ?_, ?_⟩, fun j n h => by simp only [AV.ref.injEq] at h; omega⟩
  · rw [hch, drop_at hp]; simp [chainB, e3]
  · rw [List.getElem?_set_ne (by omega)]; exact p0.trans hJ0
  · simp; omega
  · rw [List.getElem?_set_ne (by omega), hk, steps_succ hp, List.map_append]; rfl
end Go.Proofs.Ythgamdcnomoidaa.Arm

namespace Go.Proofs.Ythgamdcnomoidaa.Arm
open Go.Arm

def L15 (l : List Seg) (s0 : Seg) (o : Int) (H : AH) (i : Nat) (fr : AFr) (H' : AH) : Prop :=
  fr 0 = .slice (l.map sgm) false ∧ fr 1 = .int .i64 o ∧ fr 4 = .ptr H.length 1 0 0 ∧ fr 6 = .ptr (H.length + 1) 1 0 0 ∧ fr 7 = .int .i64 i ∧ i ≤ l.length ∧
  (∃ f : Box, chainB s0.fr l = chainB f (l.drop i) ∧ ((i = 0 ∧ f = s0.fr) ∨ ∃ q k, i = k + 1 ∧ l[k]? = some q ∧ f = q.to)) ∧
  ∃ J v, H' = H ++ J ∧ J[0]? = some (.row true 3 [.agg [.int .i64 0, .nilslice, .nilslice]]) ∧ J[1]? = some (.row true 3 [.agg [.int .i64 s0.t, .slice (s0.fr.map iv) false, v]]) ∧
    ((i = 0 ∧ v = .nilslice) ∨ ∃ k, 2 ≤ k ∧ v = .ref (H.length + k) i ∧ J[k]? = some (.row true 4 ((steps o (l.take i)).map stp)))
set_option maxRecDepth 10000 in
theorem s15 (l : List Seg) (o : Int) (hl1 : l.length ≤ 1000) (hs : ∀ s ∈ l, ∀ b ∈ bxs s, b.length ≤ 9223372036854775807) (H : AH) : Sound E 15 [.slice (l.map sgm) false, .int .i64 o] H (.ret (fromSegs l o)) H := by
  refine sound_of_awp tab_ok mixed Try.func15 rfl (by rfl) Try.ntmps15 (by kernel_rfl) (by simp) ?_
  have die : okFrom l o = false → fromSegs l o = .tuple [crt zeroCert, .bool false] := fun h => by simp [fromSegs, h]
  simp
  refine call_ret (s33 l (by omega) hs _) ?_
  simp
  refine gateF (fun e1 => ?_) (fun e1 => ?_)
  rotate_left
  · simp [e1]
    simp at e1
    refine finC (rs := [.cell 4 25, .tmp 5]) (vs' := [crt zeroCert, .bool false]) (J' := _) (by rfl) (by simp [resA]; rfl) (by simp [zeroCert]; rfl) (by simp [noFs, noF]) ?_
    rw [die (by simp [okFrom, e1])]; rfl
  simp [e1]
  refine gateF (fun e4 => ?_) (fun e4 => ?_)
  rotate_left
  · simp [e1, e4]
    refine finC (rs := [.cell 4 25, .tmp 5]) (vs' := [crt zeroCert, .bool false]) (J' := _) (by rfl) (by simp [resA]; rfl) (by simp [zeroCert]; rfl) (by simp [noFs, noF]) ?_
    rw [die (by simp at e4; simp [okFrom]; intros; omega)]; rfl
  simp [e1, e4]
  refine branch (fun e2 => ?_) (fun e2 => ?_)
  · simp
    refine finC (rs := [.cell 4 25, .tmp 5]) (vs' := [crt zeroCert, .bool false]) (J' := _) (by rfl) (by simp [resA]; rfl) (by simp [zeroCert]; rfl) (by simp [noFs, noF]) ?_
    rw [die (by simp at e2; simp [okFrom]; intros; omega)]; rfl
  have hf : flowB l = true := by simpa using e1
  have ho : 0 ≤ o ∧ o < 8 := by simp at e4 e2; omega
  obtain ⟨s0, r0, rfl⟩ : ∃ s0 r0, l = s0 :: r0 := by cases l with
    | nil => simp [flowB] at hf
    | cons a b => exact ⟨a, b, rfl⟩
  have hok : okFrom (s0 :: r0) o = chainB s0.fr (s0 :: r0) := by simp [okFrom, hf, ho.1, ho.2]
  have hcert : certOf (s0 :: r0) o = ⟨s0.t, s0.fr, steps o (s0 :: r0)⟩ := rfl
  generalize hl : s0 :: r0 = l at *
  have h0 : l[0]? = some s0 := by rw [← hl]; rfl
  simp [h0]
  refine endD [(9, 10)] (by rfl) (by simp [okW, note, Eff.triv, Eff.wr, Eff.none, upTo, newAt]) ?_
  simp [h0]
  refine loop_count (L15 l s0 o H) (fun i => l.length - i) 0 ⟨by simp, by simp, by simp, by simp, by simp, by omega, ⟨s0.fr, by simp, .inl ⟨rfl, rfl⟩⟩, _, .nilslice, rfl, by simp, by simp, .inl ⟨rfl, rfl⟩⟩ ?_
  rintro i fr H' ⟨k0, k1, k4, k6, k7, hi, ⟨f, hch, hprev⟩, J, v, rfl, hJ0, hJ1, hv⟩
  simp [k0, k7]
  refine branch (fun hc => ?_) (fun hc => ?_)
  rotate_left
  · simp at hc
    have hd : l.drop i = [] := List.drop_of_length_le (by omega)
    have ht : l.take i = l := List.take_of_length_le (by omega)
    rw [ht] at hv
    rw [hd] at hch
    rcases hv with ⟨hnil, -⟩ | ⟨k, hk2, rfl, hk⟩
    · have : 0 < l.length := by rw [← hl]; simp
      omega
    have hil : i = l.length := by omega
    subst hil
    simp [k4, k6, hJ0, hJ1]
    have hk0 : (J.set 0 (ABlk.row true 3 [.agg [.int .i64 s0.t, .slice (s0.fr.map iv) false, .ref (H.length + k) l.length]]))[k]? = some (.row true 4 ((steps o l).map stp)) := by
      rw [List.getElem?_set_ne (by omega)]; exact hk
    refine finC (rs := [.cell 4 25, .tmp 5]) (vs' := [crt (certOf l o), .bool true]) (J' := _) (by rfl) (by simp [resA, k4, set_get hJ0]; rfl) (by simp [hk0, hcert]; rfl) (by simp [noFs, noF]) ?_
    simp [fromSegs, hok, hch, chainB, one]
  simp at hc
  obtain ⟨p, hp⟩ := get_lt hc
  have hpb := hs p (List.mem_of_getElem? hp)
  simp [k7]
  refine gateT (fun e0 => ?_) (fun e0 => ?_)
  · rcases hprev with ⟨h, _⟩ | ⟨q, m, him, hq, hfq⟩
    · simp at e0; omega
    have w2 : IntKind.i64.wrap ((i : Int) - 1) = m := (wrap64 (by omega) (by omega)).trans (by omega)
    simp [e0, k0, k7, w2, hp, hq]
    refine callD_ret (fun Hx => s24 p.fr q.to (hpb p.fr (by simp [bxs])) Hx) ?_
    simp [e0]
    refine endD [] (by rfl) (by simp [okW, note, Eff.triv, Eff.wr, Eff.none, k0]) ?_
    simp
    refine branch (fun e3 => ?_) (fun e3 => ?_)
    · simp [k4, hJ0]
      refine finC (rs := [.cell 4 25, .tmp 5]) (vs' := [crt zeroCert, .bool false]) (J' := _) (by rfl) (by simp [resA, k4, set_get hJ0]; rfl) (by simp [zeroCert]; rfl) (by simp [noFs, noF]) ?_
      rw [die (by rw [hok, hch, drop_at hp]; simp at e3; simp [chainB, hfq, e3])]; rfl
    have e3 : p.fr = f := by rw [hfq]; simpa using e3
    simp
    rcases hv with ⟨rfl, rfl⟩ | ⟨k, hk2, rfl, hk⟩
    · have hlen := (List.getElem?_eq_some_iff.1 hJ1).1
      simp [k0, k1, k6, k7, hp, hJ1, appendA, growA, growNew, olds hJ1, old hJ1]
      refine endD [(1, 22), (20, 22)] (by rfl) (by simp [okW, note, Eff.triv, Eff.wr, Eff.none, upTo, newAt, k0]; try omega) ?_
      simp (disch := omega) [k7, wrap64]
      refine ⟨1, by dsimp only; omega, by simp [k0], by simp [k1], by simp [k4], by simp [k6], by simp, by omega, ⟨p.to, ?_, .inr ⟨p, 0, rfl, hp, rfl⟩⟩, _, .ref (H.length + J.length) 1, rfl, ?_, set_get' hJ1, .inr ⟨J.length, by omega, rfl, ?_⟩⟩
      · rw [hch, drop_at hp]; simp [chainB, e3]
      · rw [get_old (by rw [List.getElem?_set_ne (by omega)]; exact hJ0)]
      · rw [List.getElem?_append_right (by simp)]
        have : l.take 1 = [p] := by rw [show (1 : Nat) = 0 + 1 from rfl, List.take_add_one, hp]; rfl
        simp [this, steps, toStep]
    · have hbd : (i + 1) * 64 ≤ 140737488355328 := by omega
      have hk' := (List.getElem?_eq_some_iff.1 hk).1
      have s1 : ∀ X, (J.set k X)[1]? = J[1]? := fun X => List.getElem?_set_ne (by omega)
      simp [k0, k1, k6, k7, hp, hJ1, appendA, growA, growNew, hk]
      refine bind_if ⟨by omega, hbd, by omega⟩ ?_
      simp [↓s1, hJ1]
      refine endD [(1, 22), (20, 22)] (by rfl) (by simp [okW, note, Eff.triv, Eff.wr, Eff.none, upTo, newAt, k0]; try omega) ?_
      simp (disch := omega) [k7, wrap64]
      refine ⟨i + 1, by dsimp only; omega, by simp [k0], by simp [k1], by simp [k4], by simp [k6], by simp, by omega, ⟨p.to, ?_, .inr ⟨p, i, rfl, hp, rfl⟩⟩, _, .ref (H.length + k) (i + 1), rfl, ?_, set_get ((s1 _).trans hJ1), .inr ⟨k, by omega, rfl, ?_⟩⟩
      · rw [hch, drop_at hp]; simp [chainB, e3]
      · rw [List.getElem?_set_ne (by omega), List.getElem?_set_ne (by omega)]; exact hJ0
      · rw [List.getElem?_set_ne (by omega), List.getElem?_set_self hk', steps_succ hp, List.map_append]; rfl
  
  · have hi0 : i = 0 := by simp at e0; omega
    have e3 : p.fr = f := by
      rcases hprev with ⟨h, hf'⟩ | ⟨q, m, him, hq, hfq⟩
      · rw [hi0, h0] at hp; cases hp; exact hf'.symm
      · omega
    simp [e0]
    refine endD [] (by rfl) (by simp [okW, note, Eff.triv, Eff.wr, Eff.none, k0]) ?_
    simp
    rcases hv with ⟨rfl, rfl⟩ | ⟨k, hk2, rfl, hk⟩
    · have hlen := (List.getElem?_eq_some_iff.1 hJ1).1
      simp [k0, k1, k6, k7, hp, hJ1, appendA, growA, growNew, olds hJ1, old hJ1]
      refine endD [(1, 22), (20, 22)] (by rfl) (by simp [okW, note, Eff.triv, Eff.wr, Eff.none, upTo, newAt, k0]; try omega) ?_
      simp (disch := omega) [k7, wrap64]
      refine ⟨1, by dsimp only; omega, by simp [k0], by simp [k1], by simp [k4], by simp [k6], by simp, by omega, ⟨p.to, ?_, .inr ⟨p, 0, rfl, hp, rfl⟩⟩, _, .ref (H.length + J.length) 1, rfl, ?_, set_get' hJ1, .inr ⟨J.length, by omega, rfl, ?_⟩⟩
      · rw [hch, drop_at hp]; simp [chainB, e3]
      · rw [get_old (by rw [List.getElem?_set_ne (by omega)]; exact hJ0)]
      · rw [List.getElem?_append_right (by simp)]
        have : l.take 1 = [p] := by rw [show (1 : Nat) = 0 + 1 from rfl, List.take_add_one, hp]; rfl
        simp [this, steps, toStep]
    · have hbd : (i + 1) * 64 ≤ 140737488355328 := by omega
      have hk' := (List.getElem?_eq_some_iff.1 hk).1
      have s1 : ∀ X, (J.set k X)[1]? = J[1]? := fun X => List.getElem?_set_ne (by omega)
      simp [k0, k1, k6, k7, hp, hJ1, appendA, growA, growNew, hk]
      refine bind_if ⟨by omega, hbd, by omega⟩ ?_
      simp [↓s1, hJ1]
      refine endD [(1, 22), (20, 22)] (by rfl) (by simp [okW, note, Eff.triv, Eff.wr, Eff.none, upTo, newAt, k0]; try omega) ?_
      simp (disch := omega) [k7, wrap64]
      refine ⟨i + 1, by dsimp only; omega, by simp [k0], by simp [k1], by simp [k4], by simp [k6], by simp, by omega, ⟨p.to, ?_, .inr ⟨p, i, rfl, hp, rfl⟩⟩, _, .ref (H.length + k) (i + 1), rfl, ?_, set_get ((s1 _).trans hJ1), .inr ⟨k, by omega, rfl, ?_⟩⟩
      · rw [hch, drop_at hp]; simp [chainB, e3]
      · rw [List.getElem?_set_ne (by omega), List.getElem?_set_ne (by omega)]; exact hJ0
      · rw [List.getElem?_set_ne (by omega), List.getElem?_set_self hk', steps_succ hp, List.map_append]; rfl
  
end Go.Proofs.Ythgamdcnomoidaa.Arm

namespace Go.Proofs.Ythgamdcnomoidaa.Arm
open Go.Arm

def garb (l : List Step) : AH := l.map fun s => .row true 4 [stp s]
def J12 (c : Cert) (s0 : Step) (i : Nat) (xs : List Seg) : AH := [.row true 3 [crt c], .row true 4 [stp s0], .row true 6 (xs.map sgm)] ++ garb ((c.l.take i).drop 1)
def L12 (c : Cert) (s0 : Step) (H : AH) (i : Nat) (fr : AFr) (H' : AH) : Prop :=
  fr 1 = .ptr H.length 1 0 0 ∧ fr 6 = .int .i64 i ∧ i ≤ c.l.length ∧
  ∃ t f xs, fr 4 = .int .i64 t ∧ fr 5 = .slice (f.map iv) false ∧ numB t = true ∧ stepsB c.fr.length t (c.l.drop i) = true ∧ xs ++ segs t f (c.l.drop i) = segs c.t c.fr c.l ∧ xs.length = i ∧
  ((i = 0 ∧ H' = H ++ [.row true 3 [crt c]] ∧ fr 3 = .slice [] true) ∨ (0 < i ∧ H' = H ++ J12 c s0 i xs ∧ fr 3 = .ref (H.length + 2) i))
set_option maxRecDepth 10000 in
theorem s12 (c : Cert) (s0 : Step) (h0 : c.l[0]? = some s0) (hc : certB c = true) (H : AH) : Sound E 12 [crt c] H (.ret (.ref (H.length + 2) c.l.length)) (H ++ J12 c s0 c.l.length (segs c.t c.fr c.l)) := by
  have hc' := hc
  simp only [certB, Bool.and_eq_true, decide_eq_true_eq] at hc'
  obtain ⟨⟨⟨⟨f1, f2⟩, f3⟩, f4⟩, f5⟩ := hc'
  refine sound_of_awp tab_ok mixed Try.func12 rfl (by rfl) Try.ntmps12 (by kernel_rfl) (by simp) ?_
  generalize hJ : J12 c s0 c.l.length (segs c.t c.fr c.l) = JJ
  simp
  refine endD [] (by rfl) (by simp [okW, note, Eff.triv, Eff.wr, Eff.none]) ?_
  simp
  refine loop_count (L12 c s0 H) (fun i => c.l.length - i) 0 ⟨by simp, by simp, by omega, c.t, c.fr, [], by simp, by simp, f3, by simpa using f5, by simp, rfl, .inl ⟨rfl, rfl, by simp⟩⟩ ?_
  rintro i fr H' ⟨k1, k6, hi, t, f, xs, k4, k5, ht, hs, hxs, hlen, hst⟩
  rcases hst with ⟨hi0, rfl, k3⟩ | ⟨hpos, rfl, k3⟩
  · subst hi0
    have hx0 : xs = [] := List.length_eq_zero_iff.1 hlen
    subst hx0
    rw [drop_at h0] at hs hxs
    simp only [stepsB, stepB, Bool.and_eq_true, decide_eq_true_eq, beq_iff_eq] at hs
    obtain ⟨⟨⟨⟨⟨⟨⟨⟨⟨a1, a2⟩, a3⟩, a4⟩, a5⟩, a6⟩, a7⟩, a8⟩, a9⟩, hs⟩ := hs
    have r1 := numB_range a9
    have w1 : IntKind.i64.wrap (t + s0.h) = t + s0.h := wrap64 (by omega) (by omega)
    have hpos : 0 < c.l.length := by omega
    have hg : ∀ h, c.l[0]'h = s0 := by intro h; rw [List.getElem?_eq_getElem h] at h0; exact Option.some.inj h0
    simp [k1, k6, hpos, hg]
    simp [k1, k3, k4, k5, k6, hg, appendA, growA, growNew, w1]
    simp (disch := omega) [k6, wrap64]
    have ht1 : (c.l.take 1).drop 1 = [] := List.drop_of_length_le (by simp; omega)
    exact ⟨1, by dsimp only; omega, by simp [k1], by simp, by omega, t + s0.h, s0.to, [⟨t, s0.h, f, s0.pre, s0.pre, s0.to⟩], by simp, by simp, a9, hs, by simpa [segs] using hxs, rfl, .inr ⟨by omega, by simp [J12, ht1, garb], by simp⟩⟩
  · have g0 : ∀ L, (J12 c s0 i xs ++ L)[0]? = some (.row true 3 [crt c]) := fun L => rfl
    have g0' : (J12 c s0 i xs)[0]? = some (.row true 3 [crt c]) := rfl
    have g2 : ∀ L, (J12 c s0 i xs ++ L)[2]? = some (.row true 6 (xs.map sgm)) := fun L => rfl
    have u2 : ∀ L x, (J12 c s0 i xs ++ L).set 2 x = (J12 c s0 i xs).set 2 x ++ L := fun L x => rfl
    simp [k1, k6, g0']
    refine branch (fun hl => ?_) (fun hl => ?_)
    rotate_left
    · simp at hl
      simp
      have hd : c.l.drop i = [] := List.drop_of_length_le (by omega)
      rw [hd] at hxs
      have hxs : xs = segs c.t c.fr c.l := by simpa [segs] using hxs
      have hil : i = c.l.length := by omega
      subst hil
      rw [hxs, hJ]
      exact finK (rs := [.tmp 2]) (by rfl) (by simp [resA, k3]; rfl) rfl
    simp at hl
    obtain ⟨p, hp⟩ := get_lt hl
    rw [drop_at hp] at hs hxs
    simp only [stepsB, stepB, Bool.and_eq_true, decide_eq_true_eq, beq_iff_eq] at hs
    obtain ⟨⟨⟨⟨⟨⟨⟨⟨⟨a1, a2⟩, a3⟩, a4⟩, a5⟩, a6⟩, a7⟩, a8⟩, a9⟩, hs⟩ := hs
    have r1 := numB_range a9
    have w1 : IntKind.i64.wrap (t + p.h) = t + p.h := wrap64 (by omega) (by omega)
    simp [k1, k3, k4, k5, k6, g0', ↓g0, hp, appendA, growA, growNew, ↓g2, ↓u2]
    refine bind_if (by omega) ?_
    have u3 : ∀ X L, ((J12 c s0 i xs).set 2 X ++ L)[(J12 c s0 i xs).length]? = L[0]? := fun X L => by
      rw [List.getElem?_append_right (by simp)]; simp
    simp [↓u3, k4, w1]
    simp (disch := omega) [k6, wrap64]
    have hgt : (c.l.take (i + 1)).drop 1 = (c.l.take i).drop 1 ++ [p] := by
      rw [List.take_add_one, hp, List.drop_append_of_le_length (by simp; omega)]; rfl
    refine ⟨i + 1, by dsimp only; omega, by simp [k1], by simp, by omega, t + p.h, p.to, xs ++ [⟨t, p.h, f, p.pre, p.pre, p.to⟩], by simp, by simp, a9, hs, by simpa [segs] using hxs, by simp [hlen], .inr ⟨by omega, ?_, by simp⟩⟩
    simp [J12, hgt, garb]
end Go.Proofs.Ythgamdcnomoidaa.Arm

namespace Go.Proofs.Ythgamdcnomoidaa.Arm
open Go.Arm

/-- The bytes of a number, seven bits each. -/
def vb (u : Nat) : List Int := if h : u < 128 then [(u : Int)] else ((u % 128 + 128 : Nat) : Int) :: vb (u / 128)
termination_by u
decreasing_by omega
def zig (v : Int) : Nat := if 0 ≤ v then (2 * v).toNat else (-2 * v - 1).toNat
def varint (v : Int) : List Int := vb (zig v)
theorem vb_small {u : Nat} (h : u < 128) : vb u = [(u : Int)] := by rw [vb, dif_pos h]
theorem vb_big {u : Nat} (h : ¬ u < 128) : vb u = ((u % 128 + 128 : Nat) : Int) :: vb (u / 128) := by rw [vb, dif_neg h]

theorem or128 : ∀ x : BitVec 8, (x ||| 128#8).toNat = x.toNat % 128 + 128 := by decide
theorem orByte (u : Nat) : orA .u8 (IntKind.u8.wrap u) 128 = ((u % 128 + 128 : Nat) : Int) := by
  have h1 : IntKind.u8.wrap (u : Int) = ((u % 256 : Nat) : Int) := by
    simp only [IntKind.wrap, IntKind.bits, IntKind.signed]; simp
  have h2 : (BitVec.ofInt 8 ((u % 256 : Nat) : Int)) = BitVec.ofNat 8 (u % 256) := BitVec.ofInt_natCast _ _
  have h3 : orA .u8 (IntKind.u8.wrap u) 128 = IntKind.u8.wrap (((BitVec.ofInt 8 ((u % 256 : Nat) : Int)) ||| 128#8).toNat : Int) := by
    rw [h1]; rfl
  rw [h3, h2, or128, BitVec.toNat_ofNat]
  rw [wrap8 (by omega) (by omega)]
  omega
theorem zig_pos {v : Int} (h0 : 0 ≤ v) (h1 : v < 4611686018427387904) : xorA .u64 (IntKind.u64.wrap (IntKind.i64.wrap (v * 2 ^ 1))) (IntKind.u64.wrap (v.fdiv (2 ^ 63))) = (zig v : Int) := by
  have e1 : IntKind.i64.wrap (v * 2 ^ 1) = 2 * v := by rw [show v * 2 ^ 1 = 2 * v by omega]; exact wrap64 (by omega) (by omega)
  have e2 : IntKind.u64.wrap (2 * v) = 2 * v := wrapu64 (by omega) (by omega)
  have e3 : v.fdiv (2 ^ 63) = 0 := by rw [Int.fdiv_eq_ediv_of_nonneg _ (by decide)]; exact Int.ediv_eq_zero_of_lt h0 (by omega)
  have e4 : IntKind.u64.wrap 0 = 0 := by decide
  obtain ⟨n, rfl⟩ := Int.eq_ofNat_of_zero_le h0
  rw [e1, e2, e3, e4]
  have h3 : xorA .u64 (2 * (n : Int)) 0 = IntKind.u64.wrap (((BitVec.ofInt 64 ((2 * n : Nat) : Int)) ^^^ 0#64).toNat : Int) := by
    rw [show (2 * (n : Int)) = ((2 * n : Nat) : Int) by omega]; rfl
  rw [h3, BitVec.ofInt_natCast, BitVec.xor_zero, BitVec.toNat_ofNat, Nat.mod_eq_of_lt (by omega), wrapu64 (by omega) (by omega)]
  unfold zig; rw [if_pos h0]; omega
theorem zig_neg {v : Int} (h0 : v < 0) (h1 : -4611686018427387904 ≤ v) : xorA .u64 (IntKind.u64.wrap (IntKind.i64.wrap (v * 2 ^ 1))) (IntKind.u64.wrap (v.fdiv (2 ^ 63))) = (zig v : Int) := by
  have e1 : IntKind.i64.wrap (v * 2 ^ 1) = 2 * v := by rw [show v * 2 ^ 1 = 2 * v by omega]; exact wrap64 (by omega) (by omega)
  have e2 : IntKind.u64.wrap (2 * v) = 18446744073709551616 + 2 * v := by
    simp only [IntKind.wrap, IntKind.bits, IntKind.signed]; simp; omega
  have e3 : v.fdiv (2 ^ 63) = -1 := by rw [Int.fdiv_eq_ediv_of_nonneg _ (by decide)]; omega
  have e4 : IntKind.u64.wrap (-1) = 18446744073709551615 := by decide
  rw [e1, e2, e3, e4]
  obtain ⟨n, hn⟩ := Int.eq_ofNat_of_zero_le (show 0 ≤ 18446744073709551616 + 2 * v by omega)
  have h3 : xorA .u64 (n : Int) 18446744073709551615 = IntKind.u64.wrap (((BitVec.ofInt 64 (n : Int)) ^^^ BitVec.allOnes 64).toNat : Int) := rfl
  rw [hn, h3, BitVec.ofInt_natCast, BitVec.xor_allOnes, BitVec.toNat_not, BitVec.toNat_ofNat, Nat.mod_eq_of_lt (by omega), wrapu64 (by omega) (by omega)]
  unfold zig; rw [if_neg (by omega)]; omega
end Go.Proofs.Ythgamdcnomoidaa.Arm

namespace Go.Proofs.Ythgamdcnomoidaa.Arm
open Go.Arm

theorem push_u8 {H : AH} {b : Nat} {wr : Bool} {bs : List Int} (hb : H[b]? = some (.row wr 1 (bs.map u8))) (x : Int) (hl : bs.length ≤ 1000000000) :
    appendA tab H 41 (.ref b bs.length) (.slice [.int .u8 x] true) = some (.ref b (bs ++ [x]).length, H.set b (.row wr 1 ((bs ++ [x]).map u8))) := by
  simp [appendA, growA, hb]
  omega
def L34 (H : AH) (b : Nat) (all : List Int) (wr : Bool) (u : Nat) (fr : AFr) (H' : AH) : Prop :=
  fr 5 = .int .u64 u ∧ ∃ bs, fr 0 = .ref b bs.length ∧ H' = H.set b (.row wr 1 (bs.map u8)) ∧ bs ++ vb u = all
theorem vb_pos (u : Nat) : 0 < (vb u).length := by
  by_cases h : u < 128
  · rw [vb_small h]; simp
  · rw [vb_big h]; simp
theorem s34 (H : AH) (b : Nat) (bs : List Int) (v : Int) (hv0 : -4611686018427387904 ≤ v) (hv1 : v < 4611686018427387904) (hb : H[b]? = some (.row true 1 (bs.map u8))) (hl : (bs ++ varint v).length ≤ 1000000000) :
    Sound E 34 [.ref b bs.length, .int .i64 v] H (.ret (.ref b (bs ++ varint v).length)) (H.set b (.row true 1 ((bs ++ varint v).map u8))) := by
  refine sound_of_awp tab_ok mixed Try.func34 rfl (by rfl) Try.ntmps34 (by kernel_rfl) (by simp) ?_
  have hz : xorA .u64 (IntKind.u64.wrap (IntKind.i64.wrap (v * 2 ^ 1))) (IntKind.u64.wrap (v.fdiv (2 ^ 63))) = (zig v : Int) := by
    by_cases h : 0 ≤ v
    · exact zig_pos h hv1
    · exact zig_neg (by omega) hv0
  generalize hall : bs ++ varint v = all at *
  have hlt : b < H.length := (List.getElem?_eq_some_iff.1 hb).1
  simp
  refine loop_count (L34 H b all true) (fun u => u) (zig v) ⟨by simp [IntKind.bits]; simpa using hz, bs, by simp, (set_same hb).symm, hall⟩ ?_
  rintro u fr H' ⟨k5, xs, k0, rfl, hxs⟩
  simp [k5]
  have hpos := vb_pos u
  have hxl : xs.length ≤ 1000000000 := by rw [← hxs] at hl; simp at hl; omega
  have hg : (H.set b (.row true 1 (xs.map u8)))[b]? = some (.row true 1 (xs.map u8)) := List.getElem?_set_self hlt
  refine branch (fun hc => ?_) (fun hc => ?_)
  · have hc' : ¬ u < 128 := by simp at hc; omega
    rw [vb_big hc'] at hxs
    simp [k0, k5, orByte]
    refine bind_some (by simpa using push_u8 hg ((u % 128 + 128 : Nat) : Int) hxl) ?_
    simp [k5]
    refine ⟨u / 128, by dsimp only; omega, ?_, xs ++ [((u % 128 + 128 : Nat) : Int)], by simp, by simp, by simpa using hxs⟩
    simp [IntKind.bits]
    exact Int.fdiv_eq_ediv_of_nonneg _ (by decide)
  · have hc' : u < 128 := by simp at hc; omega
    rw [vb_small hc'] at hxs
    have w8 : IntKind.u8.wrap (u : Int) = u := wrap8 (by omega) (by omega)
    simp [k0, k5, w8]
    refine bind_some (by simpa using push_u8 hg (u : Int) hxl) ?_
    simp
    have hm : List.map u8 xs ++ [AV.int .u8 u] = List.map u8 all := by rw [← hxs]; simp
    have hn : xs.length + 1 = all.length := by rw [← hxs]; simp
    rw [hm, hn]
    exact finK (rs := [.tmp 4]) (by rfl) (by simp [resA]; rfl) rfl

theorem push_nil (H : AH) (x : Int) : appendA tab H 41 .nilslice (.slice [.int .u8 x] true) = some (.ref H.length 1, H ++ [.row true 1 [.int .u8 x]]) := by
  simp [appendA, growA, growNew]
def L34n (H : AH) (all : List Int) (u : Nat) (fr : AFr) (H' : AH) : Prop :=
  fr 5 = .int .u64 u ∧ ((fr 0 = .nilslice ∧ H' = H ∧ vb u = all) ∨ ∃ bs, fr 0 = .ref H.length bs.length ∧ H' = H ++ [.row true 1 (bs.map u8)] ∧ bs ++ vb u = all)
theorem s34n (H : AH) (v : Int) (hv0 : -4611686018427387904 ≤ v) (hv1 : v < 4611686018427387904) (hl : (varint v).length ≤ 1000000000) :
    Sound E 34 [.nilslice, .int .i64 v] H (.ret (.ref H.length (varint v).length)) (H ++ [.row true 1 ((varint v).map u8)]) := by
  refine sound_of_awp tab_ok mixed Try.func34 rfl (by rfl) Try.ntmps34 (by kernel_rfl) (by simp) ?_
  have hz : xorA .u64 (IntKind.u64.wrap (IntKind.i64.wrap (v * 2 ^ 1))) (IntKind.u64.wrap (v.fdiv (2 ^ 63))) = (zig v : Int) := by
    by_cases h : 0 ≤ v
    · exact zig_pos h hv1
    · exact zig_neg (by omega) hv0
  generalize hall : varint v = all at *
  simp
  refine loop_count (L34n H all) (fun u => u) (zig v) ⟨by simp [IntKind.bits]; simpa using hz, .inl ⟨by simp, rfl, hall⟩⟩ ?_
  rintro u fr H' ⟨k5, hst⟩
  simp [k5]
  have hpos := vb_pos u
  refine branch (fun hc => ?_) (fun hc => ?_)
  · have hc' : ¬ u < 128 := by simp at hc; omega
    have hd : (u : Int).fdiv 128 = ((u / 128 : Nat) : Int) := Int.fdiv_eq_ediv_of_nonneg _ (by decide)
    rcases hst with ⟨k0, rfl, hxs⟩ | ⟨xs, k0, rfl, hxs⟩
    · rw [vb_big hc'] at hxs
      simp [k0, k5, orByte]
      refine bind_some (by simpa using push_nil H' ((u % 128 + 128 : Nat) : Int)) ?_
      simp [k5]
      refine ⟨u / 128, by dsimp only; omega, ?_, .inr ⟨[((u % 128 + 128 : Nat) : Int)], by simp, by simp, by simpa using hxs⟩⟩
      simp [IntKind.bits]
      exact Int.fdiv_eq_ediv_of_nonneg _ (by decide)
    · rw [vb_big hc'] at hxs
      have hxl : xs.length ≤ 1000000000 := by rw [← hxs] at hl; simp at hl; omega
      simp [k0, k5, orByte]
      refine bind_some (push_u8 (H := H ++ [.row true 1 (xs.map u8)]) (b := H.length) (wr := true) (bs := xs) (by simp) (((u % 128 + 128 : Nat) : Int)) hxl) ?_
      simp [k5]
      refine ⟨u / 128, by dsimp only; omega, ?_, .inr ⟨xs ++ [((u % 128 + 128 : Nat) : Int)], by simp, by simp, by simpa using hxs⟩⟩
      simp [IntKind.bits]
      exact Int.fdiv_eq_ediv_of_nonneg _ (by decide)
  · have hc' : u < 128 := by simp at hc; omega
    have w8 : IntKind.u8.wrap (u : Int) = u := wrap8 (by omega) (by omega)
    rcases hst with ⟨k0, rfl, hxs⟩ | ⟨xs, k0, rfl, hxs⟩
    · rw [vb_small hc'] at hxs
      simp [k0, k5, w8]
      refine bind_some (push_nil H' (u : Int)) ?_
      simp
      have hm : [AV.int .u8 u] = List.map u8 all := by rw [← hxs]; simp
      have hn : 1 = all.length := by rw [← hxs]; simp
      rw [hm, hn]
      exact finK (rs := [.tmp 4]) (by rfl) (by simp [resA]; rfl) rfl
    · rw [vb_small hc'] at hxs
      have hxl : xs.length ≤ 1000000000 := by rw [← hxs] at hl; simp at hl; omega
      simp [k0, k5, w8]
      refine bind_some (push_u8 (H := H ++ [.row true 1 (xs.map u8)]) (b := H.length) (wr := true) (bs := xs) (by simp) (u : Int) hxl) ?_
      simp
      have hm : List.map u8 xs ++ [AV.int .u8 u] = List.map u8 all := by rw [← hxs]; simp
      have hn : xs.length + 1 = all.length := by rw [← hxs]; simp
      rw [hm, hn]
      exact finK (rs := [.tmp 4]) (by rfl) (by simp [resA]; rfl) rfl
end Go.Proofs.Ythgamdcnomoidaa.Arm

namespace Go.Proofs.Ythgamdcnomoidaa.Arm
open Go.Arm

def boxBytes (b : Box) : List Int := b.flatMap fun p => varint p.1 ++ varint p.2
def rngI (v : Int) : Prop := -4611686018427387904 ≤ v ∧ v < 4611686018427387904
def L35 (H : AH) (b : Nat) (bs : List Int) (x : Box) (i : Nat) (fr : AFr) (H' : AH) : Prop :=
  fr 7 = .slice (x.map iv) false ∧ fr 8 = .int .i64 x.length ∧ fr 9 = .int .i64 i ∧ i ≤ x.length ∧ fr 0 = .ref b (bs ++ boxBytes (x.take i)).length ∧ ∃ J, H' = H.set b (.row true 1 ((bs ++ boxBytes (x.take i)).map u8)) ++ J
theorem boxBytes_succ {x : Box} {i : Nat} {p : Int × Int} (hp : x[i]? = some p) : boxBytes (x.take (i + 1)) = boxBytes (x.take i) ++ (varint p.1 ++ varint p.2) := by
  unfold boxBytes; rw [List.take_add_one, hp, List.flatMap_append]; simp
theorem boxBytes_le (x : Box) (i : Nat) : (boxBytes (x.take i)).length ≤ (boxBytes x).length := by
  have h : boxBytes x = boxBytes (x.take i) ++ boxBytes (x.drop i) := by unfold boxBytes; rw [← List.flatMap_append, List.take_append_drop]
  rw [h]; simp
set_option maxRecDepth 10000 in
theorem s35 (H : AH) (b : Nat) (bs : List Int) (x : Box) (hx : ∀ p ∈ x, rngI p.1 ∧ rngI p.2) (hxl : x.length ≤ 1000) (hb : H[b]? = some (.row true 1 (bs.map u8))) (hl : (bs ++ boxBytes x).length ≤ 1000000000) :
    Sound E 35 [.ref b bs.length, .slice (x.map iv) false] H (.ret (.ref b (bs ++ boxBytes x).length)) (H.set b (.row true 1 ((bs ++ boxBytes x).map u8))) := by
  refine sound_of_awp tab_ok mixed Try.func35 rfl (by rfl) Try.ntmps35 (by kernel_rfl) (by simp) ?_
  have hlt : b < H.length := (List.getElem?_eq_some_iff.1 hb).1
  generalize hall : bs ++ boxBytes x = all at *
  simp
  refine loop_count (L35 H b bs x) (fun i => x.length - i) 0 ⟨by simp, by simp, by simp, by omega, by simp [boxBytes], [], by simp [boxBytes, (set_same hb)]⟩ ?_
  rintro i fr H' ⟨k7, k8, k9, hi, k0, J, rfl⟩
  generalize hcur : bs ++ boxBytes (x.take i) = cur at *
  have hg : (H.set b (.row true 1 (cur.map u8)))[b]? = some (.row true 1 (cur.map u8)) := List.getElem?_set_self hlt
  have hss : ∀ X, (H.set b (.row true 1 (cur.map u8))).set b X = H.set b X := fun X => by simp
  have hH1l : (H.set b (.row true 1 (cur.map u8))).length = H.length := by simp
  have hH1b : ∀ c : Nat, (H.set b (.row true 1 (cur.map u8)))[c]? = H[c]? ∨ ∃ k', (H.set b (.row true 1 (cur.map u8)))[c]? = some k' ∧ noFB H.length k' = true := set_blocks (by simp [noFB])
  have hdone : cur = all → H.set b (.row true 1 (cur.map u8)) = H.set b (.row true 1 (all.map u8)) := fun h => by rw [h]
  generalize hH1 : H.set b (.row true 1 (cur.map u8)) = H1 at *
  simp [k8, k9]
  refine branch (fun hc => ?_) (fun hc => ?_)
  rotate_left
  · simp at hc
    have ht : x.take i = x := List.take_of_length_le (by omega)
    rw [ht, hall] at hcur
    subst hcur
    simp
    rw [← hdone rfl]
    exact finU (rs := [.tmp 4]) (by rfl) (by simp [resA, k0]) hH1l hH1b (by simp [noF, hlt])
  simp at hc
  obtain ⟨p, hp⟩ := get_lt hc
  have hpr := hx p (List.mem_of_getElem? hp)
  have hbl := boxBytes_le x (i + 1)
  rw [boxBytes_succ hp] at hbl
  have hlen : cur.length + (varint p.1).length + (varint p.2).length ≤ 1000000000 := by
    rw [← hall] at hl; rw [← hcur]; simp at hl hbl ⊢; omega
  have hnext : bs ++ boxBytes (x.take (i + 1)) = (cur ++ varint p.1) ++ varint p.2 := by rw [boxBytes_succ hp, ← hcur]; simp
  have gs : ∀ X L, (H1.set b X ++ L)[H1.length]? = L[0]? := fun X L => by
    rw [List.getElem?_append_right (by simp)]; simp
  have gs' : ∀ X L n, (H1.set b X ++ L)[H1.length + n]? = L[n]? := fun X L n => by
    rw [List.getElem?_append_right (by simp)]; simp
  simp [k0, k7, k9, hp]
  refine callD_at (get_old hg) (fun Hx hHx => s34 Hx b cur p.1 hpr.1.1 hpr.1.2 hHx (by simp; omega)) ?_
  rw [set_old hg]
  generalize hc1 : cur ++ varint p.1 = c1 at *
  simp [↓gs, ↓gs']
  have hg2 : (H1.set b (.row true 1 (c1.map u8)))[b]? = some (.row true 1 (c1.map u8)) := set_get hg
  refine callD_at (get_old hg2) (fun Hx hHx => s34 Hx b c1 p.2 hpr.2.1 hpr.2.2 hHx (by rw [← hc1]; simp; omega)) ?_
  rw [set_old hg2]
  simp
  have hbH1 : b < H1.length := by omega
  refine endD [(3, 6)] (by rfl) (by simp [okW, note, Eff.triv, Eff.wr, Eff.none]; omega) ?_
  simp (disch := omega) [k9, wrap64]
  refine ⟨i + 1, by dsimp only; omega, by simp [k7], by simp [k8], by simp, by omega, ?_, J ++ [.row true 2 [iv p]], ?_⟩
  · rw [hnext]; simp
  · rw [hnext, hss]; simp
end Go.Proofs.Ythgamdcnomoidaa.Arm

namespace Go.Proofs.Ythgamdcnomoidaa.Arm
open Go.Arm

def stepBytes (s : Step) : List Int := varint s.h ++ varint s.o ++ boxBytes s.pre ++ boxBytes s.to
def stepsBytes (l : List Step) : List Int := l.flatMap stepBytes
def headBytes (c : Cert) : List Int := varint c.t ++ varint c.fr.length ++ boxBytes c.fr ++ varint c.l.length
def encB (c : Cert) : List Int := headBytes c ++ stepsBytes c.l
theorem stepsBytes_succ {l : List Step} {i : Nat} {p : Step} (hp : l[i]? = some p) : stepsBytes (l.take (i + 1)) = stepsBytes (l.take i) ++ stepBytes p := by
  unfold stepsBytes; rw [List.take_add_one, hp, List.flatMap_append]; simp
theorem stepsBytes_le (l : List Step) (i : Nat) : (stepsBytes (l.take i)).length ≤ (stepsBytes l).length := by
  have h : stepsBytes l = stepsBytes (l.take i) ++ stepsBytes (l.drop i) := by unfold stepsBytes; rw [← List.flatMap_append, List.take_append_drop]
  rw [h]; simp
def boxRng (x : Box) : Prop := x.length ≤ 1000 ∧ ∀ p ∈ x, rngI p.1 ∧ rngI p.2
def L17 (c : Cert) (H : AH) (i : Nat) (fr : AFr) (H' : AH) : Prop :=
  fr 24 = .slice (c.l.map stp) false ∧ fr 25 = .int .i64 c.l.length ∧ fr 26 = .int .i64 i ∧ i ≤ c.l.length ∧
  ∃ bs J, bs = headBytes c ++ stepsBytes (c.l.take i) ∧ fr 3 = .ref (H.length + 1) bs.length ∧ H' = H ++ (.row true 3 [crt c] :: .row true 1 (bs.map u8) :: J)
set_option maxRecDepth 10000 in
theorem s17 (c : Cert) (ht : rngI c.t) (hfr : boxRng c.fr) (hs : ∀ s ∈ c.l, rngI s.h ∧ rngI s.o ∧ boxRng s.pre ∧ boxRng s.to) (hl : c.l.length ≤ 1000) (hlen : (encB c).length ≤ 1000000000) (H : AH) :
    Sound E 17 [crt c] H (.ret (.slice ((encB c).map u8) false)) H := by
  refine sound_of_awp tab_ok mixed Try.func17 rfl (by rfl) Try.ntmps17 (by kernel_rfl) (by simp) ?_
  have hh : (headBytes c).length ≤ 1000000000 := by unfold encB at hlen; simp at hlen; omega
  have hh2 : (varint c.t).length + (varint c.fr.length).length + (boxBytes c.fr).length + (varint c.l.length).length ≤ 1000000000 := by unfold headBytes at hh; simp at hh; omega
  generalize hall : encB c = all at *
  simp
  refine call_ret (s34n _ c.t ht.1 ht.2 (by omega)) ?_
  generalize hb1 : varint c.t = b1 at *
  simp
  refine call_ret (s34 _ (H.length + 1) b1 c.fr.length (by omega) (by have := hfr.1; omega) (by simp) (by simp; omega)) ?_
  generalize hb2 : b1 ++ varint c.fr.length = b2 at *
  simp
  refine call_ret (s35 _ (H.length + 1) b2 c.fr hfr.2 hfr.1 (by simp) (by rw [← hb2]; simp; omega)) ?_
  generalize hb3 : b2 ++ boxBytes c.fr = b3 at *
  simp
  refine call_ret (s34 _ (H.length + 1) b3 c.l.length (by omega) (by omega) (by simp) (by rw [← hb3, ← hb2]; simp; omega)) ?_
  generalize hb4 : b3 ++ varint c.l.length = b4 at *
  have hhead : b4 = headBytes c := by rw [← hb4, ← hb3, ← hb2, ← hb1]; rfl
  simp
  refine loop_count (L17 c H) (fun i => c.l.length - i) 0 ⟨by simp, by simp, by simp, by omega, b4, [], by simp [hhead, stepsBytes], by simp, by simp⟩ ?_
  rintro i fr H' ⟨k24, k25, k26, hi, bs, J, hbs, k3, rfl⟩
  simp [k25, k26]
  refine branch (fun hc => ?_) (fun hc => ?_)
  rotate_left
  · simp at hc
    have htk : c.l.take i = c.l := List.take_of_length_le (by omega)
    have : bs = all := by rw [hbs, htk, ← hall]; rfl
    subst this
    simp
    exact finC (rs := [.tmp 2]) (vs' := [.slice (bs.map u8) false]) (J' := _) (by rfl) (by simp [resA, k3]; rfl) (by simp; rfl) (by simp [noFs, noF]) rfl
  simp at hc
  obtain ⟨p, hp⟩ := get_lt hc
  obtain ⟨q1, q2, q3, q4⟩ := hs p (List.mem_of_getElem? hp)
  have hle := stepsBytes_le c.l (i + 1)
  rw [stepsBytes_succ hp] at hle
  have hsz : bs.length + (varint p.h).length + (varint p.o).length + (boxBytes p.pre).length + (boxBytes p.to).length ≤ 1000000000 := by
    rw [← hall] at hlen; unfold encB at hlen; rw [hbs]; simp [stepBytes] at hle hlen ⊢; omega
  have hnext : headBytes c ++ stepsBytes (c.l.take (i + 1)) = (((bs ++ varint p.h) ++ varint p.o) ++ boxBytes p.pre) ++ boxBytes p.to := by
    rw [stepsBytes_succ hp, hbs]; simp [stepBytes]
  simp [k3, k24, k26, hp]
  refine callD_at (k := .row true 1 (bs.map u8)) (by simp) (fun Hx hHx => s34 Hx (H.length + 1) bs p.h q1.1 q1.2 hHx (by simp; omega)) ?_
  generalize hb1' : bs ++ varint p.h = d1 at *
  simp
  refine callD_at (k := .row true 1 (d1.map u8)) (by simp) (fun Hx hHx => s34 Hx (H.length + 1) d1 p.o q2.1 q2.2 hHx (by rw [← hb1']; simp; omega)) ?_
  generalize hb2' : d1 ++ varint p.o = d2 at *
  simp
  refine endD [(3, 6)] (by rfl) (by simp [okW, note, Eff.triv, Eff.wr, Eff.none]; try omega) ?_
  simp
  refine callD_at (k := .row true 1 (d2.map u8)) (by simp) (fun Hx hHx => s35 Hx (H.length + 1) d2 p.pre q3.2 q3.1 hHx (by rw [← hb2', ← hb1']; simp; omega)) ?_
  generalize hb3' : d2 ++ boxBytes p.pre = d3 at *
  simp
  refine callD_at (k := .row true 1 (d3.map u8)) (by simp) (fun Hx hHx => s35 Hx (H.length + 1) d3 p.to q4.2 q4.1 hHx (by rw [← hb3', ← hb2', ← hb1']; simp; omega)) ?_
  generalize hb4' : d3 ++ boxBytes p.to = d4 at *
  simp
  refine endD [(3, 6)] (by rfl) (by simp [okW, note, Eff.triv, Eff.wr, Eff.none]; try omega) ?_
  simp (disch := omega) [k26, wrap64]
  exact ⟨i + 1, by dsimp only; omega, by simp [k24], by simp [k25], by simp, by omega, d4, J ++ [.row true 4 [stp p]], hnext.symm, by simp, by simp⟩
end Go.Proofs.Ythgamdcnomoidaa.Arm
