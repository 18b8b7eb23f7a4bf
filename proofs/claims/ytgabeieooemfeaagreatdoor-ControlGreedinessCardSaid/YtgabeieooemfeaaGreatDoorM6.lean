/- Part of a proof: what the functions of the program do to abstract states, step by step. -/
import Derived.Test.YtgabeieooemfeaaGreatDoorM5
import Derived.Test.YtgabeieooemfeaaGreatDoorTie
import Derived.Test.YtgabeieooemfeaaGreatDoorCards
import Derived.ProofKit
import Derived.Stop.Joined
import Derived.SevenTiedAt
set_option linter.unusedVariables false
set_option linter.unusedSimpArgs false
/- The mean value lemma: induction over the expression. -/
namespace Go.Pl

def sumR (f : Nat → Rat) : Nat → Rat
  | 0 => 0
  | n + 1 => sumR f n + f n
theorem sumR_lin {f g h : Nat → Rat} (c d : Rat) (k : ∀ i, f i = c * g i + d * h i) : ∀ n, sumR f n = c * sumR g n + d * sumR h n
  | 0 => by simp only [sumR]; grind
  | n + 1 => by simp only [sumR, sumR_lin c d k n, k n]; grind
theorem sumR_zero {f : Nat → Rat} (k : ∀ i, f i = 0) : ∀ n, sumR f n = 0
  | 0 => rfl
  | n + 1 => by simp only [sumR, sumR_zero k n, k n]; grind
theorem sumR_one {f : Nat → Rat} {j : Nat} : ∀ {n : Nat}, (∀ i, i < n → i ≠ j → f i = 0) → j < n → sumR f n = f j
  | 0, _, h => by omega
  | n + 1, k, h => by
    by_cases hj : j = n
    · subst hj
      have : ∀ m, m ≤ j → sumR f m = 0 := fun m => by
        induction m with
        | zero => intro _; rfl
        | succ m ih => intro hm; simp only [sumR]; rw [ih (by omega), k m (by omega) (by omega)]; grind
      simp only [sumR]; rw [this j (Nat.le_refl _)]; grind
    · simp only [sumR]; rw [sumR_one (fun i hi => k i (by omega)) (by omega), k n (by omega) (Ne.symm hj)]; grind

/-- Two points with their boxes, and a box that contains both. -/
structure Two where
  n : Nat
  xp : List I
  xq : List I
  xb : List I
  tp : I
  tq : I
  tb : I
  p : List Rat
  q : List Rat
  s : Rat
  t : Rat
  lp : xp.length = n
  lq : xq.length = n
  lb : xb.length = n
  vp : ∀ a ∈ xp, vB a = true
  vq : ∀ a ∈ xq, vB a = true
  vb : ∀ a ∈ xb, vB a = true
  vtp : vB tp = true
  vtq : vB tq = true
  vtb : vB tb = true
  hp : inBox xp p
  hq : inBox xq q
  hbp : inBox xb p
  hbq : inBox xb q
  htp : InI tp s
  htq : InI tq t
  htbp : InI tb s
  htbq : InI tb t
def Two.vr (Z : Two) (i : Nat) : Vr := if i < Z.n then .st i else .tm
def Two.dl (Z : Two) (i : Nat) : Rat := if i < Z.n then (Z.q[i]?).getD 0 - (Z.p[i]?).getD 0 else Z.t - Z.s
/-- What is shown of an expression. -/
structure Mean (Z : Two) (e : Ex) (a b : Rat) (s : Nat → Rat) : Prop where
  ep : InI (ev Z.xp Z.tp e) a
  eq : InI (ev Z.xq Z.tq e) b
  bp : InI (ev Z.xb Z.tb (smp e)) a
  bq : InI (ev Z.xb Z.tb (smp e)) b
  sl : ∀ i, InI (ev Z.xb Z.tb (der (Z.vr i) e)) (s i)
  sm : b - a = sumR (fun i => s i * Z.dl i) (Z.n + 1)
theorem der_num (v : Vr) (c : I) : der v (.num c) = zeroE := der_none _ (by cases v <;> rfl)
theorem zeroE_in {x : List I} {t : I} : InI (ev x t zeroE) 0 := inI_00
theorem mean_num (Z : Two) (c : I) (h : vB c = true) : Mean Z (.num c) ((c.1 : Rat) / 65536) ((c.1 : Rat) / 65536) (fun _ => 0) :=
  ⟨inI_num h, inI_num h, inI_num h, inI_num h, fun i => by rw [der_num]; exact zeroE_in, by rw [sumR_zero (fun i => by grind)]; grind⟩
theorem number1_in {x : List I} {t : I} : InI (ev x t (number 1)) 1 := by rw [number1]; exact inI_11
theorem mean_var (Z : Two) (k : Nat) (h : k < Z.n) : Mean Z (.var k) ((Z.p[k]?).getD 0) ((Z.q[k]?).getD 0) (fun i => if i = k then 1 else 0) := by
  refine ⟨Z.hp k (by rw [Z.lp]; exact h), Z.hq k (by rw [Z.lq]; exact h), Z.hbp k (by rw [Z.lb]; exact h), Z.hbq k (by rw [Z.lb]; exact h), fun i => ?_, ?_⟩
  · rw [der_leaf rfl]
    unfold Two.vr
    by_cases hi : i < Z.n
    · rw [if_pos hi]
      by_cases hk : i = k
      · subst hk; simp only [isV]; simp; exact number1_in
      · have : ¬ (k : Int) = (i : Int) := by omega
        simp only [isV]; simp [this, hk]; rw [number_zero]; exact zeroE_in
    · rw [if_neg hi]
      have hk : i ≠ k := by omega
      simp only [isV]; simp [hk]; rw [number_zero]; exact zeroE_in
  · rw [sumR_one (j := k) (fun i hi hk => by rw [if_neg hk]; grind) (by omega), if_pos rfl]
    unfold Two.dl
    rw [if_pos h]; grind
theorem mean_time (Z : Two) : Mean Z .time Z.s Z.t (fun i => if i < Z.n then 0 else 1) := by
  refine ⟨Z.htp, Z.htq, Z.htbp, Z.htbq, fun i => ?_, ?_⟩
  · rw [der_leaf rfl]
    unfold Two.vr
    by_cases hi : i < Z.n
    · rw [if_pos hi, if_pos hi]; simp only [isV]; simp; rw [number_zero]; exact zeroE_in
    · rw [if_neg hi, if_neg hi]; simp only [isV]; simp; exact number1_in
  · rw [sumR_one (j := Z.n) (fun i hi hk => by rw [if_pos (by omega)]; grind) (by omega), if_neg (by omega)]
    unfold Two.dl
    rw [if_neg (by omega)]; grind
section
variable {Z : Two} {a b : Ex} {u v u' v' : Rat} {s s' : Nat → Rat}
theorem mean_neg (hw : wf Z.n a = true) (h : Mean Z a u v s) : Mean Z (.un .neg a) (-u) (-v) (fun i => -s i) := by
  have hw' : ∀ e, wf Z.n e = true → wf Z.xb.length e = true := fun e he => by rw [Z.lb]; exact he
  refine ⟨in_neg h.ep, in_neg h.eq, T_neg (hw' _ (smp_wf a hw)) h.bp, T_neg (hw' _ (smp_wf a hw)) h.bq, fun i => ?_, ?_⟩
  · rw [der_un_neg]; exact T_neg (hw' _ (der_wf hw)) (h.sl i)
  · rw [sumR_lin (g := fun i => s i * Z.dl i) (h := fun i => s i * Z.dl i) (-1) 0 (fun i => by grind), ← h.sm]; grind
theorem mean_add (h : Mean Z a u v s) (k : Mean Z b u' v' s') : Mean Z (.bin .add a b) (u + u') (v + v') (fun i => s i + s' i) := by
  refine ⟨in_add h.ep k.ep, in_add h.eq k.eq, T_add h.bp k.bp, T_add h.bq k.bq, fun i => ?_, ?_⟩
  · rw [der_add]; exact T_add (h.sl i) (k.sl i)
  · rw [sumR_lin (g := fun i => s i * Z.dl i) (h := fun i => s' i * Z.dl i) 1 1 (fun i => by grind), ← h.sm, ← k.sm]; grind
theorem mean_sub (hw : wf Z.n b = true) (h : Mean Z a u v s) (k : Mean Z b u' v' s') : Mean Z (.bin .sub a b) (u - u') (v - v') (fun i => s i - s' i) := by
  have hw' : ∀ e, wf Z.n e = true → wf Z.xb.length e = true := fun e he => by rw [Z.lb]; exact he
  refine ⟨in_sub h.ep k.ep, in_sub h.eq k.eq, T_sub (hw' _ (smp_wf b hw)) h.bp k.bp, T_sub (hw' _ (smp_wf b hw)) h.bq k.bq, fun i => ?_, ?_⟩
  · rw [der_sub]; exact T_sub (hw' _ (der_wf hw)) (h.sl i) (k.sl i)
  · rw [sumR_lin (g := fun i => s i * Z.dl i) (h := fun i => s' i * Z.dl i) 1 (-1) (fun i => by grind), ← h.sm, ← k.sm]; grind
theorem mean_mul (h : Mean Z a u v s) (k : Mean Z b u' v' s') : Mean Z (.bin .mul a b) (u * u') (v * v') (fun i => s i * v' + u * s' i) := by
  refine ⟨in_mul h.ep k.ep, in_mul h.eq k.eq, T_mul h.bp k.bp, T_mul h.bq k.bq, fun i => ?_, ?_⟩
  · rw [der_mul]; exact T_add (T_mul (h.sl i) k.bq) (T_mul h.bp (k.sl i))
  · rw [sumR_lin (g := fun i => s i * Z.dl i) (h := fun i => s' i * Z.dl i) v' u (fun i => by grind), ← h.sm, ← k.sm]; grind
theorem mid_in {V : I} {x y : Rat} (h : InI V x) (k : InI V y) : InI V ((x + y) / 2) := by
  rcases Rat.le_total (a := x) (b := y) with c | c
  · exact inI_conv h k (by grind) (by grind)
  · exact inI_conv k h (by grind) (by grind)
theorem mean_sqr (hw : wf Z.n a = true) (h : Mean Z a u v s) : Mean Z (.un .sqr a) (u * u) (v * v) (fun i => (2 * ((u + v) / 2)) * s i) := by
  have hw' : ∀ e, wf Z.n e = true → wf Z.xb.length e = true := fun e he => by rw [Z.lb]; exact he
  have hs : ∀ {r}, InI (ev Z.xb Z.tb (smp a)) r → InI (ev Z.xb Z.tb (smp (.un .sqr a))) (r * r) := fun hr => by
    show InI (ev Z.xb Z.tb (smpU .sqr (smp a))) _
    rw [ev_smpU (hw' _ (smp_wf a hw))]; exact in_sq hr
  refine ⟨in_sq h.ep, in_sq h.eq, hs h.bp, hs h.bq, fun i => ?_, ?_⟩
  · rw [der_sqr]
    exact T_mul (T_mul (T_number 2 (by decide)) (mid_in h.bp h.bq)) (h.sl i)
  · rw [sumR_lin (g := fun i => s i * Z.dl i) (h := fun i => s i * Z.dl i) (2 * ((u + v) / 2)) 0 (fun i => by grind), ← h.sm]; grind
/-- Square roots: the roots of the two values are chosen with a slope between them. -/
theorem mean_sqrt (hw : wf Z.n a = true) (h : Mean Z a u v s) : ∃ c d r, Mean Z (.un .sqrt a) c d r := by
  have hw' : ∀ e, wf Z.n e = true → wf Z.xb.length e = true := fun e he => by rw [Z.lb]; exact he
  have hsm : ∀ {r} k, InI (ev Z.xb Z.tb (smp a)) r → InI (ev Z.xb Z.tb (smpU .sqrt (smp a))) (rt k r) := fun k hr => by
    rw [ev_smpU (hw' _ (smp_wf a hw))]; exact in_rt k hr
  have mk : ∀ (k : Nat) (m : Rat), InI (ev Z.xb Z.tb (smpU .sqrt (smp a))) m → rt k v - rt k u = (v - u) / (2 * m) → Mean Z (.un .sqrt a) (rt k u) (rt k v) (fun i => s i / (2 * m)) := by
    intro k m hm he
    refine ⟨in_rt k h.ep, in_rt k h.eq, hsm k h.bp, hsm k h.bq, fun i => ?_, ?_⟩
    · rw [der_sqrt]
      exact T_div (h.sl i) (fun _ => T_mul (T_number 2 (by decide)) hm)
    · rw [sumR_lin (g := fun i => s i * Z.dl i) (h := fun i => s i * Z.dl i) (1 / (2 * m)) 0 (fun i => by grind), ← h.sm, he]; grind
  by_cases huv : v = u
  · subst huv
    exact ⟨_, _, _, mk 0 (rt 0 v) (hsm 0 h.bp) (by grind)⟩
  by_cases hd : defn (ev Z.xb Z.tb (smpMul (number 2) (smpU .sqrt (smp a))))
  · -- the values are not negative
    have hpos : ∀ {r}, InI (ev Z.xb Z.tb (smp a)) r → 0 ≤ r := fun {r} hr => by
      have h2 : InI (ev Z.xb Z.tb (smpU .sqrt (smp a))) 0 → False := fun hz => defn_ne hd (T_mul (T_number 2 (by decide)) hz) (by grind)
      refine Rat.not_lt.1 fun hneg => h2 ?_
      rw [ev_smpU (hw' _ (smp_wf a hw))]
      have := in_rt 0 hr
      rwa [rt_neg 0 (Rat.le_of_lt hneg)] at this
    have hu := hpos h.bp
    have hv := hpos h.bq
    rcases Rat.le_total (a := u) (b := v) with c | c
    · obtain ⟨k, k1, k2, k3⟩ := slope hu (by grind : u < v)
      generalize he : rt k u = e at *
      generalize hf : rt k v = f at *
      have hfe : 0 < f - e := by grind
      have m1 : e ≤ (v - u) / (2 * (f - e)) := rdiv_le (by grind) (by grind)
      have m2 : (v - u) / (2 * (f - e)) ≤ f := le_rdiv (by grind) (by grind)
      have hm := inI_conv (hsm k h.bp) (hsm k h.bq) (m := (v - u) / (2 * (f - e))) (by rw [he]; exact m1) (by rw [hf]; exact m2)
      exact ⟨_, _, _, mk k _ hm (by rw [he, hf]; grind)⟩
    · obtain ⟨k, k1, k2, k3⟩ := slope hv (by grind : v < u)
      generalize he : rt k u = e at *
      generalize hf : rt k v = f at *
      have hfe : 0 < e - f := by grind
      have m1 : f ≤ (u - v) / (2 * (e - f)) := rdiv_le (by grind) (by grind)
      have m2 : (u - v) / (2 * (e - f)) ≤ e := le_rdiv (by grind) (by grind)
      have hm := inI_conv (hsm k h.bq) (hsm k h.bp) (m := (u - v) / (2 * (e - f))) (by rw [hf]; exact m1) (by rw [he]; exact m2)
      exact ⟨_, _, _, mk k _ hm (by rw [he, hf]; grind)⟩
  · obtain ⟨c, hc⟩ : ∃ c : Rat, c = (rt 0 v - rt 0 u) / (v - u) := ⟨_, rfl⟩
    refine ⟨rt 0 u, rt 0 v, fun i => c * s i, in_rt 0 h.ep, in_rt 0 h.eq, hsm 0 h.bp, hsm 0 h.bq, fun i => ?_, ?_⟩
    · rw [der_sqrt]
      refine T_free hd fun hk => ?_
      have := h.sl i
      rw [ev_isK hk] at this
      rw [inI_k0 this]; grind
    · rw [sumR_lin (g := fun i => s i * Z.dl i) (h := fun i => s i * Z.dl i) c 0 (fun i => by grind), ← h.sm, hc]; grind
theorem not_defn_of {V : I} (h : InI V 0) : ¬ defn V := fun hd => defn_ne hd h rfl
theorem sq_undef {V : I} (h : ¬ defn V) (hv : vB V = true) : ¬ defn (sq V) := by
  by_cases he : V = ent
  · subst he; exact h
  · have hz : V.1 ≤ 0 ∧ 0 ≤ V.2 := by
      by_cases h1 : 0 < V.1
      · exact absurd ⟨he, .inl h1⟩ h
      · by_cases h2 : V.2 < 0
        · exact absurd ⟨he, .inr h2⟩ h
        · omega
    have h0 : InI V 0 := .inr ⟨by rw [Rat.zero_mul]; exact Rat.intCast_nonpos.2 hz.1, by rw [Rat.zero_mul]; exact Rat.intCast_nonneg.2 hz.2⟩
    have := in_sq h0
    rw [Rat.zero_mul] at this
    exact not_defn_of this
theorem mean_div (hwb : wf Z.n b = true) (hwa : wf Z.n a = true) (h : Mean Z a u v s) (k : Mean Z b u' v' s') : ∃ c d r, Mean Z (.bin .div a b) c d r := by
  have hw' : ∀ e, wf Z.n e = true → wf Z.xb.length e = true := fun e he => by rw [Z.lb]; exact he
  have hN : ∀ i, InI (ev Z.xb Z.tb (smpSub (smpMul (der (Z.vr i) a) (smp b)) (smpMul (smp a) (der (Z.vr i) b)))) (s i * u' - u * s' i) := fun i =>
    T_sub (hw' _ (smpB_wf (o := .mul) (smp_wf a hwa) (der_wf hwb))) (T_mul (h.sl i) k.bp) (T_mul h.bp (k.sl i))
  by_cases hz : u' = 0 ∨ v' = 0
  · have h0 : InI (ev Z.xb Z.tb (smp b)) 0 := by
      rcases hz with hz | hz
      · rw [← hz]; exact k.bp
      · rw [← hz]; exact k.bq
    have hnd := not_defn_of h0
    have hB : ¬ defn (ev Z.xb Z.tb (smpU .sqr (smp b))) := by
      rw [ev_smpU (hw' _ (smp_wf b hwb))]
      exact sq_undef hnd (ev_valid Z.vb Z.vtb _ (hw' _ (smp_wf b hwb)))
    have hsl : ∀ i, InI (ev Z.xb Z.tb (der (Z.vr i) (.bin .div a b))) 0 := fun i => by rw [der_div]; exact T_free hB (fun _ => rfl)
    have hsum : ∀ c : Rat, c - c = sumR (fun i => 0 * Z.dl i) (Z.n + 1) := fun c => by rw [sumR_zero (fun i => by grind)]; grind
    by_cases hk : isK (smp a) 0 = true
    · have hu : u = 0 := by have := h.bp; rw [ev_isK hk] at this; exact inI_k0 this
      have hv : v = 0 := by have := h.bq; rw [ev_isK hk] at this; exact inI_k0 this
      have e1 : u / u' = 0 := by rw [hu]; grind
      have e2 : v / v' = 0 := by rw [hv]; grind
      refine ⟨0, 0, fun _ => 0, ?_, ?_, T_free hnd (fun _ => rfl), T_free hnd (fun _ => rfl), hsl, hsum 0⟩
      · rw [← e1]; exact in_div h.ep (fun _ => k.ep)
      · rw [← e2]; exact in_div h.eq (fun _ => k.eq)
    · have hfree : ∀ r, InI (ev Z.xb Z.tb (smp (.bin .div a b))) r := fun r => T_free hnd (fun hk' => absurd hk' hk)
      by_cases hu : u' = 0
      · refine ⟨v / v', v / v', fun _ => 0, ?_, in_div h.eq (fun _ => k.eq), hfree _, hfree _, hsl, hsum _⟩
        have : ¬ defn (ev Z.xp Z.tp b) := not_defn_of (hu ▸ k.ep)
        show InI (div _ _) _
        rw [div_undef this]; exact .inl rfl
      · have hv : v' = 0 := by rcases hz with hz | hz; exact absurd hz hu; exact hz
        refine ⟨u / u', u / u', fun _ => 0, in_div h.ep (fun _ => k.ep), ?_, hfree _, hfree _, hsl, hsum _⟩
        have : ¬ defn (ev Z.xq Z.tq b) := not_defn_of (hv ▸ k.eq)
        show InI (div _ _) _
        rw [div_undef this]; exact .inl rfl
  · have hu : u' ≠ 0 := fun e => hz (.inl e)
    have hv : v' ≠ 0 := fun e => hz (.inr e)
    refine ⟨u / u', v / v', fun i => (s i * u' - u * s' i) / (u' * v'), in_div h.ep (fun _ => k.ep), in_div h.eq (fun _ => k.eq), T_div h.bp (fun _ => k.bp), T_div h.bq (fun _ => k.bq), fun i => ?_, ?_⟩
    · rw [der_div]
      exact T_div (hN i) (fun hd => T_sqp (hw' _ (smp_wf b hwb)) k.bp k.bq hd)
    · rw [sumR_lin (g := fun i => s i * Z.dl i) (h := fun i => s' i * Z.dl i) (u' / (u' * v')) (-u / (u' * v')) (fun i => by grind), ← h.sm, ← k.sm]
      grind
end
theorem mean (Z : Two) : ∀ e : Ex, wf Z.n e = true → ∃ u v s, Mean Z e u v s
  | .num c, h => ⟨_, _, _, mean_num Z c h⟩
  | .var i, h => ⟨_, _, _, mean_var Z i (by simpa [wf] using h)⟩
  | .time, _ => ⟨_, _, _, mean_time Z⟩
  | .un o a, h => by
    obtain ⟨u, v, s, k⟩ := mean Z a h
    cases o with
    | neg => exact ⟨_, _, _, mean_neg h k⟩
    | sqr => exact ⟨_, _, _, mean_sqr h k⟩
    | sqrt => exact mean_sqrt h k
  | .bin o a b, h => by
    simp only [wf, Bool.and_eq_true] at h
    obtain ⟨u, v, s, k⟩ := mean Z a h.1
    obtain ⟨u', v', s', k'⟩ := mean Z b h.2
    cases o with
    | add => exact ⟨_, _, _, mean_add k k'⟩
    | sub => exact ⟨_, _, _, mean_sub h.2 k k'⟩
    | mul => exact ⟨_, _, _, mean_mul k k'⟩
    | div => exact mean_div h.2 h.1 k k'
end Go.Pl

/- What the laws of derivatives come to. -/
namespace Go.Pl

theorem inter_of {A B : I} {r : Rat} (hA : vB A = true) (hB : vB B = true) (h : InI A r) (k : InI B r) : interB A B = true := by
  have h1 := vB_bounds hA
  have h2 := vB_bounds hB
  have key : max A.1 B.1 ≤ min A.2 B.2 := by
    rcases h with rfl | ⟨a1, a2⟩
    · simp only [ent]; omega
    · rcases k with rfl | ⟨b1, b2⟩
      · simp only [ent]; omega
      · have c1 : A.1 ≤ B.2 := ic.1 (Rat.le_trans a1 b2)
        have c2 : B.1 ≤ A.2 := ic.1 (Rat.le_trans b1 a2)
        omega
  simp [interB]; omega
theorem inI_pt (z : Int) : InI (pt z) ((z : Rat) / 65536) := in_mk (by grind) (by grind)
theorem inBox_pt (l : List Int) : inBox (l.map pt) (l.map fun (z : Int) => (z : Rat) / 65536) := by
  intro i hi
  rw [List.length_map] at hi
  have e : l[i]? = some l[i] := by simp [hi]
  rw [List.getElem?_map, List.getElem?_map, e]
  exact inI_pt _
theorem mixed_common {xs : List I} {T : I} (v : List Rat) (t : Rat) (hx : ∀ a ∈ xs, vB a = true) (hT : vB T = true) (h1 : inBox xs v) (h2 : InI T t) {e : Ex} (hw : wf xs.length e = true) (i j : Vr) :
    interB (ev xs T (der j (der i e))) (ev xs T (der i (der j e))) = true := by
  have wi := der_wf (v := i) hw
  have wj := der_wf (v := j) hw
  have k1 := in_ev h1 h2 _ (der_wf (v := j) wi)
  have k2 := in_ev h1 h2 _ (der_wf (v := i) wj)
  rw [val_der2 hw] at k1 k2
  rw [val_mixed i j e] at k1
  exact inter_of (ev_valid hx hT _ (der_wf wi)) (ev_valid hx hT _ (der_wf wj)) k1 k2
/-- The inner product of the gradient and the difference. -/
def gradT (xb : List I) (T : I) (e : Ex) (d : Nat → I) : Nat → I
  | 0 => pt 0
  | i + 1 => add (gradT xb T e d i) (mul (ev xb T (der (.st i) e)) (d i))
theorem gradT_valid {xb : List I} {T : I} {e : Ex} {d : Nat → I} : ∀ n, vB (gradT xb T e d n) = true
  | 0 => pt_valid 0
  | n + 1 => add_valid (gradT_valid n) mul_valid
theorem gradT_in {xb : List I} {T : I} {e : Ex} {d : Nat → I} {s r : Nat → Rat} (hs : ∀ i : Nat, InI (ev xb T (der (.st i) e)) (s i)) (hd : ∀ i, InI (d i) (r i)) : ∀ n, InI (gradT xb T e d n) (sumR (fun (i : Nat) => s i * r i) n)
  | 0 => inI_00
  | n + 1 => in_add (gradT_in hs hd n) (in_mul (hs n) (hd n))
def rats (l : List Int) : List Rat := l.map fun (z : Int) => (z : Rat) / 65536
theorem rats_get (l : List Int) (i : Nat) (h : i < l.length) : ((rats l)[i]?).getD 0 = ((((l[i]?).getD 0 : Int)) : Rat) / 65536 := by
  have e : l[i]? = some l[i] := by simp [h]
  unfold rats
  rw [List.getElem?_map, e]; rfl
theorem mean_common {xb : List I} {T : I} {tv : Rat} {ps qs : List Int} {e : Ex} (lp : ps.length = xb.length) (lq : qs.length = xb.length) (vb : ∀ a ∈ xb, vB a = true) (vT : vB T = true) (hT : InI T tv) (hp : inBox xb (rats ps)) (hq : inBox xb (rats qs)) (hw : wf xb.length e = true) :
    interB (sub (ev (qs.map pt) T e) (ev (ps.map pt) T e)) (gradT xb T e (fun i => pt ((qs[i]?).getD 0 - (ps[i]?).getD 0)) xb.length) = true := by
  have vpt : ∀ (l : List Int), ∀ a ∈ l.map pt, vB a = true := fun l a ha => by obtain ⟨z, _, rfl⟩ := List.mem_map.1 ha; exact pt_valid z
  let Z : Two := { n := xb.length, xp := ps.map pt, xq := qs.map pt, xb := xb, tp := T, tq := T, tb := T, p := rats ps, q := rats qs, s := tv, t := tv, lp := by simp [lp], lq := by simp [lq], lb := rfl, vp := vpt ps, vq := vpt qs, vb := vb, vtp := vT, vtq := vT, vtb := vT, hp := inBox_pt ps, hq := inBox_pt qs, hbp := hp, hbq := hq, htp := hT, htq := hT, htbp := hT, htbq := hT }
  obtain ⟨u, v, s, h⟩ := mean Z e hw
  have hprod := gradT_in (xb := xb) (T := T) (e := e) (d := fun i => pt ((qs[i]?).getD 0 - (ps[i]?).getD 0)) (r := fun i => (((qs[i]?).getD 0 - (ps[i]?).getD 0 : Int) : Rat) / 65536) (s := fun i => if i < xb.length then s i else 0)
  have key : InI (gradT xb T e (fun i => pt ((qs[i]?).getD 0 - (ps[i]?).getD 0)) xb.length) (v - u) := by
    have gen : ∀ n, n ≤ xb.length → InI (gradT xb T e (fun i => pt ((qs[i]?).getD 0 - (ps[i]?).getD 0)) n) (sumR (fun i => s i * Z.dl i) n) := by
      intro n
      induction n with
      | zero => intro _; exact inI_00
      | succ n ih =>
        intro hn
        have hsl := h.sl n
        have e1 : Z.vr n = .st n := if_pos (show n < xb.length by omega)
        rw [e1] at hsl
        have e2 : Z.dl n = (((qs[n]?).getD 0 - (ps[n]?).getD 0 : Int) : Rat) / 65536 := by
          have : Z.dl n = ((rats qs)[n]?).getD 0 - ((rats ps)[n]?).getD 0 := if_pos (show n < xb.length by omega)
          rw [this, rats_get _ _ (by omega), rats_get _ _ (by omega), Rat.intCast_sub]; grind
        simp only [gradT, sumR]
        refine in_add (ih (by omega)) (in_mul hsl ?_)
        rw [e2]; exact inI_pt _
    have h1 := gen xb.length (Nat.le_refl _)
    have h2 := h.sm
    simp only [sumR] at h2
    have e3 : Z.dl xb.length = 0 := by
      have : Z.dl xb.length = tv - tv := if_neg (show ¬ xb.length < xb.length by omega)
      rw [this]; grind
    have e4 : v - u = sumR (fun i => s i * Z.dl i) xb.length := by
      rw [h2]
      show sumR (fun i => s i * Z.dl i) xb.length + s xb.length * Z.dl xb.length = _
      rw [e3]; grind
    rw [e4]; exact h1
  have wq : wf (qs.map pt).length e = true := by rw [List.length_map, lq]; exact hw
  have wp : wf (ps.map pt).length e = true := by rw [List.length_map, lp]; exact hw
  exact inter_of (sub_valid (ev_valid (vpt qs) vT e wq) (ev_valid (vpt ps) vT e wp)) (gradT_valid _) (in_sub h.eq h.ep) key

/-! ### Polynomials -/
theorem con_of {A : I} {z : Int} (h : InI A (z : Rat)) : conB A (z * 65536) = true := by
  unfold conB
  rcases h with rfl | ⟨h1, h2⟩
  · simp [entB_iff.2]
  · have e : (z : Rat) * 65536 = ((z * 65536 : Int) : Rat) := by rw [Rat.intCast_mul]; rfl
    rw [e] at h1 h2
    have := ic.1 h1
    have := ic.1 h2
    simp [*]
/-- A polynomial in Horner's form after k steps: its value and its derivatives' values at x. -/
structure Hor (x : Int) (e : Ex) (v f s : Int) (k : Nat) : Prop where
  w : wf 1 e = true
  z : sz e = 4 * k + 1
  z1 : sz (dif (.st 0) e) ≤ 25 * k + 1
  z2 : sz (dif (.st 0) (dif (.st 0) e)) ≤ 300 * k + 1
  v0 : val [(x : Rat)] 0 e = v
  v1 : val [(x : Rat)] 0 (dif (.st 0) e) = f
  v2 : val [(x : Rat)] 0 (dif (.st 0) (dif (.st 0) e)) = s
  b0 : -(10 ^ k : Int) ≤ v ∧ v ≤ 10 ^ k
  b1 : -(10 ^ k : Int) ≤ f ∧ f ≤ 10 ^ k
  b2 : -(10 ^ k : Int) ≤ s ∧ s ≤ 10 ^ k
theorem hor0 (x : Int) : Hor x (number 0) 0 0 0 0 := by
  refine ⟨number_wf' _ _, rfl, ?_, ?_, ?_, ?_, ?_, by decide, by decide, by decide⟩
  · decide
  · decide
  · rw [val0]; rfl
  · rw [show dif (.st 0) (number 0) = number 0 from rfl, val0]; rfl
  · rw [show dif (.st 0) (dif (.st 0) (number 0)) = number 0 from rfl, val0]; rfl
theorem mul_bd {x v B : Int} (hx : -5 ≤ x ∧ x ≤ 5) (h : -B ≤ v ∧ v ≤ B) : -(5 * B) ≤ v * x ∧ v * x ≤ 5 * B := by
  have hB : 0 ≤ B := by omega
  have h1 := Int.mul_nonneg (show 0 ≤ B - v by omega) (show 0 ≤ 5 - x by omega)
  have h2 := Int.mul_nonneg (show 0 ≤ B + v by omega) (show 0 ≤ 5 + x by omega)
  have h3 := Int.mul_nonneg (show 0 ≤ B - v by omega) (show 0 ≤ 5 + x by omega)
  have h4 := Int.mul_nonneg (show 0 ≤ B + v by omega) (show 0 ≤ 5 - x by omega)
  constructor <;> grind
theorem horS {x c : Int} {e : Ex} {v f s : Int} {k : Nat} (hx : -5 ≤ x ∧ x ≤ 5) (hc : -5 ≤ c ∧ c ≤ 5) (hk : k ≤ 4) (h : Hor x e v f s k) :
    Hor x (.bin .add (.bin .mul e (.var 0)) (number c)) (v * x + c) (f * x + v) (s * x + 2 * f) (k + 1) := by
  have hvar : dif (.st 0) (.var 0) = number 1 := rfl
  have hnum : ∀ n, dif (.st 0) (number n) = number 0 := fun n => rfl
  have hp : (10 : Int) ^ (k + 1) = 10 * 10 ^ k := by rw [Int.pow_succ]; omega
  have h1 : (1 : Int) ≤ 10 ^ k := by
    have := Nat.one_le_pow k 10 (by decide)
    exact_mod_cast this
  have B0 := h.b0
  have B1 := h.b1
  have B2 := h.b2
  have m0 := mul_bd hx h.b0
  have m1 := mul_bd hx h.b1
  have m2 := mul_bd hx h.b2
  have z := h.z; have z1 := h.z1; have z2 := h.z2
  generalize (10 : Int) ^ k = B at *
  have vc : val [(x : Rat)] 0 (number c) = c := val_number _ _ c (by omega)
  have vx : val [(x : Rat)] 0 (.var 0) = x := rfl
  refine ⟨by simp [wf, h.w, number_wf'], by simp only [sz_bin, sz_var, sz_number]; omega, ?_, ?_, ?_, ?_, ?_, by omega, by omega, by omega⟩
  · simp only [sz_add, sz_mul, hvar, hnum, sz_number, sz_var]; omega
  · simp only [d_add, d_mul, hvar, hnum, sz_add, sz_mul, sz_bin, sz_number, sz_var]; omega
  · simp only [val, binR, h.v0, vc]; rw [Rat.intCast_add, Rat.intCast_mul]; rfl
  · simp only [d_add, d_mul, hvar, hnum, val, binR, h.v0, h.v1, val1, val0]
    rw [Rat.intCast_add, Rat.intCast_mul]
    show (f : Rat) * (x : Rat) + (v : Rat) * 1 + 0 = _
    grind
  · simp only [d_add, d_mul, hvar, hnum, val, binR, h.v0, h.v1, h.v2, val1, val0]
    rw [Rat.intCast_add, Rat.intCast_mul, Rat.intCast_mul]
    have e2 : ((2 : Int) : Rat) = 2 := rfl
    rw [e2]
    show (s : Rat) * (x : Rat) + (f : Rat) * 1 + ((f : Rat) * 1 + (v : Rat) * 0) + 0 = _
    grind
theorem hor_in {x : Int} {e : Ex} {v f s : Int} {k : Nat} (h : Hor x e v f s k) :
    conB (ev [pt (x * 65536)] (pt 0) (der (.st 0) e)) (f * 65536) = true ∧ conB (ev [pt (x * 65536)] (pt 0) (der (.st 0) (der (.st 0) e))) (s * 65536) = true := by
  have hb : inBox [pt (x * 65536)] [(x : Rat)] := by
    intro i hi
    have : i = 0 := by simp at hi; exact hi
    subst this
    have := inI_pt (x * 65536)
    have e : ((x * 65536 : Int) : Rat) / 65536 = x := by rw [Rat.intCast_mul]; have e : ((65536 : Int) : Rat) = 65536 := rfl; rw [e]; grind
    rw [e] at this
    exact this
  have ht : InI (pt 0) 0 := inI_00
  have k1 := in_ev hb ht _ (der_wf (v := .st 0) h.w)
  have k2 := in_ev hb ht _ (der_wf (v := .st 0) (der_wf (v := .st 0) h.w))
  rw [val_der h.w, h.v1] at k1
  rw [val_der2 h.w, h.v2] at k2
  exact ⟨con_of k1, con_of k2⟩

/-! ### Lie derivatives -/
/-- The Lie derivative's sum after i components. -/
def lieS (xv : List I) (t : I) (g : Ex) (f : List I) : Nat → I
  | 0 => ev xv t (der .tm g)
  | i + 1 => if isK (der (.st i) g) 0 then lieS xv t g f i else add (lieS xv t g f i) (mul (ev xv t (der (.st i) g)) (f.getD i (0, 0)))
theorem lie_var {xv : List I} {t : I} {f : List I} {k : Nat} (hf : ∀ p ∈ f, vB p = true) : ∀ i, i ≤ f.length → lieS xv t (.var k) f i = if k < i then f.getD k (0, 0) else (0, 0)
  | 0, _ => by
    simp only [lieS]
    rw [der_leaf rfl, if_neg (by simp [isV]), number0]; simp [ev]
  | i + 1, h => by
    have ih := lie_var (xv := xv) (t := t) (k := k) hf i (by omega)
    simp only [lieS]
    rw [der_leaf rfl]
    by_cases hk : k = i
    · subst hk
      have e1 : isV (.st (k : Int)) (.var k) = true := by simp [isV]
      rw [if_pos e1, number1]
      have e2 : isK (.num (65536, 65536)) 0 = false := by decide
      rw [e2, if_neg (by simp), if_pos (by omega), ih, if_neg (by omega)]
      have hv : vB (f.getD k (0, 0)) = true := by
        rw [List.getD_eq_getElem?_getD]
        have e : f[k]? = some f[k] := by simp [show k < f.length by omega]
        rw [e]; exact hf _ (List.mem_of_getElem? e)
      simp only [ev]
      rw [mul_one_l hv, add_zero_l hv]
    · have e1 : isV (.st (i : Int)) (.var k) = false := by simp [isV]; omega
      have e3 : (if isV (.st (i : Int)) (.var k) = true then number 1 else number 0) = number 0 := by rw [e1]; rfl
      have e2 : isK (number 0) 0 = true := by decide
      rw [e3, if_pos e2, ih]
      by_cases h1 : k < i
      · rw [if_pos h1, if_pos (by omega)]
      · rw [if_neg h1, if_neg (by omega)]
theorem lie_leaf {xv : List I} {t : I} {g : Ex} {f : List I} (h : ∀ i : Nat, occ (.st i) g = false) : ∀ i, lieS xv t g f i = ev xv t (der .tm g)
  | 0 => rfl
  | i + 1 => by
    simp only [lieS]
    rw [der_none _ (h i), if_pos zero_isK]
    exact lie_leaf h i
/-- The Lie derivative of a system with constant derivatives and the change along its solution. -/
theorem lie_in {xb : List I} {tb : I} {g : Ex} {f : List I} {s r : Nat → Rat} (h0 : InI (ev xb tb (der .tm g)) (s f.length)) (hs : ∀ i : Nat, i < f.length → InI (ev xb tb (der (.st i) g)) (s i)) (hf : ∀ i, i < f.length → InI (f.getD i (0, 0)) (r i)) :
    ∀ n, n ≤ f.length → InI (lieS xb tb g f n) (s f.length + sumR (fun i => s i * r i) n)
  | 0, _ => by
    simp only [lieS, sumR]
    rw [Rat.add_zero]; exact h0
  | n + 1, h => by
    have ih := lie_in h0 hs hf n (by omega)
    have hsn := hs n (by omega)
    simp only [lieS, sumR]
    split
    · rename_i hk
      rw [ev_isK hk] at hsn
      rw [inI_k0 hsn, Rat.zero_mul, Rat.add_zero]; exact ih
    · rw [← Rat.add_assoc]; exact in_add ih (in_mul hsn (hf n (by omega)))
theorem lieS_valid {xv : List I} {t : I} {g : Ex} {f : List I} (hxv : ∀ p ∈ xv, vB p = true) (htv : vB t = true) (hw : wf xv.length g = true) : ∀ i, vB (lieS xv t g f i) = true
  | 0 => ev_valid hxv htv _ (der_wf hw)
  | i + 1 => by
    simp only [lieS]
    split
    · exact lieS_valid hxv htv hw i
    · exact add_valid (lieS_valid hxv htv hw i) mul_valid
theorem hull_in {x y z : Int} (h : (x ≤ z ∧ z ≤ y) ∨ (y ≤ z ∧ z ≤ x)) : InI (hull (x, x) (y, y)) ((z : Rat) / 65536) := by
  refine .inr ⟨?_, ?_⟩
  · have := ic.2 (show (hull (x, x) (y, y)).1 ≤ z by simp only [hull]; omega)
    grind
  · have := ic.2 (show z ≤ (hull (x, x) (y, y)).2 by simp only [hull]; omega)
    grind
theorem pt_small {z : Int} (h : -20000000 < z ∧ z < 20000000) : pt z = (z, z) := mk_num ⟨by omega, by omega⟩ ⟨by omega, by omega⟩
theorem lie_common {g : Ex} {ps cs : List Int} (lc : cs.length = ps.length) (bp : ∀ z ∈ ps, -16777216 < z ∧ z < 16777216) (bc : ∀ z ∈ cs, -1048576 < z ∧ z < 1048576) (hw : wf ps.length g = true) :
    interB (sub (ev ((ps.zipWith (· + ·) cs).map pt) (pt 65536) g) (ev (ps.map pt) (pt 0) g)) (lieS ((ps.zipWith (fun p c => hull (pt p) (pt (p + c))) cs)) (0, 65536) g (cs.map pt) ps.length) = true := by
  have vpt : ∀ (l : List Int), ∀ a ∈ l.map pt, vB a = true := fun l a ha => by obtain ⟨z, _, rfl⟩ := List.mem_map.1 ha; exact pt_valid z
  have hbx : ∀ i, i < ps.length → ∃ p c, ps[i]? = some p ∧ cs[i]? = some c ∧ (-16777216 < p ∧ p < 16777216) ∧ (-1048576 < c ∧ c < 1048576) := fun i hi => by
    have e1 : ps[i]? = some ps[i] := by simp [hi]
    have e2 : cs[i]? = some (cs[i]'(by omega)) := by simp [lc, hi]
    exact ⟨_, _, e1, e2, bp _ (List.mem_of_getElem? e1), bc _ (List.mem_of_getElem? e2)⟩
  obtain ⟨qs, hqs⟩ : ∃ qs, qs = ps.zipWith (· + ·) cs := ⟨_, rfl⟩
  obtain ⟨xb, hxb⟩ : ∃ xb, xb = ps.zipWith (fun p c => hull (pt p) (pt (p + c))) cs := ⟨_, rfl⟩
  rw [← hqs, ← hxb]
  have lq : qs.length = ps.length := by rw [hqs, List.length_zipWith, lc, Nat.min_self]
  have lb : xb.length = ps.length := by rw [hxb, List.length_zipWith, lc, Nat.min_self]
  have gq : ∀ i p c, ps[i]? = some p → cs[i]? = some c → qs[i]? = some (p + c) := fun i p c h k => by rw [hqs, List.getElem?_zipWith, h, k]
  have gb : ∀ i p c, ps[i]? = some p → cs[i]? = some c → xb[i]? = some (hull (pt p) (pt (p + c))) := fun i p c h k => by rw [hxb, List.getElem?_zipWith, h, k]
  have vb : ∀ a ∈ xb, vB a = true := fun a ha => by
    obtain ⟨i, hi⟩ := List.mem_iff_getElem?.1 ha
    have hlt := (List.getElem?_eq_some_iff.1 hi).1
    obtain ⟨p, c, e1, e2, b1, b2⟩ := hbx i (by omega)
    rw [gb i p c e1 e2] at hi
    cases hi
    rw [pt_small (by omega), pt_small (by omega)]
    unfold vB
    rw [Bool.or_eq_true, Bool.and_eq_true, Bool.and_eq_true, numB_iff, numB_iff, decide_eq_true_iff]
    right; simp only [hull]; omega
  have rg : ∀ (l : List Int) (i : Nat) (z : Int), l[i]? = some z → ((rats l)[i]?).getD 0 = (z : Rat) / 65536 := fun l i z h => by
    rw [rats_get _ _ (List.getElem?_eq_some_iff.1 h).1, h]; rfl
  have hin : inBox xb (rats ps) ∧ inBox xb (rats qs) := by
    constructor
    · intro i hi
      obtain ⟨p, c, e1, e2, b1, b2⟩ := hbx i (by omega)
      rw [gb i p c e1 e2, rg _ _ _ e1]
      rw [pt_small (by omega), pt_small (by omega)]
      exact hull_in (by omega)
    · intro i hi
      obtain ⟨p, c, e1, e2, b1, b2⟩ := hbx i (by omega)
      rw [gb i p c e1 e2, rg _ _ _ (gq i p c e1 e2)]
      rw [pt_small (by omega), pt_small (by omega)]
      exact hull_in (by omega)
  have hT0 : InI (0, 65536) 0 := .inr ⟨by decide +kernel, by decide +kernel⟩
  have hT1 : InI (0, 65536) 1 := .inr ⟨by decide +kernel, by decide +kernel⟩
  have p1 : InI (pt 65536) 1 := by rw [show pt 65536 = (65536, 65536) by decide]; exact inI_11
  let Z : Two := { n := ps.length, xp := ps.map pt, xq := qs.map pt, xb := xb, tp := pt 0, tq := pt 65536, tb := (0, 65536), p := rats ps, q := rats qs, s := 0, t := 1, lp := by simp, lq := by simp [lq], lb := lb, vp := vpt ps, vq := vpt qs, vb := vb, vtp := by decide, vtq := by decide, vtb := by decide, hp := inBox_pt ps, hq := inBox_pt qs, hbp := hin.1, hbq := hin.2, htp := inI_00, htq := p1, htbp := hT0, htbq := hT1 }
  obtain ⟨u, v, s, h⟩ := mean Z g hw
  have wq : wf (qs.map pt).length g = true := by rw [List.length_map, lq]; exact hw
  have wp : wf (ps.map pt).length g = true := by rw [List.length_map]; exact hw
  have wb : wf xb.length g = true := by rw [lb]; exact hw
  have hl := lie_in (xb := xb) (tb := (0, 65536)) (g := g) (f := cs.map pt) (s := s) (r := fun i => ((((cs[i]?).getD 0 : Int)) : Rat) / 65536)
    (by have := h.sl ps.length; rw [show Z.vr ps.length = .tm from if_neg (show ¬ ps.length < ps.length by omega)] at this; rw [List.length_map, lc]; exact this)
    (fun i hi => by have := h.sl i; rw [List.length_map, lc] at hi; rw [show Z.vr i = .st i from if_pos (show i < ps.length from hi)] at this; exact this)
    (fun i hi => by
      rw [List.length_map] at hi
      have e : cs[i]? = some cs[i] := by simp [hi]
      rw [List.getD_eq_getElem?_getD, List.getElem?_map, e]
      exact inI_pt _) ps.length (by rw [List.length_map, lc]; exact Nat.le_refl _)
  rw [List.length_map, lc] at hl
  have hsm := h.sm
  simp only [sumR] at hsm
  have e3 : Z.dl ps.length = 1 := by
    have : Z.dl ps.length = 1 - 0 := if_neg (show ¬ ps.length < ps.length by omega)
    rw [this]; grind
  have e4 : ∀ n, n ≤ ps.length → sumR (fun i => s i * Z.dl i) n = sumR (fun i => s i * (((((cs[i]?).getD 0 : Int)) : Rat) / 65536)) n := by
    intro n
    induction n with
    | zero => intro _; rfl
    | succ n ih =>
      intro hn
      simp only [sumR]
      rw [ih (by omega)]
      obtain ⟨p, c, k1, k2, _, _⟩ := hbx n (by omega)
      have : Z.dl n = ((rats qs)[n]?).getD 0 - ((rats ps)[n]?).getD 0 := if_pos (show n < ps.length by omega)
      rw [this, rg _ _ _ (gq n p c k1 k2), rg _ _ _ k1, k2]
      simp only [Option.getD_some]
      rw [Rat.intCast_add]
      have : ((p : Rat) + (c : Rat)) / 65536 - (p : Rat) / 65536 = (c : Rat) / 65536 := by grind
      rw [this]
  have e5 : v - u = s ps.length + sumR (fun i => s i * (((((cs[i]?).getD 0 : Int)) : Rat) / 65536)) ps.length := by
    rw [hsm]
    show sumR (fun i => s i * Z.dl i) ps.length + s ps.length * Z.dl ps.length = _
    rw [e3, e4 _ (Nat.le_refl _)]; grind
  rw [← e5] at hl
  exact inter_of (sub_valid (ev_valid (vpt qs) (by decide) g wq) (ev_valid (vpt ps) (by decide) g wp)) (lieS_valid vb (by decide) wb _) (in_sub h.eq h.ep) hl
end Go.Pl

namespace Go.Proofs.YtgabeieooemfeaaGreatDoor.Arm
open Go.Arm Go.Pl

/-- What a law of the chapter takes. -/
structure Pq where
  F : List (List Nd)
  b : List I
  w : Rq
  k : Int
structure PqOk (q : Pq) : Prop where
  hF : ∀ r ∈ q.F, r.length ≤ 200000000000000
  hF2 : q.F.length ≤ 200000000000000
  hb : q.b.length ≤ 200000000000000
  hk : 0 ≤ q.k ∧ q.k ≤ 255
def pqA (q : Pq) : AV := .agg [.slice (q.F.map xs) false, bx q.b, .int .i64 q.w.ctrl.order, .int .i64 q.w.ctrl.first, .int .i64 q.w.ctrl.least, .int .i64 q.w.ctrl.most, .int .i64 q.w.ctrl.wide, .int .i64 q.w.t, .int .i64 q.w.last, .int .i64 q.w.h, .int .u8 q.k]
def pqN (q : Pq) : Nat := (1 + q.k.tmod 3).toNat
def pqT (q : Pq) : Tp := cmpT (mds q.F 7 (pqN q) (pqN q))
def pqX (q : Pq) : List I := nrb q.b 4096 (pqN q)
theorem pqN_ok {q : Pq} (h : PqOk q) : (pqN q : Int) = 1 + q.k.tmod 3 ∧ 1 ≤ pqN q ∧ pqN q ≤ 3 := by
  have h1 := h.hk
  have h2 := Int.tmod_nonneg 3 h1.1
  have h3 := Int.tmod_lt_of_pos q.k (b := 3) (by decide)
  unfold pqN
  omega
theorem cmpT_ok {F : List Ex} (h : F.length ≤ 1000) (hw : ∀ e ∈ F, wf F.length e = true) (hz : (F.map sz).sum ≤ 100000) : tpOk (cmpT F) := by
  obtain ⟨h1, h2, h3, h4⟩ := cmpAll_ok (F := F) (s := ([], [])) hw (fun i x hx => by simp at hx) (fun k hk => by simp at hk)
  exact ⟨h1, by simpa [cmpT] using h3, h2, h, by simp at h4; show (cmpAll F ([], [])).1.length ≤ 100000; omega⟩
theorem sum_le {l : List Nat} {c : Nat} (h : ∀ x ∈ l, x ≤ c) : l.sum ≤ l.length * c := by
  induction l with
  | nil => simp
  | cons a l ih =>
    have h1 := ih fun x hx => h x (by simp [hx])
    have h2 := h a (by simp)
    simp only [List.sum_cons, List.length_cons]
    rw [Nat.add_mul]; omega
theorem mds_all {l : List (List Nd)} {most N i : Nat} (hN : 0 < N) : ∀ e ∈ mds l most N i, sz e ≤ 31 ∧ wf N e = true := fun e he => by
  obtain ⟨k, _, rfl⟩ := List.mem_map.1 he
  exact ⟨mde_sz N _ most, mde_wf hN _ _⟩
theorem pqT_ok {q : Pq} (h : PqOk q) : tpOk (pqT q) ∧ (pqT q).n = pqN q := by
  obtain ⟨h1, h2, h3⟩ := pqN_ok h
  have hl := mds_len q.F 7 (pqN q) (pqN q)
  have ha := mds_all (l := q.F) (most := 7) (i := pqN q) (N := pqN q) (by omega)
  have hs := sum_le (l := (mds q.F 7 (pqN q) (pqN q)).map sz) (c := 31) (fun x hx => by obtain ⟨e, he, rfl⟩ := List.mem_map.1 hx; exact (ha e he).1)
  rw [List.length_map, hl] at hs
  refine ⟨cmpT_ok (by rw [hl]; omega) (fun e he => by rw [hl]; exact (ha e he).2) (by omega), hl⟩
theorem pqX_ok {q : Pq} (h : PqOk q) : allV (pqX q) ∧ (pqX q).length = (pqT q).n := ⟨nrb_valid _ (by omega) _, by rw [(pqT_ok h).2]; exact nrb_len _ _ _⟩
theorem reqS_rq (w : Rq) : rqOk (reqS w) := by
  have h1 := reqS_ok w
  have h2 := madeC_ok w.ctrl
  have h3 : (reqS w).ctrl = madeC w.ctrl := rfl
  have h4 : 1 ≤ (madeC w.ctrl).order := by have := of_decide_eq_true h2.1; omega
  exact ⟨by rw [h3]; omega, by rw [h3]; omega, by omega, by omega, by omega⟩
set_option maxHeartbeats 2000000 in
theorem lProblem (q : Pq) (hq : PqOk q) (H : AH) : Sound E 15 [pqA q] H (.ret (.tuple [tpA (pqT q), bx (pqX q), rqA (reqS q.w)])) H := by
  refine sound_of_awp tabOk mixed Tryz.func15 rfl (by rfl) Tryz.ntmps15 (by kernel_rfl) (by simp) ?_
  obtain ⟨hN, hN0, hN3⟩ := pqN_ok hq
  have hl := mds_len q.F 7 (pqN q) (pqN q)
  have ha := mds_all (l := q.F) (most := 7) (i := pqN q) (N := pqN q) (by omega)
  have wk : IntKind.i64.wrap q.k = q.k := wrap64 (by have := hq.hk; omega) (by have := hq.hk; omega)
  have w0 : IntKind.i64.wrap (q.k.tmod 3) = q.k.tmod 3 := wrap64 (by omega) (by omega)
  have w1 : IntKind.i64.wrap (1 + q.k.tmod 3) = (pqN q : Int) := by rw [← hN]; exact wrap64 (by omega) (by omega)
  have hC := r8Compile ⟨nms.take (pqN q), mds q.F 7 (pqN q) (pqN q)⟩ (by show 0 < (mds q.F 7 (pqN q) (pqN q)).length ∧ _; rw [hl]; omega) (fun e he => (ha e he).1)
  have hC' : ∀ Hx, Sound E 32 [sys ⟨nms.take (pqN q), mds q.F 7 (pqN q) (pqN q)⟩] Hx (.ret (tpA (pqT q))) Hx := hC
  generalize pqT q = T at hC' ⊢
  generalize hR : reqS q.w = R
  have hR' : ∀ Hx, Sound E 39 [rqA q.w] Hx (.ret (rqA R)) Hx := fun Hx => hR ▸ r13Request q.w Hx
  simp [pqA, wk, w0, w1]
  refine callD_ret0 (fun Hx => r7MadeSystem q.F 7 (pqN q) ⟨by omega, by omega⟩ (by decide) hq.hF hq.hF2 Hx) ?_
  simp
  refine callD_ret0 (fun Hx => hC' Hx) ?_
  simp
  refine callD_ret0 (fun Hx => r8Boxes q.b (pqN q) 4096 (by omega) (by omega) hq.hb Hx) ?_
  simp
  refine callD_ret0 (fun Hx => by simpa [rqA] using hR' Hx) ?_
  simp [tpA, rqA, outA, bx]
  refine endD [] (by rfl) (by simp [okW, note, Eff.triv, Eff.wr, Eff.none, upTo, newAt]) ?_
  simp
  exact ⟨[.agg [.int .i64 T.n, .slice (T.L.map insA) false, .slice (T.out.map fun k : Nat => .int .i64 k) false], .slice ((pqX q).map iv) false, .agg [.int .i64 R.ctrl.order, .int .i64 R.ctrl.first, .int .i64 R.ctrl.least, .int .i64 R.ctrl.most, .int .i64 R.ctrl.wide, .int .i64 R.t, .int .i64 R.last, .int .i64 R.h]], _, by simp [show (Tryz.f15).results.toList = [.cell 2 39, .tmp 3, .cell 4 27] from rfl, resA, pqX], .drop (by simp [noFs, noF, ins_noFs, iv_noFs, noFs_iff]), rfl⟩
theorem lZero (H : AH) : Sound E 26 [zsA] H (.ret (.bool true)) H := by
  refine sound_of_awp tabOk mixed Tryz.func26 rfl (by rfl) Tryz.ntmps26 (by kernel_rfl) (by simp) ?_
  have w0 : IntKind.i64.wrap 0 = 0 := wrap64 (by omega) (by omega)
  simp [zsA]
  exact fin1 (rs := [.tmp 2]) (by rfl) (by simp [resA, w0]) (by simp [noFs, noF])
end Go.Proofs.YtgabeieooemfeaaGreatDoor.Arm

/- The arguments of a law as plain data. -/
namespace Go.Arm

theorem list_of {α : Type} {f : α → AV} {p : α → Prop} : ∀ {xs : List AV}, (∀ x ∈ xs, ∃ a, x = f a ∧ p a) → ∃ l : List α, xs = l.map f ∧ ∀ a ∈ l, p a
  | [], h => ⟨[], rfl, fun a ha => by cases ha⟩
  | x :: r, h => by
    obtain ⟨a, rfl, ha⟩ := h x (by simp)
    obtain ⟨l, rfl, hl⟩ := list_of (xs := r) (fun y hy => h y (by simp [hy]))
    exact ⟨a :: l, rfl, fun b hb => by
      rcases List.mem_cons.1 hb with rfl | hb
      · exact ha
      · exact hl b hb⟩
theorem okL_cons {ok : TypeId → AV → Prop} {f : TypeId × Nat} {fs : List (TypeId × Nat)} {vs : List AV} (h : OkL ok (f :: fs) vs) : ∃ v vs', vs = v :: vs' ∧ ok f.1 v ∧ OkL ok fs vs' := by
  cases vs with
  | nil => exact h.elim
  | cons v vs' => exact ⟨v, vs', rfl, h.1, h.2⟩
theorem okL_nil {ok : TypeId → AV → Prop} {vs : List AV} (h : OkL ok [] vs) : vs = [] := by
  cases vs with
  | nil => rfl
  | cons v vs' => exact h.elim
section
variable {tab : Tab}
theorem okBool {n : Nat} {t : TypeId} {i : TI} {v : AV} (hi : tab t = some i) (hd : i.d = .bool) (h : OkA tab (n + 1) t v) : ∃ x, v = .bool x := by
  unfold OkA at h
  rw [hi] at h
  simp only [hd] at h
  exact h
theorem okInt {n : Nat} {t : TypeId} {i : TI} {k : IntKind} {v : AV} (hi : tab t = some i) (hd : i.d = .int k) (h : OkA tab (n + 1) t v) : ∃ x, v = .int k x ∧ (Lit.int k x).wf = true := by
  unfold OkA at h
  rw [hi] at h
  simp only [hd] at h
  exact h
theorem okStr {n : Nat} {t : TypeId} {i : TI} {v : AV} (hi : tab t = some i) (hd : i.d = .str) (h : OkA tab (n + 1) t v) : ∃ s, v = .str s ∧ s.size ≤ maxLen := by
  unfold OkA at h
  rw [hi] at h
  simp only [hd] at h
  exact h
theorem okSlice {n : Nat} {t e : TypeId} {i ie : TI} {v : AV} (hi : tab t = some i) (hd : i.d = .slice e) (he : tab e = some ie) (h : OkA tab (n + 1) t v) : ∃ xs, v = .slice xs false ∧ (∀ x ∈ xs, OkA tab n e x) ∧ xs.length * ie.bytes ≤ reachBytes ∧ xs.length ≤ maxLen := by
  unfold OkA at h
  rw [hi] at h
  simp only [hd] at h
  obtain ⟨xs, h1, h2, h3, h4⟩ := h
  exact ⟨xs, h1, h2, h3 ie he, h4⟩
theorem okStruct {n : Nat} {t : TypeId} {i : TI} {fs : List (TypeId × Nat)} {v : AV} (hi : tab t = some i) (hd : i.d = .struct fs) (h : OkA tab (n + 1) t v) : ∃ vs : List AV, v = .agg (vs.flatMap AV.cells) ∧ OkL (OkA tab n) fs vs := by
  unfold OkA at h
  rw [hi] at h
  simp only [hd] at h
  exact h
theorem okArr {n m : Nat} {t e : TypeId} {i : TI} {v : AV} (hi : tab t = some i) (hd : i.d = .arr m e) (h : OkA tab (n + 1) t v) : ∃ vs : List AV, vs.length = m ∧ v = .agg (vs.flatMap AV.cells) ∧ ∀ x ∈ vs, OkA tab n e x := by
  unfold OkA at h
  rw [hi] at h
  simp only [hd] at h
  exact h
/-- A slice whose elements are told by f. -/
theorem okRow {α : Type} {f : α → AV} {p : α → Prop} {n : Nat} {t e : TypeId} {i ie : TI} {v : AV} (hi : tab t = some i) (hd : i.d = .slice e) (he : tab e = some ie) (hb : 0 < ie.bytes) (hf : ∀ x, OkA tab n e x → ∃ a, x = f a ∧ p a) (h : OkA tab (n + 1) t v) :
    ∃ l : List α, v = .slice (l.map f) false ∧ (∀ a ∈ l, p a) ∧ l.length ≤ 140737488351232 := by
  obtain ⟨xs, rfl, h1, h2, h3⟩ := okSlice hi hd he h
  obtain ⟨l, rfl, hl⟩ := list_of (f := f) (p := p) (fun x hx => hf x (h1 x hx))
  refine ⟨l, rfl, hl, ?_⟩
  have e : reachBytes = 140737488351232 := rfl
  rw [e, List.length_map] at h2
  exact Nat.le_trans (Nat.le_mul_of_pos_right _ hb) h2
end
theorem okArgs1 {T : Tab} {m : Nat} {a : TypeId} {av : List AV} (h : OkArgs T m [a] av) : ∃ x, av = [x] ∧ OkA T m a x := by
  match av, h with
  | [x], h => exact ⟨x, rfl, h.1⟩
theorem okArgs2 {T : Tab} {m : Nat} {a b : TypeId} {av : List AV} (h : OkArgs T m [a, b] av) : ∃ x y, av = [x, y] ∧ OkA T m a x ∧ OkA T m b y := by
  match av, h with
  | [x, y], h => exact ⟨x, y, rfl, h.1, h.2.1⟩
theorem okArgs3 {T : Tab} {m : Nat} {a b c : TypeId} {av : List AV} (h : OkArgs T m [a, b, c] av) : ∃ x y z, av = [x, y, z] ∧ OkA T m a x ∧ OkA T m b y ∧ OkA T m c z := by
  match av, h with
  | [x, y, z], h => exact ⟨x, y, z, rfl, h.1, h.2.1, h.2.2.1⟩
theorem okArgs4 {T : Tab} {m : Nat} {a b c d : TypeId} {av : List AV} (h : OkArgs T m [a, b, c, d] av) : ∃ x y z u, av = [x, y, z, u] ∧ OkA T m a x ∧ OkA T m b y ∧ OkA T m c z ∧ OkA T m d u := by
  match av, h with
  | [x, y, z, u], h => exact ⟨x, y, z, u, rfl, h.1, h.2.1, h.2.2.1, h.2.2.2.1⟩
/-- Bounds of whole numbers. -/
theorem wfI {k : IntKind} {x : Int} (h : (Lit.int k x).wf = true) : k.min ≤ x ∧ x ≤ k.max := by
  simp [Lit.wf] at h
  exact h
theorem wfU8 {x : Int} (h : (Lit.int .u8 x).wf = true) : 0 ≤ x ∧ x ≤ 255 := by have := wfI h; simp [IntKind.min, IntKind.max, IntKind.signed, IntKind.bits] at this; exact this
theorem wfU16 {x : Int} (h : (Lit.int .u16 x).wf = true) : 0 ≤ x ∧ x ≤ 65535 := by have := wfI h; simp [IntKind.min, IntKind.max, IntKind.signed, IntKind.bits] at this; exact this
theorem wfI8 {x : Int} (h : (Lit.int .i8 x).wf = true) : -128 ≤ x ∧ x ≤ 127 := by have := wfI h; simp [IntKind.min, IntKind.max, IntKind.signed, IntKind.bits] at this; exact this
theorem wfI32 {x : Int} (h : (Lit.int .i32 x).wf = true) : -2147483648 ≤ x ∧ x ≤ 2147483647 := by have := wfI h; simp [IntKind.min, IntKind.max, IntKind.signed, IntKind.bits] at this; exact this
theorem wfI64 {x : Int} (h : (Lit.int .i64 x).wf = true) : -9223372036854775808 ≤ x ∧ x ≤ 9223372036854775807 := by have := wfI h; simp [IntKind.min, IntKind.max, IntKind.signed, IntKind.bits] at this; exact this
end Go.Arm

namespace Go.Proofs.YtgabeieooemfeaaGreatDoor.Arm
open Go.Arm Go.Pl

theorem okIv {n : Nat} {v : AV} (h : OkA tab (n + 2) 59 v) : ∃ p : I, v = iv p ∧ True := by
  obtain ⟨vs, rfl, hv⟩ := okStruct tab59 rfl h
  obtain ⟨a, vs, rfl, ha, hv⟩ := okL_cons hv
  obtain ⟨b, vs, rfl, hb, hv⟩ := okL_cons hv
  cases okL_nil hv
  obtain ⟨x, rfl, hx⟩ := okInt tab2 rfl ha
  obtain ⟨y, rfl, hy⟩ := okInt tab2 rfl hb
  exact ⟨(x, y), rfl, trivial⟩
theorem okNd {n : Nat} {v : AV} (h : OkA tab (n + 3) 91 v) : ∃ p : Nd, v = nd p ∧ True := by
  obtain ⟨vs, rfl, hv⟩ := okStruct tab91 rfl h
  obtain ⟨a, vs, rfl, ha, hv⟩ := okL_cons hv
  obtain ⟨b, vs, rfl, hb, hv⟩ := okL_cons hv
  obtain ⟨c, vs, rfl, hc, hv⟩ := okL_cons hv
  cases okL_nil hv
  obtain ⟨x, rfl, hx⟩ := okInt tab3 rfl ha
  obtain ⟨y, rfl, hy⟩ := okInt tab3 rfl hb
  obtain ⟨p, rfl, -⟩ := okIv hc
  exact ⟨⟨x, y, p⟩, rfl, trivial⟩
theorem okXs {n : Nat} {v : AV} (h : OkA tab (n + 4) 66 v) : ∃ l : List Nd, v = xs l ∧ l.length ≤ 140737488351232 := by
  obtain ⟨l, rfl, _, hl⟩ := okRow (f := nd) tab66 rfl tab91 (by decide) (fun x hx => okNd hx) h
  exact ⟨l, rfl, hl⟩
theorem okBx {n : Nat} {v : AV} (h : OkA tab (n + 3) 25 v) : ∃ l : List I, v = bx l ∧ l.length ≤ 140737488351232 := by
  obtain ⟨l, rfl, _, hl⟩ := okRow (f := iv) tab25 rfl tab59 (by decide) (fun x hx => okIv hx) h
  exact ⟨l, rfl, hl⟩
theorem okXss {n : Nat} {v : AV} (h : OkA tab (n + 5) 24 v) : ∃ l : List (List Nd), v = .slice (l.map xs) false ∧ (∀ r ∈ l, r.length ≤ 140737488351232) ∧ l.length ≤ 140737488351232 := by
  obtain ⟨l, rfl, hr, hl⟩ := okRow (f := xs) tab24 rfl tab66 (by decide) (fun x hx => okXs hx) h
  exact ⟨l, rfl, hr, hl⟩
theorem okCt {n : Nat} {v : AV} (h : OkA tab (n + 2) 23 v) : ∃ c : Ct, v = ctA c ∧ True := by
  obtain ⟨vs, rfl, hv⟩ := okStruct tab23 rfl h
  obtain ⟨a, vs, rfl, ha, hv⟩ := okL_cons hv
  obtain ⟨b, vs, rfl, hb, hv⟩ := okL_cons hv
  obtain ⟨c, vs, rfl, hc, hv⟩ := okL_cons hv
  obtain ⟨d, vs, rfl, hd, hv⟩ := okL_cons hv
  obtain ⟨e, vs, rfl, he, hv⟩ := okL_cons hv
  cases okL_nil hv
  obtain ⟨x1, rfl, -⟩ := okInt tab3 rfl ha
  obtain ⟨x2, rfl, -⟩ := okInt tab2 rfl hb
  obtain ⟨x3, rfl, -⟩ := okInt tab2 rfl hc
  obtain ⟨x4, rfl, -⟩ := okInt tab2 rfl hd
  obtain ⟨x5, rfl, -⟩ := okInt tab2 rfl he
  exact ⟨⟨x1, x2, x3, x4, x5⟩, rfl, trivial⟩
theorem okRq {n : Nat} {v : AV} (h : OkA tab (n + 3) 27 v) : ∃ c : Rq, v = rqA c ∧ True := by
  obtain ⟨vs, rfl, hv⟩ := okStruct tab27 rfl h
  obtain ⟨a, vs, rfl, ha, hv⟩ := okL_cons hv
  obtain ⟨b, vs, rfl, hb, hv⟩ := okL_cons hv
  obtain ⟨c, vs, rfl, hc, hv⟩ := okL_cons hv
  obtain ⟨d, vs, rfl, hd, hv⟩ := okL_cons hv
  cases okL_nil hv
  obtain ⟨x1, rfl, -⟩ := okCt ha
  obtain ⟨x3, rfl, -⟩ := okInt tab2 rfl hb
  obtain ⟨x4, rfl, -⟩ := okInt tab2 rfl hc
  obtain ⟨x5, rfl, -⟩ := okInt tab2 rfl hd
  exact ⟨⟨x1, x3, x4, x5⟩, rfl, trivial⟩
theorem okPq {n : Nat} {v : AV} (h : OkA tab (n + 7) 29 v) : ∃ q, v = pqA q ∧ PqOk q := by
  obtain ⟨vs, rfl, hv⟩ := okStruct tab29 rfl h
  obtain ⟨a, vs, rfl, ha, hv⟩ := okL_cons hv
  obtain ⟨b, vs, rfl, hb, hv⟩ := okL_cons hv
  obtain ⟨c, vs, rfl, hc, hv⟩ := okL_cons hv
  obtain ⟨d, vs, rfl, hd, hv⟩ := okL_cons hv
  cases okL_nil hv
  obtain ⟨F, rfl, h1, h2⟩ := okXss ha
  obtain ⟨x, rfl, h4⟩ := okBx hb
  obtain ⟨w, rfl, -⟩ := okRq hc
  obtain ⟨k, rfl, hk⟩ := okInt tab5 rfl hd
  exact ⟨⟨F, x, w, k⟩, rfl, ⟨fun r hr => by have := h1 r hr; omega, by show F.length ≤ _; omega, by show x.length ≤ _; omega, wfU8 hk⟩⟩
end Go.Proofs.YtgabeieooemfeaaGreatDoor.Arm

namespace Go.Proofs.YtgabeieooemfeaaGreatDoor.Arm
open Go.Arm Go.Pl Go.ChangeShapes Go.WideShapes Go.ChangeAt Go.RowKit

theorem own : ownKnob Tryz.prog.godebug = none := by kernel_rfl
theorem laidOut : laidOutB Tryz.prog = true := by kernel_rfl
def laidL : List (String × DataW Unit) := [("armillary/interval.products", Rows.laid_armillary_interval_products), ("armillary/interval.quotients", Rows.laid_armillary_interval_quotients), ("armillary/tape.ops", Rows.laid_armillary_tape_ops)]
/-- The door's own heap meets the condition. -/
theorem door_met (os : Os) (args : Array Value) : laidMetH Tryz.prog laidL ((World.doorLaid Tryz.prog 600 os).forCall (fun _ _ => 0) ⟨#[], args, []⟩).memory :=
  laidMetH_of_parts3 (fuel := 12) (laidMet_of_run' 8 (by kernel_rfl) (by kernel_rfl)) (by kernel_rfl) (by kernel_rfl)
def fnames : List (List UInt8 × FuncId) := [([97, 114, 109, 105, 108, 108, 97, 114, 121, 47, 105, 110, 116, 101, 114, 118, 97, 108, 46, 104, 104], 181), ([97, 114, 109, 105, 108, 108, 97, 114, 121, 47, 105, 110, 116, 101, 114, 118, 97, 108, 46, 108, 108], 182), ([97, 114, 109, 105, 108, 108, 97, 114, 121, 47, 105, 110, 116, 101, 114, 118, 97, 108, 46, 108, 104], 183), ([97, 114, 109, 105, 108, 108, 97, 114, 121, 47, 105, 110, 116, 101, 114, 118, 97, 108, 46, 104, 108], 184), ([97, 114, 109, 105, 108, 108, 97, 114, 121, 47, 105, 110, 116, 101, 114, 118, 97, 108, 46, 78, 101, 103], 137), ([97, 114, 109, 105, 108, 108, 97, 114, 121, 47, 105, 110, 116, 101, 114, 118, 97, 108, 46, 83, 113, 117, 97, 114, 101], 139), ([97, 114, 109, 105, 108, 108, 97, 114, 121, 47, 116, 97, 112, 101, 46, 114, 111, 111, 116], 185), ([97, 114, 109, 105, 108, 108, 97, 114, 121, 47, 105, 110, 116, 101, 114, 118, 97, 108, 46, 65, 100, 100], 127), ([97, 114, 109, 105, 108, 108, 97, 114, 121, 47, 105, 110, 116, 101, 114, 118, 97, 108, 46, 83, 117, 98], 138), ([97, 114, 109, 105, 108, 108, 97, 114, 121, 47, 105, 110, 116, 101, 114, 118, 97, 108, 46, 77, 117, 108], 126), ([97, 114, 109, 105, 108, 108, 97, 114, 121, 47, 105, 110, 116, 101, 114, 118, 97, 108, 46, 68, 105, 118], 150)]
theorem fnames_ok : ∀ p ∈ fnames, ((List.range Tryz.prog.funcs.size).filter fun f => (Tryz.prog.funcs[f]?).any (·.name.toUTF8.data.toList == p.1)) = [p.2] := by
  intro p hp
  simp only [fnames, List.mem_cons, List.not_mem_nil, or_false] at hp
  rcases hp with rfl | rfl | rfl | rfl | rfl | rfl | rfl | rfl | rfl | rfl | rfl <;> kernel_rfl
theorem fnames_ne : ∀ p ∈ fnames, p.1 ≠ [] := by
  intro p hp
  simp only [fnames, List.mem_cons, List.not_mem_nil, or_false] at hp
  rcases hp with rfl | rfl | rfl | rfl | rfl | rfl | rfl | rfl | rfl | rfl | rfl <;> exact List.cons_ne_nil _ _
theorem gProd : Tryz.prog.globalNamed "armillary/interval.products" = some 0 := by kernel_rfl
theorem gQuot : Tryz.prog.globalNamed "armillary/interval.quotients" = some 2 := by kernel_rfl
theorem gOps : Tryz.prog.globalNamed "armillary/tape.ops" = some 1 := by kernel_rfl
theorem glob_met {W : World} (h : laidMetH Tryz.prog laidL W) : ∀ g cs, E.Γ g = some cs → VR [] W (.eptr cs 0) (.pointer (some ⟨g, 0, none⟩)) := by
  intro g cs hg
  have hg' : glob g = some cs := hg
  unfold glob at hg'
  split at hg'
  · cases hg'
    exact glob_of (P := Tryz.prog) (T := tab) (L := fnames) tab_ok h (name := "armillary/interval.products") (List.mem_cons_self ..) gProd (t := 159) (by kernel_rfl) (m := 8) (by kernel_rfl) fnames_ok fnames_ne (by kernel_rfl) (by decide)
  · cases hg'
    exact glob_of (P := Tryz.prog) (T := tab) (L := fnames) tab_ok h (name := "armillary/interval.quotients") (List.mem_cons_of_mem _ (List.mem_cons_self ..)) gQuot (t := 170) (by kernel_rfl) (m := 8) (by kernel_rfl) fnames_ok fnames_ne (by kernel_rfl) (by decide)
  · cases hg'
    exact glob_of (P := Tryz.prog) (T := tab) (L := fnames) tab_ok h (name := "armillary/tape.ops") (List.mem_cons_of_mem _ (List.mem_cons_of_mem _ (List.mem_cons_self ..))) gOps (t := 163) (by kernel_rfl) (m := 8) (by kernel_rfl) fnames_ok fnames_ne (by kernel_rfl) (by decide)
  · cases hg'
end Go.Proofs.YtgabeieooemfeaaGreatDoor.Arm

namespace Go.Proofs.YtgabeieooemfeaaGreatDoor.Arm
open Go.Arm Go.Pl

theorem advS_ok {T : Tp} {x : List I} {w : Rq} {s : Sg} (hT : tpOk T) (hx : allV x) (hxn : x.length = T.n) (hw : rqOk w) (h : advS T x w = some s) :
    s.h ∈ cands w.ctrl (firstH w) ∧ 1 ≤ s.h ∧ s.h ≤ firstH w ∧ accS T x w.ctrl w.t s.h = some s ∧ SgOk T x w.t s.h s := by
  unfold advS at h
  obtain ⟨g, hg, hs⟩ := List.exists_of_findSome?_eq_some h
  have hb := cands_bound (c := w.ctrl) hw.least _ (by have := hw.last; have := hw.h; unfold firstH; omega) (Nat.le_refl _) g hg
  have hf : firstH w ≤ 1000000000 := by have := hw.h; unfold firstH; omega
  have hok := accS_ok hT hx hxn (by omega) hw.t hs
  have := hok.hh
  subst this
  exact ⟨hg, hb.1, hb.2, hs, hok⟩
theorem advS_len {T : Tp} {x : List I} {w : Rq} (hT : tpOk T) (hx : allV x) (hxn : x.length = T.n) (hw : rqOk w) : ∀ s, advS T x w = some s → s.frm.length ≤ 1000000 ∧ s.pre.length ≤ 1000000 ∧ s.tube.length ≤ 1000000 ∧ s.to.length ≤ 1000000 := fun s h => by
  obtain ⟨_, _, _, _, k⟩ := advS_ok hT hx hxn hw h
  have := hT.small
  exact ⟨by rw [k.hx, hxn]; omega, by rw [k.npre]; omega, by rw [k.ntube]; omega, by rw [k.nto]; omega⟩
def erO : Option Sg → Int
  | some _ => 0
  | none => 130
theorem advO_eq (w : Rq) (o : Option Sg) : advO w o = .tuple [segC o, .int .i64 (nxC w o), .int .i64 (erO o)] := by cases o <;> rfl
set_option maxHeartbeats 2000000 in
theorem lAdv (q : Pq) (hq : PqOk q) (H : AH) : Sound E 4 [pqA q] H (.ret (.bool true)) H := by
  refine sound_of_awp tabOk mixed Tryz.func4 rfl (by rfl) Tryz.ntmps4 (by kernel_rfl) (by simp) ?_
  have hP := lProblem q hq
  obtain ⟨hT, hTn⟩ := pqT_ok hq
  obtain ⟨hX, hXn⟩ := pqX_ok hq
  have hN := (pqN_ok hq).2.1
  have hw := reqS_rq q.w
  have hA := cAdvance (pqT q) (pqX q) (reqS q.w) hT hX hXn (by omega) hw
  have hR := r13Advance (pqT q) (pqX q) (reqS q.w) hT hX hXn (by omega) hw
  have hS := r12Same (advS (pqT q) (pqX q) (reqS q.w)) (advS_len hT hX hXn hw)
  rw [advO_eq] at hA hR
  generalize pqT q = T at *
  generalize pqX q = X at *
  generalize reqS q.w = R at *
  generalize advS T X R = o at *
  generalize nxC R o = nx at *
  generalize erO o = er at *
  simp [pqA]
  refine call_ret (lSanity _) ?_
  simp
  refine call_ret (by simpa [pqA] using hP _) ?_
  simp [tpA, rqA, outA, bx]
  refine call_ret (by simpa [tpA, rqA, outA, bx] using hA _) ?_
  cases o with
  | none =>
    simp [segC, zsA]
    refine call_ret (by simpa [tpA, rqA, outA, bx, segC, zsA] using hR _) ?_
    simp
    refine call_ret (by simpa [segC, zsA] using hS _) ?_
    simp
    exact fin1 (rs := [.tmp 2]) (by rfl) (by simp [resA]) (by simp [noFs, noF])
  | some s =>
    simp [segC, sgA, bx]
    refine call_ret (by simpa [tpA, rqA, outA, bx, segC, sgA] using hR _) ?_
    simp
    refine call_ret (by simpa [segC, sgA, bx] using hS _) ?_
    simp
    exact fin1 (rs := [.tmp 2]) (by rfl) (by simp [resA]) (by simp [noFs, noF])
end Go.Proofs.YtgabeieooemfeaaGreatDoor.Arm

namespace Go.Proofs.YtgabeieooemfeaaGreatDoor.Arm
open Go.Arm Go.Pl

/-- A request for the size that a request has got hands out the same segment. -/
theorem advS_again {T : Tp} {x : List I} {w : Rq} {s : Sg} (hT : tpOk T) (hx : allV x) (hxn : x.length = T.n) (hw : rqOk w) (h : advS T x w = some s) :
    firstH { w with h := s.h } = s.h ∧ advS T x { w with h := s.h } = some s ∧ rqOk { w with h := s.h } := by
  obtain ⟨h1, h2, h3, h4, h5⟩ := advS_ok hT hx hxn hw h
  have hf : firstH w = min w.h (w.last - w.t) := rfl
  have hh := hw.h
  have e : firstH { w with h := s.h } = s.h := by unfold firstH; simp only; omega
  refine ⟨e, ?_, ⟨hw.order, hw.least, hw.t, hw.last, by simp only; omega⟩⟩
  unfold advS
  rw [e]
  simp only
  rw [cands_cons hw.least h2]
  simp [h4]
set_option maxHeartbeats 2000000 in
theorem lRep (q : Pq) (hq : PqOk q) (H : AH) : Sound E 8 [pqA q] H (.ret (.bool true)) H := by
  refine sound_of_awp tabOk mixed Tryz.func8 rfl (by rfl) Tryz.ntmps8 (by kernel_rfl) (by simp) ?_
  have hP := lProblem q hq
  obtain ⟨hT, hTn⟩ := pqT_ok hq
  obtain ⟨hX, hXn⟩ := pqX_ok hq
  have hN := (pqN_ok hq).2.1
  have hw := reqS_rq q.w
  have hA := cAdvance (pqT q) (pqX q) (reqS q.w) hT hX hXn (by omega) hw
  have hL := advS_len hT hX hXn hw
  have hok := fun s => advS_ok (s := s) hT hX hXn hw
  have hag := fun s => advS_again (s := s) hT hX hXn hw
  have hB := fun s (h : advS (pqT q) (pqX q) (reqS q.w) = some s) => cAdvance (pqT q) (pqX q) { (reqS q.w) with h := s.h } hT hX hXn (by omega) (hag s h).2.2
  rw [advO_eq] at hA
  generalize pqT q = T at *
  generalize pqX q = X at *
  generalize reqS q.w = R at *
  cases hc : advS T X R with
  | none =>
    rw [hc] at hA
    simp [pqA]
    refine call_ret (lSanity _) ?_
    simp
    refine call_ret (by simpa [pqA] using hP _) ?_
    simp [tpA, rqA, outA, bx]
    refine call_ret (by simpa [tpA, rqA, outA, bx] using hA _) ?_
    simp [segC, zsA, erO]
    exact fin1 (rs := [.tmp 2]) (by rfl) (by simp [resA]) (by simp [noFs, noF])
  | some s =>
    obtain ⟨k1, k2, k3, k4, k5⟩ := hok s hc
    obtain ⟨g1, g2, g3⟩ := hag s hc
    have hS := r12Same (some s) (fun s' h' => by cases h'; exact hL s hc)
    have hC := hB s hc
    have hn : nxC { R with h := s.h } (some s) = if R.ctrl.most < 2 * s.h then R.ctrl.most else 2 * s.h := by
      simp only [nxC, g1, if_true, growS]
      split <;> omega
    rw [hc] at hA
    rw [g2, advO_eq, hn] at hC
    generalize nxC R (some s) = nx at *
    have hh := hw.h
    have hf : firstH R ≤ R.h := by unfold firstH; omega
    have w2 : IntKind.i64.wrap (2 * s.h) = 2 * s.h := wrap64 (by omega) (by omega)
    simp [pqA]
    refine call_ret (lSanity _) ?_
    simp
    refine call_ret (by simpa [pqA] using hP _) ?_
    simp [tpA, rqA, outA, bx]
    refine call_ret (by simpa [tpA, rqA, outA, bx] using hA _) ?_
    simp [segC, sgA, bx, erO]
    refine call_ret (by simpa [tpA, rqA, outA, bx, segC, sgA, erO] using hC _) ?_
    simp
    refine call_ret (by simpa [segC, sgA, bx] using hS _) ?_
    simp [w2]
    exact fin1 (rs := [.tmp 2]) (by rfl) (by simp [resA]) (by simp [noFs, noF])
end Go.Proofs.YtgabeieooemfeaaGreatDoor.Arm

namespace Go.Proofs.YtgabeieooemfeaaGreatDoor.Arm
open Go.Arm Go.Pl

theorem narrow_mono {a b : Int} (h : a ≤ b) {l : List I} (hn : narrowB a l = true) : narrowB b l = true := by
  unfold narrowB at *
  rw [List.all_eq_true] at *
  intro p hp
  have := hn p hp
  simp only [decide_eq_true_eq] at *
  omega
/-- What a controller with harder demands takes, one with lighter ones takes too. -/
theorem cands_strict {T : Tp} {x : List I} {t : Int} {c d : Ct} (hc : 1 ≤ c.least) (hd : c.least ≤ d.least) (ho : d.order = c.order) (hw : d.wide ≤ c.wide) : ∀ (k : Nat) {h : Int} {s : Sg}, 1 ≤ h → h.toNat ≤ k →
    (cands d h).findSome? (accS T x d t) = some s → ∃ s', (cands c h).findSome? (accS T x c t) = some s' ∧ s.h ≤ s'.h
  | 0, h, s, h1, hk, hs => by omega
  | k + 1, h, s, h1, hk, hs => by
    rw [cands_cons (by omega) h1] at hs ⊢
    have acc : ∀ s, accS T x d t h = some s → accS T x c t h = some s := fun s h' => by
      unfold accS at h' ⊢
      rw [ho] at h'
      cases hr : istepS T x t h c.order.toNat with
      | none => rw [hr] at h'; cases h'
      | some s1 =>
        rw [hr] at h'
        simp only at h' ⊢
        split at h'
        · rename_i hn
          rw [Bool.and_eq_true] at hn
          rw [if_pos (by rw [narrow_mono hw hn.1, narrow_mono hw hn.2]; rfl)]
          exact h'
        · cases h'
    have hh : ∀ {c : Ct} {g : Int} {s : Sg}, accS T x c t g = some s → s.h = g := fun h' => by
      unfold accS at h'
      split at h'
      · rename_i s1 hr
        split at h'
        · cases h'
          unfold istepS at hr
          split at hr
          · cases hr
          · split at hr
            · cases hr; rfl
            · cases hr
        · cases h'
      · cases h'
    simp only [List.findSome?_cons] at hs ⊢
    cases ha : accS T x d t h with
    | some s1 =>
      rw [ha] at hs
      cases hs
      rw [acc _ ha]
      exact ⟨_, rfl, Int.le_refl _⟩
    | none =>
      rw [ha] at hs
      simp only at hs
      split at hs
      · cases hs
      · rename_i hq
        have h2 := tdiv2 (h := h) (by omega)
        have hs' := hs
        obtain ⟨g, hg, hgs⟩ := List.exists_of_findSome?_eq_some hs'
        have hb := cands_bound (c := d) (by omega) _ (by omega) (Nat.le_refl _) g hg
        have hgh := hh hgs
        cases hb2 : accS T x c t h with
        | some s2 => exact ⟨s2, rfl, by rw [hh hb2]; omega⟩
        | none =>
          simp only
          rw [if_neg (by omega)]
          exact cands_strict hc hd ho hw k (by omega) (by omega) hs
end Go.Proofs.YtgabeieooemfeaaGreatDoor.Arm

namespace Go.Proofs.YtgabeieooemfeaaGreatDoor.Arm
open Go.Arm Go.Pl

def hardC (c : Ct) (x y : Int) : Ct := ⟨c.order, c.first, min c.first (c.least + y), c.most, max 1 (c.wide - x)⟩
set_option maxHeartbeats 4000000 in
theorem lMono (q : Pq) (hq : PqOk q) (x y : Int) (hx : 0 ≤ x ∧ x ≤ 65535) (hy : 0 ≤ y ∧ y ≤ 65535) (H : AH) : Sound E 7 [pqA q, .int .u16 x, .int .u16 y] H (.ret (.bool true)) H := by
  refine sound_of_awp tabOk mixed Tryz.func7 rfl (by rfl) Tryz.ntmps7 (by kernel_rfl) (by simp) ?_
  have hP := lProblem q hq
  obtain ⟨hT, hTn⟩ := pqT_ok hq
  obtain ⟨hX, hXn⟩ := pqX_ok hq
  have hN := (pqN_ok hq).2.1
  have hw := reqS_rq q.w
  have hv := (madeC_ok q.w.ctrl).1
  have hv2 := of_decide_eq_true hv
  have hce : madeC q.w.ctrl = (reqS q.w).ctrl := rfl
  rw [hce] at hv2
  have hw2 : rqOk { (reqS q.w) with ctrl := hardC (reqS q.w).ctrl x y } := ⟨hw.order, by show 1 ≤ min _ _; omega, hw.t, hw.last, hw.h⟩
  have hA := cAdvance (pqT q) (pqX q) (reqS q.w) hT hX hXn (by omega) hw
  have hB := cAdvance (pqT q) (pqX q) { (reqS q.w) with ctrl := hardC (reqS q.w).ctrl x y } hT hX hXn (by omega) hw2
  have key : ∀ s, advS (pqT q) (pqX q) { (reqS q.w) with ctrl := hardC (reqS q.w).ctrl x y } = some s → ∃ s', advS (pqT q) (pqX q) (reqS q.w) = some s' ∧ s.h ≤ s'.h := fun s hs =>
    cands_strict (c := (reqS q.w).ctrl) (d := hardC (reqS q.w).ctrl x y) hw.least (by show _ ≤ min _ _; omega) rfl (by show max _ _ ≤ _; omega) _ (by have := hw.last; have := hw.h; unfold firstH; omega) (Nat.le_refl _) hs
  rw [advO_eq] at hA hB
  generalize pqT q = T at *
  generalize pqX q = X at *
  generalize reqS q.w = R at *
  have wx : IntKind.i64.wrap x = x := wrap64 (by omega) (by omega)
  have wy : IntKind.i64.wrap y = y := wrap64 (by omega) (by omega)
  have w1 : IntKind.i64.wrap (R.ctrl.wide - x) = R.ctrl.wide - x := wrap64 (by omega) (by omega)
  have w2 : IntKind.i64.wrap (R.ctrl.least + y) = R.ctrl.least + y := wrap64 (by omega) (by omega)
  have m1 : (if 1 < R.ctrl.wide - x then R.ctrl.wide - x else 1) = max 1 (R.ctrl.wide - x) := by split <;> omega
  have m2 : (if R.ctrl.least + y < R.ctrl.first then R.ctrl.least + y else R.ctrl.first) = min R.ctrl.first (R.ctrl.least + y) := by split <;> omega
  generalize hD : { R with ctrl := hardC R.ctrl x y } = D at *
  have e : rqA D = .agg [.int .i64 R.ctrl.order, .int .i64 R.ctrl.first, .int .i64 (min R.ctrl.first (R.ctrl.least + y)), .int .i64 R.ctrl.most, .int .i64 (max 1 (R.ctrl.wide - x)), .int .i64 R.t, .int .i64 R.last, .int .i64 R.h] := by subst hD; rfl
  rw [e] at hB
  generalize nxC R _ = nx at hA
  generalize nxC D _ = nd at hB
  simp [pqA]
  refine call_ret (lSanity _) ?_
  simp
  refine call_ret (by simpa [pqA] using hP _) ?_
  simp [tpA, rqA, outA, bx, wx, wy, w1, w2, m1, m2]
  refine call_ret (by simpa [tpA, rqA, outA, bx] using hA _) ?_
  cases hc : advS T X D with
  | none =>
    rw [hc] at hB
    cases hc2 : advS T X R with
    | none =>
      simp [segC, zsA, erO]
      refine call_ret (by simpa [tpA, outA, bx, segC, zsA, erO] using hB _) ?_
      simp
      exact fin1 (rs := [.tmp 6]) (by rfl) (by simp [resA]) (by simp [noFs, noF])
    | some s =>
      simp [segC, sgA, bx, erO]
      refine call_ret (by simpa [tpA, outA, bx, segC, zsA, erO] using hB _) ?_
      simp
      exact fin1 (rs := [.tmp 6]) (by rfl) (by simp [resA]) (by simp [noFs, noF])
  | some s =>
    obtain ⟨s', hc2, hle⟩ := key s hc
    rw [hc] at hB
    rw [hc2]
    simp [segC, sgA, bx, erO]
    refine call_ret (by simpa [tpA, outA, bx, segC, sgA, erO] using hB _) ?_
    simp [hle]
    exact fin1 (rs := [.tmp 6]) (by rfl) (by simp [resA]) (by simp [noFs, noF])
end Go.Proofs.YtgabeieooemfeaaGreatDoor.Arm

namespace Go.Proofs.YtgabeieooemfeaaGreatDoor.Arm
open Go.Arm Go.Pl

set_option maxHeartbeats 4000000 in
theorem lMat (c : Ct) (x : Int) (q : Pq) (hq : PqOk q) (hx : -9223372036854775808 ≤ x ∧ x ≤ 9223372036854775807) (H : AH) : Sound E 3 [ctA c, .int .i64 x, pqA q] H (.ret (.bool true)) H := by
  refine sound_of_awp tabOk mixed Tryz.func3 rfl (by rfl) Tryz.ntmps3 (by kernel_rfl) (by simp) ?_
  have hP := lProblem q hq
  obtain ⟨hT, hTn⟩ := pqT_ok hq
  obtain ⟨hX, hXn⟩ := pqX_ok hq
  have hN := (pqN_ok hq).2.1
  have hw := reqS_rq q.w
  have hm := madeC_ok c
  have hm2 := of_decide_eq_true hm.1
  have b1 : -131072 < x.tmod 131072 ∧ x.tmod 131072 < 131072 := by
    obtain ⟨h3, h4⟩ := tmod_bounds x (b := 131072) (by decide)
    by_cases h : 0 ≤ x
    · have := h3 h; omega
    · have := h4 (by omega); omega
  have b2 : 0 ≤ (x.tmod 131072 + 131072).tmod 131072 ∧ (x.tmod 131072 + 131072).tmod 131072 < 131072 := ⟨Int.tmod_nonneg _ (by omega), Int.tmod_lt_of_pos _ (by decide)⟩
  have w0 : IntKind.i64.wrap (x.tmod 131072) = x.tmod 131072 := wrap64 (by omega) (by omega)
  have w1 : IntKind.i64.wrap (x.tmod 131072 + 131072) = x.tmod 131072 + 131072 := wrap64 (by omega) (by omega)
  have w2 : IntKind.i64.wrap ((x.tmod 131072 + 131072).tmod 131072) = (x.tmod 131072 + 131072).tmod 131072 := wrap64 (by omega) (by omega)
  have w3 : IntKind.i64.wrap (1 + (x.tmod 131072 + 131072).tmod 131072) = 1 + (x.tmod 131072 + 131072).tmod 131072 := wrap64 (by omega) (by omega)
  obtain ⟨g, hg, hg1⟩ : ∃ g, g = 1 + (x.tmod 131072 + 131072).tmod 131072 ∧ 1 ≤ g ∧ g ≤ 131072 := ⟨_, rfl, by omega, by omega⟩
  rw [← hg] at w3
  have hok : ∀ (o : Nat) (s : Sg), istepS (pqT q) (pqX q) (reqS q.w).t (min (reqS q.w).h 8192) o = some s → SgOk (pqT q) (pqX q) (reqS q.w).t (min (reqS q.w).h 8192) s := fun o s h => istepS_ok hT hX hXn (by have := hw.h; omega) hw.t h
  have hS := r12IntervalStep (pqT q) (pqX q) (reqS q.w).t (min (reqS q.w).h 8192) (madeC c).order.toNat hT hX hXn (by omega) (by have := hw.h; omega) hw.t (by omega)
  rw [show ((madeC c).order.toNat : Int) = (madeC c).order by omega] at hS
  have hsm := hT.small
  have m1 : (if 8192 < (reqS q.w).h then 8192 else (reqS q.w).h) = min (reqS q.w).h 8192 := by split <;> omega
  have hM := r13Made c
  have q1 := cShrink (madeC c) g (by omega)
  have q2 := r13Shrink (madeC c) g (by omega)
  have q3 := cGrow (madeC c) g (by omega)
  have q4 := r13Grow (madeC c) g (by omega)
  have q5 := cInitial (madeC c) g
  have q6 := r13Initial (madeC c) g
  have q7 := cAccept (madeC c)
  have q8 := r13Accept (madeC c)
  generalize pqT q = T at *
  generalize pqX q = X at *
  generalize reqS q.w = R at *
  generalize madeC c = D at *
  generalize growS D g = d1 at *
  generalize initS D g = d2 at *
  generalize shrinkS D g = d3 at *
  generalize hi : istepS T X R.t (min R.h 8192) D.order.toNat = o at *
  simp [pqA, ctA, w0, w1, w2, w3]
  refine call_ret (lSanity _) ?_
  simp
  refine callD_ret0 (fun Hx => by simpa [ctA] using cValid c Hx) ?_
  simp
  refine callD_ret0 (fun Hx => by simpa [ctA] using r13Valid c Hx) ?_
  simp
  refine endD [] (by rfl) (by simp [okW, note, Eff.triv, Eff.wr, Eff.none, upTo, newAt]) ?_
  simp [w0, w1, w2, w3, ← hg]
  refine call_ret (by simpa [ctA] using hM _) ?_
  simp [ctA, w0, w1, w2, ← hg, w3]
  refine call_ret (by simpa [ctA] using q1 _) ?_
  simp [shA]
  refine call_ret (by simpa [ctA, shA] using q2 _) ?_
  simp
  refine call_ret (by simpa [pqA] using hP _) ?_
  simp [tpA, rqA, outA, bx, m1]
  refine call_ret (by simpa [tpA, outA, bx] using hS _) ?_
  cases o with
  | none =>
    simp [sgO, zsA]
    refine callD_ret0 (fun Hx => by simpa [ctA] using q3 Hx) ?_
    simp
    refine callD_ret0 (fun Hx => by simpa [ctA] using q4 Hx) ?_
    simp
    refine callD_ret0 (fun Hx => by simpa [ctA] using q5 Hx) ?_
    simp
    refine callD_ret0 (fun Hx => by simpa [ctA] using q6 Hx) ?_
    simp
    refine endD [] (by rfl) (by simp [okW, note, Eff.triv, Eff.wr, Eff.none, upTo, newAt]) ?_
    simp
    exact fin1 (rs := [.tmp 6]) (by rfl) (by simp [resA]) (by simp [noFs, noF])
  | some s =>
    have k := hok _ s hi
    have a1 := q7 s k.vto k.vtube (by rw [k.nto]; omega) (by rw [k.ntube]; omega)
    have a2 := q8 s k.vto k.vtube (by rw [k.nto]; omega) (by rw [k.ntube]; omega)
    generalize (narrowB D.wide s.to && narrowB D.wide s.tube) = b at *
    simp [sgO, sgA, bx]
    refine callD_ret0 (fun Hx => by simpa [ctA] using q3 Hx) ?_
    simp
    refine callD_ret0 (fun Hx => by simpa [ctA] using q4 Hx) ?_
    simp
    refine callD_ret0 (fun Hx => by simpa [ctA] using q5 Hx) ?_
    simp
    refine callD_ret0 (fun Hx => by simpa [ctA] using q6 Hx) ?_
    simp
    refine callD_ret0 (fun Hx => by simpa [ctA, sgA, bx] using a1 Hx) ?_
    simp
    refine callD_ret0 (fun Hx => by simpa [ctA, sgA, bx] using a2 Hx) ?_
    simp
    refine endD [] (by rfl) (by simp [okW, note, Eff.triv, Eff.wr, Eff.none, upTo, newAt]) ?_
    simp
    exact fin1 (rs := [.tmp 6]) (by rfl) (by simp [resA]) (by simp [noFs, noF])
end Go.Proofs.YtgabeieooemfeaaGreatDoor.Arm

namespace Go.Proofs.YtgabeieooemfeaaGreatDoor.Arm
open Go.Arm Go.Pl

def gLeft (T : Tp) (x : List I) (w : Rq) (h : Int) : Option Sg := if h = firstH w ∨ w.ctrl.least ≤ h then (cands w.ctrl h).findSome? (accS T x w.ctrl w.t) else none
def LGo (q : Pq) (T : Tp) (x : List I) (w : Rq) (o : Option Sg) (H : AH) (h : Int) (fr : AFr) (H' : AH) : Prop :=
  fr 3 = .bool true ∧ fr 4 = .ptr (H.length + 1) 1 0 0 ∧ fr 5 = bx x ∧ fr 6 = .ptr (H.length + 2) 1 0 0 ∧ fr 7 = .ptr (H.length + 3) 1 0 0 ∧ fr 9 = .int .i64 (erO o) ∧ fr 10 = .int .i64 (firstH w) ∧ fr 11 = .int .i64 h ∧
  0 ≤ h ∧ h ≤ firstH w ∧ gLeft T x w h = o ∧ ∃ J, H' = H ++ (.row true 11 [pqA q] :: .row true 3 [tpA T] :: .row true 8 [rqA w] :: .row true 6 [segC o] :: J)
set_option maxHeartbeats 4000000 in
theorem lGre (q : Pq) (hq : PqOk q) (H : AH) : Sound E 6 [pqA q] H (.ret (.bool true)) H := by
  refine sound_of_awp tabOk mixed Tryz.func6 rfl (by rfl) Tryz.ntmps6 (by kernel_rfl) (by simp) ?_
  have hP := lProblem q hq
  obtain ⟨hT, hTn⟩ := pqT_ok hq
  obtain ⟨hX, hXn⟩ := pqX_ok hq
  have hN := (pqN_ok hq).2.1
  have hw := reqS_rq q.w
  have hA := cAdvance (pqT q) (pqX q) (reqS q.w) hT hX hXn (by omega) hw
  have hS := r12Same (advS (pqT q) (pqX q) (reqS q.w)) (advS_len hT hX hXn hw)
  obtain ⟨wo, wl, wt, wlast, wh⟩ := hw
  have hst := fun (h : Int) (h1 : 1 ≤ h ∧ h ≤ 1000000000) => r12IntervalStep (pqT q) (pqX q) (reqS q.w).t h (reqS q.w).ctrl.order.toNat hT hX hXn (by omega) (by omega) wt (by omega)
  have hok := fun (h : Int) (h1 : 1 ≤ h ∧ h ≤ 1000000000) s (hs : istepS (pqT q) (pqX q) (reqS q.w).t h (reqS q.w).ctrl.order.toNat = some s) => istepS_ok hT hX hXn (by omega) wt hs
  have hsm := hT.small
  rw [advO_eq] at hA
  generalize pqT q = T at *
  generalize pqX q = X at *
  generalize reqS q.w = R at *
  have hor : ((R.ctrl.order.toNat : Nat) : Int) = R.ctrl.order := by omega
  have hf1 : 1 ≤ firstH R ∧ firstH R ≤ 1000000000 := by unfold firstH; omega
  have hfe : (if R.last - R.t < R.h then R.last - R.t else R.h) = firstH R := by unfold firstH; split <;> omega
  have wsub : IntKind.i64.wrap (R.last - R.t) = R.last - R.t := wrap64 (by omega) (by omega)
  have hcs0 : gLeft T X R (firstH R) = advS T X R := by unfold gLeft; rw [if_pos (.inl rfl)]; rfl
  generalize advS T X R = o at *
  generalize nxC R o = nx at *
  simp [pqA]
  refine call_ret (lSanity _) ?_
  simp
  refine call_ret (by simpa [pqA] using hP _) ?_
  simp [tpA, rqA, outA, bx]
  refine call_ret (by simpa [tpA, rqA, outA, bx] using hA _) ?_
  obtain ⟨a, b, c, d, e, f, hseg, kc, kd, ke, kf⟩ : ∃ (a b : Int) (c d e f : AV), segC o = .agg [.int .i64 a, .int .i64 b, c, d, e, f] ∧ okc c = true ∧ okc d = true ∧ okc e = true ∧ okc f = true := by
    cases o with
    | none => exact ⟨_, _, _, _, _, _, rfl, rfl, rfl, rfl, rfl⟩
    | some s => exact ⟨_, _, _, _, _, _, rfl, rfl, rfl, rfl, rfl⟩
  have kc' := kc
  have kd' := kd
  have ke' := ke
  have kf' := kf
  unfold okc at kc' kd' ke' kf'
  simp [hseg, wsub, hfe, kc', kd', ke', kf']
  refine loop_count (LGo q T X R o H) (fun h => h.toNat) (firstH R) ⟨by simp, by simp, by simp [bx], by simp, by simp, by simp, by simp, by simp, by omega, by omega, hcs0, [], by simp [tpA, rqA, outA, hseg, pqA, bx]⟩ ?_
  rintro h fr H' ⟨g3, g4, g5, g6, g7, g9, g10, g11, h0, h1, hcs, J, rfl⟩
  have next : 1 ≤ h → (h = firstH R ∨ R.ctrl.least ≤ h) → accS T X R.ctrl R.t h = none → gLeft T X R (h.tdiv 2) = o := fun k1 hg hacc => by
    have e2 := tdiv2 (h := h) (by omega)
    unfold gLeft at hcs ⊢
    rw [if_pos hg, cands_cons wl k1, List.findSome?_cons, hacc] at hcs
    simp only at hcs
    by_cases k2 : h.tdiv 2 < R.ctrl.least
    · rw [if_pos k2] at hcs
      rw [if_neg (by omega)]
      exact hcs
    · rw [if_neg k2] at hcs
      rw [if_pos (by omega)]
      exact hcs
  have got : 1 ≤ h → (h = firstH R ∨ R.ctrl.least ≤ h) → ∀ s, accS T X R.ctrl R.t h = some s → o = some s := fun k1 hg s hacc => by
    unfold gLeft at hcs
    rw [if_pos hg, cands_cons wl k1, List.findSome?_cons, hacc] at hcs
    exact hcs.symm
  by_cases hg : h = firstH R ∨ R.ctrl.least ≤ h
  · have k1 : 1 ≤ h := by omega
    have hI := hst h (by omega)
    rw [hor] at hI
    have w2 : IntKind.i64.wrap (h.tdiv 2) = h.tdiv 2 := by have e2 := tdiv2 (h := h) (by omega); exact wrap64 (by omega) (by omega)
    have e2 := tdiv2 (h := h) (by omega)
    rcases Classical.em (h = firstH R) with hg1 | hg1
    all_goals
      first
      | have hb : (h == firstH R) = true := by simp [hg1]
        simp [g4, g5, g6, g10, g11, rqA, tpA, outA, bx, hb]
      | have hb : (h == firstH R) = false := by simp [hg1]
        have hb2 : R.ctrl.least ≤ h := by omega
        simp [g4, g5, g6, g10, g11, rqA, tpA, outA, bx, hb, hb2]
      refine call_ret (by simpa [tpA, outA, bx] using hI _) ?_
      cases hr : istepS T X R.t h R.ctrl.order.toNat with
      | none =>
        have hacc : accS T X R.ctrl R.t h = none := by unfold accS; rw [hr]
        simp [sgO, zsA]
        refine loop_count (fun (_ : Unit) fr H' => fr 3 = .bool true ∧ fr 4 = .ptr (H.length + 1) 1 0 0 ∧ fr 5 = bx X ∧ fr 6 = .ptr (H.length + 2) 1 0 0 ∧ fr 7 = .ptr (H.length + 3) 1 0 0 ∧ fr 9 = .int .i64 (erO o) ∧ fr 10 = .int .i64 (firstH R) ∧ fr 11 = .int .i64 h ∧ fr 12 = .ptr (H.length + (J.length + 4)) 1 0 0 ∧ fr 13 = .bool false ∧ fr 14 = .int .i64 0 ∧
          H' = H ++ (.row true 11 [pqA q] :: .row true 3 [tpA T] :: .row true 8 [rqA R] :: .row true 6 [segC o] :: (J ++ [.row true 6 [zsA]]))) (fun _ => 0) () ⟨by simp [g3], by simp [g4], by simp [g5], by simp [g6], by simp [g7], by simp [g9], by simp [g10], by simp [g11], by simp, by simp, by simp, by simp [tpA, rqA, outA, bx, zsA]⟩ ?_
        rintro u fr2 H2 ⟨f3, f4, f5, f6, f7, f9, f10, f11, f12, f13, f14, rfl⟩
        simp [f11, f12, f13, f14, zsA, w2]
        exact ⟨h.tdiv 2, by show (h.tdiv 2).toNat < h.toNat; omega, by simp [f3], by simp [f4], by simp [f5], by simp [f6], by simp [f7], by simp [f9], by simp [f10], by simp, by omega, by omega, next k1 hg hacc, _, rfl⟩
      | some s =>
        have hso := hok h (by omega) s hr
        have hln : s.tube.length = s.to.length := by rw [hso.ntube, hso.nto]
        have hls : s.to.length ≤ 1000000 := by rw [hso.nto]; omega
        have hacc : accS T X R.ctrl R.t h = if narrowB R.ctrl.wide s.to && narrowB R.ctrl.wide s.tube then some s else none := by unfold accS; rw [hr]
        have vto := hso.vto
        have vtube := hso.vtube
        have hsf := hso.hx
        simp [sgO, sgA, bx]
        refine loop_count (fun (p : Nat × Bool) fr H' => fr 3 = .bool true ∧ fr 4 = .ptr (H.length + 1) 1 0 0 ∧ fr 5 = bx X ∧ fr 6 = .ptr (H.length + 2) 1 0 0 ∧ fr 7 = .ptr (H.length + 3) 1 0 0 ∧ fr 9 = .int .i64 (erO o) ∧ fr 10 = .int .i64 (firstH R) ∧ fr 11 = .int .i64 h ∧ fr 12 = .ptr (H.length + (J.length + 4)) 1 0 0 ∧ fr 13 = .bool p.2 ∧ fr 14 = .int .i64 (p.1 : Nat) ∧
          H' = H ++ (.row true 11 [pqA q] :: .row true 3 [tpA T] :: .row true 8 [rqA R] :: .row true 6 [segC o] :: (J ++ [.row true 6 [sgA s]])) ∧
          p.1 ≤ s.to.length ∧ (p.2 = true → okTo (fun p => decide (p.2 - p.1 ≤ R.ctrl.wide)) s.to p.1 ∧ okTo (fun p => decide (p.2 - p.1 ≤ R.ctrl.wide)) s.tube p.1) ∧ (p.2 = false → (narrowB R.ctrl.wide s.to && narrowB R.ctrl.wide s.tube) = false)) (fun p => s.to.length - p.1) (0, true) ⟨by simp [g3], by simp [g4], by simp [g5], by simp [g6], by simp [g7], by simp [g9], by simp [g10], by simp [g11], by simp, by simp, by simp, by simp [tpA, rqA, outA, bx, sgA], by simp, fun _ => ⟨okTo_zero _ _, okTo_zero _ _⟩, by simp⟩ ?_
        rintro ⟨i, b⟩ fr2 H2 ⟨f3, f4, f5, f6, f7, f9, f10, f11, f12, f13, f14, rfl, hi, ht, hf⟩
        simp only at f13 f14 hi ht hf
        have w3 : IntKind.i64.wrap ((i : Int) + 1) = ((i + 1 : Nat) : Int) := by rw [wrap64 (by omega) (by omega)]; omega
        rcases Nat.lt_or_ge i s.to.length with hlt | hlt
        · cases b with
          | false =>
            simp [f11, f12, f13, f14, sgA, bx, hlt, w2]
            exact ⟨h.tdiv 2, by show (h.tdiv 2).toNat < h.toNat; omega, by simp [f3], by simp [f4], by simp [f5], by simp [f6], by simp [f7], by simp [f9], by simp [f10], by simp, by omega, by omega, next k1 hg (by rw [hacc, hf rfl]; rfl), _, rfl⟩
          | true =>
            obtain ⟨p, hp⟩ := get_lt hlt
            obtain ⟨r, hr2⟩ := get_lt (l := s.tube) (i := i) (by omega)
            have hpE : ∀ h, s.to[i]'h = p := fun h => (List.getElem?_eq_some_iff.1 hp).2
            have hrE : ∀ h, s.tube[i]'h = r := fun h => (List.getElem?_eq_some_iff.1 hr2).2
            obtain ⟨t1, t2⟩ := ht rfl
            simp [f6, f12, f13, f14, sgA, bx, hlt, hp, hpE, rqA]
            refine callD_ret0 (fun Hx => rWidth p (vto p (List.mem_of_getElem? hp)) Hx) ?_
            rcases Classical.em (p.2 - p.1 ≤ R.ctrl.wide) with hw1 | hw1
            · simp [f6, f12, f14, sgA, bx, hr2, hrE, rqA, hw1]
              refine callD_ret0 (fun Hx => rWidth r (vtube r (List.mem_of_getElem? hr2)) Hx) ?_
              simp [f6, rqA]
              refine endD [] (by rfl) (by simp [okW, note, Eff.triv, Eff.wr, Eff.none, upTo, newAt]) ?_
              simp [f14, w3]
              exact ⟨(i + 1, decide (r.2 - r.1 ≤ R.ctrl.wide)), by show s.to.length - (i + 1) < s.to.length - i; omega, by simp [f3], by simp [f4], by simp [f5, bx], by simp [f6], by simp [f7], by simp [f9], by simp [f10], by simp [f11], by simp [f12], by simp, by simp, by simp [sgA, bx], by omega, fun hb => ⟨okTo_succ t1 hp (by simpa using hw1), okTo_succ t2 hr2 hb⟩, fun hb _ => show narrowB R.ctrl.wide s.tube = false from all_false (l := s.tube) hr2 hb⟩
            · simp [f6, f12, f14, sgA, bx, hr2, hrE, rqA, hw1]
              refine endD [] (by rfl) (by simp [okW, note, Eff.triv, Eff.wr, Eff.none, upTo, newAt]) ?_
              simp [f14, w3]
              exact ⟨(i + 1, false), by show s.to.length - (i + 1) < s.to.length - i; omega, by simp [f3], by simp [f4], by simp [f5, bx], by simp [f6], by simp [f7], by simp [f9], by simp [f10], by simp [f11], by simp [f12], by simp, by simp, by simp [sgA, bx], by omega, fun hb => Bool.noConfusion hb, fun _ hx => by rw [show narrowB R.ctrl.wide s.to = false from all_false (l := s.to) hp (by simpa using hw1)] at hx; cases hx⟩
        · have hi' : i = s.to.length := by omega
          subst hi'
          cases b with
          | false =>
            simp [f11, f12, f13, f14, sgA, bx, w2]
            exact ⟨h.tdiv 2, by show (h.tdiv 2).toNat < h.toNat; omega, by simp [f3], by simp [f4], by simp [f5], by simp [f6], by simp [f7], by simp [f9], by simp [f10], by simp, by omega, by omega, next k1 hg (by rw [hacc, hf rfl]; rfl), _, rfl⟩
          | true =>
            obtain ⟨t1, t2⟩ := ht rfl
            rw [← hln] at t2
            have hall : (narrowB R.ctrl.wide s.to && narrowB R.ctrl.wide s.tube) = true := by
              unfold narrowB
              rw [okTo_all t1, okTo_all t2]; rfl
            have ho := got k1 hg s (by rw [hacc, hall]; rfl)
            subst ho
            simp [f3, f7, f9, f12, f13, f14, sgA, bx, erO, segC]
            refine call_ret (by simpa [segC, sgA, bx] using hS _) ?_
            simp [f3]
            exact fin1 (rs := [.tmp 2]) (by rfl) (by simp [resA]) (by simp [noFs, noF])
  · have ho : o = none := by unfold gLeft at hcs; rw [if_neg hg] at hcs; exact hcs.symm
    have hb : (h == firstH R) = false := by simp; omega
    have hb2 : ¬ R.ctrl.least ≤ h := by omega
    simp [g10, g11, g6, rqA, hb, hb2, g9, ho, erO, g3]
    exact fin1 (rs := [.tmp 2]) (by rfl) (by simp [resA]) (by simp [noFs, noF])
end Go.Proofs.YtgabeieooemfeaaGreatDoor.Arm
