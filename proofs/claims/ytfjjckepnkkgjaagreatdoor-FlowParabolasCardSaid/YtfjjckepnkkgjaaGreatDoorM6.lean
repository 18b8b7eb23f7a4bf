/- Part of a proof: what the functions of the program do to abstract states, step by step. -/
import Derived.Test.YtfjjckepnkkgjaaGreatDoorM5
set_option linter.unusedVariables false
set_option linter.unusedSimpArgs false
namespace Go.Pl
section
variable {T : Tp} {X : List I} {τ : I}
def DL (T : Tp) (X : List I) (τ : I) (j m : Nat) : Prop := Dfx (T := T) (X := X) (τ := τ) (aL j m) (aL' j m) (fun r => ((m + 1 : Nat) : Rat) * aL j (m + 1) r)
theorem natPos (m : Nat) : (0 : Rat) < ((m + 1 : Nat) : Rat) := by rw [← Rat.intCast_natCast]; exact Rat.intCast_pos.2 (by omega)
theorem dL_num {j m : Nat} {x : Ins} (hT : tpOk T) (hx : T.L[j]? = some x) (ho : x.op = 1) : DL T X τ j m := by
  have eA : ∀ k (r : StR T X τ), aL j k r = if k = 0 then (x.c.1 : Rat) / 65536 else 0 := fun k r => by
    show rL T r.p r.s r.y j k = _
    rw [rL_eq hT hx]; simp [fA, ho, algR]
  have eA' : ∀ k (r : StR T X τ), aL' j k r = if k = 0 then (x.c.1 : Rat) / 65536 else 0 := fun k r => by
    show rL T r.p (r.s + r.δ) r.y' j k = _
    rw [rL_eq hT hx]; simp [fA, ho, algR]
  refine (Dfx.const (if m = 0 then (x.c.1 : Rat) / 65536 else 0)).congr (fun r => (eA m r).symm) (fun r => (eA' m r).symm) (fun r => ?_)
  rw [eA (m + 1) r, if_neg (by omega)]
  grind
theorem dL_time {j m : Nat} {x : Ins} (hT : tpOk T) (hx : T.L[j]? = some x) (ho : x.op = 3) : DL T X τ j m := by
  have eA : ∀ k (r : StR T X τ), aL j k r = if k = 0 then r.s else if k = 1 then 1 else 0 := fun k r => by
    show rL T r.p r.s r.y j k = _
    rw [rL_eq hT hx]; simp [fA, ho, algR]
  have eA' : ∀ k (r : StR T X τ), aL' j k r = if k = 0 then r.s + r.δ else if k = 1 then 1 else 0 := fun k r => by
    show rL T r.p (r.s + r.δ) r.y' j k = _
    rw [rL_eq hT hx]; simp [fA, ho, algR]
  cases m with
  | zero =>
    refine ⟨0, by grind, fun r => ?_⟩
    rw [eA, eA']
    show Df 0 r.δ _ _ (((0 + 1 : Nat) : Rat) * aL j (0 + 1) r)
    rw [eA]
    have e4 : ((0 + 1 : Nat) : Rat) = 1 := rfl
    rw [e4]
    simp only [if_true]
    unfold Df Bn
    constructor <;> grind
  | succ m =>
    refine (Dfx.const (if m = 0 then 1 else 0)).congr (fun r => ?_) (fun r => ?_) (fun r => ?_)
    · rw [eA]; simp
    · rw [eA']; simp
    · rw [eA]; simp
variable (hT : tpOk T) (hX : allV X) (hτ : vB τ = true)
include hT hX hτ
theorem cL_fA {j m : Nat} {x : Ins} (hx : T.L[j]? = some x) (h2 : x.op ≠ 2) : cL T X τ j m = fA algI x (cL T X τ) (cL T X τ j) τ m := by
  rw [cL_eq hT hX hτ hx, if_neg h2]
omit hX hτ in
theorem aL_fA {j m : Nat} {x : Ins} (hx : T.L[j]? = some x) (h2 : x.op ≠ 2) (r : StR T X τ) : aL j m r = fA (algR r.p) x (fun a k => aL a k r) (fun k => aL j k r) r.s m := by
  show rL T r.p r.s r.y j m = _
  rw [rL_eq hT hx, if_neg h2]; rfl
omit hX hτ in
theorem aL'_fA {j m : Nat} {x : Ins} (hx : T.L[j]? = some x) (h2 : x.op ≠ 2) (r : StR T X τ) : aL' j m r = fA (algR r.p) x (fun a k => aL' a k r) (fun k => aL' j k r) (r.s + r.δ) m := by
  show rL T r.p (r.s + r.δ) r.y' j m = _
  rw [rL_eq hT hx, if_neg h2]; rfl
omit hX hτ in
theorem dL_var {j m : Nat} {x : Ins} (hx : T.L[j]? = some x) (ho : x.op = 2) (ha : x.a.toNat < T.n) (ih : ∀ m' o, m = m' + 1 → T.out[x.a.toNat]? = some o → DL T X τ o m') : DL T X τ j m := by
  obtain ⟨o, hoo⟩ : ∃ o, T.out[x.a.toNat]? = some o := ⟨T.out[x.a.toNat]'(by rw [hT.len]; exact ha), by simp⟩
  have eA : ∀ k (r : StR T X τ), aO x.a.toNat k r = aL j k r := fun k r => by
    show _ = rL T r.p r.s r.y j k
    rw [rL_eq hT hx, if_pos ho]; rfl
  have eA' : ∀ k (r : StR T X τ), aO' x.a.toNat k r = aL' j k r := fun k r => by
    show _ = rL T r.p (r.s + r.δ) r.y' j k
    rw [rL_eq hT hx, if_pos ho]; rfl
  have hd : Dfx (T := T) (X := X) (τ := τ) (aO x.a.toNat m) (aO' x.a.toNat m) (fun r => ((m + 1 : Nat) : Rat) * aO x.a.toNat (m + 1) r) := by
    cases m with
    | zero => exact dO_zero hoo
    | succ m => exact dO_step hoo (ih m o rfl hoo)
  exact hd.congr (eA m) (eA' m) (fun r => by rw [eA])
omit hX hτ in
theorem dL_lin {j m : Nat} {x : Ins} (hx : T.L[j]? = some x) (ho : x.op = 4 ∨ x.op = 7 ∨ x.op = 8)
    (iha : DL T X τ x.a.toNat m) (ihb : x.op ≠ 4 → DL T X τ x.b.toNat m) : DL T X τ j m := by
  have h2 : x.op ≠ 2 := by omega
  rcases ho with ho | ho | ho
  · refine iha.neg.congr (fun r => ?_) (fun r => ?_) (fun r => ?_)
    · rw [aL_fA hT hx h2]; simp [fA, ho, algR]
    · rw [aL'_fA hT hx h2]; simp [fA, ho, algR]
    · rw [aL_fA hT (m := m + 1) hx h2]; simp [fA, ho, algR]; grind
  · refine (iha.add (ihb (by omega))).congr (fun r => ?_) (fun r => ?_) (fun r => ?_)
    · rw [aL_fA hT hx h2]; simp [fA, ho, algR]
    · rw [aL'_fA hT hx h2]; simp [fA, ho, algR]
    · rw [aL_fA hT (m := m + 1) hx h2]; simp [fA, ho, algR]; grind
  · refine (iha.sub (ihb (by omega))).congr (fun r => ?_) (fun r => ?_) (fun r => ?_)
    · rw [aL_fA hT hx h2]; simp [fA, ho, algR]
    · rw [aL'_fA hT hx h2]; simp [fA, ho, algR]
    · rw [aL_fA hT (m := m + 1) hx h2]; simp [fA, ho, algR]; grind
omit hX hτ in
theorem dL_mul {j m : Nat} {x : Ins} {b : Nat} (hx : T.L[j]? = some x) (ho : (x.op = 9 ∧ b = x.b.toNat) ∨ (x.op = 5 ∧ b = x.a.toNat)) (ba : ∀ i, i ≤ m + 1 → Bdx (T := T) (X := X) (τ := τ) (aL x.a.toNat i) ∧ Bdx (T := T) (X := X) (τ := τ) (aL' x.a.toNat i)) (bb : ∀ i, i ≤ m + 1 → Bdx (T := T) (X := X) (τ := τ) (aL b i) ∧ Bdx (T := T) (X := X) (τ := τ) (aL' b i))
    (iha : ∀ i, i ≤ m → DL T X τ x.a.toNat i) (ihb : ∀ i, i ≤ m → DL T X τ b i) : DL T X τ j m := by
  have h2 : x.op ≠ 2 := by omega
  have e : ∀ k (r : StR T X τ), cv (fun i => aL x.a.toNat i r) (fun i => aL b i r) k = aL j k r := fun k r => by
    rw [aL_fA hT hx h2]
    rcases ho with ⟨ho, rfl⟩ | ⟨ho, rfl⟩
    · simp [fA, ho, convA_cv]
    · cases k with
      | zero => simp [fA, ho, cv, sm, algR]; grind
      | succ k => simp [fA, ho, convA_cv]
  have e' : ∀ k (r : StR T X τ), cv (fun i => aL' x.a.toNat i r) (fun i => aL' b i r) k = aL' j k r := fun k r => by
    rw [aL'_fA hT hx h2]
    rcases ho with ⟨ho, rfl⟩ | ⟨ho, rfl⟩
    · simp [fA, ho, convA_cv]
    · cases k with
      | zero => simp [fA, ho, cv, sm, algR]; grind
      | succ k => simp [fA, ho, convA_cv]
  have h := Dfx.conv (m := m) (f := fun i => aL x.a.toNat i) (f' := fun i => aL' x.a.toNat i) (g := fun i => aL b i) (g' := fun i => aL' b i)
    iha ihb (fun i hi => (ba i hi).1) (fun i hi => (ba i (by omega)).2) (fun i hi => (bb i hi).1)
  exact h.congr (e m) (e' m) (fun r => by rw [e (m + 1) r])
omit hT hX hτ in
theorem far_of {c : I} (hc : c ≠ ent) (h : 0 < c.1 ∨ c.2 < 0) {x : Rat} (hx : InI c x) : Far (1 / 65536) x := by
  rcases hx with hx | ⟨h1, h2⟩
  · exact absurd hx hc
  · rcases h with h | h
    · have : (1 : Rat) ≤ (c.1 : Rat) := Rat.intCast_le_intCast.2 (show (1 : Int) ≤ c.1 by omega)
      exact .inl (by grind)
    · have : (c.2 : Rat) ≤ (-1 : Rat) := Rat.intCast_le_intCast.2 (show c.2 ≤ (-1 : Int) by omega)
      exact .inr (by grind)
omit hT hX hτ in
theorem far_ne {x : Rat} (h : Far (1 / 65536) x) : x ≠ 0 := by
  rcases h with h | h <;> grind
omit hT hX hτ in
theorem convA_tail (p : Nat) (a b : Nat → Rat) (m k : Nat) : convA (algR p) a b 1 m k = sm (fun i => a (1 + i) * b (k - (1 + i))) m := by
  unfold convA
  rw [sumA_sm]
  rfl
theorem dL_div {j m : Nat} {x : Ins} (hj : j < T.L.length) (hx : T.L[j]? = some x) (ho : x.op = 10) (la : x.a.toNat < T.L.length) (lb : x.b.toNat < T.L.length) (hc : cL T X τ j (m + 1) ≠ ent)
    (iha : ∀ i, i ≤ m → cL T X τ x.a.toNat (i + 1) ≠ ent → DL T X τ x.a.toNat i) (ihb : ∀ i, i ≤ m → cL T X τ x.b.toNat (i + 1) ≠ ent → DL T X τ x.b.toNat i) (ihj : ∀ i, i < m → cL T X τ j (i + 1) ≠ ent → DL T X τ j i) : DL T X τ j m := by
  have h2 : x.op ≠ 2 := by omega
  have hc0 := hc
  rw [cL_fA hT hX hτ hx h2] at hc
  have hc' : div (sub (cL T X τ x.a.toNat (m + 1)) (convA algI (cL T X τ x.b.toNat) (cL T X τ j) 1 (m + 1) (m + 1))) (cL T X τ x.b.toNat 0) ≠ ent := by simpa [fA, ho, algI] using hc
  obtain ⟨d1, d2, d3⟩ := div_ne hc'
  obtain ⟨d4, d5⟩ := sub_ne d1
  have nb : ∀ i, i ≤ m + 1 → cL T X τ x.b.toNat i ≠ ent := fun i hi => by
    by_cases h0 : i = 0
    · subst h0; exact d2
    · exact (convA_ne d5 i (by omega) (by omega)).1
  have nj : ∀ i, i ≤ m → cL T X τ j i ≠ ent := fun i hi => by
    have := (convA_ne d5 (m + 1 - i) (by omega) (by omega)).2
    rwa [show m + 1 - (m + 1 - i) = i by omega] at this
  have hB0 : ∀ r : StR T X τ, Far (1 / 65536) (aL x.b.toNat 0 r) := fun r => far_of d2 d3 (aL_in hT hX hτ _ 0 lb r).1
  have hB0' : ∀ r : StR T X τ, Far (1 / 65536) (aL' x.b.toNat 0 r) := fun r => far_of d2 d3 (aL_in hT hX hτ _ 0 lb r).2
  have e : ∀ k (r : StR T X τ), aL x.b.toNat 0 r * aL j k r = aL x.a.toNat k r - sm (fun i => aL x.b.toNat (1 + i) r * aL j (k - (1 + i)) r) k := fun k r => by
    have hn := far_ne (hB0 r)
    rw [aL_fA hT (j := j) (m := k) hx h2]
    cases k with
    | zero => simp [fA, ho, algR, sm]; grind
    | succ k =>
      have : fA (algR r.p) x (fun a k => aL a k r) (fun k => aL j k r) r.s (k + 1) = (aL x.a.toNat (k + 1) r - convA (algR r.p) (fun k => aL x.b.toNat k r) (fun k => aL j k r) 1 (k + 1) (k + 1)) / aL x.b.toNat 0 r := by simp [fA, ho, algR]
      rw [this, convA_tail]
      grind
  have e' : ∀ k (r : StR T X τ), aL' x.b.toNat 0 r * aL' j k r = aL' x.a.toNat k r - sm (fun i => aL' x.b.toNat (1 + i) r * aL' j (k - (1 + i)) r) k := fun k r => by
    have hn := far_ne (hB0' r)
    rw [aL'_fA hT (j := j) (m := k) hx h2]
    cases k with
    | zero => simp [fA, ho, algR, sm]; grind
    | succ k =>
      have : fA (algR r.p) x (fun a k => aL' a k r) (fun k => aL' j k r) (r.s + r.δ) (k + 1) = (aL' x.a.toNat (k + 1) r - convA (algR r.p) (fun k => aL' x.b.toNat k r) (fun k => aL' j k r) 1 (k + 1) (k + 1)) / aL' x.b.toNat 0 r := by simp [fA, ho, algR]
      rw [this, convA_tail]
      grind
  have ecv : ∀ r : StR T X τ, cv (fun i => aL x.b.toNat i r) (fun i => aL j i r) (m + 1) = aL x.a.toNat (m + 1) r := fun r => by
    have h1 := e (m + 1) r
    unfold cv
    rw [sm_shift]
    have h3 : sm (fun i => aL x.b.toNat (i + 1) r * aL j (m + 1 - (i + 1)) r) (m + 1) = sm (fun i => aL x.b.toNat (1 + i) r * aL j (m + 1 - (1 + i)) r) (m + 1) := sm_congr fun i hi => by rw [show i + 1 = 1 + i by omega]
    rw [h3]
    show aL x.b.toNat 0 r * aL j (m + 1) r + _ = _
    grind
  have ht := Dfx.tail (m := m) (f := fun i => aL x.b.toNat i) (f' := fun i => aL' x.b.toNat i) (g := fun i => aL j i) (g' := fun i => aL' j i)
    (fun i h1 hi => ihb i hi (nb (i + 1) (by omega))) (fun i hi => ihj i hi (nj (i + 1) (by omega)))
    (fun i h1 hi => (aL_bd hT hX hτ _ i lb (nb i hi)).1) (fun i h1 hi => (aL_bd hT hX hτ _ i lb (nb i (by omega))).2) (fun i hi => (aL_bd hT hX hτ _ i hj (nj i hi)).1)
  have hA : DL T X τ x.a.toNat m := iha m (Nat.le_refl _) d4
  have hP : Dfx (T := T) (X := X) (τ := τ) (fun r => aL x.b.toNat 0 r * aL j m r) (fun r => aL' x.b.toNat 0 r * aL' j m r) (fun r => (((0 + 1 : Nat) : Rat) * aL x.b.toNat (0 + 1) r) * aL j m r + aL x.b.toNat 0 r * (((m + 1 : Nat) : Rat) * aL j (m + 1) r)) := by
    refine (Dfx.sub hA ht).congr (fun r => (e m r).symm) (fun r => (e' m r).symm) (fun r => ?_)
    rw [ecv r]
    grind
  exact Dfx.cancel (by grind) hB0 hB0' hP (ihb 0 (by omega) (nb 1 (by omega))) (aL_bd hT hX hτ _ 0 lb d2).1 (aL_bd hT hX hτ _ m hj (nj m (Nat.le_refl _))).1 (Bdx.smul _ (aL_bd hT hX hτ _ 1 lb (nb 1 (by omega))).1) (Bdx.smul _ (aL_bd hT hX hτ _ (m + 1) hj hc0).1)
end
end Go.Pl

namespace Go.Pl
section
variable {T : Tp} {X : List I} {τ : I}
theorem Dfx.mid {q q' : Nat → StR T X τ → Rat} {n : Nat} (hq : ∀ i, 1 ≤ i → i ≤ n → Dfx (q i) (q' i) (fun r => ((i + 1 : Nat) : Rat) * q (i + 1) r))
    (bq : ∀ i, 1 ≤ i → i ≤ n + 1 → Bdx (q i)) (bq' : ∀ i, 1 ≤ i → i ≤ n → Bdx (q' i)) :
    Dfx (fun r => sm (fun i => q (1 + i) r * q (n + 1 - (1 + i)) r) n) (fun r => sm (fun i => q' (1 + i) r * q' (n + 1 - (1 + i)) r) n)
      (fun r => ((n + 1 + 1 : Nat) : Rat) * cv (fun i => q i r) (fun i => q i r) (n + 1 + 1) - 2 * (((0 + 1 : Nat) : Rat) * q (0 + 1) r * q (n + 1) r + q 0 r * (((n + 1 + 1 : Nat) : Rat) * q (n + 1 + 1) r))) := by
  have h := Dfx.sum (m := n) (fun i (hi : i < n) => Dfx.mul (hq (1 + i) (by omega) (by omega)) (hq (n + 1 - (1 + i)) (by omega) (by omega)) (bq' (1 + i) (by omega) (by omega)) (bq (n + 1 - (1 + i)) (by omega) (by omega)) (Bdx.smul _ (bq (1 + i + 1) (by omega) (by omega))) (Bdx.smul _ (bq (n + 1 - (1 + i) + 1) (by omega) (by omega))))
  refine h.congr (fun r => rfl) (fun r => rfl) (fun r => ?_)
  rw [← conv_der, sm_shift]
  have hs : ∀ f : Nat → Rat, sm f (n + 1) = sm f n + f n := fun f => rfl
  rw [hs]
  have e0 : n + 1 - (n + 1) = 0 := by omega
  rw [e0]
  have e1 : sm (fun i => ((1 + i + 1 : Nat) : Rat) * q (1 + i + 1) r * q (n + 1 - (1 + i)) r + q (1 + i) r * (((n + 1 - (1 + i) + 1 : Nat) : Rat) * q (n + 1 - (1 + i) + 1) r)) n = sm (fun i => ((i + 1 + 1 : Nat) : Rat) * q (i + 1 + 1) r * q (n + 1 - (i + 1)) r + q (i + 1) r * (((n + 1 - (i + 1) + 1 : Nat) : Rat) * q (n + 1 - (i + 1) + 1) r)) n := sm_congr fun i hi => by rw [show 1 + i = i + 1 by omega]
  refine e1.trans ?_
  generalize sm (fun i => ((i + 1 + 1 : Nat) : Rat) * q (i + 1 + 1) r * q (n + 1 - (i + 1)) r + q (i + 1) r * (((n + 1 - (i + 1) + 1 : Nat) : Rat) * q (n + 1 - (i + 1) + 1) r)) n = S
  show S = ((0 + 1 : Nat) : Rat) * q (0 + 1) r * q (n + 1 - 0) r + q 0 r * (((n + 1 - 0 + 1 : Nat) : Rat) * q (n + 1 - 0 + 1) r) + (S + (((n + 1 + 1 : Nat) : Rat) * q (n + 1 + 1) r * q 0 r + q (n + 1) r * (((0 + 1 : Nat) : Rat) * q (0 + 1) r))) - _
  rw [Nat.sub_zero]
  grind
variable (hT : tpOk T) (hX : allV X) (hτ : vB τ = true)
include hT hX hτ
theorem dL_root {j m : Nat} {x : Ins} (hj : j < T.L.length) (hx : T.L[j]? = some x) (ho : x.op = 6) (la : x.a.toNat < T.L.length) (hc : cL T X τ j (m + 1) ≠ ent)
    (iha : ∀ i, i ≤ m → cL T X τ x.a.toNat (i + 1) ≠ ent → DL T X τ x.a.toNat i) (ihj : ∀ i, i < m → cL T X τ j (i + 1) ≠ ent → DL T X τ j i) : DL T X τ j m := by
  have h2 : x.op ≠ 2 := by omega
  have hc0 := hc
  rw [cL_fA hT hX hτ hx h2] at hc
  have hc' : div (sub (cL T X τ x.a.toNat (m + 1)) (convA algI (cL T X τ j) (cL T X τ j) 1 m (m + 1))) (mulr (cL T X τ j 0) 2 1) ≠ ent := by simpa [fA, ho, algI] using hc
  obtain ⟨d1, d2, d3⟩ := div_ne hc'
  obtain ⟨d4, d5⟩ := sub_ne d1
  have n0 := mulr_ne d2
  have c0 : cL T X τ j 0 = rootI (cL T X τ x.a.toNat 0) := by rw [cL_fA hT hX hτ hx h2]; simp [fA, ho, algI]
  obtain ⟨na0, nn0⟩ := rootI_ne (c0 ▸ n0)
  have nj : ∀ i, i ≤ m → cL T X τ j i ≠ ent := fun i hi => by
    by_cases h0 : i = 0
    · subst h0; exact n0
    · exact (convA_ne d5 i (by omega) (by omega)).1
  have a0 : ∀ v : Rat, InI (cL T X τ x.a.toNat 0) v → 0 ≤ v := fun v hv => by
    rcases hv with hv | ⟨h1, _⟩
    · exact absurd hv na0
    · have : (0 : Rat) ≤ ((cL T X τ x.a.toNat 0).1 : Rat) := Rat.intCast_nonneg.2 nn0
      grind
  have q0 : ∀ r : StR T X τ, aL j 0 r = rt r.p (aL x.a.toNat 0 r) := fun r => by rw [aL_fA hT hx h2]; simp [fA, ho, algR]
  have q0' : ∀ r : StR T X τ, aL' j 0 r = rt r.p (aL' x.a.toNat 0 r) := fun r => by rw [aL'_fA hT hx h2]; simp [fA, ho, algR]
  have sp := fun r : StR T X τ => rt_spec r.p (a0 _ (aL_in hT hX hτ _ 0 la r).1)
  have sp' := fun r : StR T X τ => rt_spec r.p (a0 _ (aL_in hT hX hτ _ 0 la r).2)
  have hF : ∀ r : StR T X τ, Far (1 / 65536) (2 * aL j 0 r) := fun r => far_of d2 d3 (in_dbl (aL_in hT hX hτ j 0 hj r).1)
  have hF' : ∀ r : StR T X τ, Far (1 / 65536) (2 * aL' j 0 r) := fun r => far_of d2 d3 (in_dbl (aL_in hT hX hτ j 0 hj r).2)
  have e : ∀ k (r : StR T X τ), 2 * aL j 0 r * aL j (k + 1) r = aL x.a.toNat (k + 1) r - sm (fun i => aL j (1 + i) r * aL j (k + 1 - (1 + i)) r) k := fun k r => by
    have hn := far_ne (hF r)
    rw [aL_fA hT (j := j) (m := k + 1) hx h2]
    have : fA (algR r.p) x (fun a k => aL a k r) (fun k => aL j k r) r.s (k + 1) = (aL x.a.toNat (k + 1) r - convA (algR r.p) (fun k => aL j k r) (fun k => aL j k r) 1 k (k + 1)) / (2 * aL j 0 r) := by simp [fA, ho, algR]
    rw [this, convA_tail]
    grind
  have e' : ∀ k (r : StR T X τ), 2 * aL' j 0 r * aL' j (k + 1) r = aL' x.a.toNat (k + 1) r - sm (fun i => aL' j (1 + i) r * aL' j (k + 1 - (1 + i)) r) k := fun k r => by
    have hn := far_ne (hF' r)
    rw [aL'_fA hT (j := j) (m := k + 1) hx h2]
    have : fA (algR r.p) x (fun a k => aL' a k r) (fun k => aL' j k r) (r.s + r.δ) (k + 1) = (aL' x.a.toNat (k + 1) r - convA (algR r.p) (fun k => aL' j k r) (fun k => aL' j k r) 1 k (k + 1)) / (2 * aL' j 0 r) := by simp [fA, ho, algR]
    rw [this, convA_tail]
    grind
  have hA : DL T X τ x.a.toNat m := iha m (Nat.le_refl _) d4
  obtain ⟨⟨W1, w1, hW1⟩, ⟨W2, w2, hW2⟩⟩ := aL_bd hT hX hτ j 0 hj n0
  have D0 : m = 0 → DL T X τ j 0 := fun hm => by
    subst hm
    have hP : Dfx (T := T) (X := X) (τ := τ) (fun r => aL j 0 r * aL j 0 r) (fun r => aL' j 0 r * aL' j 0 r) (fun r => 2 * aL j 0 r * (((0 + 1 : Nat) : Rat) * aL j (0 + 1) r)) := by
      have e4 : ((0 + 1 : Nat) : Rat) = 1 := rfl
      have hA2 : Dfx (T := T) (X := X) (τ := τ) (aL x.a.toNat 0) (aL' x.a.toNat 0) (fun r => 2 * aL j 0 r * (((0 + 1 : Nat) : Rat) * aL j (0 + 1) r)) := hA.congr (fun r => rfl) (fun r => rfl) (fun r => by
        have := e 0 r
        have z : sm (fun i => aL j (1 + i) r * aL j (0 + 1 - (1 + i)) r) 0 = 0 := rfl
        rw [z] at this
        rw [e4]
        grind)
      have near : ∀ (r : StR T X τ) (W v w : Rat), 0 ≤ v → Bn W v → v * v ≤ w → w < (v + 1 / (grid r.p : Rat)) * (v + 1 / (grid r.p : Rat)) → Bn ((2 * W + 1) * (r.δ * r.δ)) (v * v - w) := fun r W v w h0 hb h1 h3 => by
        have hg := grid_posR r.p
        have hfine := r.fine
        have g1 : 1 / (grid r.p : Rat) ≤ 1 := by
          have : (1 : Rat) ≤ (grid r.p : Rat) := Rat.intCast_le_intCast.2 (show (1 : Int) ≤ grid r.p by have := grid_pos r.p; omega)
          exact Rat.not_lt.1 fun k => by
            have h5 := Rat.mul_lt_mul_of_pos_right k hg
            have h6 : 1 / (grid r.p : Rat) * (grid r.p : Rat) = 1 := by grind
            grind
        have g0 : 0 ≤ 1 / (grid r.p : Rat) := nndiv (by grind) hg
        generalize 1 / (grid r.p : Rat) = γ at *
        have hv : v ≤ W := hb.2
        have m1 := Rat.mul_le_mul_of_nonneg_right hv g0
        have m2 := Rat.mul_le_mul_of_nonneg_left g1 g0
        have m3 := Rat.mul_le_mul_of_nonneg_left hfine (show (0 : Rat) ≤ 2 * W + 1 by grind)
        unfold Bn
        constructor <;> grind
      refine Dfx.near hA2 (C := 2 * (W1 + W2) + 1) (by grind) (fun r => ?_) (fun r => ?_)
      · have := sp r
        rw [← q0] at this
        exact near r (W1 + W2) _ _ this.1 ((hW1 r).mono (by grind)) this.2.1 this.2.2
      · have := sp' r
        rw [← q0'] at this
        exact near r (W1 + W2) _ _ this.1 ((hW2 r).mono (by grind)) this.2.1 this.2.2
    have b0 : ∀ r : StR T X τ, 1 / 131072 ≤ aL j 0 r := fun r => by
      have h1 := (sp r).1
      rw [← q0] at h1
      rcases hF r with h | h <;> grind
    have b0' : ∀ r : StR T X τ, 1 / 131072 ≤ aL' j 0 r := fun r => by
      have h1 := (sp' r).1
      rw [← q0'] at h1
      rcases hF' r with h | h <;> grind
    exact Dfx.root (by grind) b0 b0' hP ⟨W1, w1, hW1⟩ (Bdx.smul _ (aL_bd hT hX hτ _ (0 + 1) hj hc0).1)
  cases m with
  | zero => exact D0 rfl
  | succ n =>
    have ecv : ∀ r : StR T X τ, cv (fun i => aL j i r) (fun i => aL j i r) (n + 1 + 1) = aL x.a.toNat (n + 1 + 1) r := fun r => by
      have h1 := e (n + 1) r
      unfold cv
      rw [sm_shift]
      have hs : ∀ f : Nat → Rat, sm f (n + 1 + 1) = sm f (n + 1) + f (n + 1) := fun f => rfl
      rw [hs]
      have h3 : sm (fun i => aL j (i + 1) r * aL j (n + 1 + 1 - (i + 1)) r) (n + 1) = sm (fun i => aL j (1 + i) r * aL j (n + 1 + 1 - (1 + i)) r) (n + 1) := sm_congr fun i hi => by rw [show i + 1 = 1 + i by omega]
      rw [h3, show n + 1 + 1 - (n + 1 + 1) = 0 by omega]
      show aL j 0 r * aL j (n + 1 + 1) r + (_ + aL j (n + 1 + 1) r * aL j 0 r) = _
      grind
    have ht := Dfx.mid (n := n) (q := fun i => aL j i) (q' := fun i => aL' j i) (fun i h1 hi => ihj i (by omega) (nj (i + 1) (by omega)))
      (fun i h1 hi => (aL_bd hT hX hτ _ i hj (nj i hi)).1) (fun i h1 hi => (aL_bd hT hX hτ _ i hj (nj i (by omega))).2)
    have D00 : DL T X τ j 0 := ihj 0 (by omega) (nj 1 (by omega))
    have hB : Dfx (T := T) (X := X) (τ := τ) (fun r => 2 * aL j 0 r) (fun r => 2 * aL' j 0 r) (fun r => 2 * (((0 + 1 : Nat) : Rat) * aL j (0 + 1) r)) := Dfx.smul 2 D00
    have hP : Dfx (T := T) (X := X) (τ := τ) (fun r => 2 * aL j 0 r * aL j (n + 1) r) (fun r => 2 * aL' j 0 r * aL' j (n + 1) r) (fun r => (2 * (((0 + 1 : Nat) : Rat) * aL j (0 + 1) r)) * aL j (n + 1) r + 2 * aL j 0 r * (((n + 1 + 1 : Nat) : Rat) * aL j (n + 1 + 1) r)) := by
      refine (Dfx.sub hA ht).congr (fun r => (e n r).symm) (fun r => (e' n r).symm) (fun r => ?_)
      rw [ecv r]
      grind
    exact Dfx.cancel (by grind) hF hF' hP hB (Bdx.smul 2 ⟨W1, w1, hW1⟩) (aL_bd hT hX hτ _ (n + 1) hj (nj (n + 1) (Nat.le_refl _))).1 (Bdx.smul _ (Bdx.smul _ (aL_bd hT hX hτ _ (0 + 1) hj (nj (0 + 1) (by omega))).1)) (Bdx.smul _ (aL_bd hT hX hτ _ (n + 1 + 1) hj hc0).1)
theorem nj_div {j m : Nat} {x : Ins} (hx : T.L[j]? = some x) (ho : x.op = 10) (hc : cL T X τ j (m + 1) ≠ ent) : ∀ i, i ≤ m → cL T X τ j i ≠ ent := fun i hi => by
  rw [cL_fA hT hX hτ hx (by omega)] at hc
  have hc' : div (sub (cL T X τ x.a.toNat (m + 1)) (convA algI (cL T X τ x.b.toNat) (cL T X τ j) 1 (m + 1) (m + 1))) (cL T X τ x.b.toNat 0) ≠ ent := by simpa [fA, ho, algI] using hc
  have := (convA_ne (sub_ne (div_ne hc').1).2 (m + 1 - i) (by omega) (by omega)).2
  rwa [show m + 1 - (m + 1 - i) = i by omega] at this
theorem nj_root {j m : Nat} {x : Ins} (hx : T.L[j]? = some x) (ho : x.op = 6) (hc : cL T X τ j (m + 1) ≠ ent) : ∀ i, i ≤ m → cL T X τ j i ≠ ent := fun i hi => by
  rw [cL_fA hT hX hτ hx (by omega)] at hc
  have hc' : div (sub (cL T X τ x.a.toNat (m + 1)) (convA algI (cL T X τ j) (cL T X τ j) 1 m (m + 1))) (mulr (cL T X τ j 0) 2 1) ≠ ent := by simpa [fA, ho, algI] using hc
  by_cases h0 : i = 0
  · subst h0; exact mulr_ne (div_ne hc').2.1
  · exact (convA_ne (sub_ne (div_ne hc').1).2 i (by omega) (by omega)).1
omit hX hτ in
theorem mul_cv {j : Nat} {x : Ins} {b : Nat} (hx : T.L[j]? = some x) (ho : (x.op = 9 ∧ b = x.b.toNat) ∨ (x.op = 5 ∧ b = x.a.toNat)) (k : Nat) (r : StR T X τ) :
    aL j k r = cv (fun i => aL x.a.toNat i r) (fun i => aL b i r) k ∧ aL' j k r = cv (fun i => aL' x.a.toNat i r) (fun i => aL' b i r) k := by
  have h2 : x.op ≠ 2 := by omega
  rw [aL_fA hT hx h2, aL'_fA hT hx h2]
  rcases ho with ⟨ho, rfl⟩ | ⟨ho, rfl⟩
  · simp [fA, ho, convA_cv]
  · cases k with
    | zero => simp [fA, ho, cv, sm, algR]; constructor <;> grind
    | succ k => simp [fA, ho, convA_cv]
omit hT hX hτ in
theorem Bdx.congr {u v : StR T X τ → Rat} (h : Bdx u) (e : ∀ r, u r = v r) : Bdx v := by
  obtain ⟨W, w0, hW⟩ := h
  exact ⟨W, w0, fun r => by rw [← e]; exact hW r⟩
omit hT hX hτ in
theorem Bdx.const (c : Rat) : Bdx (T := T) (X := X) (τ := τ) fun _ => c := by
  by_cases h : 0 ≤ c
  · exact ⟨c, h, fun r => by unfold Bn; grind⟩
  · exact ⟨-c, by grind, fun r => by unfold Bn; grind⟩
omit hT hX hτ in
theorem Bdx.cv {f g : Nat → StR T X τ → Rat} {m : Nat} (hf : ∀ i, i ≤ m → Bdx (f i)) (hg : ∀ i, i ≤ m → Bdx (g i)) : Bdx fun r => cv (fun i => f i r) (fun i => g i r) m :=
  Bdx.sum (m := m + 1) fun i hi => Bdx.mul (hf i (by omega)) (hg (m - i) (by omega))
def BdL (T : Tp) (X : List I) (τ : I) (j m : Nat) : Prop := Bdx (T := T) (X := X) (τ := τ) (aL j m) ∧ Bdx (T := T) (X := X) (τ := τ) (aL' j m)
def Good (T : Tp) (X : List I) (τ : I) (j M : Nat) : Prop := (∀ m, m ≤ M → BdL T X τ j m) ∧ ∀ m, m < M → DL T X τ j m
omit hX hτ in
theorem bd_num {j m : Nat} {x : Ins} (hx : T.L[j]? = some x) (ho : x.op = 1) : BdL T X τ j m :=
  ⟨(Bdx.const (if m = 0 then (x.c.1 : Rat) / 65536 else 0)).congr fun r => by rw [aL_fA hT hx (by omega)]; simp [fA, ho, algR],
   (Bdx.const (if m = 0 then (x.c.1 : Rat) / 65536 else 0)).congr fun r => by rw [aL'_fA hT hx (by omega)]; simp [fA, ho, algR]⟩
omit hX hτ in
theorem bd_time {j m : Nat} {x : Ins} (hte : τ ≠ ent) (hx : T.L[j]? = some x) (ho : x.op = 3) : BdL T X τ j m := by
  obtain ⟨W, w0, hW⟩ := InI_bn hte
  cases m with
  | zero => exact ⟨⟨W, w0, fun r => by rw [aL_fA hT hx (by omega)]; simpa [fA, ho] using hW _ r.hs⟩, ⟨W, w0, fun r => by rw [aL'_fA hT hx (by omega)]; simpa [fA, ho] using hW _ r.hs'⟩⟩
  | succ m =>
    exact ⟨(Bdx.const (if m = 0 then 1 else 0)).congr fun r => by rw [aL_fA hT hx (by omega)]; simp [fA, ho, algR],
      (Bdx.const (if m = 0 then 1 else 0)).congr fun r => by rw [aL'_fA hT hx (by omega)]; simp [fA, ho, algR]⟩
theorem good_all (hte : τ ≠ ent) (hXe : ∀ i, i < T.n → atN X i ≠ ent) : ∀ M j, j < T.L.length → cL T X τ j M ≠ ent → Good T X τ j M := by
  intro M
  induction M using Nat.strongRecOn with
  | ind M ihM =>
    intro j
    induction j using Nat.strongRecOn with
    | ind j ihj =>
      intro hj hc
      have hx : T.L[j]? = some T.L[j] := List.getElem?_eq_getElem hj
      generalize T.L[j] = x at hx
      have both : ∀ m, m + 1 = M → ∀ a, a < j → ∀ i, i ≤ m → cL T X τ a (i + 1) ≠ ent → DL T X τ a i := fun m hm a ha i hi hn => by
        by_cases e : i + 1 = M
        · rw [e] at hn
          exact (ihj a ha (by omega) hn).2 i (by omega)
        · exact (ihM (i + 1) (by omega) a (by omega) hn).2 i (by omega)
      rcases hT.ins j x hx with ⟨ho, _⟩ | ⟨ho, h0, h1⟩ | ho | ⟨h4, h6, a0, a1, _⟩ | ⟨h7, h10, a0, a1, b0, b1⟩
      · exact ⟨fun m _ => bd_num hT hx ho, fun m _ => dL_num hT hx ho⟩
      · have ha : x.a.toNat < T.n := by omega
        obtain ⟨o, hoo⟩ : ∃ o, T.out[x.a.toNat]? = some o := ⟨T.out[x.a.toNat]'(by rw [hT.len]; exact ha), by simp⟩
        have hol := hT.out o (List.mem_of_getElem? hoo)
        have hg : ∀ m, M = m + 1 → Good T X τ o m := fun m hm => by
          subst hm
          rw [cL_eq hT hX hτ hx, if_pos ho, cO_succ hT hX hτ ha hoo] at hc
          exact ihM m (by omega) o hol (mulr_ne hc)
        have eA : ∀ k (r : StR T X τ), aL j k r = rO T r.p r.s r.y x.a.toNat k := fun k r => by
          show rL T r.p r.s r.y j k = _
          rw [rL_eq hT hx, if_pos ho]
        have eA' : ∀ k (r : StR T X τ), aL' j k r = rO T r.p (r.s + r.δ) r.y' x.a.toNat k := fun k r => by
          show rL T r.p (r.s + r.δ) r.y' j k = _
          rw [rL_eq hT hx, if_pos ho]
        refine ⟨fun m hm => ?_, fun m hm => dL_var hT hx ho ha fun m' o' e1 e2 => ?_⟩
        · cases m with
          | zero =>
            obtain ⟨W, w0, hW⟩ := InI_bn (hXe _ ha)
            exact ⟨⟨W, w0, fun r => by rw [eA]; exact hW _ (r.hy _ ha)⟩, ⟨W, w0, fun r => by rw [eA']; exact hW _ (r.hy' _ ha)⟩⟩
          | succ m =>
            obtain ⟨M', rfl⟩ : ∃ M', M = M' + 1 := ⟨M - 1, by omega⟩
            have hb := (hg M' rfl).1 m (by omega)
            exact ⟨(Bdx.smul (1 / ((m + 1 : Nat) : Rat)) hb.1).congr fun r => by rw [eA, rO_succ hoo]; show 1 / ((m + 1 : Nat) : Rat) * rL T r.p r.s r.y o m = _; grind,
              (Bdx.smul (1 / ((m + 1 : Nat) : Rat)) hb.2).congr fun r => by rw [eA', rO_succ hoo]; show 1 / ((m + 1 : Nat) : Rat) * rL T r.p (r.s + r.δ) r.y' o m = _; grind⟩
        · rw [hoo] at e2
          cases e2
          obtain ⟨M', rfl⟩ : ∃ M', M = M' + 1 := ⟨M - 1, by omega⟩
          exact (hg M' rfl).2 m' (by omega)
      · exact ⟨fun m _ => bd_time hT hte hx ho, fun m _ => dL_time hT hx ho⟩
      · have la : x.a.toNat < j := by omega
        have h2 : x.op ≠ 2 := by omega
        by_cases o4 : x.op = 4
        · have hc' : neg (cL T X τ x.a.toNat M) ≠ ent := by rw [cL_fA hT hX hτ hx h2] at hc; simpa [fA, o4, algI] using hc
          have hg := ihj _ la (by omega) (neg_ne hc')
          refine ⟨fun m hm => ⟨(Bdx.smul (-1) (hg.1 m hm).1).congr fun r => ?_, (Bdx.smul (-1) (hg.1 m hm).2).congr fun r => ?_⟩, fun m hm => dL_lin hT hx (.inl o4) (hg.2 m hm) (fun h => absurd o4 h)⟩
          · rw [aL_fA hT hx h2]; simp [fA, o4, algR]; grind
          · rw [aL'_fA hT hx h2]; simp [fA, o4, algR]; grind
        · by_cases o5 : x.op = 5
          · have na : cL T X τ x.a.toNat M ≠ ent := by
              rw [cL_fA hT hX hτ hx h2] at hc
              cases M with
              | zero =>
                have hc' : sq (cL T X τ x.a.toNat 0) ≠ ent := by simpa [fA, o5, algI] using hc
                exact fun e => hc' (by rw [e]; rfl)
              | succ M =>
                have hc' : convA algI (cL T X τ x.a.toNat) (cL T X τ x.a.toNat) 0 (M + 1 + 1) (M + 1) ≠ ent := by simpa [fA, o5] using hc
                exact (convA_ne hc' (M + 1) (by omega) (by omega)).1
            have hg := ihj _ la (by omega) na
            have e := fun k r => mul_cv hT (X := X) (τ := τ) (b := x.a.toNat) hx (.inr ⟨o5, rfl⟩) k r
            exact ⟨fun m hm => ⟨(Bdx.cv (fun i hi => (hg.1 i (by omega)).1) (fun i hi => (hg.1 i (by omega)).1)).congr fun r => (e m r).1.symm, (Bdx.cv (fun i hi => (hg.1 i (by omega)).2) (fun i hi => (hg.1 i (by omega)).2)).congr fun r => (e m r).2.symm⟩,
              fun m hm => dL_mul hT hx (.inr ⟨o5, rfl⟩) (fun i hi => hg.1 i (by omega)) (fun i hi => hg.1 i (by omega)) (fun i hi => hg.2 i (by omega)) (fun i hi => hg.2 i (by omega))⟩
          · have o6 : x.op = 6 := by omega
            cases M with
            | zero => exact ⟨fun m hm => by rw [show m = 0 by omega]; exact aL_bd hT hX hτ j 0 hj hc, fun m hm => by omega⟩
            | succ M =>
              have nj := nj_root hT hX hτ hx o6 hc
              refine ⟨fun m hm => ?_, fun m hm => ?_⟩
              · by_cases e : m = M + 1
                · rw [e]; exact aL_bd hT hX hτ j _ hj hc
                · exact aL_bd hT hX hτ j m hj (nj m (by omega))
              · by_cases e : m = M
                · subst e
                  exact dL_root hT hX hτ hj hx o6 (by omega) hc (both m rfl _ la) (fun i hi hn => (ihM (i + 1) (by omega) j hj hn).2 i (by omega))
                · exact (ihM M (by omega) j hj (nj M (Nat.le_refl _))).2 m (by omega)
      · have la : x.a.toNat < j := by omega
        have lb : x.b.toNat < j := by omega
        have h2 : x.op ≠ 2 := by omega
        by_cases o9 : x.op = 9
        · have hc' : convA algI (cL T X τ x.a.toNat) (cL T X τ x.b.toNat) 0 (M + 1) M ≠ ent := by rw [cL_fA hT hX hτ hx h2] at hc; simpa [fA, o9] using hc
          have ga := ihj _ la (by omega) (convA_ne hc' M (by omega) (by omega)).1
          have gb := ihj _ lb (by omega) (convA_ne hc' 0 (by omega) (by omega)).2
          have e := fun k r => mul_cv hT (X := X) (τ := τ) (b := x.b.toNat) hx (.inl ⟨o9, rfl⟩) k r
          exact ⟨fun m hm => ⟨(Bdx.cv (fun i hi => (ga.1 i (by omega)).1) (fun i hi => (gb.1 i (by omega)).1)).congr fun r => (e m r).1.symm, (Bdx.cv (fun i hi => (ga.1 i (by omega)).2) (fun i hi => (gb.1 i (by omega)).2)).congr fun r => (e m r).2.symm⟩,
            fun m hm => dL_mul hT hx (.inl ⟨o9, rfl⟩) (fun i hi => ga.1 i (by omega)) (fun i hi => gb.1 i (by omega)) (fun i hi => ga.2 i (by omega)) (fun i hi => gb.2 i (by omega))⟩
        · by_cases o10 : x.op = 10
          · cases M with
            | zero => exact ⟨fun m hm => by rw [show m = 0 by omega]; exact aL_bd hT hX hτ j 0 hj hc, fun m hm => by omega⟩
            | succ M =>
              have nj := nj_div hT hX hτ hx o10 hc
              refine ⟨fun m hm => ?_, fun m hm => ?_⟩
              · by_cases e : m = M + 1
                · rw [e]; exact aL_bd hT hX hτ j _ hj hc
                · exact aL_bd hT hX hτ j m hj (nj m (by omega))
              · by_cases e : m = M
                · subst e
                  exact dL_div hT hX hτ hj hx o10 (by omega) (by omega) hc (both m rfl _ la) (both m rfl _ lb) (fun i hi hn => (ihM (i + 1) (by omega) j hj hn).2 i (by omega))
                · exact (ihM M (by omega) j hj (nj M (Nat.le_refl _))).2 m (by omega)
          · have hg : Good T X τ x.a.toNat M ∧ Good T X τ x.b.toNat M := by
              rw [cL_fA hT hX hτ hx h2] at hc
              by_cases o7 : x.op = 7
              · have hc' : add (cL T X τ x.a.toNat M) (cL T X τ x.b.toNat M) ≠ ent := by simpa [fA, o7, algI] using hc
                exact ⟨ihj _ la (by omega) (add_ne hc').1, ihj _ lb (by omega) (add_ne hc').2⟩
              · have o8 : x.op = 8 := by omega
                have hc' : sub (cL T X τ x.a.toNat M) (cL T X τ x.b.toNat M) ≠ ent := by simpa [fA, o8, algI] using hc
                exact ⟨ihj _ la (by omega) (sub_ne hc').1, ihj _ lb (by omega) (sub_ne hc').2⟩
            refine ⟨fun m hm => ?_, fun m hm => dL_lin hT hx (.inr (by omega)) (hg.1.2 m hm) (fun _ => hg.2.2 m hm)⟩
            have ba := hg.1.1 m hm
            have bb := hg.2.1 m hm
            by_cases o7 : x.op = 7
            · exact ⟨(ba.1.add bb.1).congr fun r => by rw [aL_fA hT hx h2]; simp [fA, o7, algR], (ba.2.add bb.2).congr fun r => by rw [aL'_fA hT hx h2]; simp [fA, o7, algR]⟩
            · have o8 : x.op = 8 := by omega
              exact ⟨(ba.1.add (Bdx.smul (-1) bb.1)).congr fun r => by rw [aL_fA hT hx h2]; simp [fA, o8, algR]; grind, (ba.2.add (Bdx.smul (-1) bb.2)).congr fun r => by rw [aL'_fA hT hx h2]; simp [fA, o8, algR]; grind⟩
theorem goodO (hte : τ ≠ ent) (hXe : ∀ i, i < T.n → atN X i ≠ ent) {i M : Nat} (hi : i < T.n) (hc : cO T X τ i M ≠ ent) : ∀ m, m < M → Dfx (T := T) (X := X) (τ := τ) (aO i m) (aO' i m) (fun r => ((m + 1 : Nat) : Rat) * aO i (m + 1) r) := by
  obtain ⟨o, ho⟩ : ∃ o, T.out[i]? = some o := ⟨T.out[i]'(by rw [hT.len]; exact hi), by simp⟩
  intro m hm
  cases m with
  | zero => exact dO_zero ho
  | succ m =>
    obtain ⟨M', rfl⟩ : ∃ M', M = M' + 1 := ⟨M - 1, by omega⟩
    rw [cO_succ hT hX hτ hi ho] at hc
    exact dO_step ho ((good_all hT hX hτ hte hXe M' o (hT.out o (List.mem_of_getElem? ho)) (mulr_ne hc)).2 m (by omega))
end
end Go.Pl

namespace Go.Pl
def pw (s : Rat) : Nat → Rat
  | 0 => 1
  | m + 1 => pw s m * s
def dpw (s : Rat) : Nat → Rat
  | 0 => 0
  | m + 1 => ((m + 1 : Nat) : Rat) * pw s m
theorem pw_nn {s : Rat} (h : 0 ≤ s) : ∀ m, 0 ≤ pw s m
  | 0 => by show (0 : Rat) ≤ 1; grind
  | m + 1 => Rat.mul_nonneg (pw_nn h m) h
theorem pw_mono {s t : Rat} (h : 0 ≤ s) (k : s ≤ t) : ∀ m, pw s m ≤ pw t m
  | 0 => Rat.le_refl
  | m + 1 => by
    show pw s m * s ≤ pw t m * t
    have h1 := Rat.mul_le_mul_of_nonneg_right (pw_mono h k m) h
    have h2 := Rat.mul_le_mul_of_nonneg_left k (pw_nn (Rat.le_trans h k) m)
    exact Rat.le_trans h1 h2
theorem pw_bn {s S : Rat} (h : 0 ≤ s) (k : s ≤ S) (m : Nat) : Bn (pw S m) (pw s m) := by
  have h1 := pw_nn h m
  have h2 := pw_mono h k m
  unfold Bn
  constructor <;> grind
theorem dpw_bn {S : Rat} (hS : 0 ≤ S) : ∀ m, ∃ W, 0 ≤ W ∧ ∀ s, 0 ≤ s → s ≤ S → Bn W (dpw s m)
  | 0 => ⟨0, by grind, fun s _ _ => Bn.zero (by grind)⟩
  | m + 1 => by
    have hp := natPos m
    exact ⟨((m + 1 : Nat) : Rat) * pw S m, Rat.mul_nonneg (Rat.le_of_lt hp) (pw_nn hS m), fun s h k => Bn.mul (by unfold Bn; constructor <;> grind) (pw_bn h k m)⟩
theorem pw_df {S : Rat} (hS : 0 ≤ S) : ∀ m, ∃ K, 0 ≤ K ∧ ∀ δ s, 0 ≤ δ → δ ≤ 4 → 0 ≤ s - δ → s ≤ S → Df K δ (pw s m) (pw (s - δ) m) (-(dpw s m))
  | 0 => ⟨0, by grind, fun δ s _ _ _ _ => by
      show Df 0 δ 1 1 (-0)
      unfold Df Bn
      constructor <;> grind⟩
  | m + 1 => by
    obtain ⟨K, k0, hK⟩ := pw_df hS m
    obtain ⟨W1, w1, hW1⟩ := dpw_bn hS m
    have hp := pw_nn hS m
    generalize hWe : W1 + pw S m + S + 1 = W
    have w0 : 0 ≤ W := by grind
    have n1 := Rat.mul_nonneg w0 w0
    have n2 := Rat.mul_nonneg (Rat.mul_nonneg (show (0 : Rat) ≤ 4 by grind) w0) k0
    have n4 := Rat.mul_nonneg w0 k0
    refine ⟨W * W + 4 * W * K + W * 0 + W * K, by grind, fun δ s d0 d4 h1 h2 => ?_⟩
    have s0 : 0 ≤ s := by grind
    have sW : s ≤ W := by grind
    have hs : Df 0 δ s (s - δ) (-1) := by
      have e : s - δ - s - δ * -1 = 0 := by grind
      have e2 : (0 : Rat) * (δ * δ) = 0 := by grind
      unfold Df
      rw [e, e2]
      exact Bn.zero (by grind)
    have h := Df.mul (W := W) d0 d4 (hK δ s d0 d4 h1 h2) hs ((pw_bn (S := S) h1 (by grind) m).mono (by grind)) (⟨by grind, sW⟩) ((hW1 s s0 h2).neg.mono (by grind)) (⟨by grind, by grind⟩)
    have e : -(dpw s m) * s + pw s m * -1 = -(dpw s (m + 1)) := by
      cases m with
      | zero =>
        show -(0 : Rat) * s + 1 * -1 = -(((0 + 1 : Nat) : Rat) * 1)
        have : ((0 + 1 : Nat) : Rat) = 1 := rfl
        rw [this]; grind
      | succ m =>
        show -(((m + 1 : Nat) : Rat) * pw s m) * s + (pw s m * s) * -1 = -(((m + 1 + 1 : Nat) : Rat) * (pw s m * s))
        rw [natCast_succ (m + 1)]
        grind
    rw [e] at h
    exact h
theorem psi_df {S W K : Rat} (hS : 0 ≤ S) (hW : 0 ≤ W) (hK : 0 ≤ K) : ∀ M, ∃ L, 0 ≤ L ∧ ∀ (δ s : Rat) (U U' : Nat → Rat), 0 ≤ δ → δ ≤ 4 → 0 ≤ s - δ → s ≤ S →
    (∀ m, m ≤ M → Bn W (U m)) → (∀ m, m ≤ M → Bn W (U' m)) → (∀ m, m < M → Df K δ (U m) (U' m) (((m + 1 : Nat) : Rat) * U (m + 1))) →
    Df L δ (sm (fun m => U m * pw s m) M) (sm (fun m => U' m * pw (s - δ) m) M) (U M * dpw s M)
  | 0 => ⟨0, by grind, fun δ s U U' _ _ _ _ _ _ _ => by
      show Df 0 δ 0 0 (U 0 * 0)
      unfold Df Bn
      constructor <;> grind⟩
  | M + 1 => by
    obtain ⟨L, l0, hL⟩ := psi_df hS hW hK M
    obtain ⟨P, p0, hP⟩ := pw_df hS M
    obtain ⟨W1, w1, hW1⟩ := dpw_bn hS M
    have hp := pw_nn hS M
    have hM := natPos M
    have hMW := Rat.mul_nonneg (Rat.le_of_lt hM) hW
    generalize hWe : W + W1 + pw S M + ((M + 1 : Nat) : Rat) * W = V
    have v0 : 0 ≤ V := by grind
    have n1 := Rat.mul_nonneg v0 v0
    have n2 := Rat.mul_nonneg (Rat.mul_nonneg (show (0 : Rat) ≤ 4 by grind) v0) hK
    have n3 := Rat.mul_nonneg v0 p0
    have n4 := Rat.mul_nonneg v0 hK
    refine ⟨L + (V * V + 4 * V * K + V * P + V * K), by grind, fun δ s U U' d0 d4 h1 h2 b b' hd => ?_⟩
    have a1 := hL δ s U U' d0 d4 h1 h2 (fun m hm => b m (by omega)) (fun m hm => b' m (by omega)) (fun m hm => hd m (by omega))
    have a2 := Df.mul (W := V) d0 d4 (hd M (by omega)) (hP δ s d0 d4 h1 h2) ((b' M (by omega)).mono (by grind)) ((pw_bn (s := s) (S := S) (by grind) h2 M).mono (by grind)) ((Bn.mul (K := ((M + 1 : Nat) : Rat)) (by unfold Bn; constructor <;> grind) (b (M + 1) (Nat.le_refl _))).mono (by grind)) ((hW1 s (by grind) h2).neg.mono (by grind))
    have a3 := a1.add a2
    have e : U M * dpw s M + (((M + 1 : Nat) : Rat) * U (M + 1) * pw s M + U M * -(dpw s M)) = U (M + 1) * dpw s (M + 1) := by
      show _ = U (M + 1) * (((M + 1 : Nat) : Rat) * pw s M)
      grind
    rw [e] at a3
    exact a3
theorem sum_err {A B : Nat → Rat} {c : Rat} : ∀ {N : Nat}, (∀ n, n < N → Bn c (A (n + 1) - A n - B n)) → Bn ((N : Rat) * c) (A N - A 0 - sm B N)
  | 0, _ => by
    have e : ((0 : Nat) : Rat) = 0 := rfl
    rw [e]
    show Bn (0 * c) (A 0 - A 0 - 0)
    unfold Bn
    constructor <;> grind
  | N + 1, h => by
    have h1 := (sum_err (N := N) fun n hn => h n (by omega)).add (h N (by omega))
    rw [natCast_succ]
    have e1 : (N : Rat) * c + c = ((N : Rat) + 1) * c := by grind
    have e2 : A N - A 0 - sm B N + (A (N + 1) - A N - B N) = A (N + 1) - A 0 - sm B (N + 1) := by
      show _ = A (N + 1) - A 0 - (sm B N + B N)
      grind
    rwa [e1, e2] at h1
theorem sum_conv {w v : Nat → Rat} {lo hi : Rat} : ∀ {N : Nat}, (∀ n, n < N → 0 ≤ w n ∧ lo ≤ v n ∧ v n ≤ hi) → lo * sm w N ≤ sm (fun n => w n * v n) N ∧ sm (fun n => w n * v n) N ≤ hi * sm w N
  | 0, _ => by
    show lo * 0 ≤ 0 ∧ 0 ≤ hi * 0
    constructor <;> grind
  | N + 1, h => by
    obtain ⟨h1, h2⟩ := sum_conv (N := N) fun n hn => h n (by omega)
    obtain ⟨k0, k1, k2⟩ := h N (by omega)
    have m1 := Rat.mul_le_mul_of_nonneg_left k1 k0
    have m2 := Rat.mul_le_mul_of_nonneg_left k2 k0
    show lo * (sm w N + w N) ≤ sm (fun n => w n * v n) N + w N * v N ∧ sm (fun n => w n * v n) N + w N * v N ≤ hi * (sm w N + w N)
    constructor <;> grind
theorem sum_tele (f : Nat → Rat) : ∀ N, sm (fun n => f n - f (n + 1)) N = f 0 - f N
  | 0 => by show (0 : Rat) = f 0 - f 0; grind
  | N + 1 => by
    show sm (fun n => f n - f (n + 1)) N + (f N - f (N + 1)) = _
    rw [sum_tele f N]; grind
end Go.Pl

namespace Go.Pl
theorem at0_nat (l : List I) (k : Nat) : at0 l (k : Int) = atN l k := by simp [at0, atN]
theorem at0_toNat (l : List I) (k : Int) : at0 l k = atN l k.toNat := rfl
theorem valsV_get (x : List I) (t : I) (L : List Ins) : ∀ j y, L[j]? = some y → (valsV L x t)[j]? = some (insV y (valsV (L.take j) x t) x t) := by
  refine snoc_ind (P := fun L => ∀ j y, L[j]? = some y → (valsV L x t)[j]? = some (insV y (valsV (L.take j) x t) x t)) (fun j y h => by simp at h) (fun L z ih j y h => ?_) L
  rw [valsV_snoc]
  rcases Nat.lt_or_ge j L.length with hj | hj
  · rw [List.getElem?_append_left hj] at h
    rw [List.getElem?_append_left (by rw [valsV_len]; exact hj), ih j y h, List.take_append_of_le_length (by omega)]
  · have hj2 : j = L.length := by
      have := (List.getElem?_eq_some_iff.1 h).1
      simp at this; omega
    subst hj2
    rw [List.getElem?_append_right (Nat.le_refl _), Nat.sub_self] at h
    simp at h
    subst h
    rw [List.getElem?_append_right (by rw [valsV_len]; omega), valsV_len, Nat.sub_self]
    simp
theorem valsV_take {x : List I} {t : I} {L : List Ins} {i j : Nat} (hi : i < j) (hj : j ≤ L.length) : atN (valsV (L.take j) x t) i = atN (valsV L x t) i := by
  have h1 : (L.take j)[i]? = some L[i] := by rw [List.getElem?_take_of_lt hi]; exact List.getElem?_eq_getElem (by omega)
  have h2 : L[i]? = some L[i] := List.getElem?_eq_getElem (by omega)
  unfold atN
  rw [valsV_get x t _ i _ h1, valsV_get x t _ i _ h2, List.take_take, Nat.min_eq_left (by omega)]
section
variable {T : Tp} {X : List I} {τ : I} (hT : tpOk T) (hX : allV X) (hτ : vB τ = true)
include hT hX hτ
theorem eval_cL : ∀ j, j < T.L.length → atN (valsV T.L X τ) j = cL T X τ j 0 := by
  intro j
  induction j using Nat.strongRecOn with
  | ind j ih =>
    intro hj
    have hx : T.L[j]? = some T.L[j] := List.getElem?_eq_getElem hj
    generalize T.L[j] = y at hx
    have hv : atN (valsV T.L X τ) j = insV y (valsV (T.L.take j) X τ) X τ := by
      have := valsV_get X τ T.L j y hx
      simp [atN, this]
    have arg : ∀ k : Int, 0 ≤ k → k < j → at0 (valsV (T.L.take j) X τ) k = cL T X τ k.toNat 0 := fun k h0 h1 => by
      rw [at0_toNat, valsV_take (by omega) (by omega)]
      exact ih k.toNat (by omega) (by omega)
    rw [hv, cL_eq hT hX hτ hx]
    rcases hT.ins j y hx with ⟨ho, _⟩ | ⟨ho, h0, h1⟩ | ho | ⟨h4, h6, a0, a1, _⟩ | ⟨h7, h10, a0, a1, b0, b1⟩
    · simp [insV, fA, ho, algI]
    · rw [if_pos ho, cO_zero (by omega)]
      simp [insV, ho, at0_toNat]
    · simp [insV, fA, ho]
    · rw [if_neg (by omega)]
      have e := arg y.a a0 a1
      have n1 : y.op ≠ 1 := by omega
      have n2 : y.op ≠ 2 := by omega
      have n3 : y.op ≠ 3 := by omega
      by_cases o4 : y.op = 4
      · simp [insV, opI, fA, o4, algI, e]
      · by_cases o5 : y.op = 5
        · simp [insV, opI, fA, o5, algI, e]
        · have o6 : y.op = 6 := by omega
          simp [insV, opI, fA, o6, algI, e]
    · rw [if_neg (by omega)]
      have e := arg y.a a0 a1
      have e2 := arg y.b b0 b1
      by_cases o7 : y.op = 7
      · simp [insV, opI, fA, o7, algI, e, e2]
      · by_cases o8 : y.op = 8
        · simp [insV, opI, fA, o8, algI, e, e2]
        · by_cases o9 : y.op = 9
          · simp [insV, opI, fA, o9, convA, sumA, e, e2]; simp [algI]
          · have o10 : y.op = 10 := by omega
            simp [insV, opI, fA, o10, algI, e, e2]
theorem evalT_cL {i o : Nat} (ho : T.out[i]? = some o) : atN (evalT T X τ) i = cL T X τ o 0 := by
  have e : atN (evalT T X τ) i = at0 (valsV T.L X τ) (o : Int) := by simp [evalT, atN, ho]
  rw [← eval_cL hT hX hτ o (hT.out o (List.mem_of_getElem? ho)), e, at0_nat]
end
def poly (T : Tp) (p : Nat) (s δ : Rat) (y : Nat → Rat) : Nat → Nat → Rat
  | 0 => y
  | n + 1 => fun i => poly T p s δ y n i + δ * rL T p (s + (n : Rat) * δ) (poly T p s δ y n) ((T.out[i]?).getD 0) 0
theorem in_subB {a b : I} {x : Rat} (ha : a ≠ ent) (h : subB a b = true) (hx : InI a x) : InI b x := by
  rcases hx with hx | ⟨h1, h2⟩
  · exact absurd hx ha
  · simp only [subB, Bool.and_eq_true, decide_eq_true_eq] at h
    have r1 : (b.1 : Rat) ≤ (a.1 : Rat) := Rat.intCast_le_intCast.2 h.1
    have r2 : (a.2 : Rat) ≤ (b.2 : Rat) := Rat.intCast_le_intCast.2 h.2
    exact .inr ⟨by grind, by grind⟩
section
variable {T : Tp} {x C : List I} {t h : Int} {p N : Nat} {θ : Rat} {y : Nat → Rat}
theorem poly_in (hT : tpOk T) (hC : allV C) (hCn : C.length = T.n) (hxn : x.length = T.n) (hτ : vB (mk t (t + h)) = true)
    (hne : ∀ i, i < T.n → atN (imageB T x C t h) i ≠ ent) (hsub : subI (imageB T x C t h) C = true) (hy : ∀ i, i < T.n → InI (atN x i) (y i))
    {s δ : Rat} (hδ : 0 ≤ δ) (hs : ∀ n : Nat, n ≤ N → InI (mk t (t + h)) (s + (n : Rat) * δ)) (hh : ∀ n : Nat, n ≤ N → InI (mk 0 h) ((n : Rat) * δ)) :
    ∀ n, n ≤ N → ∀ i, i < T.n → ∃ g, InI (atN (evalT T C (mk t (t + h))) i) g ∧ poly T p s δ y n i = y i + (n : Rat) * δ * g ∧ InI (atN (imageB T x C t h) i) (poly T p s δ y n i) := by
  have put : ∀ n, n ≤ N → ∀ i, i < T.n → ∀ g v, InI (atN (evalT T C (mk t (t + h))) i) g → v = y i + (n : Rat) * δ * g → InI (atN (imageB T x C t h) i) v := fun n hn i hi g v hg hv => by
    have e : atN (imageB T x C t h) i = imgI h (atN x i) (atN (evalT T C (mk t (t + h))) i) := by
      have : i < x.length := by omega
      simp [imageB, atN, this]
    rw [e, hv]
    exact in_add (hy i hi) (in_mul (hh n hn) hg)
  intro n
  induction n with
  | zero =>
    intro h0 i hi
    have hv : vB (atN (evalT T C (mk t (t + h))) i) = true := atN_valid (evalT_valid hT hC hτ) i
    have e0 : ((0 : Nat) : Rat) = 0 := rfl
    have e1 : poly T p s δ y 0 i = y i + ((0 : Nat) : Rat) * δ * (((atN (evalT T C (mk t (t + h))) i).1 : Rat) / 65536) := by
      rw [e0]; show y i = _; grind
    exact ⟨_, inI_num hv, e1, put 0 h0 i hi _ _ (inI_num hv) e1⟩
  | succ n ih =>
    intro hn i hi
    obtain ⟨g, hg, he, _⟩ := ih (by omega) i hi
    obtain ⟨o, ho⟩ : ∃ o, T.out[i]? = some o := ⟨T.out[i]'(by rw [hT.len]; exact hi), by simp⟩
    have hol := hT.out o (List.mem_of_getElem? ho)
    have hin : ∀ i, i < T.n → InI (atN C i) (poly T p s δ y n i) := fun i hi => by
      obtain ⟨_, _, _, h3⟩ := ih (by omega) i hi
      refine in_subB (hne i hi) ?_ h3
      have h4 := hsub
      unfold subI at h4
      rw [List.all_eq_true] at h4
      exact h4 i (List.mem_range.2 (by rw [imageB_len]; omega))
    have hf : InI (atN (evalT T C (mk t (t + h))) i) (rL T p (s + (n : Rat) * δ) (poly T p s δ y n) o 0) := by
      rw [evalT_cL hT hC hτ ho]
      exact (in_coef hT hC hτ p hin (hs n (by omega)) 0).2 o hol
    generalize hF : rL T p (s + (n : Rat) * δ) (poly T p s δ y n) o 0 = f at hf
    have e1 : poly T p s δ y (n + 1) i = poly T p s δ y n i + δ * f := by
      show poly T p s δ y n i + δ * rL T p (s + (n : Rat) * δ) (poly T p s δ y n) ((T.out[i]?).getD 0) 0 = _
      rw [ho]
      show poly T p s δ y n i + δ * rL T p (s + (n : Rat) * δ) (poly T p s δ y n) o 0 = _
      rw [hF]
    have hp := natPos n
    have hn0 : (0 : Rat) ≤ (n : Rat) := by rw [← Rat.intCast_natCast]; exact Rat.intCast_nonneg.2 (by omega)
    have ec := natCast_succ n
    have hg2 : InI (atN (evalT T C (mk t (t + h))) i) (((n : Rat) * g + f) / ((n + 1 : Nat) : Rat)) := by
      rw [ec]
      rw [ec] at hp
      rcases (Rat.le_total : g ≤ f ∨ f ≤ g) with k | k
      · refine inI_conv hg hf ?_ ?_
        · exact rdiv_le hp (by grind)
        · refine le_rdiv hp ?_
          have := Rat.mul_le_mul_of_nonneg_left k hn0
          grind
      · refine inI_conv hf hg ?_ ?_
        · refine rdiv_le hp ?_
          have := Rat.mul_le_mul_of_nonneg_left k hn0
          grind
        · exact le_rdiv hp (by grind)
    have e2 : poly T p s δ y (n + 1) i = y i + ((n + 1 : Nat) : Rat) * δ * (((n : Rat) * g + f) / ((n + 1 : Nat) : Rat)) := by
      rw [e1, he]
      rw [ec] at hp ⊢
      grind
    exact ⟨_, hg2, e2, put (n + 1) hn i hi _ _ hg2 e2⟩
end
end Go.Pl

namespace Go.Pl
theorem arch (q : Rat) : ∃ N : Nat, 1 ≤ N ∧ q ≤ (N : Rat) := by
  have h1 : q < ((q.floor + 1 : Int) : Rat) := Rat.not_le.1 fun k => by
    have := Rat.le_floor_iff.2 k
    omega
  refine ⟨(max 1 (q.floor + 1)).toNat, by omega, ?_⟩
  have h2 : (((max 1 (q.floor + 1)).toNat : Nat) : Rat) = ((max 1 (q.floor + 1) : Int) : Rat) := by
    rw [← Rat.intCast_natCast]
    congr 1
    omega
  rw [h2]
  have h3 : ((q.floor + 1 : Int) : Rat) ≤ ((max 1 (q.floor + 1) : Int) : Rat) := Rat.intCast_le_intCast.2 (by omega)
  exact Rat.le_trans (Rat.le_of_lt h1) h3
section
variable {T : Tp} {X : List I} {τ : I}
theorem Dfx_all {f f' d : Nat → StR T X τ → Rat} : ∀ {M : Nat}, (∀ m, m < M → Dfx (f m) (f' m) (d m)) → ∃ K, 0 ≤ K ∧ ∀ m, m < M → ∀ r, Df K r.δ (f m r) (f' m r) (d m r)
  | 0, _ => ⟨0, by grind, fun m hm => by omega⟩
  | M + 1, h => by
    obtain ⟨K, k0, hK⟩ := Dfx_all (M := M) fun m hm => h m (by omega)
    obtain ⟨L, l0, hL⟩ := h M (by omega)
    refine ⟨K + L, by grind, fun m hm r => ?_⟩
    by_cases e : m = M
    · subst e; exact (hL r).mono (by grind)
    · exact (hK m (by omega) r).mono (by grind)
theorem Bdx_all {f f' : Nat → StR T X τ → Rat} : ∀ {M : Nat}, (∀ m, m < M → Bdx (f m) ∧ Bdx (f' m)) → ∃ W, 0 ≤ W ∧ ∀ m, m < M → ∀ r, Bn W (f m r) ∧ Bn W (f' m r)
  | 0, _ => ⟨0, by grind, fun m hm => by omega⟩
  | M + 1, h => by
    obtain ⟨K, k0, hK⟩ := Bdx_all (M := M) fun m hm => h m (by omega)
    obtain ⟨⟨L, l0, hL⟩, ⟨L', l0', hL'⟩⟩ := h M (by omega)
    refine ⟨K + L + L', by grind, fun m hm r => ?_⟩
    by_cases e : m = M
    · subst e; exact ⟨(hL r).mono (by grind), (hL' r).mono (by grind)⟩
    · exact ⟨(hK m (by omega) r).1.mono (by grind), (hK m (by omega) r).2.mono (by grind)⟩
theorem bdO (hT : tpOk T) (hX : allV X) (hτ : vB τ = true) (hte : τ ≠ ent) (hXe : ∀ i, i < T.n → atN X i ≠ ent) {i M : Nat} (hi : i < T.n) (hc : cO T X τ i M ≠ ent) : ∀ m, m < M + 1 → Bdx (T := T) (X := X) (τ := τ) (aO i m) ∧ Bdx (T := T) (X := X) (τ := τ) (aO' i m) := by
  obtain ⟨o, ho⟩ : ∃ o, T.out[i]? = some o := ⟨T.out[i]'(by rw [hT.len]; exact hi), by simp⟩
  intro m hm
  cases m with
  | zero =>
    obtain ⟨W, w0, hW⟩ := InI_bn (hXe _ hi)
    exact ⟨⟨W, w0, fun r => hW _ (r.hy _ hi)⟩, ⟨W, w0, fun r => hW _ (r.hy' _ hi)⟩⟩
  | succ m =>
    obtain ⟨M', rfl⟩ : ∃ M', M = M' + 1 := ⟨M - 1, by omega⟩
    rw [cO_succ hT hX hτ hi ho] at hc
    have hb := (good_all hT hX hτ hte hXe M' o (hT.out o (List.mem_of_getElem? ho)) (mulr_ne hc)).1 m (by omega)
    exact ⟨(Bdx.smul (1 / ((m + 1 : Nat) : Rat)) hb.1).congr fun r => by show _ = rO T r.p r.s r.y i (m + 1); rw [rO_succ ho]; show 1 / ((m + 1 : Nat) : Rat) * rL T r.p r.s r.y o m = _; grind,
      (Bdx.smul (1 / ((m + 1 : Nat) : Rat)) hb.2).congr fun r => by show _ = rO T r.p (r.s + r.δ) r.y' i (m + 1); rw [rO_succ ho]; show 1 / ((m + 1 : Nat) : Rat) * rL T r.p (r.s + r.δ) r.y' o m = _; grind⟩
theorem sm_pw0 (f : Nat → Rat) : ∀ M, sm (fun m => f m * pw 0 m) (M + 1) = f 0
  | 0 => by show 0 + f 0 * 1 = f 0; grind
  | M + 1 => by
    show sm (fun m => f m * pw 0 m) (M + 1) + f (M + 1) * (pw 0 M * 0) = f 0
    rw [sm_pw0 f M]; grind
theorem pw_pos {s : Rat} (h : 0 < s) : ∀ m, 0 < pw s m
  | 0 => by show (0 : Rat) < 1; grind
  | m + 1 => Rat.mul_pos (pw_pos h m) h
theorem poly_taylor (hT : tpOk T) (hX : allV X) (hτ : vB τ = true) (hte : τ ≠ ent) (hXe : ∀ i, i < T.n → atN X i ≠ ent) {i M : Nat} (hi : i < T.n) (hc : cO T X τ i (M + 1) ≠ ent) {θ : Rat} (hθ : 0 < θ) :
    ∃ Q, 0 ≤ Q ∧ ∀ (N p : Nat) (δ s : Rat) (y : Nat → Rat), 0 < δ → δ ≤ 4 → (N : Rat) * δ = θ → 1 / (grid p : Rat) ≤ δ * δ →
      (∀ n, n ≤ N → (∀ i, i < T.n → InI (atN X i) (poly T p s δ y n i)) ∧ InI τ (s + (n : Rat) * δ)) →
      ∃ ρ, InI (cO T X τ i (M + 1)) ρ ∧ Bn (Q * δ) (poly T p s δ y N i - (sm (fun m => rO T p s y i m * pw θ m) (M + 1) + ρ * pw θ (M + 1))) := by
  obtain ⟨K, k0, hK⟩ := Dfx_all (goodO hT hX hτ hte hXe hi hc)
  obtain ⟨W, w0, hW⟩ := Bdx_all (bdO hT hX hτ hte hXe hi hc)
  obtain ⟨L, l0, hL⟩ := psi_df (S := θ) (Rat.le_of_lt hθ) w0 k0 (M + 1)
  obtain ⟨P, p0, hP⟩ := pw_df (S := θ) (Rat.le_of_lt hθ) (M + 1)
  have wp := Rat.mul_nonneg w0 p0
  refine ⟨θ * (L + W * P), Rat.mul_nonneg (Rat.le_of_lt hθ) (by grind), fun N p δ s y d0 d4 hN hp hin => ?_⟩
  have dn : 0 ≤ δ := Rat.le_of_lt d0
  have nn : ∀ n : Nat, (0 : Rat) ≤ (n : Rat) := fun n => by rw [← Rat.intCast_natCast]; exact Rat.intCast_nonneg.2 (by omega)
  have nle : ∀ n : Nat, n ≤ N → (n : Rat) * δ ≤ θ := fun n hn => by
    rw [← hN]
    refine Rat.mul_le_mul_of_nonneg_right ?_ dn
    rw [← Rat.intCast_natCast, ← Rat.intCast_natCast]
    exact Rat.intCast_le_intCast.2 (by omega)
  have se : ∀ n : Nat, s + (n : Rat) * δ + δ = s + ((n + 1 : Nat) : Rat) * δ := fun n => by rw [natCast_succ]; grind
  have R : ∀ n, n < N → ∃ r : StR T X τ, r.p = p ∧ r.δ = δ ∧ r.s = s + (n : Rat) * δ ∧ r.y = poly T p s δ y n ∧ r.y' = poly T p s δ y (n + 1) := fun n hn =>
    ⟨⟨p, δ, s + (n : Rat) * δ, poly T p s δ y n, poly T p s δ y (n + 1), (hin n (by omega)).1, (hin (n + 1) (by omega)).1, (hin n (by omega)).2, by rw [se]; exact (hin (n + 1) (by omega)).2, d0, d4, hp, fun i o ho => by
      show poly T p s δ y n i + δ * rL T p (s + (n : Rat) * δ) (poly T p s δ y n) ((T.out[i]?).getD 0) 0 = _
      rw [ho]; rfl⟩, rfl, rfl, rfl, rfl, rfl⟩
  obtain ⟨U, hU⟩ : ∃ U : Nat → Nat → Rat, U = fun (n m : Nat) => rO T p (s + (n : Rat) * δ) (poly T p s δ y n) i m := ⟨_, rfl⟩
  have ub : ∀ n, n < N → ∀ m, m < M + 1 + 1 → Bn W (U n m) ∧ Bn W (U (n + 1) m) := fun n hn m hm => by
    obtain ⟨r, r1, r2, r3, r4, r5⟩ := R n hn
    have := hW m hm r
    unfold aO aO' at this
    rw [r1, r2, r3, r4, r5, se] at this
    subst hU
    exact this
  have ud : ∀ n, n < N → ∀ m, m < M + 1 → Df K δ (U n m) (U (n + 1) m) (((m + 1 : Nat) : Rat) * U n (m + 1)) := fun n hn m hm => by
    obtain ⟨r, r1, r2, r3, r4, r5⟩ := R n hn
    have := hK m hm r
    unfold aO aO' at this
    rw [r1, r2, r3, r4, r5, se] at this
    subst hU
    exact this
  have sig : ∀ n : Nat, θ - (n : Rat) * δ - δ = θ - ((n + 1 : Nat) : Rat) * δ := fun n => by rw [natCast_succ]; grind
  have step : ∀ n, n < N → Bn ((L + W * P) * (δ * δ)) (sm (fun m => U (n + 1) m * pw (θ - ((n + 1 : Nat) : Rat) * δ) m) (M + 1) - sm (fun m => U n m * pw (θ - (n : Rat) * δ) m) (M + 1) - (pw (θ - (n : Rat) * δ) (M + 1) - pw (θ - ((n + 1 : Nat) : Rat) * δ) (M + 1)) * U n (M + 1)) := fun n hn => by
    have s1 : 0 ≤ θ - (n : Rat) * δ - δ := by rw [sig]; have := nle (n + 1) (by omega); grind
    have s2 : θ - (n : Rat) * δ ≤ θ := by have := Rat.mul_nonneg (nn n) dn; grind
    have a1 := hL δ (θ - (n : Rat) * δ) (U n) (U (n + 1)) dn d4 s1 s2 (fun m hm => (ub n hn m (by omega)).1) (fun m hm => (ub n hn m (by omega)).2) (ud n hn)
    have a2 := Df.smul (U n (M + 1)) (ub n hn (M + 1) (by omega)).1 (hP δ (θ - (n : Rat) * δ) dn d4 s1 s2)
    have a3 := a1.add a2
    unfold Df at a3
    rw [sig] at a3
    refine Eq.mp ?_ a3
    congr 1
    grind
  have tot := sum_err (N := N) (A := fun n => sm (fun m => U n m * pw (θ - (n : Rat) * δ) m) (M + 1)) (B := fun n => (pw (θ - (n : Rat) * δ) (M + 1) - pw (θ - ((n + 1 : Nat) : Rat) * δ) (M + 1)) * U n (M + 1)) step
  have z0 : ((0 : Nat) : Rat) = 0 := rfl
  have tele := sum_tele (fun n => pw (θ - (n : Rat) * δ) (M + 1)) N
  have eN : θ - (N : Rat) * δ = 0 := by rw [hN]; grind
  have e0 : θ - ((0 : Nat) : Rat) * δ = θ := by rw [z0]; grind
  have p00 : pw 0 (M + 1) = 0 := by show pw 0 M * 0 = 0; grind
  simp only [eN, e0, p00] at tele
  have pp := pw_pos hθ (M + 1)
  have hr : ∀ n, n < N → InI (cO T X τ i (M + 1)) (U n (M + 1)) := fun n hn => by
    subst hU
    exact (in_coef hT hX hτ p (hin n (by omega)).1 (hin n (by omega)).2 (M + 1)).1 i hi
  have conv := sum_conv (N := N) (w := fun n => pw (θ - (n : Rat) * δ) (M + 1) - pw (θ - ((n + 1 : Nat) : Rat) * δ) (M + 1)) (v := fun n => U n (M + 1)) (lo := ((cO T X τ i (M + 1)).1 : Rat) / 65536) (hi := ((cO T X τ i (M + 1)).2 : Rat) / 65536) (fun n hn => by
    have m1 := pw_mono (s := θ - ((n + 1 : Nat) : Rat) * δ) (t := θ - (n : Rat) * δ) (by have := nle (n + 1) (by omega); grind) (by rw [← sig]; grind) (M + 1)
    rcases hr n hn with h | ⟨h1, h2⟩
    · exact absurd h hc
    · exact ⟨by grind, by grind, by grind⟩)
  rw [tele] at conv
  simp only [eN, e0, sm_pw0] at tot
  generalize hS : sm (fun n => (pw (θ - (n : Rat) * δ) (M + 1) - pw (θ - ((n + 1 : Nat) : Rat) * δ) (M + 1)) * U n (M + 1)) N = S at tot conv
  refine ⟨S / pw θ (M + 1), .inr ⟨?_, ?_⟩, ?_⟩
  · have : ((cO T X τ i (M + 1)).1 : Rat) / 65536 ≤ S / pw θ (M + 1) := rdiv_le pp (by grind)
    grind
  · have : S / pw θ (M + 1) ≤ ((cO T X τ i (M + 1)).2 : Rat) / 65536 := le_rdiv pp (by grind)
    grind
  · have e1 : S / pw θ (M + 1) * pw θ (M + 1) = S := by grind
    have e2 : U N 0 = poly T p s δ y N i := by subst hU; rfl
    have e3 : sm (fun m => U 0 m * pw θ m) (M + 1) = sm (fun m => rO T p s y i m * pw θ m) (M + 1) := by
      subst hU
      refine sm_congr fun m hm => ?_
      show rO T p (s + ((0 : Nat) : Rat) * δ) y i m * _ = _
      rw [z0, show s + 0 * δ = s by grind]
    rw [e2, e3] at tot
    rw [e1]
    have e4 : (N : Rat) * ((L + W * P) * (δ * δ)) = θ * (L + W * P) * δ := by rw [← hN]; grind
    rw [e4] at tot
    refine Eq.mp ?_ tot
    congr 1
    grind
end
end Go.Pl

namespace Go.Pl
def hornR : List Rat → Rat → Rat
  | [], _ => 0
  | [a], _ => a
  | a :: r, θ => hornR r θ * θ + a
theorem horn_in {part : I} {θ : Rat} (hp : InI part θ) : ∀ {l : List I} {v : List Rat}, l.length = v.length → (∀ (i : Nat) a b, l[i]? = some a → v[i]? = some b → InI a b) → InI (hornS l part) (hornR v θ)
  | [], [], _, _ => inI_00
  | [a], [b], _, h => h 0 a b rfl rfl
  | a :: c :: l, b :: d :: v, hl, h => by
    have ih := horn_in hp (l := c :: l) (v := d :: v) (by simpa using hl) (fun (i : Nat) x y h1 h2 => h (i + 1) x y (by simpa using h1) (by simpa using h2))
    exact in_add (in_mul ih hp) (h 0 a b rfl rfl)
def sumH : List Rat → Rat → Rat
  | [], _ => 0
  | a :: r, θ => sumH r θ * θ + a
theorem hornR_snoc (a θ : Rat) : ∀ l : List Rat, hornR (l ++ [a]) θ = sumH l θ + a * pw θ l.length
  | [] => by show a = 0 + a * 1; grind
  | c :: l => by
    have ih := hornR_snoc a θ l
    have e : hornR (c :: (l ++ [a])) θ = hornR (l ++ [a]) θ * θ + c := by
      cases l with
      | nil => rfl
      | cons d l => rfl
    show hornR (c :: (l ++ [a])) θ = (sumH l θ * θ + c) + a * (pw θ l.length * θ)
    rw [e, ih]; grind
theorem sumH_snoc (a θ : Rat) : ∀ l : List Rat, sumH (l ++ [a]) θ = sumH l θ + a * pw θ l.length
  | [] => by show (0 : Rat) * θ + a = 0 + a * 1; grind
  | c :: l => by
    have ih := sumH_snoc a θ l
    show sumH (l ++ [a]) θ * θ + c = (sumH l θ * θ + c) + a * (pw θ l.length * θ)
    rw [ih]; grind
theorem sumH_range (u : Nat → Rat) (θ : Rat) : ∀ M, sumH ((List.range M).map u) θ = sm (fun m => u m * pw θ m) M
  | 0 => rfl
  | M + 1 => by
    rw [List.range_succ, List.map_append, List.map_cons, List.map_nil, sumH_snoc, sumH_range u θ M]
    simp [sm]
theorem horn_ent (part : I) : ∀ l : List I, hornS (l ++ [ent]) part = ent
  | [] => rfl
  | c :: l => by
    have ih := horn_ent part l
    have e : hornS (c :: (l ++ [ent])) part = add (mul (hornS (l ++ [ent]) part) part) c := by
      cases l with
      | nil => rfl
      | cons d l => rfl
    show hornS (c :: (l ++ [ent])) part = ent
    rw [e, ih]
    have e1 : mul ent part = ent := by unfold mul; simp [show entB ent = true from rfl]
    rw [e1]
    unfold add; simp [show entB ent = true from rfl]
theorem inter_ent {b : I} (h : vB b = true) : interB ent b = true := by
  have := vB_bounds h
  unfold interB
  rw [decide_eq_true_eq]
  show max (-2147483648) b.1 ≤ min 2147483648 b.2
  omega
theorem inter_near {a b : I} {u v : Rat} (va : vB a = true) (vb : vB b = true) (ha : InI a u) (hb : InI b v) (h : Bn (1 / 131072) (v - u)) : interB a b = true := by
  have k1 := vB_bounds va
  have k2 := vB_bounds vb
  rcases ha with ha | ⟨a1, a2⟩
  · subst ha; exact inter_ent vb
  rcases hb with hb | ⟨b1, b2⟩
  · subst hb
    unfold interB
    rw [decide_eq_true_eq]
    show max a.1 (-2147483648) ≤ min a.2 2147483648
    omega
  obtain ⟨h1, h2⟩ := h
  have l1 : b.1 ≤ a.2 := by
    by_cases k : b.1 ≤ a.2
    · exact k
    · have : ((a.2 + 1 : Int) : Rat) ≤ (b.1 : Rat) := Rat.intCast_le_intCast.2 (by omega)
      rw [Rat.intCast_add] at this
      have e : ((1 : Int) : Rat) = 1 := rfl
      rw [e] at this
      exfalso
      grind
  have l2 : a.1 ≤ b.2 := by
    by_cases k : a.1 ≤ b.2
    · exact k
    · have : ((b.2 + 1 : Int) : Rat) ≤ (a.1 : Rat) := Rat.intCast_le_intCast.2 (by omega)
      rw [Rat.intCast_add] at this
      have e : ((1 : Int) : Rat) = 1 := rfl
      rw [e] at this
      exfalso
      grind
  unfold interB
  rw [decide_eq_true_eq]
  omega
section
variable {T : Tp} {x C : List I} {t h : Int}
theorem horn_meets (hT : tpOk T) (hx : allV x) (hC : allV C) (hCn : C.length = T.n) (hxn : x.length = T.n) (hh : 0 ≤ h ∧ h ≤ 1000000000) (ht : -1000000000 ≤ t ∧ t ≤ 1000000000)
    (hb : boundedB (imageB T x C t h) = true) (hsub : subI (imageB T x C t h) C = true) {i k : Nat} (hi : i < T.n) {e : Int} (he : 0 < e ∧ e ≤ h) {part : I} (hp : InI part ((e : Rat) / 65536))
    (hv : vB (hornS ((List.range (k + 1)).map (cO T x (t, t) i) ++ [cO T (imageB T x C t h) (t, t + h) i (k + 1)]) part) = true) :
    interB (hornS ((List.range (k + 1)).map (cO T x (t, t) i) ++ [cO T (imageB T x C t h) (t, t + h) i (k + 1)]) part) (atN (imageB T x C t h) i) = true := by
  have hX : allV (imageB T x C t h) := imageB_valid hx
  have vb : vB (atN (imageB T x C t h) i) = true := atN_valid hX i
  have emk : mk t (t + h) = (t, t + h) := by unfold mk numB; rw [if_pos (by simp; omega)]
  have emk0 : mk 0 h = (0, h) := by unfold mk numB; rw [if_pos (by simp; omega)]
  have hτ : vB (t, t + h) = true := vB_pair (by omega) (by omega) (by omega)
  have hte : (t, t + h) ≠ ent := fun e => by have := congrArg Prod.fst e; simp [ent] at this; omega
  have hXe : ∀ i, i < T.n → atN (imageB T x C t h) i ≠ ent := fun i hi e => by
    unfold boundedB at hb
    rw [List.all_eq_true] at hb
    have hl : i < (imageB T x C t h).length := by rw [imageB_len]; omega
    have hm : atN (imageB T x C t h) i ∈ imageB T x C t h := by
      unfold atN
      rw [List.getElem?_eq_getElem hl]
      exact List.getElem_mem hl
    have := hb _ hm
    rw [e] at this
    exact absurd this (by decide)
  by_cases hc : cO T (imageB T x C t h) (t, t + h) i (k + 1) = ent
  · rw [hc, horn_ent]; exact inter_ent vb
  have he0 : (0 : Rat) < (e : Rat) := Rat.intCast_pos.2 he.1
  have heh : (e : Rat) ≤ (h : Rat) := Rat.intCast_le_intCast.2 he.2
  have hθ : (0 : Rat) < (e : Rat) / 65536 := by grind
  generalize hθe : (e : Rat) / 65536 = θ at *
  have hθh : θ * 65536 ≤ (h : Rat) := by grind
  obtain ⟨Q, q0, hQ⟩ := poly_taylor hT hX hτ hte hXe hi hc hθ
  obtain ⟨N, n1, hN⟩ := arch (θ * Q * 131072 + θ)
  have npos : (0 : Rat) < (N : Rat) := by rw [← Rat.intCast_natCast]; exact Rat.intCast_pos.2 (by omega)
  have hθQ := Rat.mul_nonneg (Rat.le_of_lt hθ) q0
  obtain ⟨δ, hδ⟩ : ∃ δ, δ = θ / (N : Rat) := ⟨_, rfl⟩
  have hNδ : (N : Rat) * δ = θ := by rw [hδ]; grind
  have d0 : 0 < δ := by
    rw [hδ, Rat.div_def]
    exact Rat.mul_pos hθ (Rat.inv_pos.2 npos)
  have d1 : δ ≤ 1 := by
    rw [hδ]
    refine le_rdiv npos ?_
    grind
  have dQ : Q * δ ≤ 1 / 131072 := by
    have : Q * δ = θ * Q / (N : Rat) := by rw [hδ]; grind
    rw [this]
    refine le_rdiv npos ?_
    grind
  obtain ⟨p, p1, hp2⟩ := arch (1 / (δ * δ))
  have hdd : 0 < δ * δ := Rat.mul_pos d0 d0
  have hgrid : 1 / (grid p : Rat) ≤ δ * δ := by
    have hg := grid_posR p
    have hpg : (p : Rat) ≤ (grid p : Rat) := by
      rw [← Rat.intCast_natCast]
      exact Rat.intCast_le_intCast.2 (by unfold grid; omega)
    refine le_rdiv hg ?_
    have h1 : 1 / (δ * δ) ≤ (grid p : Rat) := Rat.le_trans hp2 hpg
    have h2 := Rat.mul_le_mul_of_nonneg_left h1 (Rat.le_of_lt hdd)
    have h3 : δ * δ * (1 / (δ * δ)) = 1 := by grind
    grind
  obtain ⟨y, hy⟩ : ∃ y : Nat → Rat, y = fun i => ((atN x i).1 : Rat) / 65536 := ⟨_, rfl⟩
  have hyx : ∀ i, i < T.n → InI (atN x i) (y i) := fun i hi => by rw [hy]; exact inI_num (atN_valid hx i)
  obtain ⟨s, hs⟩ : ∃ s : Rat, s = (t : Rat) / 65536 := ⟨_, rfl⟩
  have nn : ∀ n : Nat, (0 : Rat) ≤ (n : Rat) := fun n => by rw [← Rat.intCast_natCast]; exact Rat.intCast_nonneg.2 (by omega)
  have dn : 0 ≤ δ := Rat.le_of_lt d0
  have nle : ∀ n : Nat, n ≤ N → (n : Rat) * δ ≤ θ := fun n hn => by
    rw [← hNδ]
    refine Rat.mul_le_mul_of_nonneg_right ?_ dn
    rw [← Rat.intCast_natCast, ← Rat.intCast_natCast]
    exact Rat.intCast_le_intCast.2 (by omega)
  have hst : ∀ n : Nat, n ≤ N → InI (t, t + h) (s + (n : Rat) * δ) := fun n hn => by
    have h1 := nle n hn
    have h2 := Rat.mul_nonneg (nn n) dn
    refine .inr ⟨?_, ?_⟩
    · show (t : Rat) ≤ _
      rw [hs]; grind
    · show _ ≤ ((t + h : Int) : Rat)
      rw [hs, Rat.intCast_add]; grind
  have hht : ∀ n : Nat, n ≤ N → InI (0, h) ((n : Rat) * δ) := fun n hn => by
    have h1 := nle n hn
    have h2 := Rat.mul_nonneg (nn n) dn
    refine .inr ⟨?_, ?_⟩
    · show ((0 : Int) : Rat) ≤ _
      have : ((0 : Int) : Rat) = 0 := rfl
      rw [this]; grind
    · show _ ≤ (h : Rat)
      grind
  have hin := poly_in (p := p) (N := N) (y := y) (s := s) (δ := δ) hT hC hCn hxn (by rw [emk]; exact hτ) hXe hsub hyx dn (by rw [emk]; exact hst) (by rw [emk0]; exact hht)
  obtain ⟨ρ, hρ, hbn⟩ := hQ N p δ s y d0 (by grind) hNδ hgrid (fun n hn => ⟨fun i hi => by obtain ⟨_, _, _, h3⟩ := hin n hn i hi; exact h3, hst n hn⟩)
  obtain ⟨_, _, _, hz⟩ := hin N (Nat.le_refl _) i hi
  have hcx := in_coef hT hx (t := (t, t)) (vB_pair (by omega) (by omega) (by omega)) p hyx (s := s) (by rw [hs]; exact inI_num (c := (t, t)) (vB_pair (by omega) (by omega) (by omega)))
  have hH : InI (hornS ((List.range (k + 1)).map (cO T x (t, t) i) ++ [cO T (imageB T x C t h) (t, t + h) i (k + 1)]) part) (sm (fun m => rO T p s y i m * pw θ m) (k + 1) + ρ * pw θ (k + 1)) := by
    have hl := horn_in hp (l := (List.range (k + 1)).map (cO T x (t, t) i) ++ [cO T (imageB T x C t h) (t, t + h) i (k + 1)]) (v := (List.range (k + 1)).map (fun m => rO T p s y i m) ++ [ρ]) (by simp) (fun j a b h1 h2 => by
      rcases Nat.lt_or_ge j (k + 1) with hj | hj
      · rw [List.getElem?_append_left (by simpa using hj)] at h1 h2
        simp [hj] at h1 h2
        subst h1 h2
        exact (hcx j).1 i hi
      · rw [List.getElem?_append_right (by simpa using hj)] at h1 h2
        simp at h1 h2
        have hj2 : j - (k + 1) = 0 := by
          have := (List.getElem?_eq_some_iff.1 h1).1
          simp at this; omega
        rw [hj2] at h1 h2
        simp at h1 h2
        subst h1 h2
        exact hρ)
    rw [hornR_snoc, sumH_range] at hl
    simpa using hl
  refine inter_near hv vb hH hz (hbn.mono dQ)
end
end Go.Pl

namespace Go.Pl
theorem Sb.of {a b : I} (h : subB a b = true) : Sb a b := by
  simp only [subB, Bool.and_eq_true, decide_eq_true_eq] at h
  exact ⟨h.1, h.2⟩
theorem rootI_mono {a a' : I} (va : vB a = true) (va' : vB a' = true) (ha : Sb a a') : Sb (rootI a) (rootI a') := sqrt_mono va va' ha
theorem opI_mono (o : Int) {a b a' b' : I} (va : vB a = true) (vb : vB b = true) (va' : vB a' = true) (vb' : vB b' = true) (ha : Sb a a') (hb : Sb b b') : Sb (opI o a b) (opI o a' b') := by
  unfold opI
  split
  · exact neg_mono ha
  split
  · exact sq_mono va va' ha
  split
  · exact rootI_mono va va' ha
  split
  · exact add_mono va vb va' vb' ha hb
  split
  · exact sub_mono va vb va' vb' ha hb
  split
  · exact mul_mono va vb va' vb' ha hb
  · exact div_mono va vb va' vb' ha hb
theorem insV_mono {y : Ins} {l l' X X' : List I} {t : I} (hy : y.op = 1 → vB y.c = true) (vl : allV l) (vl' : allV l') (hl : ∀ k : Int, Sb (at0 l k) (at0 l' k)) (hX : ∀ k : Int, Sb (at0 X k) (at0 X' k)) : Sb (insV y l X t) (insV y l' X' t) := by
  unfold insV
  split
  · exact Sb.refl _
  split
  · exact hX _
  split
  · exact Sb.refl _
  · exact opI_mono _ (at0_valid vl _) (at0_valid vl _) (at0_valid vl' _) (at0_valid vl' _) (hl _) (hl _)
theorem at0_snoc_mono {l l' : List I} {a a' : I} (hn : l.length = l'.length) (hl : ∀ k : Int, Sb (at0 l k) (at0 l' k)) (ha : Sb a a') (k : Int) : Sb (at0 (l ++ [a]) k) (at0 (l' ++ [a']) k) := by
  unfold at0 at *
  rcases Nat.lt_or_ge k.toNat l.length with h | h
  · rw [List.getElem?_append_left h, List.getElem?_append_left (by omega)]
    exact hl k
  · rw [List.getElem?_append_right h, List.getElem?_append_right (by omega), ← hn]
    cases k.toNat - l.length with
    | zero => simpa using ha
    | succ d => simp; exact Sb.refl _
theorem valsV_mono {X X' : List I} {t : I} (hX : allV X) (hX' : allV X') (ht : vB t = true) (h : ∀ k : Int, Sb (at0 X k) (at0 X' k)) (L : List Ins) : (∀ y ∈ L, y.op = 1 → vB y.c = true) → ∀ k : Int, Sb (at0 (valsV L X t) k) (at0 (valsV L X' t) k) := by
  refine snoc_ind (P := fun L => (∀ y ∈ L, y.op = 1 → vB y.c = true) → ∀ k : Int, Sb (at0 (valsV L X t) k) (at0 (valsV L X' t) k)) (fun _ k => Sb.refl _) (fun L y ih hc => ?_) L
  have ih' := ih fun z hz => hc z (by simp [hz])
  rw [valsV_snoc, valsV_snoc]
  exact at0_snoc_mono (by rw [valsV_len, valsV_len]) ih' (insV_mono (hc y (by simp)) (valsV_valid hX ht fun z hz => hc z (by simp [hz])) (valsV_valid hX' ht fun z hz => hc z (by simp [hz])) ih' h)
theorem evalT_mono {T : Tp} (hT : tpOk T) {X X' : List I} {t : I} (hX : allV X) (hX' : allV X') (ht : vB t = true) (h : ∀ k : Int, Sb (at0 X k) (at0 X' k)) (i : Nat) : Sb (atN (evalT T X t) i) (atN (evalT T X' t) i) := by
  unfold evalT atN
  cases ho : T.out[i]? with
  | none => simp [ho]; exact Sb.refl _
  | some o => simp [ho]; exact valsV_mono hX hX' ht h T.L hT.num o
theorem addz_l {a : I} (h : vB a = true) : add (0, 0) a = a := by
  cases he : entB a with
  | true =>
    rw [entB_iff] at he; subst he; rfl
  | false =>
    have b := entB_false h he
    unfold add
    rw [he, show entB (0, 0) = false from rfl]
    simp only [Bool.or_self, Bool.false_eq_true, if_false]
    unfold mk numB
    rw [if_pos (by simp; omega)]
    exact Prod.ext (by show 0 + a.1 = a.1; omega) (by show 0 + a.2 = a.2; omega)
theorem addz_r {a : I} (h : vB a = true) : add a (0, 0) = a := by
  have : add a (0, 0) = add (0, 0) a := by unfold add; rw [Bool.or_comm, Int.add_comm a.1, Int.add_comm a.2]
  rw [this, addz_l h]
theorem v00 : vB (0, 0) = true := by decide
theorem mul_zero_in {v : I} {h : Int} (vv : vB v = true) (hh : 0 ≤ h ∧ h ≤ 1000000000) : Sb (0, 0) (mul v (0, h)) ∧ Sb (0, 0) (mul (0, h) v) := by
  have vh : vB (0, h) = true := vB_pair (by omega) (by omega) (by omega)
  have hs : Sb (0, 0) (0, h) := ⟨Int.le_refl _, hh.1⟩
  cases he : entB v with
  | true =>
    rw [entB_iff] at he; subst he
    have e1 : mul ent (0, h) = ent := by unfold mul; simp [show entB ent = true from rfl]
    have e2 : mul (0, h) ent = ent := by unfold mul; simp [show entB ent = true from rfl]
    rw [e1, e2]
    exact ⟨Sb.ent v00, Sb.ent v00⟩
  | false =>
    have z1 : mul v (0, 0) = (0, 0) := by
      unfold mul
      rw [he, show entB (0, 0) = false from rfl]
      simp [min4, max4, ce, fl, mk, numB]
    have z2 : mul (0, 0) v = (0, 0) := by
      unfold mul
      rw [he, show entB (0, 0) = false from rfl]
      simp [min4, max4, ce, fl, mk, numB]
    have m1 := mul_mono vv v00 vv vh (Sb.refl v) hs
    have m2 := mul_mono v00 vv vh vv hs (Sb.refl v)
    rw [z1] at m1
    rw [z2] at m2
    exact ⟨m1, m2⟩
theorem horn_valid {part : I} (hp : vB part = true) : ∀ {l : List I}, allV l → vB (hornS l part) = true
  | [], _ => v00
  | [a], h => h a (by simp)
  | a :: b :: l, h => add_valid mul_valid (h a (by simp))
theorem horn_mono {p q : I} (hp : vB p = true) (hq : vB q = true) (h : Sb p q) : ∀ {l : List I}, allV l → Sb (hornS l p) (hornS l q)
  | [], _ => Sb.refl _
  | [a], _ => Sb.refl _
  | a :: b :: l, hl => by
    have hl' : allV (b :: l) := fun z hz => hl z (by simp at hz ⊢; exact .inr hz)
    have ih := horn_mono hp hq h hl'
    exact add_mono mul_valid (hl a (by simp)) mul_valid (hl a (by simp)) (mul_mono (horn_valid hp hl') hp (horn_valid hq hl') hq ih h) (Sb.refl a)
theorem horn_start {h : Int} (hh : 0 ≤ h ∧ h ≤ 1000000000) {a : I} {l : List I} (hl : allV (a :: l)) : Sb a (hornS (a :: l) (0, h)) := by
  cases l with
  | nil => exact Sb.refl _
  | cons b l =>
    have va := hl a (by simp)
    have hl' : allV (b :: l) := fun z hz => hl z (by simp at hz ⊢; exact .inr hz)
    have vh : vB (0, h) = true := vB_pair (by omega) (by omega) (by omega)
    have m := add_mono v00 va mul_valid va (mul_zero_in (horn_valid vh hl') hh).1 (Sb.refl a)
    rw [addz_l va] at m
    exact m
theorem img_start {h : Int} (hh : 0 ≤ h ∧ h ≤ 1000000000) {a q : I} (va : vB a = true) (vq : vB q = true) : Sb a (imgI h a q) := by
  have emk0 : mk 0 h = (0, h) := by unfold mk numB; rw [if_pos (by simp; omega)]
  have m := add_mono va v00 va mul_valid (Sb.refl a) (mul_zero_in vq hh).2
  rw [addz_r va] at m
  unfold imgI
  rw [emk0]
  exact m
theorem restr_sub (p q : I) : Sb (restrI p q) q := by
  unfold restrI
  split
  · exact ⟨by show q.1 ≤ max p.1 q.1; omega, by show min p.2 q.2 ≤ q.2; omega⟩
  · exact Sb.refl _
theorem restr_mono {p p' q : I} (h : Sb p p') (k : interB p q = true) (k' : interB p' q = true) : Sb (restrI p q) (restrI p' q) := by
  unfold restrI
  rw [if_pos k, if_pos k']
  have h1 := h.1
  have h2 := h.2
  exact ⟨by show max p'.1 q.1 ≤ max p.1 q.1; omega, by show min p.2 q.2 ≤ min p'.2 q.2; omega⟩
theorem restr_in {a p q : I} (h : Sb a p) (k : Sb a q) : Sb a (restrI p q) := by
  unfold restrI
  split
  · have := h.1; have := h.2; have := k.1; have := k.2
    exact ⟨by show max p.1 q.1 ≤ a.1; omega, by show a.2 ≤ min p.2 q.2; omega⟩
  · exact k
theorem encS_spec {T : Tp} {x : List I} {t h : Int} (hx : allV x) : ∀ (k : Nat) (b0 b : List I), allV b0 → b0.length = x.length → encS T x t h k b0 = some b →
    ∃ C, allV C ∧ C.length = x.length ∧ b = imageB T x C t h ∧ boundedB (imageB T x C t h) = true ∧ subI (imageB T x C t h) C = true
  | 0, b0, b, _, _, he => by simp [encS] at he
  | k + 1, b0, b, hb, hl, he => by
    have h1 := inflB_valid hb
    have h2 : (inflB b0).length = x.length := by rw [inflB_len, hl]
    simp only [encS] at he
    split at he
    · cases he
    split at he
    · cases he
    split at he
    · cases he
    rename_i hb3
    split at he
    · rename_i hs
      cases he
      exact ⟨inflB b0, h1, h2, rfl, by simpa using hb3, hs⟩
    · exact encS_spec hx k _ b (hullB_valid h1 (imageB_valid hx)) (by rw [hullB_len, h2]) he
theorem row_coef {T : Tp} {x : List I} {t : I} (hT : tpOk T) (hx : allV x) (ht : vB t = true) {i k : Nat} (hi : i < T.n) : rowN (coefS T x t k) (i : Int) = (List.range (k + 1)).map (cO T x t i) := by
  have hl : (rowN (coefS T x t k) (i : Int)).length = k + 1 := by
    have := (expS_ok hT hx ht k).2.row i hi
    simpa [coefS] using this
  refine List.ext_getElem? fun m => ?_
  rcases Nat.lt_or_ge m (k + 1) with hm | hm
  · have h1 := cO_at hT hx ht (k := k) (m := m) hi (by omega)
    have h2 : (rowN (coefS T x t k) (i : Int))[m]? = some (atN (rowN (coefS T x t k) (i : Int)) m) := by
      unfold atN
      rw [List.getElem?_eq_getElem (by rw [hl]; exact hm)]; rfl
    rw [h2]
    simp [hm]
    exact h1
  · rw [List.getElem?_eq_none (by rw [hl]; exact hm), List.getElem?_eq_none (by simpa using hm)]
theorem coefS_len {T : Tp} {x : List I} {t : I} (hT : tpOk T) (hx : allV x) (ht : vB t = true) (k : Nat) : (coefS T x t k).length = T.n := (expS_ok hT hx ht k).2.len
theorem enclAt_at {T : Tp} {x b : List I} {t h : Int} {part : I} {order i : Nat} (hT : tpOk T) (hx : allV x) (hb : allV b) (hh : 0 ≤ h ∧ h ≤ 1000000000) (ht : -1000000000 ≤ t ∧ t ≤ 1000000000) (hi : i < T.n) :
    atN (enclAt T x b t h part order) i = restrI (hornS ((List.range (order + 1)).map (cO T x (t, t) i) ++ [cO T b (t, t + h) i (order + 1)]) part) (atN b i) := by
  have v1 : vB (t, t) = true := vB_pair (by omega) (by omega) (by omega)
  have v2 : vB (t, t + h) = true := vB_pair (by omega) (by omega) (by omega)
  have l1 := coefS_len hT hx v1 order
  have l2 := coefS_len hT hb v2 (order + 1)
  have e1 : atN (remS T b t h order) i = cO T b (t, t + h) i (order + 1) := by
    rw [← cO_at hT hb v2 (k := order + 1) hi (Nat.le_refl _)]
    unfold remS
    have : (coefS T b (t, t + h) (order + 1))[i]? = some (rowN (coefS T b (t, t + h) (order + 1)) (i : Int)) := by
      unfold rowN
      rw [Int.toNat_natCast, List.getElem?_eq_getElem (by omega)]; rfl
    simp [atN, this]
    rfl
  have e2 : rowN (withRem (coefS T x (t, t) order) (remS T b t h order)) (i : Int) = (List.range (order + 1)).map (cO T x (t, t) i) ++ [cO T b (t, t + h) i (order + 1)] := by
    have hlt : i < (coefS T x (t, t) order).length := by omega
    have : rowN (withRem (coefS T x (t, t) order) (remS T b t h order)) (i : Int) = rowN (coefS T x (t, t) order) (i : Int) ++ [atN (remS T b t h order) i] := by
      simp [withRem, rowN, hlt]
    rw [this, row_coef hT hx v1 hi, e1]
  have hlw : (withRem (coefS T x (t, t) order) (remS T b t h order)).length = T.n := by simp [withRem, l1]
  have e3 : atN (evalS (withRem (coefS T x (t, t) order) (remS T b t h order)) part) i = hornS (rowN (withRem (coefS T x (t, t) order) (remS T b t h order)) (i : Int)) part := by
    have : (withRem (coefS T x (t, t) order) (remS T b t h order))[i]? = some (rowN (withRem (coefS T x (t, t) order) (remS T b t h order)) (i : Int)) := by
      unfold rowN
      rw [Int.toNat_natCast, List.getElem?_eq_getElem (by omega)]; rfl
    simp [evalS, atN, this]
  rw [← e2, ← e3]
  unfold enclAt restrB
  have hle : i < (evalS (withRem (coefS T x (t, t) order) (remS T b t h order)) part).length := by simp [evalS, hlw]; omega
  simp [atN, hle]
theorem subI_of {a b : List I} (h : ∀ i, i < a.length → Sb (atN a i) (atN b i)) : subI a b = true := by
  unfold subI
  rw [List.all_eq_true]
  intro i hi
  exact (h i (List.mem_range.1 hi)).to
theorem istepS_sound {T : Tp} {x : List I} {t h : Int} {order : Nat} {s : Sg} (hT : tpOk T) (hx : allV x) (hxn : x.length = T.n) (hh : 1 ≤ h ∧ h ≤ 1000000000) (ht : -1000000000 ≤ t ∧ t ≤ 1000000000) (hs : istepS T x t h order = some s) :
    subI s.to s.tube = true ∧ subI s.tube s.pre = true ∧ subI x s.tube = true ∧ validatesB T x s.pre t h = true := by
  have hh0 : 0 ≤ h ∧ h ≤ 1000000000 := by omega
  unfold istepS at hs
  cases hr : enclS T x t h with
  | none => rw [hr] at hs; cases hs
  | some b =>
    rw [hr] at hs
    obtain ⟨C, hC, hCn, rfl, hbd, hsub⟩ := encS_spec hx 8 _ b (hullB_valid hx (imageB_valid hx)) (by rw [hullB_len]) hr
    simp only at hs
    split at hs
    · cases hs
      have hX : allV (imageB T x C t h) := imageB_valid hx
      have hXn : (imageB T x C t h).length = T.n := by rw [imageB_len, hxn]
      have v1 : vB (t, t) = true := vB_pair (by omega) (by omega) (by omega)
      have v2 : vB (t, t + h) = true := vB_pair (by omega) (by omega) (by omega)
      have vp : vB (0, h) = true := vB_pair (by omega) (by omega) (by omega)
      have vq : vB (h, h) = true := vB_pair (by omega) (by omega) (by omega)
      have emk : mk t (t + h) = (t, t + h) := by unfold mk numB; rw [if_pos (by simp; omega)]
      have hqp : Sb (h, h) (0, h) := ⟨hh0.1, Int.le_refl _⟩
      have len : ∀ part, (enclAt T x (imageB T x C t h) t h part order).length = T.n := fun part => by
        simp [enclAt, restrB, evalS, withRem, coefS_len hT hx v1 order]
      have rowV : ∀ i, i < T.n → allV ((List.range (order + 1)).map (cO T x (t, t) i) ++ [cO T (imageB T x C t h) (t, t + h) i (order + 1)]) := fun i hi z hz => by
        rcases List.mem_append.1 hz with hz | hz
        · obtain ⟨m, hm, rfl⟩ := List.mem_map.1 hz
          exact atN_valid (rowN_valid (expS_ok hT hx v1 m).2.val _) _
        · simp at hz; subst hz
          exact atN_valid (rowN_valid (expS_ok hT hX v2 (order + 1)).2.val _) _
      have ip : InI (0, h) ((h : Rat) / 65536) := by
        have h0 : (0 : Rat) ≤ (h : Rat) := Rat.intCast_nonneg.2 hh0.1
        refine .inr ⟨?_, ?_⟩
        · show ((0 : Int) : Rat) ≤ _
          have : ((0 : Int) : Rat) = 0 := rfl
          rw [this]; grind
        · show _ ≤ (h : Rat)
          grind
      have iq : InI (h, h) ((h : Rat) / 65536) := inI_num (c := (h, h)) vq
      have mt : ∀ i, i < T.n → _ := fun i hi => horn_meets (k := order) hT hx hC (by omega) hxn hh0 ht hbd hsub hi (e := h) (by omega) ip (horn_valid vp (rowV i hi))
      have mq : ∀ i, i < T.n → _ := fun i hi => horn_meets (k := order) hT hx hC (by omega) hxn hh0 ht hbd hsub hi (e := h) (by omega) iq (horn_valid vq (rowV i hi))
      have hpre : ∀ i, i < T.n → Sb (atN x i) (atN (imageB T x C t h) i) := fun i hi => by
        have e : atN (imageB T x C t h) i = imgI h (atN x i) (atN (evalT T C (mk t (t + h))) i) := by
          have : i < x.length := by omega
          simp [imageB, atN, this]
        rw [e]
        exact img_start hh0 (atN_valid hx i) (atN_valid (evalT_valid hT hC (by rw [emk]; exact v2)) i)
      refine ⟨subI_of fun i hi => ?_, subI_of fun i hi => ?_, subI_of fun i hi => ?_, ?_⟩
      · have hi' : i < T.n := by rw [← len (h, h)]; exact hi
        show Sb (atN (enclAt T x (imageB T x C t h) t h (h, h) order) i) (atN (enclAt T x (imageB T x C t h) t h (0, h) order) i)
        rw [enclAt_at hT hx hX hh0 ht hi', enclAt_at hT hx hX hh0 ht hi']
        exact restr_mono (horn_mono vq vp hqp (rowV i hi')) (mq i hi') (mt i hi')
      · have hi' : i < T.n := by rw [← len (0, h)]; exact hi
        show Sb (atN (enclAt T x (imageB T x C t h) t h (0, h) order) i) (atN (imageB T x C t h) i)
        rw [enclAt_at hT hx hX hh0 ht hi']
        exact restr_sub _ _
      · have hi' : i < T.n := by omega
        show Sb (atN x i) (atN (enclAt T x (imageB T x C t h) t h (0, h) order) i)
        rw [enclAt_at hT hx hX hh0 ht hi']
        refine restr_in ?_ (hpre i hi')
        have e : (List.range (order + 1)).map (cO T x (t, t) i) ++ [cO T (imageB T x C t h) (t, t + h) i (order + 1)] = atN x i :: ((List.range order).map (fun m => cO T x (t, t) i (m + 1)) ++ [cO T (imageB T x C t h) (t, t + h) i (order + 1)]) := by
          rw [List.range_succ_eq_map, List.map_cons, cO_zero hi']
          simp [Function.comp_def]
        have hv := rowV i hi'
        rw [e] at hv ⊢
        exact horn_start hh0 hv
      · have hs0 : ∀ k : Int, Sb (at0 (imageB T x C t h) k) (at0 C k) := fun k => by
          rw [at0_toNat, at0_toNat]
          rcases Nat.lt_or_ge k.toNat T.n with hk | hk
          · have h4 := hsub
            unfold subI at h4
            rw [List.all_eq_true] at h4
            exact Sb.of (h4 k.toNat (List.mem_range.2 (by omega)))
          · simp [atN, List.getElem?_eq_none (show (imageB T x C t h).length ≤ k.toNat by omega), List.getElem?_eq_none (show C.length ≤ k.toNat by omega)]
            exact Sb.refl _
        have him : ∀ i, i < T.n → Sb (atN (imageB T x (imageB T x C t h) t h) i) (atN (imageB T x C t h) i) := fun i hi => by
          have hix : i < x.length := by omega
          have e : ∀ D, atN (imageB T x D t h) i = imgI h (atN x i) (atN (evalT T D (mk t (t + h))) i) := fun D => by simp [imageB, atN, hix]
          rw [e (imageB T x C t h), e C]
          have w := evalT_valid hT hX (t := mk t (t + h)) (by rw [emk]; exact v2)
          have w' := evalT_valid hT hC (t := mk t (t + h)) (by rw [emk]; exact v2)
          unfold imgI
          exact add_mono (atN_valid hx i) mul_valid (atN_valid hx i) mul_valid (Sb.refl _) (mul_mono (mk_valid hh0.1) (atN_valid w i) (mk_valid hh0.1) (atN_valid w' i) (Sb.refl _) (evalT_mono hT hX hC (by rw [emk]; exact v2) hs0 i))
        unfold validatesB
        rw [Bool.and_eq_true]
        refine ⟨?_, subI_of fun i hi => him i (by rw [imageB_len] at hi; omega)⟩
        unfold boundedB
        rw [List.all_eq_true]
        intro p hp
        obtain ⟨i, hi⟩ := List.mem_iff_getElem?.1 hp
        have hil : i < T.n := by have := (List.getElem?_eq_some_iff.1 hi).1; rw [imageB_len] at this; omega
        have e1 : p = atN (imageB T x (imageB T x C t h) t h) i := by simp [atN, hi]
        have hb2 := hbd
        unfold boundedB at hb2
        rw [List.all_eq_true] at hb2
        have hm : atN (imageB T x C t h) i ∈ imageB T x C t h := by
          unfold atN
          rw [List.getElem?_eq_getElem (by omega)]
          exact List.getElem_mem _
        have hne : atN (imageB T x C t h) i ≠ ent := fun e => by
          have := hb2 _ hm
          rw [e] at this
          exact absurd this (by decide)
        have := (him i hil).bounded (atN_valid hX i) hne
        rw [← e1] at this
        cases hp2 : entB p with
        | false => rfl
        | true => exact absurd (entB_iff.1 hp2) this
    · cases hs
end Go.Pl

namespace Go.Pl
theorem in_restr {p q : I} {v : Rat} (hp : vB p = true) (hq : vB q = true) (h : InI p v) (k : InI q v) : InI (restrI p q) v := by
  unfold restrI
  split
  · rename_i hi
    have e1 := vB_bounds hp
    have e2 := vB_bounds hq
    rcases h with rfl | ⟨h1, h2⟩
    · have : meet ent q = q := Prod.ext (by show max (-2147483648) q.1 = q.1; omega) (by show min 2147483648 q.2 = q.2; omega)
      rw [this]; exact k
    · rcases k with rfl | ⟨k1, k2⟩
      · have : meet p ent = p := Prod.ext (by show max p.1 (-2147483648) = p.1; omega) (by show min p.2 2147483648 = p.2; omega)
        rw [this]; exact .inr ⟨h1, h2⟩
      · refine .inr ⟨?_, ?_⟩
        · show ((max p.1 q.1 : Int) : Rat) ≤ _
          rcases Int.le_total p.1 q.1 with a | a
          · rw [show max p.1 q.1 = q.1 by omega]; exact k1
          · rw [show max p.1 q.1 = p.1 by omega]; exact h1
        · show _ ≤ ((min p.2 q.2 : Int) : Rat)
          rcases Int.le_total p.2 q.2 with a | a
          · rw [show min p.2 q.2 = p.2 by omega]; exact h2
          · rw [show min p.2 q.2 = q.2 by omega]; exact k2
  · exact k
theorem encl_in {T : Tp} {x b : List I} {t h : Int} {part : I} {order i : Nat} (hT : tpOk T) (hx : allV x) (hb : allV b) (hxn : x.length = T.n) (hbn : b.length = T.n) (hh : 0 ≤ h ∧ h ≤ 1000000000) (ht : -1000000000 ≤ t ∧ t ≤ 1000000000) (hp : vB part = true) (hi : i < T.n)
    {y y' : Nat → Rat} {s s' θ : Rat} (hy : ∀ i, i < T.n → InI (atN x i) (y i)) (hy' : ∀ i, i < T.n → InI (atN b i) (y' i)) (hs : InI (t, t) s) (hs' : InI (t, t + h) s') (hθ : InI part θ)
    (hpre : InI (atN b i) (hornR ((List.range (order + 1)).map (rO T 1 s y i) ++ [rO T 1 s' y' i (order + 1)]) θ)) :
    InI (atN (enclAt T x b t h part order) i) (hornR ((List.range (order + 1)).map (rO T 1 s y i) ++ [rO T 1 s' y' i (order + 1)]) θ) := by
  have v1 : vB (t, t) = true := vB_pair (by omega) (by omega) (by omega)
  have v2 : vB (t, t + h) = true := vB_pair (by omega) (by omega) (by omega)
  rw [enclAt_at hT hx hb hh ht hi]
  have c1 := fun m => (in_coef hT hx v1 1 hy hs m).1 i hi
  have c2 := fun m => (in_coef hT hb v2 1 hy' hs' m).1 i hi
  have rowV : allV ((List.range (order + 1)).map (cO T x (t, t) i) ++ [cO T b (t, t + h) i (order + 1)]) := fun z hz => by
    rcases List.mem_append.1 hz with hz | hz
    · obtain ⟨m, hm, rfl⟩ := List.mem_map.1 hz
      exact atN_valid (rowN_valid (expS_ok hT hx v1 m).2.val _) _
    · simp at hz; subst hz
      exact atN_valid (rowN_valid (expS_ok hT hb v2 (order + 1)).2.val _) _
  refine in_restr (horn_valid hp rowV) (atN_valid hb i) (horn_in hθ (by simp) fun j a b h1 h2 => ?_) hpre
  rcases Nat.lt_or_ge j (order + 1) with hj | hj
  · rw [List.getElem?_append_left (by simpa using hj)] at h1 h2
    simp [hj] at h1 h2
    subst h1; subst h2
    exact c1 j
  · rw [List.getElem?_append_right (by simpa using hj)] at h1 h2
    simp at h1 h2
    cases hk : j - (order + 1) with
    | zero => rw [hk] at h1 h2; simp at h1 h2; subst h1; subst h2; exact c2 (order + 1)
    | succ k => rw [hk] at h1; simp at h1
theorem mk_numb {a b : Int} (h1 : -2147483648 < a ∧ a < 2147483648) (h2 : -2147483648 < b ∧ b < 2147483648) : mk a b = (a, b) := by
  unfold mk numB; rw [if_pos (by simp; omega)]
theorem pre_in {T : Tp} {x pre : List I} {t h : Int} {i : Nat} (hpre : validatesB T x pre t h = true) (hi : i < x.length) (hh : 0 ≤ h ∧ h ≤ 1000000000) {u f θ : Rat} (hu : InI (atN x i) u) (hf : InI (atN (evalT T pre (mk t (t + h))) i) f) (hθ : InI (0, h) θ) :
    InI (atN pre i) (u + θ * f) := by
  unfold validatesB at hpre
  rw [Bool.and_eq_true] at hpre
  obtain ⟨h1, h2⟩ := hpre
  have e : atN (imageB T x pre t h) i = imgI h (atN x i) (atN (evalT T pre (mk t (t + h))) i) := by simp [imageB, atN, hi]
  have hm : atN (imageB T x pre t h) i ∈ imageB T x pre t h := by
    unfold atN
    rw [List.getElem?_eq_getElem (by rw [imageB_len]; exact hi)]
    exact List.getElem_mem _
  refine in_subB (a := atN (imageB T x pre t h) i) (fun e2 => ?_) ?_ ?_
  · unfold boundedB at h1
    rw [List.all_eq_true] at h1
    have := h1 _ hm
    rw [e2] at this
    exact absurd this (by decide)
  · unfold subI at h2
    rw [List.all_eq_true] at h2
    exact h2 i (List.mem_range.2 (by rw [imageB_len]; exact hi))
  · rw [e]
    unfold imgI
    rw [mk_numb (by omega) (by omega)]
    exact in_add hu (in_mul hθ hf)
structure Holds (n : Nat) (h : Int) (s : Sg) (φ : Rat → Nat → Rat) : Prop where
  tube : ∀ θ, InI (0, h) θ → ∀ i, i < n → InI (atN s.tube i) (φ θ i)
  to : ∀ θ, InI (h, h) θ → ∀ i, i < n → InI (atN s.to i) (φ θ i)
theorem holds_of {T : Tp} {x : List I} {t h : Int} {order : Nat} {s : Sg} {φ : Rat → Nat → Rat} (hT : tpOk T) (hx : allV x) (hxn : x.length = T.n) (hh : 1 ≤ h ∧ h ≤ 1000000000) (ht : -1000000000 ≤ t ∧ t ≤ 1000000000) (hs : istepS T x t h order = some s)
    {y y' : Nat → Rat} {s0 s1 : Rat} (hy : ∀ i, i < T.n → InI (atN x i) (y i)) (h0 : InI (t, t) s0) (h1 : InI (t, t + h) s1)
    (hpre : ∀ θ, InI (0, h) θ → ∀ i, i < T.n → InI (atN s.pre i) (φ θ i)) (hy' : ∀ i, i < T.n → InI (atN s.pre i) (y' i))
    (hφ : ∀ θ, InI (0, h) θ → ∀ i, i < T.n → hornR ((List.range (order + 1)).map (rO T 1 s0 y i) ++ [rO T 1 s1 y' i (order + 1)]) θ = φ θ i) : Holds T.n h s φ := by
  have hs' := hs
  unfold istepS at hs
  cases hr : enclS T x t h with
  | none => rw [hr] at hs; cases hs
  | some b =>
    rw [hr] at hs
    simp only at hs
    split at hs
    · cases hs
      simp only at hpre hy'
      have hsp : ∃ C, allV C ∧ C.length = x.length ∧ b = imageB T x C t h ∧ boundedB (imageB T x C t h) = true ∧ subI (imageB T x C t h) C = true := encS_spec hx 8 _ b (hullB_valid hx (imageB_valid hx)) (by rw [hullB_len]) hr
      obtain ⟨C, hC, hCn, rfl, hbd, hsub⟩ := hsp
      have hX : allV (imageB T x C t h) := imageB_valid hx
      have hXn : (imageB T x C t h).length = T.n := by rw [imageB_len, hxn]
      have hin : ∀ θ, InI (h, h) θ → InI (0, h) θ := fun θ hθ => in_subB (a := (h, h)) (by intro e; have := congrArg Prod.fst e; simp [ent] at this; omega) (by unfold subB; simp; omega) hθ
      refine ⟨fun θ hθ i hi => ?_, fun θ hθ i hi => ?_⟩
      · have e := hφ θ hθ i hi
        have := encl_in (order := order) hT hx hX hxn hXn (by omega) ht (part := (0, h)) (vB_pair (by omega) (by omega) (by omega)) hi hy hy' h0 h1 hθ (by rw [e]; exact hpre θ hθ i hi)
        rw [e] at this
        exact this
      · have e := hφ θ (hin θ hθ) i hi
        have := encl_in (order := order) hT hx hX hxn hXn (by omega) ht (part := (h, h)) (vB_pair (by omega) (by omega) (by omega)) hi hy hy' h0 h1 hθ (by rw [e]; exact hpre θ (hin θ hθ) i hi)
        rw [e] at this
        exact this
    · cases hs
end Go.Pl

namespace Go.Pl
def fldP (a : Int) : Tp := ⟨2, [⟨2, 1, 0, (0, 0)⟩, ⟨1, 0, 0, (a, a)⟩], [0, 1]⟩
theorem fldP_ok {a : Int} (ha : -1048576 < a ∧ a < 1048576) : tpOk (fldP a) := by
  refine ⟨fun i x hx => ?_, rfl, fun k hk => ?_, by simp [fldP]⟩
  · match i with
    | 0 => simp [fldP] at hx; subst hx; exact .inr (.inl ⟨rfl, by simp [fldP], by simp [fldP]⟩)
    | 1 => simp [fldP] at hx; subst hx; exact .inl ⟨rfl, vB_pair (by omega) (by omega) (by omega)⟩
    | i + 2 => simp [fldP] at hx
  · simp [fldP] at hk; rcases hk with rfl | rfl <;> simp [fldP]
theorem r1 (m : Nat) (h : m = 0) (x : Rat) : x / ((m + 1 : Nat) : Rat) = x := by
  subst h
  have : ((0 + 1 : Nat) : Rat) = 1 := rfl
  rw [this]; grind
theorem r0 (x : Rat) : (0 : Rat) / x = 0 := by rw [Rat.div_def, Rat.zero_mul]
section
variable {v : Int} {s : Rat} {y : Nat → Rat}
theorem fldP_rO1 {a : Int} (ha : -1048576 < a ∧ a < 1048576) (m : Nat) : rO (fldP a) 1 s y 1 m = if m = 0 then y 1 else if m = 1 then (a : Rat) / 65536 else 0 := by
  cases m with
  | zero => rw [rO_zero]; simp
  | succ m =>
    rw [rO_succ (T := fldP a) (o := 1) (by simp [fldP]), rL_eq (fldP_ok ha) (x := ⟨1, 0, 0, (a, a)⟩) (by simp [fldP])]
    cases m with
    | zero => simp [fA, algR]; exact r1 0 rfl _
    | succ m => simp [fA, algR, r0]
theorem fldP_rO0 {a : Int} (ha : -1048576 < a ∧ a < 1048576) (m : Nat) : rO (fldP a) 1 s y 0 m = if m = 0 then y 0 else if m = 1 then y 1 else if m = 2 then (a : Rat) / 65536 / 2 else 0 := by
  cases m with
  | zero => rw [rO_zero]; simp
  | succ m =>
    rw [rO_succ (T := fldP a) (o := 0) (by simp [fldP]), rL_eq (fldP_ok ha) (x := ⟨2, 1, 0, (0, 0)⟩) (by simp [fldP])]
    have e : (if (2 : Int) = 2 then rO (fldP a) 1 s y (1 : Int).toNat m else fA (algR 1) ⟨2, 1, 0, (0, 0)⟩ (rL (fldP a) 1 s y) (rL (fldP a) 1 s y 0) s m) = rO (fldP a) 1 s y 1 m := by rw [if_pos rfl]; rfl
    rw [e, fldP_rO1 ha]
    match m with
    | 0 => simp; exact r1 0 rfl _
    | 1 => simp
    | m + 2 => simp [r0]
end
theorem inI_start {h : Int} (hh : 0 ≤ h) : InI (0, h) 0 := by
  refine .inr ⟨?_, ?_⟩
  · show ((0 : Int) : Rat) ≤ _
    have : ((0 : Int) : Rat) = 0 := rfl
    rw [this]; grind
  · have : (0 : Rat) ≤ (h : Rat) := Rat.intCast_nonneg.2 hh
    show _ ≤ (h : Rat)
    grind
theorem inI_half {h : Int} {θ : Rat} (hh : 0 ≤ h ∧ h ≤ 1000000000) (hθ : InI (0, h) θ) : InI (0, h) (θ / 2) := by
  rcases hθ with e | ⟨h1, h2⟩
  · have := congrArg Prod.fst e; simp [ent] at this
  · have h0 : (0 : Rat) ≤ (h : Rat) := Rat.intCast_nonneg.2 hh.1
    have e0 : ((0 : Int) : Rat) = 0 := rfl
    simp only [e0] at h1
    refine .inr ⟨?_, ?_⟩
    · show ((0 : Int) : Rat) ≤ _
      rw [e0]; grind
    · show _ ≤ (h : Rat)
      grind
theorem inI_time {t h : Int} {θ : Rat} (hh : 0 ≤ h ∧ h ≤ 1000000000) (ht : -1000000000 ≤ t ∧ t ≤ 1000000000) (hθ : InI (0, h) θ) : InI (t, t + h) ((t : Rat) / 65536 + θ) := by
  rcases hθ with e | ⟨h1, h2⟩
  · have := congrArg Prod.fst e; simp [ent] at this
  · have e0 : ((0 : Int) : Rat) = 0 := rfl
    simp only [e0] at h1 h2
    refine .inr ⟨?_, ?_⟩
    · show (t : Rat) ≤ _
      grind
    · show _ ≤ ((t + h : Int) : Rat)
      have : ((t + h : Int) : Rat) = (t : Rat) + (h : Rat) := Rat.intCast_add _ _
      rw [this]; grind
section
variable {x : List I} {t h : Int} {order : Nat} {s : Sg} (hx : allV x) (hh : 1 ≤ h ∧ h ≤ 1000000000) (ht : -1000000000 ≤ t ∧ t ≤ 1000000000) (ho : order = 1 ∨ order = 2 ∨ order = 3)
def phiP (u w a θ : Rat) (i : Nat) : Rat := if i = 0 then u + θ * (w + θ / 2 * a) else w + θ * a
include hx hh ht ho in
theorem fldP_holds {a : Int} (ha : -1048576 < a ∧ a < 1048576) (hxn : x.length = 2) (hs : istepS (fldP a) x t h order = some s) {u w : Rat} (hu : InI (atN x 0) u) (hw : InI (atN x 1) w) : Holds 2 h s (fun θ i => phiP u w ((a : Rat) / 65536) θ i) := by
  have hT := fldP_ok ha
  obtain ⟨z1, z2, z3, z4⟩ := istepS_sound hT hx (by simpa [fldP] using hxn) hh ht hs
  have ev : evalT (fldP a) s.pre (mk t (t + h)) = [atN s.pre 1, (a, a)] := by simp [evalT, fldP, valsV, insV, at0, atN]
  have hp1 : ∀ θ, InI (0, h) θ → InI (atN s.pre 1) (w + θ * ((a : Rat) / 65536)) := fun θ hθ => pre_in z4 (by omega) (by omega) hw (by
    rw [ev]
    exact inI_num (c := (a, a)) (vB_pair (by omega) (by omega) (by omega))) hθ
  have hp0 : ∀ θ, InI (0, h) θ → InI (atN s.pre 0) (u + θ * (w + θ / 2 * ((a : Rat) / 65536))) := fun θ hθ => pre_in z4 (by omega) (by omega) hu (by
    rw [ev]
    exact hp1 _ (inI_half (by omega) hθ)) hθ
  have i012 : ∀ {P : Nat → Prop}, P 0 → P 1 → ∀ i, i < 2 → P i := fun h0 h1 i hi => by
    match i, hi with
    | 0, _ => exact h0
    | 1, _ => exact h1
    | i + 2, hi => omega
  have hpre : ∀ θ, InI (0, h) θ → ∀ i, i < 2 → InI (atN s.pre i) (phiP u w ((a : Rat) / 65536) θ i) := fun θ hθ => i012 (hp0 θ hθ) (hp1 θ hθ)
  have h0 := hpre 0 (inI_start (by omega))
  refine holds_of (T := fldP a) (y := fun i => if i = 0 then u else w) (y' := phiP u w ((a : Rat) / 65536) 0) (s0 := (t : Rat) / 65536) (s1 := (t : Rat) / 65536) hT hx (by simpa [fldP] using hxn) hh ht hs (i012 (P := fun i => InI (atN x i) (if i = 0 then u else w)) hu hw) (inI_num (c := (t, t)) (vB_pair (by omega) (by omega) (by omega)))
    (by have := inI_time (by omega) ht (inI_start (h := h) (by omega)); rwa [Rat.add_zero] at this) hpre h0 (fun θ hθ => i012 ?_ ?_)
  · rcases ho with rfl | rfl | rfl <;> (simp only [fldP_rO0 ha]; simp [List.range_succ, hornR, fldP_rO0 ha, phiP]; grind)
  · rcases ho with rfl | rfl | rfl <;> (simp only [fldP_rO1 ha]; simp [List.range_succ, hornR, fldP_rO1 ha, phiP]; grind)
end
end Go.Pl

namespace Go.Pl
theorem cands_ge {c : Ct} (hl : 1 ≤ c.least) : ∀ (k : Nat) {h : Int}, 1 ≤ h → h.toNat ≤ k → ∀ g ∈ cands c h, g = h ∨ c.least ≤ g
  | 0, h, h1, hk, g, hg => by omega
  | k + 1, h, h1, hk, g, hg => by
    rw [cands_cons hl h1] at hg
    rcases List.mem_cons.1 hg with rfl | hg
    · exact .inl rfl
    · split at hg
      · cases hg
      · rename_i hd
        have e := tdiv2 (h := h) (by omega)
        rcases cands_ge hl k (h := h.tdiv 2) (by omega) (by omega) g hg with r | r
        · right; omega
        · exact .inr r
theorem cands_small {c : Ct} (hl : 1 ≤ c.least ∧ c.least ≤ 2048) : ∀ (k : Nat) {h : Int}, 1 ≤ h → h.toNat ≤ k → ∃ g ∈ cands c h, 1 ≤ g ∧ g ≤ h ∧ g ≤ 4096
  | 0, h, h1, hk => by omega
  | k + 1, h, h1, hk => by
    rw [cands_cons hl.1 h1]
    by_cases h4 : h ≤ 4096
    · exact ⟨h, by simp, h1, Int.le_refl _, h4⟩
    · have e := tdiv2 (h := h) (by omega)
      rw [if_neg (by omega)]
      obtain ⟨g, hg, a, b, d⟩ := cands_small hl k (h := h.tdiv 2) (by omega) (by omega)
      exact ⟨g, by simp [hg], a, by omega, d⟩
theorem mem_atN {b : List I} {i : Nat} (h : i < b.length) : atN b i ∈ b := by
  unfold atN; rw [List.getElem?_eq_getElem h]; exact List.getElem_mem _
section
variable {T : Tp} {x b : List I} {t h : Int} {c : Ct} (hT : tpOk T) (hx : allV x) (hxn : x.length = T.n) (hh : 0 ≤ h ∧ h ≤ 1000000000) (ht : -1000000000 ≤ t ∧ t ≤ 1000000000)
include hT hx hh ht in
theorem encl_sb (hb : allV b) (hbl : b.length = T.n) {part : I} {order : Nat} : ∀ p ∈ enclAt T x b t h part order, ∃ q ∈ b, Sb p q := by
  intro p hp
  have hl := (enclAt_okL (part := part) (order := order) hT hx hb hh ht).2
  obtain ⟨i, hi⟩ := List.mem_iff_getElem?.1 hp
  have hlt : i < T.n := by have := (List.getElem?_eq_some_iff.1 hi).1; omega
  have e : p = atN (enclAt T x b t h part order) i := by simp [atN, hi]
  refine ⟨atN b i, mem_atN (by omega), ?_⟩
  rw [e, enclAt_at hT hx hb hh ht hlt]
  exact restr_sub _ _
include hT hx hxn hh ht in
theorem acc_some (he : enclS T x t h = some b) (hb : ∀ p ∈ b, p ≠ ent ∧ p.2 - p.1 ≤ c.wide) : ∃ s, accS T x c t h = some s := by
  obtain ⟨hbv, hbl⟩ := enclS_okL hx he
  have hk : ∀ part order, ∀ p ∈ enclAt T x b t h part order, entB p = false ∧ p.2 - p.1 ≤ c.wide := fun part order p hp => by
    obtain ⟨q, hq, hs⟩ := encl_sb hT hx hh ht hbv (by omega) p hp
    obtain ⟨h1, h2⟩ := hb q hq
    have := hs.bounded (hbv q hq) h1
    refine ⟨?_, by have := hs.1; have := hs.2; omega⟩
    cases hp2 : entB p with
    | false => rfl
    | true => exact absurd (entB_iff.1 hp2) this
  have hB : ∀ part order, boundedB (enclAt T x b t h part order) = true := fun part order => by
    unfold boundedB; rw [List.all_eq_true]; intro p hp; simp [(hk part order p hp).1]
  have hN : ∀ part order, narrowB c.wide (enclAt T x b t h part order) = true := fun part order => by
    unfold narrowB; rw [List.all_eq_true]; intro p hp; simpa using (hk part order p hp).2
  unfold accS istepS
  rw [he]
  simp only [hB, hN, Bool.and_self, if_true]
  exact ⟨_, rfl⟩
include hT hx hh ht in
theorem acc_inv {s : Sg} (hs : accS T x c t h = some s) : istepS T x t h c.order.toNat = some s ∧ ∃ b, enclS T x t h = some b ∧ s.to.length = T.n ∧ ∀ i, i < T.n → Sb (atN s.to i) (atN b i) := by
  have hi : istepS T x t h c.order.toNat = some s := by
    unfold accS at hs
    split at hs
    · rename_i s' h'
      split at hs
      · cases hs; exact h'
      · cases hs
    · cases hs
  refine ⟨hi, ?_⟩
  have hi2 := hi
  unfold istepS at hi2
  cases he : enclS T x t h with
  | none => rw [he] at hi2; cases hi2
  | some b =>
    rw [he] at hi2
    obtain ⟨hbv, hbl⟩ := enclS_okL hx he
    simp only at hi2
    split at hi2
    · cases hi2
      refine ⟨b, rfl, (enclAt_okL hT hx hbv hh ht).2, fun i hi => ?_⟩
      simp only
      rw [enclAt_at hT hx hbv hh ht hi]
      exact restr_sub _ _
    · cases hi2
end
theorem int_good {T : Tp} {c : Ct} {last : Int} (hT : tpOk T) (Good : List I → Int → Prop) (hcl : c.least = 1024) (hcm : c.most = 16384) (hg : ∀ x t, Good x t → allV x ∧ x.length = T.n)
    (hs : ∀ x t g, Good x t → t < last → 1 ≤ g → g ≤ 4096 → t + g ≤ last → ∃ s, accS T x c t g = some s)
    (hp : ∀ x t g s, Good x t → t < last → 1 ≤ g → g ≤ 16384 → t + g ≤ last → accS T x c t g = some s → Good s.to (t + g)) :
    ∀ (n : Nat) (x : List I) (t h : Int), hzOk c t last → Good x t → t ≤ last → last - t ≤ 1024 * n → 1 ≤ h → h ≤ 16384 → (1024 ≤ h ∨ last - t ≤ h) → ∃ l, intS T c last n x t h = .ok l := by
  intro n
  induction n with
  | zero => intro x t h k hG htl hn h1 h2 h3; exact ⟨[], intS_end (by omega)⟩
  | succ n ih =>
    intro x t h k hG htl hn h1 h2 h3
    by_cases ht : t < last
    · obtain ⟨hx, hxn⟩ := hg x t hG
      have hw := k.rq ht (h := h) (by omega)
      have hf : firstH ⟨c, t, last, h⟩ = min h (last - t) := rfl
      obtain ⟨g, hgm, g1, g2, g3⟩ := cands_small (c := c) (by omega) (firstH ⟨c, t, last, h⟩).toNat (h := firstH ⟨c, t, last, h⟩) (by omega) (Nat.le_refl _)
      obtain ⟨s0, hs0⟩ := hs x t g hG ht g1 g3 (by omega)
      cases ha : advS T x ⟨c, t, last, h⟩ with
      | none =>
        exfalso
        unfold advS at ha
        rw [List.findSome?_eq_none_iff] at ha
        have := ha g hgm
        simp only at this
        rw [hs0] at this
        cases this
      | some s =>
        obtain ⟨a1, a2, a3, a4, a5⟩ := advS_ok hT hx hxn hw ha
        have hst : s.t = t := a5.ht
        have hge := cands_ge (c := c) (by omega) (firstH ⟨c, t, last, h⟩).toNat (h := firstH ⟨c, t, last, h⟩) (by omega) (Nat.le_refl _) s.h a1
        have hG' := hp x t s.h s hG ht a2 (by omega) (by omega) a4
        have hnx : nxS ⟨c, t, last, h⟩ s = min (2 * (if s.h = firstH ⟨c, t, last, h⟩ then h else s.h)) 16384 := by unfold nxS growS; rw [hcm]
        rw [← hst] at hG'
        obtain ⟨l, hl⟩ := ih s.to (s.t + s.h) (nxS ⟨c, t, last, h⟩ s) (k.step (by omega) (by omega)) hG' (by omega) (by omega) (by rw [hnx]; split <;> omega) (by rw [hnx]; split <;> omega) (by rw [hnx]; split <;> omega)
        exact ⟨s :: l, by rw [intS_some ht ha, hl]; rfl⟩
    · exact ⟨[], intS_end ht⟩
end Go.Pl

namespace Go.Pl
def loQ (m : Int) : Int := min 0 m / 65536
def hiQ (m : Int) : Int := -((-(max 0 m)) / 65536)
def imQ (h : Int) (p f : I) : I := (p.1 + loQ (h * f.1), p.2 + hiQ (h * f.2))
theorem hf_b {h f F : Int} (hh : 0 ≤ h ∧ h ≤ 16384) (hf : -F ≤ f ∧ f ≤ F) : -(h * F) ≤ h * f ∧ h * f ≤ h * F := by
  have h1 := Int.mul_le_mul_of_nonneg_left hf.2 hh.1
  have h2 := Int.mul_le_mul_of_nonneg_left hf.1 hh.1
  rw [Int.mul_neg] at h2
  omega
theorem imgI_Q {h : Int} {p f : I} (hh : 0 ≤ h ∧ h ≤ 16384) (hf : -16777216 ≤ f.1 ∧ f.1 ≤ f.2 ∧ f.2 ≤ 16777216) (hp : -1000000000 ≤ p.1 ∧ p.1 ≤ p.2 ∧ p.2 ≤ 1000000000) : imgI h p f = imQ h p f := by
  obtain ⟨f1, f2⟩ := f
  obtain ⟨p1, p2⟩ := p
  simp only at hf hp
  have b1 := hf_b (f := f1) (F := 16777216) hh (by omega)
  have b2 := hf_b (f := f2) (F := 16777216) hh (by omega)
  have b3 := Int.mul_le_mul_of_nonneg_left hf.2.1 hh.1
  have b4 : h * 16777216 ≤ 274877906944 := by omega
  have emk : mk 0 h = (0, h) := by unfold mk numB; rw [if_pos (by simp; omega)]
  have e1 : entB (0, h) = false := by unfold entB; simp
  have e2 : entB (f1, f2) = false := by unfold entB; simp; omega
  have f' : ∀ x : Int, fl x 65536 = x / 65536 := fun x => by unfold fl; rw [if_neg (by decide)]
  have g' : ∀ x : Int, ce x 65536 = -((-x) / 65536) := fun x => by unfold ce; rw [f']
  have hm : mul (0, h) (f1, f2) = (loQ (h * f1), hiQ (h * f2)) := by
    unfold mul
    rw [e1, e2]
    simp only [Bool.or_self, if_false, Bool.false_eq_true, Int.zero_mul, f', g']
    generalize h * f1 = m1 at *
    generalize h * f2 = m2 at *
    have n1 : min4 0 0 m1 m2 = min 0 m1 := by unfold min4; omega
    have n2 : max4 0 0 m1 m2 = max 0 m2 := by unfold max4; omega
    rw [n1, n2]
    unfold mk numB loQ hiQ
    rw [if_pos (by simp; omega)]
  unfold imgI imQ
  rw [emk, hm]
  simp only
  generalize h * f1 = m1 at *
  generalize h * f2 = m2 at *
  have l1 : -4194305 ≤ loQ m1 ∧ loQ m1 ≤ 0 := by unfold loQ; omega
  have l2 : 0 ≤ hiQ m2 ∧ hiQ m2 ≤ 4194305 := by unfold hiQ; omega
  unfold add
  have e3 : entB (p1, p2) = false := by unfold entB; simp; omega
  have e4 : entB (loQ m1, hiQ m2) = false := by unfold entB; simp; omega
  rw [e3, e4]
  unfold mk numB
  simp only [Bool.or_self, Bool.false_eq_true, if_false]
  rw [if_pos (by simp; omega)]
theorem imQ_b {h F : Int} {p f : I} (hh : 0 ≤ h ∧ h ≤ 16384) (hf : -F ≤ f.1 ∧ f.1 ≤ f.2 ∧ f.2 ≤ F) : (imQ h p f).1 ≤ p.1 ∧ p.2 ≤ (imQ h p f).2 ∧ p.1 * 65536 - h * F - 65535 ≤ (imQ h p f).1 * 65536 ∧ (imQ h p f).2 * 65536 ≤ p.2 * 65536 + h * F + 65535 := by
  have b1 := hf_b (f := f.1) (F := F) hh (by omega)
  have b2 := hf_b (f := f.2) (F := F) hh (by omega)
  have b0 : 0 ≤ h * F := Int.mul_nonneg hh.1 (by omega)
  unfold imQ loQ hiQ
  simp only
  generalize h * f.1 = m1 at *
  generalize h * f.2 = m2 at *
  generalize h * F = m at *
  omega
theorem inflI_Q {p : I} (hp : -1000000000 ≤ p.1 ∧ p.1 ≤ p.2 ∧ p.2 ≤ 1000000000) : inflI p = (p.1 - ((p.2 - p.1) / 16 + 1), p.2 + ((p.2 - p.1) / 16 + 1)) := by
  unfold inflI mk numB
  rw [if_pos (by simp; omega)]
theorem bnd {p : I} (hp : -2147483648 < p.1 ∧ p.2 < 2147483648) : entB p = false ∧ p ≠ ent := by
  have h : entB p = false := by unfold entB; simp; omega
  exact ⟨h, fun e => by rw [e] at h; exact absurd h (by decide)⟩
end Go.Pl

namespace Go.Pl
structure Thru (n : Nat) (Φ : Int → Nat → Rat) (s : Sg) : Prop where
  frm : ∀ i, i < n → InI (atN s.frm i) (Φ s.t i)
  tube : ∀ τ, s.t ≤ τ → τ ≤ s.t + s.h → ∀ i, i < n → InI (atN s.tube i) (Φ τ i)
  to : ∀ i, i < n → InI (atN s.to i) (Φ (s.t + s.h) i)
theorem thru_chain {n : Nat} {Φ : Int → Nat → Rat} {Q : List I → Int → Sg → Prop} (hs : ∀ x t s, Q x t s → (∀ i, i < n → InI (atN x i) (Φ t i)) → Thru n Φ s) : ∀ {l : List Sg} {x : List I} {t : Int}, Chn Q x t l → (∀ i, i < n → InI (atN x i) (Φ t i)) → ∀ s ∈ l, Thru n Φ s
  | [], _, _, _, _, s, h => by cases h
  | a :: l, x, t, hc, h0, s, h => by
    have ha := hs x t a hc.1 h0
    rcases List.mem_cons.1 h with rfl | h
    · exact ha
    · exact thru_chain hs hc.2 ha.to s h
theorem at_thru {n : Nat} {Φ : Int → Nat → Rat} {l : List Sg} {t τ : Int} {b : List I} (hc : Ctg t l) (h : ∀ s ∈ l, Thru n Φ s) (ha : atS l τ = some b) : ∀ i, i < n → InI (atN b i) (Φ τ i) := by
  obtain ⟨s, hs, h1, h2, h3⟩ := atS_cases hc ha
  have k := h s hs
  rcases h3 with ⟨e, rfl⟩ | ⟨e, rfl⟩ | rfl
  · subst e; exact k.frm
  · subst e; exact k.to
  · exact k.tube τ h1 h2
theorem th_in {t h τ : Int} (h1 : t ≤ τ) (h2 : τ ≤ t + h) : InI (0, h) (((τ : Rat) - t) / 65536) := by
  right
  have e : ((τ : Rat) - t) / 65536 * 65536 = ((τ - t : Int) : Rat) := by rw [Rat.intCast_sub]; grind
  rw [e]
  exact ⟨Rat.intCast_le_intCast.2 (by omega), Rat.intCast_le_intCast.2 (by omega)⟩
theorem th_end {t h : Int} : InI (h, h) ((((t + h : Int) : Rat) - t) / 65536) := by
  right
  have e : (((t + h : Int) : Rat) - t) / 65536 * 65536 = ((h : Int) : Rat) := by rw [Rat.intCast_add]; grind
  rw [e]
  exact ⟨Rat.le_refl, Rat.le_refl⟩
theorem thru_of {n : Nat} {φ : Rat → Nat → Rat} {Φ : Int → Nat → Rat} {s : Sg} {t h : Int} (ht : s.t = t) (hh : s.h = h) (k : Holds n h s φ) (h0 : ∀ i, i < n → InI (atN s.frm i) (Φ t i)) (he : ∀ τ : Int, ∀ i, i < n → φ (((τ : Rat) - t) / 65536) i = Φ τ i) : Thru n Φ s := by
  refine ⟨by rw [ht]; exact h0, fun τ h1 h2 i hi => ?_, fun i hi => ?_⟩
  · have := k.tube _ (th_in (t := t) (h := h) (τ := τ) (by omega) (by omega)) i hi
    rwa [he τ i hi] at this
  · have := k.to _ (th_end (t := t) (h := h)) i hi
    rw [he (t + h) i hi] at this
    rw [ht, hh]; exact this
end Go.Pl

namespace Go.Pl
theorem Chn.memb {Q R : List I → Int → Sg → Prop} : ∀ {l : List Sg} {x : List I} {t : Int}, (∀ x t s, s ∈ l → Q x t s → R x t s) → Chn Q x t l → Chn R x t l
  | [], _, _, _, _ => trivial
  | s :: l, _, _, h, hc => ⟨h _ _ _ (by simp) hc.1, hc.2.memb (fun x t r hr => h x t r (by simp [hr]))⟩
structure FlowF (T : Tp) (c : Ct) (T0 last : Int) (x : List I) (l : List Sg) : Prop where
  len : 1 ≤ l.length ∧ l.length ≤ 256
  ctg : Ctg T0 l
  fin : endT T0 l = last
  chn : Chn (fun x t s => StOk T c last x t s ∧ T0 ≤ t) x T0 l
  tm : ∀ s ∈ l, T0 ≤ s.t ∧ 1 ≤ s.h ∧ s.t + s.h ≤ last
  tube : ∀ s ∈ l, s.tube.length = T.n ∧ allV s.tube
  frm : ∀ s ∈ l, s.frm.length = T.n ∧ allV s.frm
  to : ∀ s ∈ l, s.to.length = T.n ∧ allV s.to
theorem flowF {T : Tp} {c : Ct} {T0 last h : Int} {x : List I} {l : List Sg} (hT : tpOk T) (k : hzOk c T0 last) (hlt : T0 < last) (hh : 1 ≤ h ∧ h ≤ 1000000000) (hx : allV x) (hxn : x.length = T.n) (hi : intS T c last 256 x T0 h = .ok l) : FlowF T c T0 last x l := by
  obtain ⟨h1, h2, h3, h4⟩ := intS_chn hT k (by omega) hh hx hxn hi
  have hc : Ctg T0 l := h2.ctg fun x t s k => ⟨k.ok.ht, k.bh.1⟩
  have hq : Chn (fun x t s => StOk T c last x t s ∧ T0 ≤ t) x T0 l := h2.memb fun x t s hs k => ⟨k, by have := (hc.ge s hs).1; have := k.ok.ht; omega⟩
  have all : ∀ s ∈ l, ∃ x t, StOk T c last x t s := fun s hs => by
    obtain ⟨i, hi1, hi2⟩ := List.getElem_of_mem hs
    exact h2.get i s (by rw [List.getElem?_eq_getElem hi1, hi2])
  refine ⟨⟨h4 hlt, h1⟩, hc, h3, hq, fun s hs => ?_, fun s hs => ?_, fun s hs => ?_, fun s hs => ?_⟩
  · have := hc.ge s hs
    omega
  · obtain ⟨x, t, k⟩ := all s hs
    exact ⟨k.ok.ntube, k.ok.vtube⟩
  · obtain ⟨x, t, k⟩ := all s hs
    rw [k.ok.hx]
    exact ⟨k.nx, k.vx⟩
  · obtain ⟨x, t, k⟩ := all s hs
    exact ⟨k.ok.nto, k.ok.vto⟩
theorem FlowF.thru {T : Tp} {c : Ct} {T0 last : Int} {x : List I} {l : List Sg} (h : FlowF T c T0 last x l) (hT : tpOk T) (hle : last ≤ T0 + 1000000) (φ : Int → (Nat → Rat) → Rat → Nat → Rat) (Φ : Int → Nat → Rat)
    (hs : ∀ x t h s u, allV x → x.length = T.n → 1 ≤ h ∧ h ≤ 1000000000 → -1000000000 ≤ t ∧ t ≤ 1000000000 → istepS T x t h c.order.toNat = some s → (∀ i, i < T.n → InI (atN x i) (u i)) → Holds T.n h s (φ t u))
    (he : ∀ t τ : Int, ∀ i, i < T.n → φ t (Φ t) (((τ : Rat) - t) / 65536) i = Φ τ i) (h0 : ∀ i, i < T.n → InI (atN x i) (Φ T0 i)) : ∀ s ∈ l, Thru T.n Φ s := by
  refine thru_chain (fun x t s k h0 => ?_) h.chn h0
  obtain ⟨k, kt⟩ := k
  have bt := k.bt
  have bh := k.bh
  obtain ⟨hi, -⟩ := acc_inv hT k.vx (by omega) (by omega) k.acc
  have hH := hs x t s.h s (Φ t) k.vx k.nx (by omega) (by omega) hi h0
  exact thru_of k.ok.ht rfl hH (by rw [k.ok.hx]; exact h0) (he t)
section
variable {c : Ct} {T0 last h : Int} {p : I} (hcl : c.least = 1024) (hcm : c.most = 16384) (hcw : c.wide = 16777216) (ho : c.order.toNat = 1 ∨ c.order.toNat = 2 ∨ c.order.toNat = 3) (k : hzOk c T0 last) (hlt : T0 < last) (hle : last ≤ T0 + 65536) (hT0 : -1048576 < T0 ∧ T0 < 1048576)
  (hp : -1052672 ≤ p.1 ∧ p.1 ≤ p.2 ∧ p.2 ≤ 1052672) (h1 : 1 ≤ h ∧ h ≤ 16384) (h2 : 1024 ≤ h ∨ last - T0 ≤ h)
theorem inI_grid {p : I} {x0 : Int} (h1 : p.1 ≤ x0) (h2 : x0 ≤ p.2) : InI p ((x0 : Rat) / 65536) := by
  right
  have e : (x0 : Rat) / 65536 * 65536 = (x0 : Rat) := by grind
  rw [e]
  exact ⟨Rat.intCast_le_intCast.2 h1, Rat.intCast_le_intCast.2 h2⟩
include hcl hcm hcw ho k hlt hle hT0 hp h1 h2 in
end
end Go.Pl

namespace Go.Proofs.YtfjjckepnkkgjaaGreatDoor.Arm
open Go.Arm Go.Pl
theorem insideB_of {p : I} {n d : Int} {r : Rat} (hd : 0 < d) (h : InI p r) (e : r * 65536 * (d : Rat) = (n : Rat)) : insideB p n d = true := by
  unfold insideB
  rcases h with rfl | ⟨a, b⟩
  · simp [ent]; omega
  · have hd' : (0 : Rat) ≤ (d : Rat) := Rat.intCast_le_intCast.2 (by omega : (0 : Int) ≤ d)
    have h1 : ((p.1 * d : Int) : Rat) ≤ (n : Rat) := by rw [Rat.intCast_mul, ← e]; exact Rat.mul_le_mul_of_nonneg_right a hd'
    have h2 : (n : Rat) ≤ ((p.2 * d : Int) : Rat) := by rw [Rat.intCast_mul, ← e]; exact Rat.mul_le_mul_of_nonneg_right b hd'
    have h1' := Rat.intCast_le_intCast.1 h1
    have h2' := Rat.intCast_le_intCast.1 h2
    simp [h1', h2']
theorem fqX_head (q : Fq) : ∃ p r, fqX q = p :: r ∧ -1052672 ≤ p.1 ∧ p.1 ≤ p.2 ∧ p.2 ≤ 1052672 := by
  have hn := (fqT_ok q).2.1
  unfold fqX nrb
  obtain ⟨m, hm⟩ : ∃ m, (fqT q).n = m + 1 := ⟨(fqT q).n - 1, by omega⟩
  rw [hm, List.range_succ_eq_map]
  have hb := nearI_bounds (((q.X)[0]?).getD (0, 0)) (w := 4096) (by decide)
  refine ⟨_, _, rfl, ?_⟩
  show -1052672 ≤ (nearI (((q.X)[0]?).getD (0, 0)) 4096).1 ∧ (nearI (((q.X)[0]?).getD (0, 0)) 4096).1 ≤ (nearI (((q.X)[0]?).getD (0, 0)) 4096).2 ∧ (nearI (((q.X)[0]?).getD (0, 0)) 4096).2 ≤ 1052672
  omega
theorem ctS_nat {o : Int} (ho : 0 ≤ o ∧ o ≤ 255) : (ctS o).order.toNat = 1 ∨ (ctS o).order.toNat = 2 ∨ (ctS o).order.toNat = 3 := by
  have h := (ctS_ok ho).2
  omega
theorem tm_b {a n : Int} (ha : 0 ≤ a) (hn : 0 < n) : 0 ≤ a.tmod n ∧ a.tmod n < n := ⟨Int.tmod_nonneg n ha, Int.tmod_lt_of_pos a hn⟩
end Go.Proofs.YtfjjckepnkkgjaaGreatDoor.Arm

namespace Go.Pl
def infB (M : Int) : Int := M * 9 / 8 + 2
def itB : Nat → Int → Int
  | 0, M => M
  | n + 1, M => itB n (infB M)
theorem infB_ge {M : Int} (h : 0 ≤ M) : M ≤ infB M := by unfold infB; omega
theorem itB_ge : ∀ {n : Nat} {M : Int}, 0 ≤ M → M ≤ itB n M
  | 0, M, _ => Int.le_refl M
  | n + 1, M, h => by
    have h1 := infB_ge h
    have h2 := itB_ge (n := n) (M := infB M) (by omega)
    show M ≤ itB n (infB M)
    omega
section
variable {a t h : Int} {p y : I} (ha : -1048576 < a ∧ a < 1048576) (hh : 0 ≤ h ∧ h ≤ 16384) (hp : -10000000 ≤ p.1 ∧ p.1 ≤ p.2 ∧ p.2 ≤ 10000000) (hy : -3000000 ≤ y.1 ∧ y.1 ≤ y.2 ∧ y.2 ≤ 3000000)
include ha hh hp hy in
theorem imageP {b0 q : I} (hq : -16777216 ≤ q.1 ∧ q.1 ≤ q.2 ∧ q.2 ≤ 16777216) : imageB (fldP a) [p, y] [b0, q] t h = [imQ h p q, imQ h y (a, a)] := by
  have e : ∀ tt, evalT (fldP a) [b0, q] tt = [q, (a, a)] := fun tt => by simp [evalT, fldP, valsV, insV, at0]
  unfold imageB
  rw [e]
  simp [List.range_succ, atN]
  exact ⟨imgI_Q hh hq (by omega), imgI_Q hh (by simp only; omega) (by omega)⟩
theorem inflI_b {q : I} {M : Int} (hM : M ≤ 10000000) (hq : -M ≤ q.1 ∧ q.1 ≤ q.2 ∧ q.2 ≤ M) : inflI q = (q.1 - ((q.2 - q.1) / 16 + 1), q.2 + ((q.2 - q.1) / 16 + 1)) ∧ -(infB M) ≤ (inflI q).1 ∧ (inflI q).1 < q.1 ∧ q.2 < (inflI q).2 ∧ (inflI q).2 ≤ infB M := by
  have e := inflI_Q (p := q) (by omega)
  refine ⟨e, ?_⟩
  rw [e]
  unfold infB
  simp only
  omega
theorem inflB2 (b0 q : I) : inflB [b0, q] = [inflI b0, inflI q] := by simp [inflB, List.range_succ, atN]
theorem hullB2 (a b c d : I) : hullB [a, b] [c, d] = [hull a c, hull b d] := by simp [hullB, List.range_succ, atN]
theorem hull_in {q Y : I} (h1 : q.1 ≤ Y.1) (h2 : Y.2 ≤ q.2) : hull q Y = q := by
  unfold hull
  exact Prod.ext (by show min q.1 Y.1 = _; omega) (by show max q.2 Y.2 = _; omega)
include ha hh hp hy in
theorem encP_spec : ∀ (n : Nat) (M : Int) (b0 q : I) (d : List I), 0 ≤ M → itB n M ≤ 6400000 → (-M ≤ q.1 ∧ q.1 ≤ q.2 ∧ q.2 ≤ M) → q.1 ≤ (imQ h y (a, a)).1 → (imQ h y (a, a)).2 ≤ q.2 → encS (fldP a) [p, y] t h n [b0, q] = some d →
    ∃ r : I, d = [imQ h p r, imQ h y (a, a)] ∧ -6400000 ≤ r.1 ∧ r.1 ≤ r.2 ∧ r.2 ≤ 6400000
  | 0, M, b0, q, d, _, _, _, _, _, h => by cases h
  | n + 1, M, b0, q, d, hM, hi, hq, h1, h2, he => by
    have g1 := infB_ge hM
    have g2 : infB M ≤ itB n (infB M) := itB_ge (by omega)
    have g3 : itB n (infB M) ≤ 6400000 := hi
    obtain ⟨e1, e2, e3, e4, e5⟩ := inflI_b (by omega) hq
    have hI := imageP (t := t) (b0 := inflI b0) (q := inflI q) ha hh hp hy (by omega)
    simp only [encS] at he
    rw [inflB2, hI] at he
    split at he
    · cases he
    split at he
    · cases he
    split at he
    · cases he
    split at he
    · cases he
      exact ⟨inflI q, rfl, by omega, by omega, by omega⟩
    · rw [hullB2, hull_in (q := inflI q) (by omega) (by omega)] at he
      exact encP_spec n (infB M) _ _ d (by omega) hi ⟨e2, by omega, e5⟩ (by omega) (by omega) he
theorem enclP_spec {d : List I} (ha : -1048576 < a ∧ a < 1048576) (hh : 0 ≤ h ∧ h ≤ 16384) (hp : -10000000 ≤ p.1 ∧ p.1 ≤ p.2 ∧ p.2 ≤ 10000000) (hy : -2166784 ≤ y.1 ∧ y.1 ≤ y.2 ∧ y.2 ≤ 2166784) (hY : -2166784 ≤ (imQ h y (a, a)).1 ∧ (imQ h y (a, a)).2 ≤ 2166784)
    (he : enclS (fldP a) [p, y] t h = some d) : ∃ r : I, d = [imQ h p r, imQ h y (a, a)] ∧ -6400000 ≤ r.1 ∧ r.1 ≤ r.2 ∧ r.2 ≤ 6400000 := by
  unfold enclS at he
  have hb := imQ_b (F := 1048576) (p := y) (f := (a, a)) hh (by simp only; omega)
  rw [imageP ha hh hp (by omega) (by omega), hullB2] at he
  have e : hull y (imQ h y (a, a)) = imQ h y (a, a) := by
    unfold hull
    exact Prod.ext (by show min _ _ = _; omega) (by show max _ _ = _; omega)
  rw [e] at he
  exact encP_spec ha hh hp (by omega) 8 2166784 _ _ d (by decide) (by decide) ⟨hY.1, by omega, hY.2⟩ (Int.le_refl _) (Int.le_refl _) he
theorem bounded2 {u v : I} (hu : -1000000000 ≤ u.1 ∧ u.2 ≤ 1000000000) (hv : -1000000000 ≤ v.1 ∧ v.2 ≤ 1000000000) : boundedB [u, v] = true := by
  simp [boundedB, (bnd (p := u) (by omega)).1, (bnd (p := v) (by omega)).1]
theorem enclP_some (ha : -1048576 < a ∧ a < 1048576) (hh : 0 ≤ h ∧ h ≤ 4096) (hp : -10000000 ≤ p.1 ∧ p.1 ≤ p.2 ∧ p.2 ≤ 10000000) (hy : -2166784 ≤ y.1 ∧ y.1 ≤ y.2 ∧ y.2 ≤ 2166784) (hY : -2166784 ≤ (imQ h y (a, a)).1 ∧ (imQ h y (a, a)).2 ≤ 2166784) :
    ∃ d, enclS (fldP a) [p, y] t h = some d := by
  have hb := imQ_b (F := 1048576) (p := y) (f := (a, a)) (h := h) (by omega) (by simp only; omega)
  have hI0 := imageP (t := t) (b0 := p) (q := y) (h := h) (p := p) (y := y) ha (by omega) hp (by omega) (by omega)
  have hm0 := imQ_b (F := 3000000) (p := p) (f := y) (h := h) (by omega) (by omega)
  have hI : ∀ b0 q : I, (-16777216 ≤ q.1 ∧ q.1 ≤ q.2 ∧ q.2 ≤ 16777216) → imageB (fldP a) [p, y] [b0, q] t h = [imQ h p q, imQ h y (a, a)] := fun b0 q hq => imageP ha ⟨hh.1, by omega⟩ hp ⟨by omega, by omega, by omega⟩ hq
  unfold enclS
  rw [hI0, hullB2]
  generalize hY0 : imQ h y (a, a) = Y at *
  have e0 : hull y Y = Y := by
    unfold hull
    exact Prod.ext (by show min _ _ = _; omega) (by show max _ _ = _; omega)
  have e1 : hull p (imQ h p y) = imQ h p y := by
    unfold hull
    exact Prod.ext (by show min _ _ = _; omega) (by show max _ _ = _; omega)
  rw [e0, e1]
  generalize imQ h p y = m0 at *
  obtain ⟨i1, i2, i3, i4, i5⟩ := inflI_b (M := 2166784) (q := Y) (by omega) ⟨hY.1, by omega, hY.2⟩
  have c1 : infB 2166784 = 2437634 := by decide
  rw [c1] at i2 i5
  have im0 := inflI_Q (p := m0) (by omega)
  have hIq := hI (inflI m0) (inflI Y) (by omega)
  generalize hq1 : inflI Y = q1 at *
  have hm1 := imQ_b (F := 2437634) (p := p) (f := q1) (h := h) (by omega) (by omega)
  have hwid : h * (q1.2 - q1.1) ≤ 65536 * ((imQ h p q1).2 - (imQ h p q1).1) := by
    have : h * (q1.2 - q1.1) = h * q1.2 - h * q1.1 := Int.mul_sub _ _ _
    unfold imQ loQ hiQ
    simp only
    generalize h * q1.1 = z1 at *
    generalize h * q1.2 = z2 at *
    omega
  have x1 := bounded2 (u := m0) (v := Y) (by omega) (by omega)
  have x2 := bounded2 (u := inflI m0) (v := q1) (by rw [im0]; simp only; omega) (by omega)
  have x3 := bounded2 (u := imQ h p q1) (v := Y) (by omega) (by omega)
  rw [show (8 : Nat) = 6 + 1 + 1 from rfl, encS, inflB2, hq1, hIq, if_neg (by rw [x1]; decide), if_neg (by rw [x2]; decide), if_neg (by rw [x3]; decide)]
  split
  · exact ⟨_, rfl⟩
  rw [hullB2, hull_in (q := q1) (by omega) (by omega)]
  generalize hM1 : hull (inflI m0) (imQ h p q1) = m1
  have k1 : m1.1 ≤ (imQ h p q1).1 ∧ (imQ h p q1).2 ≤ m1.2 ∧ -100000000 ≤ m1.1 ∧ m1.2 ≤ 100000000 := by
    rw [← hM1, im0]
    refine ⟨by show min _ _ ≤ _; omega, by show _ ≤ max _ _; omega, by show _ ≤ min _ _; simp only; omega, by show max _ _ ≤ _; simp only; omega⟩
  obtain ⟨j1, j2, j3, j4, j5⟩ := inflI_b (M := 2437634) (q := q1) (by omega) ⟨i2, by omega, i5⟩
  have c2 : infB 2437634 = 2742340 := by decide
  rw [c2] at j2 j5
  have im1 := inflI_Q (p := m1) (by omega)
  have hIq2 := hI (inflI m1) (inflI q1) (by omega)
  have hsub : (inflI m1).1 ≤ (imQ h p (inflI q1)).1 ∧ (imQ h p (inflI q1)).2 ≤ (inflI m1).2 := by
    rw [im1, j1]
    have d1 : h * (q1.1 - ((q1.2 - q1.1) / 16 + 1)) = h * q1.1 - h * ((q1.2 - q1.1) / 16 + 1) := Int.mul_sub _ _ _
    have d2 : h * (q1.2 + ((q1.2 - q1.1) / 16 + 1)) = h * q1.2 + h * ((q1.2 - q1.1) / 16 + 1) := Int.mul_add _ _ _
    have d3 : h * (16 * ((q1.2 - q1.1) / 16 + 1)) ≤ h * (q1.2 - q1.1 + 16) := Int.mul_le_mul_of_nonneg_left (by omega) hh.1
    have d4 : h * (q1.2 - q1.1 + 16) = h * (q1.2 - q1.1) + h * 16 := Int.mul_add _ _ _
    have d5 : h * (16 * ((q1.2 - q1.1) / 16 + 1)) = 16 * (h * ((q1.2 - q1.1) / 16 + 1)) := by rw [← Int.mul_assoc, Int.mul_comm h 16, Int.mul_assoc]
    have d6 : 0 ≤ h * ((q1.2 - q1.1) / 16 + 1) := Int.mul_nonneg hh.1 (by omega)
    have D1 : (imQ h p q1).1 = p.1 + loQ (h * q1.1) := rfl
    have D2 : (imQ h p q1).2 = p.2 + hiQ (h * q1.2) := rfl
    have D3 : (imQ h p (q1.1 - ((q1.2 - q1.1) / 16 + 1), q1.2 + ((q1.2 - q1.1) / 16 + 1))).1 = p.1 + loQ (h * (q1.1 - ((q1.2 - q1.1) / 16 + 1))) := rfl
    have D4 : (imQ h p (q1.1 - ((q1.2 - q1.1) / 16 + 1), q1.2 + ((q1.2 - q1.1) / 16 + 1))).2 = p.2 + hiQ (h * (q1.2 + ((q1.2 - q1.1) / 16 + 1))) := rfl
    rw [D3, D4, d1, d2]
    generalize h * ((q1.2 - q1.1) / 16 + 1) = e at *
    generalize h * (q1.2 - q1.1) = w at *
    generalize h * q1.1 = z1 at *
    generalize h * q1.2 = z2 at *
    simp only
    have l1 : loQ z1 - (e + 65535) / 65536 ≤ loQ (z1 - e) := by unfold loQ; omega
    have l2 : hiQ (z2 + e) ≤ hiQ z2 + (e + 65535) / 65536 := by unfold hiQ; omega
    have l3 : (e + 65535) / 65536 ≤ (m1.2 - m1.1) / 16 + 1 := by omega
    omega
  generalize hq2 : inflI q1 = q2 at *
  have hm2 := imQ_b (F := 2742340) (p := p) (f := q2) (h := h) (by omega) (by omega)
  have y1 := bounded2 (u := m1) (v := q1) (by omega) (by omega)
  have y2 := bounded2 (u := inflI m1) (v := q2) (by rw [im1]; simp only; omega) (by omega)
  have y3 := bounded2 (u := imQ h p q2) (v := Y) (by omega) (by omega)
  have y4 : subI [imQ h p q2, Y] [inflI m1, q2] = true := by
    simp [subI, List.range_succ, atN, subB]
    omega
  rw [encS, inflB2, hq2, hIq2, if_neg (by rw [y1]; decide), if_neg (by rw [y2]; decide), if_neg (by rw [y3]; decide), if_pos y4]
  exact ⟨_, rfl⟩
end
def KP (T0 t : Int) : Int := 1052672 + 100 * (t - T0)
def KY (T0 t : Int) : Int := 1052672 + 17 * (t - T0)
def Good2 (T0 last : Int) (x : List I) (t : Int) : Prop := ∃ p y : I, x = [p, y] ∧ p.1 ≤ p.2 ∧ y.1 ≤ y.2 ∧ -(KP T0 t) ≤ p.1 ∧ p.2 ≤ KP T0 t ∧ -(KY T0 t) ≤ y.1 ∧ y.2 ≤ KY T0 t ∧ T0 ≤ t ∧ t ≤ last
theorem good2_v {T0 last t : Int} {x : List I} (hT0 : last ≤ T0 + 65536) (h : Good2 T0 last x t) : allV x ∧ x.length = 2 := by
  obtain ⟨p, y, rfl, h1, h2, h3, h4, h5, h6, h7, h8⟩ := h
  unfold KP KY at *
  refine ⟨fun q hq => ?_, rfl⟩
  simp at hq
  rcases hq with rfl | rfl
  · exact vB_pair (by omega) h1 (by omega)
  · exact vB_pair (by omega) h2 (by omega)
theorem int2 {a : Int} (ha : -1048576 < a ∧ a < 1048576) {c : Ct} {T0 last : Int} (hcl : c.least = 1024) (hcm : c.most = 16384) (hcw : c.wide = 16777216) (hT0 : last ≤ T0 + 65536) (hTb : -2000000 ≤ T0 ∧ T0 ≤ 2000000)
    {x : List I} {h : Int} (k : hzOk c T0 last) (hG : Good2 T0 last x T0) (h1 : 1 ≤ h ∧ h ≤ 16384) (h2 : 1024 ≤ h ∨ last - T0 ≤ h) : ∃ l, intS (fldP a) c last 256 x T0 h = .ok l := by
  have hT := fldP_ok ha
  have hn : (fldP a).n = 2 := rfl
  have hTl : T0 ≤ last := by obtain ⟨p, y, _, _, _, _, _, _, _, _, h5⟩ := hG; exact h5
  refine int_good hT (Good2 T0 last) hcl hcm (fun x t hg => by rw [hn]; exact good2_v hT0 hg) ?_ ?_ 256 x T0 h k hG hTl (by omega) h1.1 h1.2 h2
  · intro x t g hg htl g1 g2 g3
    have hv := good2_v hT0 hg
    obtain ⟨p, y, rfl, q1, q2, q3, q4, q5, q6, q7, q8⟩ := hg
    unfold KP at q3 q4
    unfold KY at q5 q6
    have hY := imQ_b (F := 1048576) (p := y) (f := (a, a)) (h := g) (by omega) (by simp only; omega)
    obtain ⟨d, hd⟩ := enclP_some (t := t) (p := p) ha (h := g) (by omega) (by omega) (y := y) (by omega) (by omega)
    obtain ⟨r, rfl, r1, r2, r3⟩ := enclP_spec (t := t) (p := p) ha (h := g) (by omega) (by omega) (y := y) (by omega) (by omega) hd
    have hr := imQ_b (F := 6400000) (p := p) (f := r) (h := g) (by omega) (by omega)
    refine acc_some hT hv.1 (by rw [hn]; rfl) (by omega) (by omega) hd fun m hm => ?_
    generalize imQ g p r = m1 at *
    generalize imQ g y (a, a) = m2 at *
    simp at hm
    rcases hm with rfl | rfl
    · exact ⟨(bnd (by omega)).2, by rw [hcw]; omega⟩
    · exact ⟨(bnd (by omega)).2, by rw [hcw]; omega⟩
  · intro x t g s hg htl g1 g2 g3 hs
    have hv := good2_v hT0 hg
    obtain ⟨p, y, rfl, q1, q2, q3, q4, q5, q6, q7, q8⟩ := hg
    unfold KP at q3 q4
    unfold KY at q5 q6
    have hY := imQ_b (F := 1048576) (p := y) (f := (a, a)) (h := g) (by omega) (by simp only; omega)
    have hok := accS_ok hT hv.1 (by rw [hn]; rfl) (by omega) (by omega) hs
    obtain ⟨_, b, hb1, hb2, hb3⟩ := acc_inv hT hv.1 (by omega) (by omega) hs
    obtain ⟨r, rfl, r1, r2, r3⟩ := enclP_spec (t := t) (p := p) ha (h := g) (by omega) (by omega) (y := y) (by omega) (by omega) hb1
    have hr := imQ_b (F := 6400000) (p := p) (f := r) (h := g) (by omega) (by omega)
    rw [hn] at hb2 hb3
    have s0 := hb3 0 (by omega)
    have s1 := hb3 1 (by omega)
    obtain ⟨u, v, huv⟩ : ∃ u v, s.to = [u, v] := by
      match s.to, hb2 with
      | [u, v], _ => exact ⟨u, v, rfl⟩
    have uv := vB_bounds (hok.vto u (by rw [huv]; simp))
    have vv := vB_bounds (hok.vto v (by rw [huv]; simp))
    rw [huv] at s0 s1
    simp [atN] at s0 s1
    have s01 := s0.1
    have s02 := s0.2
    have s11 := s1.1
    have s12 := s1.2
    generalize imQ g p r = m1 at *
    generalize imQ g y (a, a) = m2 at *
    exact ⟨u, v, huv, uv.2.1, vv.2.1, by unfold KP; omega, by unfold KP; omega, by unfold KY; omega, by unfold KY; omega, by omega, g3⟩
def phiQ (x0 y0 a T0 τ : Int) (i : Nat) : Rat := phiP ((x0 : Rat) / 65536) ((y0 : Rat) / 65536) ((a : Rat) / 65536) (((τ : Rat) - T0) / 65536) i
theorem phiP_step {u w a τ t T : Rat} (i : Nat) : phiP (phiP u w a ((t - T) / 65536) 0) (phiP u w a ((t - T) / 65536) 1) a ((τ - t) / 65536) i = phiP u w a ((τ - T) / 65536) i := by
  unfold phiP
  split
  · simp; grind
  · simp; grind
section
variable {c : Ct} {T0 last h : Int} {p y : I} (hcl : c.least = 1024) (hcm : c.most = 16384) (hcw : c.wide = 16777216) (ho : c.order.toNat = 1 ∨ c.order.toNat = 2 ∨ c.order.toNat = 3) (k : hzOk c T0 last) (hlt : T0 < last) (hle : last ≤ T0 + 65536) (hT0 : -1048576 < T0 ∧ T0 < 1048576)
  (hp : -1052672 ≤ p.1 ∧ p.1 ≤ p.2 ∧ p.2 ≤ 1052672) (hy : -1052672 ≤ y.1 ∧ y.1 ≤ y.2 ∧ y.2 ≤ 1052672) (h1 : 1 ≤ h ∧ h ≤ 16384) (h2 : 1024 ≤ h ∨ last - T0 ≤ h)
include hcl hcm hcw ho k hlt hle hT0 hp hy h1 h2 in
theorem parab_flow {a : Int} (ha : -1048576 < a ∧ a < 1048576) : ∃ l, intS (fldP a) c last 256 [p, y] T0 h = .ok l ∧ FlowF (fldP a) c T0 last [p, y] l ∧ ∀ x0 y0, p.1 ≤ x0 → x0 ≤ p.2 → y.1 ≤ y0 → y0 ≤ y.2 → ∀ s ∈ l, Thru 2 (phiQ x0 y0 a T0) s := by
  have hT := fldP_ok ha
  have hG : Good2 T0 last [p, y] T0 := ⟨p, y, rfl, hp.2.1, hy.2.1, by unfold KP; omega, by unfold KP; omega, by unfold KY; omega, by unfold KY; omega, by omega, by omega⟩
  obtain ⟨hx, hxn⟩ := good2_v hle hG
  obtain ⟨l, hl⟩ := int2 ha hcl hcm hcw hle (by omega) k hG h1 h2
  have hF := flowF hT k hlt (by omega) hx hxn hl
  refine ⟨l, hl, hF, fun x0 y0 g1 g2 g3 g4 => ?_⟩
  refine hF.thru hT (by omega) (fun t u θ i => phiP (u 0) (u 1) ((a : Rat) / 65536) θ i) (phiQ x0 y0 a T0) (fun x t h s u hx hxn hh ht hs hu => fldP_holds hx hh ht ho ha hxn hs (hu 0 (Nat.zero_lt_two)) (hu 1 (Nat.one_lt_two))) (fun t τ i _ => ?_) (fun i hi => ?_)
  · unfold phiQ
    exact phiP_step i
  · have hi2 : i < 2 := hi
    match i, hi2 with
    | 0, _ =>
      have e : phiQ x0 y0 a T0 T0 0 = (x0 : Rat) / 65536 := by unfold phiQ phiP; simp; grind
      rw [e]
      exact inI_grid g1 g2
    | 1, _ =>
      have e : phiQ x0 y0 a T0 T0 1 = (y0 : Rat) / 65536 := by unfold phiQ phiP; simp; grind
      rw [e]
      exact inI_grid g3 g4
end
end Go.Pl

namespace Go.Proofs.YtfjjckepnkkgjaaGreatDoor.Arm
open Go.Arm Go.Pl
theorem two_of {b : List I} (h : b.length = 2) : b = [atN b 0, atN b 1] := by
  match b, h with
  | [p, q], _ => rfl
theorem nrb_two (X : List I) : ∃ p y, nrb X 4096 2 = [p, y] ∧ (-1052672 ≤ p.1 ∧ p.1 ≤ p.2 ∧ p.2 ≤ 1052672) ∧ (-1052672 ≤ y.1 ∧ y.1 ≤ y.2 ∧ y.2 ≤ 1052672) := by
  have hb := nearI_bounds ((X[0]?).getD (0, 0)) (w := 4096) (by decide)
  have hc := nearI_bounds ((X[1]?).getD (0, 0)) (w := 4096) (by decide)
  exact ⟨nearI ((X[0]?).getD (0, 0)) 4096, nearI ((X[1]?).getD (0, 0)) 4096, rfl, by omega, by omega⟩
theorem mul_b {x y A B : Int} (hx : -A ≤ x ∧ x ≤ A) (hy : 0 ≤ y ∧ y ≤ B) (hA : 0 ≤ A) : -(A * B) ≤ x * y ∧ x * y ≤ A * B := by
  have c1 := Int.mul_le_mul_of_nonneg_right hx.2 hy.1
  have c2 := Int.mul_le_mul_of_nonneg_right hx.1 hy.1
  have c3 := Int.mul_le_mul_of_nonneg_left hy.2 hA
  rw [Int.neg_mul] at c2
  omega
set_option maxRecDepth 100000 in
set_option maxHeartbeats 4000000 in
theorem lParab (q : Fq) (hq : FqOk q) (v a0 a1 a2 : Int) (hv : -2147483648 ≤ v ∧ v ≤ 2147483647) (ha0 : 0 ≤ a0 ∧ a0 ≤ 4294967295) (ha1 : 0 ≤ a1 ∧ a1 ≤ 4294967295) (ha2 : 0 ≤ a2 ∧ a2 ≤ 4294967295) (H : AH) :
    Sound E 6 [fqA q, .int .i32 v, .agg [.int .u32 a0, .int .u32 a1, .int .u32 a2]] H (.ret (.bool true)) H := by
  refine sound_of_awp tabOk mixed Tryz.func6 rfl (by rfl) Tryz.ntmps6 (by kernel_rfl) (by simp) ?_
  have hM := lMade q hq
  obtain ⟨hk, hlt, hle, hi⟩ := fq_hz hq
  have hv1 := (ctS_ok hq.ho).1
  have ho := ctS_nat hq.ho
  have hTb := hzT_b q.t
  have eF : fqF q = hzT q.t := rfl
  rw [← eF] at hTb
  obtain ⟨ph, rh, hX, -⟩ := fqX_head q
  rw [hX] at hM
  have hBx := r8Boxes q.X 2 4096 (by decide) (by decide) hq.hX
  obtain ⟨p, y, hpy, ⟨p1, p2, p3⟩, ⟨y1, y2, y3⟩⟩ := nrb_two q.X
  rw [hpy] at hBx
  have h2 : 1024 ≤ initS (ctS q.order) (fqE q - fqF q) ∨ fqE q - fqF q ≤ initS (ctS q.order) (fqE q - fqF q) := by
    have e : initS (ctS q.order) (fqE q - fqF q) = min 4096 (fqE q - fqF q) := rfl
    omega
  obtain ⟨s1, s2⟩ := tmod_bounds v (b := 1048576) (by decide)
  have hsp : -1048576 < v.tmod 1048576 ∧ v.tmod 1048576 < 1048576 := by
    by_cases hh : 0 ≤ v
    · have := s1 hh; omega
    · have := s2 (by omega); omega
  have ws : IntKind.i64.wrap (v.tmod 1048576) = v.tmod 1048576 := wrap64 (by omega) (by omega)
  have wv : IntKind.i64.wrap v = v := wrap64 (by omega) (by omega)
  have wa : IntKind.i64.wrap a2 = a2 := wrap64 (by omega) (by omega)
  have hS := lNum (v.tmod 1048576) (by omega)
  obtain ⟨l, hl, hF, hT⟩ := parab_flow (c := ctS q.order) (p := p) (y := y) rfl rfl rfl ho hk hlt hle hTb ⟨p1, p2, p3⟩ ⟨y1, y2, y3⟩ (h := initS (ctS q.order) (fqE q - fqF q)) (by omega) h2 hsp
  have hfo := fldP_ok hsp
  have hpv : allV [p, y] := fun x hx => by
    simp at hx
    rcases hx with rfl | rfl
    · exact vB_pair (by omega) (by omega) (by omega)
    · exact vB_pair (by omega) (by omega) (by omega)
  have hI := fun Hx => wIntegrate (fldP (v.tmod 1048576)) [p, y] (ctS q.order) (fqF q) (fqE q) hfo hpv rfl (show 1 ≤ 2 by decide) hk hv1 hlt (by omega) Hx
  rw [hl] at hI
  have eTp : tpA (fldP (v.tmod 1048576)) = .agg [.int .i64 2, .slice [insA ⟨2, 1, 0, (0, 0)⟩, insA ⟨1, 0, 0, (v.tmod 1048576, v.tmod 1048576)⟩] false, .slice [.int .i64 0, .int .i64 1] false] := rfl
  have hPk := rPick p a0 (by omega) ha0
  have hx0 := pickI_in p2 ha0.1
  have hPy := rPick y a1 (by omega) ha1
  have hy0 := pickI_in y2 ha1.1
  generalize pickI p a0 = x0 at *
  generalize pickI y a1 = y0 at *
  have hT := hT x0 y0 hx0.1 hx0.2 hy0.1 hy0.2
  obtain ⟨m1, m2⟩ := tm_b ha2.1 (n := fqE q - fqF q + 1) (by omega)
  have hfin := hF.fin
  have htm := hF.tm
  have hlen := hF.len
  have hctg := hF.ctg
  have htube := hF.tube
  have hfrm := hF.frm
  have hto := hF.to
  have hn1 : (fldP (v.tmod 1048576)).n = 2 := rfl
  rw [hn1] at htube hfrm hto
  clear hF hl hk hi h2 ho hv1 s1 s2 hfo eF hn1
  generalize fldP (v.tmod 1048576) = T at *
  generalize hsp0 : v.tmod 1048576 = sp at *
  generalize hF0 : fqF q = t0 at *
  generalize hE0 : fqE q = t1 at *
  generalize ctS q.order = c at *
  generalize fqT q = Tq at *
  have wd : IntKind.i64.wrap (t1 - t0) = t1 - t0 := wrap64 (by omega) (by omega)
  have wd2 : IntKind.i64.wrap (t1 - t0 + 1) = t1 - t0 + 1 := wrap64 (by omega) (by omega)
  have hne : ¬ t1 - t0 + 1 = 0 := by omega
  have wm : IntKind.i64.wrap (a2.tmod (t1 - t0 + 1)) = a2.tmod (t1 - t0 + 1) := wrap64 (by omega) (by omega)
  generalize hh0 : a2.tmod (t1 - t0 + 1) = h at *
  have wt : IntKind.i64.wrap (t0 + h) = t0 + h := wrap64 (by omega) (by omega)
  have tmS : ∀ s ∈ l, tmS s := fun s hs => by
    have := htm s hs
    exact ⟨by omega, by omega, by omega, by omega⟩
  obtain ⟨b, hb⟩ := atS_some (τ := t0 + h) hctg (by omega) (by omega) hlen.1
  have hA := fun Hx => wAt l t0 (t0 + h) hctg (by omega) tmS Hx
  rw [hb] at hA
  have hbi := at_thru hctg hT hb
  have hbl : b.length = 2 ∧ allV b := by
    obtain ⟨s, hs, -, -, h3⟩ := atS_cases hctg hb
    rcases h3 with ⟨-, rfl⟩ | ⟨-, rfl⟩ | rfl
    · exact hfrm s hs
    · exact hto s hs
    · exact htube s hs
  have hbb := vB_bounds (atN_valid hbl.2 0)
  have hbc := vB_bounds (atN_valid hbl.2 1)
  have eb := two_of hbl.1
  have hb0 := hbi 0 (by decide)
  have hb1 := hbi 1 (by decide)
  have e2 : ((t0 + h : Int) : Rat) = (t0 : Rat) + (h : Rat) := Rat.intCast_add _ _
  have e0 : ((t0 : Rat) + (h : Rat) - t0) / 65536 = (h : Rat) / 65536 := by grind
  have ev : phiQ x0 y0 sp t0 (t0 + h) 0 * 65536 * ((8589934592 : Int) : Rat) = ((8589934592 * x0 + 131072 * y0 * h + sp * h * h : Int) : Rat) := by
    have e1 : ((8589934592 * x0 + 131072 * y0 * h + sp * h * h : Int) : Rat) = 8589934592 * (x0 : Rat) + 131072 * (y0 : Rat) * h + (sp : Rat) * h * h := by rw [Rat.intCast_add, Rat.intCast_add, Rat.intCast_mul, Rat.intCast_mul, Rat.intCast_mul, Rat.intCast_mul, Rat.intCast_mul]; rfl
    have e3 : ((8589934592 : Int) : Rat) = 8589934592 := rfl
    unfold phiQ phiP
    rw [e1, e2, e3, e0]
    simp
    grind
  have ew : phiQ x0 y0 sp t0 (t0 + h) 1 * 65536 * ((65536 : Int) : Rat) = ((y0 * 65536 + sp * h : Int) : Rat) := by
    have e1 : ((y0 * 65536 + sp * h : Int) : Rat) = (y0 : Rat) * 65536 + (sp : Rat) * h := by rw [Rat.intCast_add, Rat.intCast_mul, Rat.intCast_mul]; rfl
    have e3 : ((65536 : Int) : Rat) = 65536 := rfl
    unfold phiQ phiP
    rw [e1, e2, e3, e0]
    simp
    grind
  have i1 := insideB_of (by decide) hb0 ev
  have i2 := insideB_of (by decide) hb1 ew
  have n1 := mul_b (x := sp) (y := h) (A := 1048576) (B := 65536) (by omega) (by omega) (by omega)
  have n2 := mul_b (x := sp * h) (y := h) (A := 68719476736) (B := 65536) (by omega) (by omega) (by omega)
  have n3 := mul_b (x := 131072 * y0) (y := h) (A := 137975824384) (B := 65536) (by omega) (by omega) (by omega)
  have w1 : IntKind.i64.wrap (8589934592 * x0) = 8589934592 * x0 := wrap64 (by omega) (by omega)
  have w2 : IntKind.i64.wrap (131072 * y0) = 131072 * y0 := wrap64 (by omega) (by omega)
  have w3 : IntKind.i64.wrap (131072 * y0 * h) = 131072 * y0 * h := wrap64 (by omega) (by omega)
  have w4 : IntKind.i64.wrap (8589934592 * x0 + 131072 * y0 * h) = 8589934592 * x0 + 131072 * y0 * h := wrap64 (by omega) (by omega)
  have w5 : IntKind.i64.wrap (sp * h) = sp * h := wrap64 (by omega) (by omega)
  have w6 : IntKind.i64.wrap (sp * h * h) = sp * h * h := wrap64 (by omega) (by omega)
  have w7 : IntKind.i64.wrap (8589934592 * x0 + 131072 * y0 * h + sp * h * h) = 8589934592 * x0 + 131072 * y0 * h + sp * h * h := wrap64 (by omega) (by omega)
  have w8 : IntKind.i64.wrap (y0 * 65536) = y0 * 65536 := wrap64 (by omega) (by omega)
  have w9 : IntKind.i64.wrap (y0 * 65536 + sp * h) = y0 * 65536 + sp * h := wrap64 (by omega) (by omega)
  have hI1 := fun Hx => lInside (atN b 0) (8589934592 * x0 + 131072 * y0 * h + sp * h * h) 8589934592 (by omega) (by decide) Hx
  have hI2 := fun Hx => lInside (atN b 1) (y0 * 65536 + sp * h) 65536 (by omega) (by decide) Hx
  rw [i1] at hI1
  rw [i2] at hI2
  generalize atN b 0 = b0 at *
  generalize atN b 1 = b1 at *
  subst eb
  generalize hnn : 8589934592 * x0 + 131072 * y0 * h + sp * h * h = nn at *
  generalize hmm : y0 * 65536 + sp * h = mm at *
  clear hT hbi hb0 hb1 ev ew hctg htube hfrm hto htm tmS hbl
  simp [fqA]
  refine call_ret (lSanity14 _) ?_
  simp
  refine call_ret (by simpa [fqA] using hM _) ?_
  simp [tpA, outA, bx, hzA, wv, ws, hsp0]
  refine call_ret (hS _) ?_
  simp [insA]
  refine call_ret (by simpa [bx] using hBx _) ?_
  simp
  refine call_conv0 (args' := [tpA T, bx [p, y], hzA c t0 t1]) (hI _) (by simp [eTp, bx, hzA, insA]; rfl) ?_
  have hr0 : ((rh.length : Int) + 1 == 0) = false := by rw [beq_eq_false_iff_ne]; omega
  simp [intR, hr0]
  refine callD_ret0 (fun Hx => hPk Hx) ?_
  simp
  refine callD_ret0 (fun Hx => hPy Hx) ?_
  simp [wa, wd, wd2, hne, wm, hh0]
  refine endD [] (by rfl) (by simp [okW, note, Eff.triv, Eff.wr, Eff.none, upTo, newAt]) ?_
  simp [wt]
  refine call_ret (hA _) ?_
  simp [atR, bx, w1, w2, w3, w4, w5, w6, w7, w8, w9, hnn, hmm]
  refine call_ret (hI1 _) ?_
  simp [w5, w8, w9, hmm]
  refine call_ret (hI2 _) ?_
  simp
  exact fin1 (rs := [.tmp 6]) (by rfl) (by simp [resA]) (by simp [noF])
end Go.Proofs.YtfjjckepnkkgjaaGreatDoor.Arm
