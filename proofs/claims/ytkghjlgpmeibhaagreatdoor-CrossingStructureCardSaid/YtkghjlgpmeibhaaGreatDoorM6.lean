/- Part of a proof: what the functions of the program do to abstract states, step by step. -/
import Derived.Test.YtkghjlgpmeibhaaGreatDoorM5
import Derived.Test.YtkghjlgpmeibhaaGreatDoorM4
import Derived.Test.YtkghjlgpmeibhaaGreatDoorM2
import Derived.Test.YtkghjlgpmeibhaaGreatDoorTie
import Derived.Test.YtkghjlgpmeibhaaGreatDoorCards
import Derived.ProofKit
import Derived.Stop.Joined
import Derived.SevenTiedAt
set_option linter.unusedVariables false
set_option linter.unusedSimpArgs false
namespace Go.Pl
theorem ziO {a b : List I} (h : subI a b = true) {i : Nat} (hi : i < a.length) : Sb (atN a i) (atN b i) := by
 unfold subI at h
 rw [List.all_eq_true] at h
 exact Sb.of (h i (List.mem_range.2 hi))
theorem sgn0 {a : I} : sgnI a = 0 ↔ a.1 ≤ 0 ∧ 0 ≤ a.2 := by
 unfold sgnI
 split
 ·exact ⟨fun h => by omega, fun h => by omega⟩
 ·split
  ·exact ⟨fun h => by omega, fun h => by omega⟩
  ·exact ⟨fun h => by omega, fun h => rfl⟩
theorem zf4 {P : I → Bool} {least x : Int} (hl : 1 ≤ least) : ∀ (n : Nat) (p : I), 0 ≤ p.1 → p.1 < p.2 → p.1 ≤ x → x ≤ p.2 → (∀ q : I, p.1 ≤ q.1 → q.1 < q.2 → q.2 ≤ p.2 → q.1 ≤ x → x ≤ q.2 → P q = true) → ∃ q ∈ zcn P least n p, q.1 ≤ x ∧ x ≤ q.2
 | 0, p, h0, h1, a, b, hP => ⟨p, by simp [zcn, hP p (Int.le_refl _) h1 (Int.le_refl _) a b], a, b⟩
 | n + 1, p, h0, h1, a, b, hP => by
  have hp := hP p (Int.le_refl _) h1 (Int.le_refl _) a b
  by_cases h : p.2 - p.1 ≤ least
  ·exact ⟨p, by rw [zcQ hp h]; simp, a, b⟩
  ·rw [zdu hp h]
   obtain ⟨e, m1, m2⟩ := zoY hl h0 (by omega)
   rw [e]
   rcases Int.le_total x ((p.1 + p.2) / 2) with c | c
   ·obtain ⟨q, q1, q2⟩ := zf4 hl n (p.1, (p.1 + p.2) / 2) h0 m1 a c (fun q k1 k2 k3 k4 k5 => hP q k1 k2 (by simp only at k3; omega) k4 k5)
    exact ⟨q, List.mem_append.2 (.inl q1), q2⟩
   ·obtain ⟨q, q1, q2⟩ := zf4 hl n ((p.1 + p.2) / 2, p.2) (by show 0 ≤ _; omega) m2 c b (fun q k1 k2 k3 k4 k5 => hP q (by simp only at k1; omega) k2 k3 k4 k5)
    exact ⟨q, List.mem_append.2 (.inr q1), q2⟩
theorem znn {l : List I} {p : I} (hl : ∀ q ∈ l, q.1 ≤ q.2) (hp : p.1 ≤ p.2) : (∀ q ∈ l, ∃ r ∈ zaI l p, Sb q r) ∧ ∃ r ∈ zaI l p, Sb p r := by
 unfold zaI
 split
 ·rename_i hc
  obtain ⟨hpos, hlp⟩ := hc
  obtain ⟨e1, hm⟩ := zdt hpos
  have hlast := hl _ hm
  rw [zgz hpos]
  refine ⟨fun q hq => ?_, ((zcY l).1, p.2), by simp, by show (zcY l).1 ≤ p.1; omega, Int.le_refl _⟩
  rw [← e1] at hq
  rcases List.mem_append.1 hq with hq | hq
  ·exact ⟨q, by simp [hq], Sb.refl q⟩
  ·simp at hq; subst hq
   exact ⟨((zcY l).1, p.2), by simp, Int.le_refl _, by show (zcY l).2 ≤ p.2; omega⟩
 ·exact ⟨fun q hq => ⟨q, by simp [hq], Sb.refl q⟩, p, by simp, Sb.refl p⟩
theorem zoZ {l : List I} {p : I} (hl : ∀ q ∈ l, q.1 ≤ q.2) (hp : p.1 ≤ p.2) : ∀ q ∈ zaI l p, q.1 ≤ q.2 := by
 unfold zaI
 split
 ·rename_i hc
  obtain ⟨hpos, hlp⟩ := hc
  obtain ⟨e1, hm⟩ := zdt hpos
  have hlast := hl _ hm
  rw [zgz hpos]
  intro q hq
  rcases List.mem_append.1 hq with hq | hq
  ·exact hl q (by rw [← e1]; simp [hq])
  ·simp at hq; subst hq; show (zcY l).1 ≤ p.2; omega
 ·intro q hq
  rcases List.mem_append.1 hq with hq | hq
  ·exact hl q hq
  ·simp at hq; subst hq; exact hp
theorem zkg : ∀ (L l : List I), (∀ q ∈ l, q.1 ≤ q.2) → (∀ q ∈ L, q.1 ≤ q.2) → (∀ q ∈ l, ∃ r ∈ L.foldl zaI l, Sb q r) ∧ (∀ q ∈ L, ∃ r ∈ L.foldl zaI l, Sb q r)
 | [], l, _, _ => ⟨fun q hq => ⟨q, hq, Sb.refl q⟩, by simp⟩
 | p :: L, l, h1, h2 => by
  have hp := h2 p (by simp)
  obtain ⟨m1, m2⟩ := znn h1 hp
  obtain ⟨k1, k2⟩ := zkg L (zaI l p) (zoZ h1 hp) (fun q hq => h2 q (by simp [hq]))
  refine ⟨fun q hq => ?_, fun q hq => ?_⟩
  ·obtain ⟨r, r1, r2⟩ := m1 q hq
   obtain ⟨u, u1, u2⟩ := k1 r r1
   exact ⟨u, u1, r2.trans u2⟩
  ·rcases List.mem_cons.1 hq with rfl | hq
   ·obtain ⟨r, r1, r2⟩ := m2
    obtain ⟨u, u1, u2⟩ := k1 r r1
    exact ⟨u, u1, r2.trans u2⟩
   ·exact k2 q hq
theorem zj6 {P : I → Bool} {least h : Int} (hl : 1 ≤ least) (hh : 1 ≤ h) : ∀ q ∈ zcn P least h.toNat (0, h), ∃ r ∈ zc5 P least h, Sb q r := by
 have hk := zf3 (P := P) hl h.toNat (0, h) (Int.le_refl 0) (by show 0 < h; omega)
 exact (zkg _ [] (by simp) (fun q hq => by have := hk.inn q hq; omega)).2
theorem zlC {P : I → Bool} {least h x : Int} (hl : 1 ≤ least) (hh : 1 ≤ h) (hx : 0 ≤ x ∧ x ≤ h) (hP : ∀ q : I, 0 ≤ q.1 → q.1 < q.2 → q.2 ≤ h → q.1 ≤ x → x ≤ q.2 → P q = true) : ∃ q ∈ zc5 P least h, q.1 ≤ x ∧ x ≤ q.2 := by
 obtain ⟨q, q1, q2, q3⟩ := zf4 hl h.toNat (0, h) (Int.le_refl 0) (by show 0 < h; omega) hx.1 hx.2 hP
 obtain ⟨r, r1, r2⟩ := zj6 hl hh q q1
 exact ⟨r, r1, Int.le_trans r2.1 q2, Int.le_trans q3 r2.2⟩
theorem apart {Q : List I} (hQ : Q.Pairwise fun a b => a.2 < b.1) {a b : I} (ha : a ∈ Q) (hb : b ∈ Q) : a = b ∨ a.2 < b.1 ∨ b.2 < a.1 := by
 induction Q with
 | nil => simp at ha
 | cons c r ih =>
  obtain ⟨h1, h2⟩ := List.pairwise_cons.1 hQ
  rcases List.mem_cons.1 ha with ea | ha
  ·rcases List.mem_cons.1 hb with eb | hb
   ·exact .inl (ea.trans eb.symm)
   ·exact .inr (.inl (by rw [ea]; exact h1 b hb))
  ·rcases List.mem_cons.1 hb with eb | hb
   ·exact .inr (.inr (by rw [eb]; exact h1 a ha))
   ·exact ih h2 ha hb
theorem zpB {Q : List I} (hQ : Q.Pairwise fun a b => a.2 < b.1) : ∀ (L l : List I), (∀ q ∈ l, q.1 ≤ q.2 ∧ ∃ r ∈ Q, Sb q r) → (∀ q ∈ L, q.1 ≤ q.2 ∧ ∃ r ∈ Q, Sb q r) → ∀ q ∈ L.foldl zaI l, q.1 ≤ q.2 ∧ ∃ r ∈ Q, Sb q r
 | [], l, h1, _ => h1
 | p :: L, l, h1, h2 => by
  obtain ⟨hp, r2, hr2, hs2⟩ := h2 p (by simp)
  refine zpB hQ L (zaI l p) ?_ (fun q hq => h2 q (by simp [hq]))
  unfold zaI
  split
  ·rename_i hc
   obtain ⟨hpos, hlp⟩ := hc
   obtain ⟨e1, hm⟩ := zdt hpos
   obtain ⟨hlast, r1, hr1, hs1⟩ := h1 _ hm
   rw [zgz hpos]
   intro q hq
   rcases List.mem_append.1 hq with hq | hq
   ·exact h1 q (by rw [← e1]; simp [hq])
   ·simp at hq; subst hq
    have a1 := hs1.1
    have a2 := hs1.2
    have b1 := hs2.1
    have b2 := hs2.2
    rcases apart hQ hr1 hr2 with e | e | e
    ·subst e
     exact ⟨by show (zcY l).1 ≤ p.2; omega, r1, hr1, a1, b2⟩
    ·omega
    ·omega
  ·intro q hq
   rcases List.mem_append.1 hq with hq | hq
   ·exact h1 q hq
   ·simp at hq; subst hq; exact ⟨hp, r2, hr2, hs2⟩
theorem zhs {P : I → Bool} {least fine : Int} (hf : 1 ≤ fine) (h : fine ≤ least) : ∀ (n : Nat) (p : I), 0 ≤ p.1 → p.1 < p.2 → ∀ q ∈ zcn P fine n p, ∃ r ∈ zcn P least n p, Sb q r
 | 0, p, h0, h1, q, hq => ⟨q, hq, Sb.refl q⟩
 | n + 1, p, h0, h1, q, hq => by
  have hin := (zf3 (P := P) hf (n + 1) p h0 h1).inn q hq
  cases hP : P p with
  | false => rw [zgE hP] at hq; simp at hq
  | true =>
   by_cases hw : p.2 - p.1 ≤ least
   ·exact ⟨p, by rw [zcQ hP hw]; simp, hin.1, hin.2.2⟩
   ·rw [zdu hP (by omega)] at hq
    rw [zdu hP hw]
    obtain ⟨e, m1, m2⟩ := zoY hf h0 (show fine < p.2 - p.1 by omega)
    rw [e] at hq ⊢
    rcases List.mem_append.1 hq with hq | hq
    ·obtain ⟨r, r1, r2⟩ := zhs hf h n (p.1, (p.1 + p.2) / 2) h0 m1 q hq
     exact ⟨r, List.mem_append.2 (.inl r1), r2⟩
    ·obtain ⟨r, r1, r2⟩ := zhs hf h n ((p.1 + p.2) / 2, p.2) (by show 0 ≤ _; omega) m2 q hq
     exact ⟨r, List.mem_append.2 (.inr r1), r2⟩
theorem znk {P : I → Bool} {least fine h : Int} (hf : 1 ≤ fine) (hle : fine ≤ least) (hh : 1 ≤ h) : ∀ q ∈ zc5 P fine h, ∃ r ∈ zc5 P least h, Sb q r := by
 have hk := zf3 (P := P) hf h.toNat (0, h) (Int.le_refl 0) (by show 0 < h; omega)
 have hf2 := zhs (P := P) hf hle h.toNat (0, h) (Int.le_refl 0) (by show 0 < h; omega)
 have hs := zj6 (P := P) (least := least) (h := h) (by omega) hh
 intro q hq
 exact (zpB (zgA (P := P) (least := least) (h := h) (by omega) hh).ord _ [] (by simp) (fun q hq => ⟨by have := hk.inn q hq; omega, by
  obtain ⟨r, r1, r2⟩ := hf2 q hq
  obtain ⟨u, u1, u2⟩ := hs r r1
  exact ⟨u, u1, r2.trans u2⟩⟩) q hq).2
theorem zkt {a p q : I} (ha : a.1 ≤ a.2) (h : Sb a p) (k : Sb a q) : za3 p q = true := by
 have h1 := h.1
 have h2 := h.2
 have k1 := k.1
 have k2 := k.2
 simp only [za3, decide_eq_true_eq]
 omega
theorem znJ {T : Tp} {x : List I} {t h : Int} {order : Nat} {s : Sg} (hT : tpOk T) (hx : allV x) (hxn : x.length = T.n) (hh : 1 ≤ h ∧ h ≤ 1000000000) (ht : -1000000000 ≤ t ∧ t ≤ 1000000000) (hs : zc6 T x t h order = some s)
  {p2 : Int} (hp : 0 ≤ p2 ∧ p2 ≤ h) : subI (zaK T x s.pre t h (0, 0) order) (zaK T x s.pre t h (0, p2) order) = true := by
 have hh0 : 0 ≤ h ∧ h ≤ 1000000000 := by omega
 obtain ⟨-, s2, s3, -⟩ := zkr hT hx hxn hh ht hs
 have hok := zks hT hx hxn hh0 ht hs
 have v1 : vB (t, t) = true := zav (by omega) (by omega) (by omega)
 have v2 : vB (t, t + h) = true := zav (by omega) (by omega) (by omega)
 have vp : vB (0, p2) = true := zav (by omega) (by omega) (by omega)
 have len : ∀ part, (zaK T x s.pre t h part order).length = T.n := fun part => by
  simp [zaK, zdT, zdL, zaC, za4 hT hx v1 order]
 have rowV : ∀ i, i < T.n → allV ((List.range (order + 1)).map (cO T x (t, t) i) ++ [cO T s.pre (t, t + h) i (order + 1)]) := fun i hi z hz => by
  rcases List.mem_append.1 hz with hz | hz
  ·obtain ⟨m, hm, rfl⟩ := List.mem_map.1 hz
   exact zam (za9 (zaX hT hx v1 m).2.val _) _
  ·simp at hz; subst hz
   exact zam (za9 (zaX hT hok.vpre v2 (order + 1)).2.val _) _
 refine zdc fun i hi => ?_
 have hi' : i < T.n := by rw [← len (0, 0)]; exact hi
 have hpre : Sb (atN x i) (atN s.pre i) := (ziO s3 (by omega)).trans (ziO s2 (by rw [hok.ntube]; exact hi'))
 have e : (List.range (order + 1)).map (cO T x (t, t) i) ++ [cO T s.pre (t, t + h) i (order + 1)] = atN x i :: ((List.range order).map (fun m => cO T x (t, t) i (m + 1)) ++ [cO T s.pre (t, t + h) i (order + 1)]) := by
  rw [List.range_succ_eq_map, List.map_cons, zjB hi']
  simp [Function.comp_def]
 have hv := rowV i hi'
 have hv2 := hv
 rw [e] at hv2
 have st : ∀ k : Int, 0 ≤ k ∧ k ≤ h → Sb (atN x i) (zaW ((List.range (order + 1)).map (cO T x (t, t) i) ++ [cO T s.pre (t, t + h) i (order + 1)]) (0, k)) := fun k hk => by
  rw [e]
  exact ziy (by omega) hv2
 have vx := (zan (zam hx i)).2.1
 rw [zcp hT hx hok.vpre hh0 ht hi', zcp hT hx hok.vpre hh0 ht hi']
 exact zfV (zfy v00 vp ⟨Int.le_refl _, hp.1⟩ hv) (zkt vx (st 0 (by omega)) hpre) (zkt vx (st p2 hp) hpre)
theorem znI {T : Tp} {x : List I} {t h : Int} {order : Nat} {s : Sg} (hT : tpOk T) (hx : allV x) (hxn : x.length = T.n) (hh : 1 ≤ h ∧ h ≤ 1000000000) (ht : -1000000000 ≤ t ∧ t ≤ 1000000000) (hs : zc6 T x t h order = some s)
  {q p : I} (hq : 0 ≤ q.1 ∧ q.1 ≤ q.2 ∧ q.2 ≤ h) (hp : 0 ≤ p.1 ∧ p.2 ≤ h) (hqp : Sb q p) : subI (zaK T x s.pre t h q order) (zaK T x s.pre t h p order) = true := by
 rcases Int.lt_or_le 0 q.2 with h1 | h1
 ·exact zkJ hT hx hxn hh ht hs ⟨hq.1, hq.2.1, by omega, hq.2.2⟩ hp hqp
 ·have a1 := hqp.1
  have a2 := hqp.2
  have eq : q = (0, 0) := Prod.ext (by show q.1 = 0; omega) (by show q.2 = 0; omega)
  have ep : p = (0, p.2) := Prod.ext (by show p.1 = 0; omega) rfl
  rw [eq, ep]
  exact znJ hT hx hxn hh ht hs ⟨by omega, hp.2⟩
def revE : Ex → Ex
 | .un .neg a => a
 | e => .un .neg e
theorem zca (e : Ex) : (∃ a, e = .un .neg a ∧ revE e = a) ∨ ((∀ a, e ≠ .un .neg a) ∧ revE e = .un .neg e) := by
 cases e with
 | un o a => cases o with
  | neg => exact .inl ⟨a, rfl, rfl⟩
  | _ => exact .inr ⟨fun b h => (by cases h), rfl⟩
 | _ => exact .inr ⟨fun b h => (by cases h), rfl⟩
theorem zsf (x : List I) (t : I) (e : Ex) : ev x t (revE e) = neg (ev x t e) := by
 rcases zca e with ⟨a, rfl, h⟩ | ⟨_, h⟩
 ·rw [h]; show ev x t a = neg (neg (ev x t a)); rw [neg_neg']
 ·rw [h]; rfl
theorem zuy {n : Nat} {e : Ex} (h : wf n e = true) : wf n (revE e) = true := by
 rcases zca e with ⟨a, rfl, k⟩ | ⟨_, k⟩
 ·rw [k]; exact h
 ·rw [k]; exact h
theorem zuz (e : Ex) : sz (revE e) ≤ sz e + 1 := by
 rcases zca e with ⟨a, rfl, k⟩ | ⟨_, k⟩
 ·rw [k, zci]; omega
 ·rw [k, zci]; exact Nat.le_refl _
theorem zsK {a : I} (h : a.1 ≤ a.2) : sgnI (neg a) = - sgnI a := by
 unfold sgnI neg
 simp only
 by_cases h1 : 0 < a.1
 ·rw [if_neg (by omega), if_pos (by omega), if_pos h1]
 ·by_cases h2 : a.2 < 0
  ·rw [if_pos (by omega), if_neg h1, if_pos h2]; rfl
  ·rw [if_neg (by omega), if_neg (by omega), if_neg h1, if_neg h2]; rfl
theorem ztF (dir : Int) (w a b : I) : crI (-dir) (neg w) (neg a) (neg b) = crI dir w a b := by
 unfold crI
 rw [neg_neg', neg_neg', neg_neg']
 by_cases h1 : 0 < dir
 ·rw [if_neg (by omega), if_pos (by omega), if_pos h1]
 ·by_cases h2 : dir < 0
  ·rw [if_pos (by omega), if_neg h1, if_pos h2]
  ·rw [if_neg (by omega), if_neg (by omega), if_neg h1, if_neg h2]
   generalize upI w a b = u
   generalize upI (neg w) (neg a) (neg b) = v
   by_cases a1 : v = 2 <;> by_cases a2 : u = 2 <;> by_cases a3 : v = 0 <;> by_cases a4 : u = 0 <;> simp [a1, a2, a3, a4]
theorem zrY (lo hi : Int) : mk (-hi) (-lo) = neg (mk lo hi) := by
 unfold mk numB
 by_cases h : -2147483648 < lo ∧ lo < 2147483648 ∧ -2147483648 < hi ∧ hi < 2147483648
 ·rw [if_pos (by simp; omega), if_pos (by simp; omega)]; rfl
 ·rw [if_neg (by simp; omega), if_neg (by simp; omega)]; rfl
theorem zjs (a : I) : entB (neg a) = entB a := by
 unfold entB neg
 simp only
 rw [Bool.eq_iff_iff]
 simp
 omega
theorem ztX (a b : I) : add (neg a) (neg b) = neg (add a b) := by
 unfold add
 rw [zjs, zjs]
 split
 ·rfl
 ·rw [← zrY]
  have e1 : (neg a).1 + (neg b).1 = -(a.2 + b.2) := by show -a.2 + -b.2 = _; omega
  have e2 : (neg a).2 + (neg b).2 = -(a.1 + b.1) := by show -a.1 + -b.1 = _; omega
  rw [e1, e2]
theorem zoW (a b : I) : mul (neg a) b = neg (mul a b) := by
 unfold mul
 rw [zjs]
 split
 ·rfl
 ·rw [← zrY]
  have e1 : (neg a).1 * b.1 = -(a.2 * b.1) ∧ (neg a).1 * b.2 = -(a.2 * b.2) ∧ (neg a).2 * b.1 = -(a.1 * b.1) ∧ (neg a).2 * b.2 = -(a.1 * b.2) := ⟨Int.neg_mul _ _, Int.neg_mul _ _, Int.neg_mul _ _, Int.neg_mul _ _⟩
  rw [e1.1, e1.2.1, e1.2.2.1, e1.2.2.2]
  generalize a.1 * b.1 = c1
  generalize a.1 * b.2 = c2
  generalize a.2 * b.1 = c3
  generalize a.2 * b.2 = c4
  have k1 : min4 (-c3) (-c4) (-c1) (-c2) = -(max4 c1 c2 c3 c4) := by unfold min4 max4; omega
  have k2 : max4 (-c3) (-c4) (-c1) (-c2) = -(min4 c1 c2 c3 c4) := by unfold min4 max4; omega
  rw [k1, k2]
  unfold ce
  rw [Int.neg_neg, Int.neg_neg]
theorem znv {n : Nat} {a : Ex} (hs : smp a = a) (hw : wf n a = true) : isK (zbt a) 0 = isK a 0 := by
 unfold zbt
 cases hp : isPt a with
 | some c =>
  rw [zpJ hp] at hw ⊢
  have := zth hw
  show isK (.num (pt (-c))) 0 = isK (.num (c, c)) 0
  unfold pt
  rw [zr0 (by omega) (by omega)]
  unfold isK
  simp only
  rw [Bool.eq_iff_iff]
  simp
 | none =>
  have hk : isK a 0 = false := by
   cases h : isK a 0 with
   | false => rfl
   | true => rw [zpf h] at hp; simp [isPt] at hp
  rw [hk]
  rcases zca a with ⟨b, rfl, -⟩ | ⟨h, -⟩
  ·show isK b 0 = false
   cases h : isK b 0 with
   | false => rfl
   | true =>
    have hb := zpf h
    subst hb
    exact absurd hs (by decide)
  ·simp only
   rfl
theorem ztC (v : Vr) (a : Ex) : der v (.un .neg a) = zbt (der v a) := rfl
theorem zpS {n : Nat} (x : List I) (t : I) (v : Vr) {e : Ex} (hx : x.length = n) (hw : wf n e = true) : ev x t (der v (revE e)) = neg (ev x t (der v e)) ∧ isK (der v (revE e)) 0 = isK (der v e) 0 := by
 have key : ∀ a : Ex, wf n a = true → ev x t (der v (.un .neg a)) = neg (ev x t (der v a)) ∧ isK (der v (.un .neg a)) 0 = isK (der v a) 0 := fun a ha => by
  rw [ztC]
  exact ⟨zpI (by rw [hx]; exact zhI ha), znv (n := n) (ziQ _) (zhI ha)⟩
 rcases zca e with ⟨a, rfl, k⟩ | ⟨_, k⟩
 ·rw [k]
  obtain ⟨k1, k2⟩ := key a hw
  rw [k1, k2, neg_neg']
  exact ⟨rfl, rfl⟩
 ·rw [k]; exact key e hw
theorem zo6 {xv : List I} {t : I} {g : Ex} {f : List I} (hw : wf xv.length g = true) : ∀ i, lieS xv t (revE g) f i = neg (lieS xv t g f i)
 | 0 => (zpS xv t .tm rfl hw).1
 | i + 1 => by
  simp only [lieS]
  obtain ⟨k1, k2⟩ := zpS xv t (.st (i : Int)) rfl hw
  rw [k1, k2, zo6 hw i]
  split
  ·rfl
  ·rw [zoW, ztX]
end Go.Pl

namespace Go.Proofs.YtkghjlgpmeibhaaGreatDoor.Arm
open Go.Arm Go.Pl
def znr (c : Int) (r : List I) : Int := match r.getLast? with
 | some q => q.2
 | none => c
theorem ziw (c : Int) (q : I) (r : List I) : znr c (q :: r) = znr q.2 r := by
 unfold znr
 cases r with
 | nil => rfl
 | cons a r => simp [List.getLast?_cons_cons]; rfl
theorem zkC {w : Cw} : ∀ (r : List I) (A c : Int), (∀ q ∈ r, A ≤ w.s.t + q.1 ∧ c ≤ q.2 ∧ q.1 ≤ q.2) → (r.Pairwise fun a b => a.2 < b.1) → r.foldl (fun t q => hull t (absC w q)) (A, w.s.t + c) = (A, w.s.t + znr c r)
 | [], A, c, _, _ => rfl
 | q :: r, A, c, h, hp => by
  obtain ⟨p1, p2⟩ := List.pairwise_cons.1 hp
  have hq := h q (by simp)
  have e : hull (A, w.s.t + c) (absC w q) = (A, w.s.t + q.2) := by
   unfold hull absC
   exact Prod.ext (by show min A (w.s.t + q.1) = A; omega) (by show max (w.s.t + c) (w.s.t + q.2) = _; omega)
  rw [List.foldl_cons, e, ziw]
  exact zkC r A q.2 (fun x hx => by have h1 := h x (by simp [hx]); have h2 := p1 x hx; omega) p2
theorem zsr {w : Cw} {p : I} {r : List I} {h : Int} (hk : zdP h (p :: r)) : tmS2 w p r = (w.s.t + p.1, w.s.t + znr p.2 r) := by
 obtain ⟨p1, p2⟩ := List.pairwise_cons.1 hk.ord
 have hp := hk.inn p (by simp)
 exact zkC r _ _ (fun q hq => by have h1 := hk.inn q (by simp [hq]); have h2 := p1 q hq; omega) p2
theorem zqH {a b c : List I} (hl : a.length = b.length) (h1 : subI a c = true) (h2 : subI b c = true) : subI (zbX a b) c = true := by
 unfold subI at *
 rw [List.all_eq_true] at *
 intro i hi
 have hi' : i < a.length := by rw [← zbm a b]; exact List.mem_range.1 hi
 have k1 := h1 i (List.mem_range.2 hi')
 have k2 := h2 i (List.mem_range.2 (by omega))
 have e : atN (zbX a b) i = hull (atN a i) (atN b i) := by simp [zbX, atN, hi']
 rw [e]
 simp only [subB, Bool.and_eq_true, decide_eq_true_eq] at k1 k2 ⊢
 exact ⟨by show _ ≤ min _ _; omega, by show max _ _ ≤ _; omega⟩
theorem zlk {T : Tp} {w : Cw} {c : List I} (hl : ∀ q, (zbn T w q).length = T.n) : ∀ (r : List I) (p : I), (∀ q ∈ p :: r, subI (zbn T w q) c = true) → subI (stS T w p r) c = true := by
 have key : ∀ (r : List I) (s : List I), s.length = T.n → subI s c = true → (∀ q ∈ r, subI (zbn T w q) c = true) → subI (r.foldl (fun s q => zbX s (zbn T w q)) s) c = true := by
  intro r
  induction r with
  | nil => intro s _ h _; exact h
  | cons a r ih =>
   intro s hs h1 h2
   exact ih _ (by rw [zbm]; exact hs) (zqH (by rw [hs, hl]) h1 (h2 a (by simp))) (fun q hq => h2 q (by simp [hq]))
 intro r p h
 exact key r _ (hl p) (h p (by simp)) (fun q hq => h q (by simp [hq]))
theorem zn8 {T : Tp} {x : List I} {t h : Int} {order : Nat} {s : Sg} (hs : zc6 T x t h order = some s) : s.t = t ∧ s.h = h ∧ s.frm = x ∧ s.tube = zaK T x s.pre t h (0, h) order := by
 unfold zc6 at hs
 cases hr : ze2 T x t h with
 | none => rw [hr] at hs; cases hs
 | some b =>
  rw [hr] at hs
  simp only at hs
  split at hs
  ·cases hs; exact ⟨rfl, rfl, rfl, rfl⟩
  ·cases hs
structure PrOk (q : Iq) (s : Sg) : Prop where
 w : CwOk (iqT q) (iqW q s)
 parts : zdP s.h (zaq (iqT q) (iqG q) (iqW q s))
 len : ((zaq (iqT q) (iqG q) (iqW q s)).length : Int) ≤ 131072
 sub : ∀ p : I, 0 ≤ p.1 → p.1 < p.2 → p.2 ≤ s.h → subI (zbn (iqT q) (iqW q s) p) s.tube = true
 hb : 1 ≤ s.h ∧ s.h ≤ 131072
 mono : ∀ p p' : I, 0 ≤ p.1 ∧ p.1 ≤ p.2 ∧ p.2 ≤ s.h → 0 ≤ p'.1 ∧ p'.2 ≤ s.h → Sb p p' → subI (zbn (iqT q) (iqW q s) p) (zbn (iqT q) (iqW q s) p') = true
theorem prOk {q : Iq} (hq : IqOk q) {s : Sg} (hs : zfv q = some s) : PrOk q s := by
 obtain ⟨⟨hN, hN1, hN2⟩, hO, hO1, hO2⟩ := zfw hq
 obtain ⟨hT, hTn⟩ := zfu hq
 obtain ⟨hX, hXn⟩ := zr5 hq
 obtain ⟨htm, hhh⟩ := znX q.gt q.gh
 unfold zfv at hs
 obtain ⟨e1, e2, e3, e4⟩ := zn8 hs
 have hok := zks hT hX hXn (by omega) (by omega) hs
 have hL := zmd (least := q.least) (h := hh12 q.gh) (by omega)
 have hLe : iqL q = resS q.least (hh12 q.gh) := rfl
 have hw : CwOk (iqT q) (iqW q s) := ⟨by show allV s.frm; rw [e3]; exact hX, by show s.frm.length = _; rw [e3]; exact hXn, hok.vpre, hok.npre, hok.vtube, hok.ntube, hok.vto, hok.nto, by show -1000000000 ≤ s.t ∧ s.t ≤ 1000000000 ∧ 1 ≤ s.h ∧ s.h ≤ 1000000000 ∧ s.t + s.h ≤ 1000000000; omega, by show 1 ≤ iqO q ∧ iqO q ≤ 900; omega, by show 1 ≤ iqL q ∧ iqL q ≤ 2000000000; omega⟩
 refine ⟨hw, ?_, ?_, fun p p0 p1 p2 => ?_, by omega, fun p p' h1 h2 h3 => ?_⟩
 ·unfold zaq
  split
  ·exact ⟨by simp, by simp⟩
  ·exact zgA (h := s.h) hw.le.1 (by omega)
 ·unfold zaq
  split
  ·simp
  ·have := zhf (P := zcc (iqT q) (iqG q) (iqW q s)) (h := s.h) hw.le.1 (by omega)
   show ((zc5 (zcc (iqT q) (iqG q) (iqW q s)) (iqW q s).least s.h).length : Int) ≤ _
   omega
 ·have := zkJ hT hX hXn (by omega) (by omega) hs (q := p) (p := (0, hh12 q.gh)) (by omega) (by show 0 ≤ (0 : Int) ∧ hh12 q.gh ≤ _; omega) ⟨p0, by show p.2 ≤ hh12 q.gh; omega⟩
  rw [e4]
  show subI (zaK (iqT q) s.frm s.pre s.t s.h p (iqO q)) _ = true
  rw [e1, e2, e3]
  exact this
 ·have := znI hT hX hXn (by omega) (by omega) hs (q := p) (p := p') (by omega) (by omega) h3
  show subI (zaK (iqT q) s.frm s.pre s.t s.h p (iqO q)) (zaK (iqT q) s.frm s.pre s.t s.h p' (iqO q)) = true
  rw [e1, e2, e3]
  exact this
end Go.Proofs.YtkghjlgpmeibhaaGreatDoor.Arm

namespace Go.Pl
theorem zqj {a b c d : Int} (h1 : -1073741824 < a) (h2 : b < 1073741824) (h3 : -1073741824 < c) (h4 : d < 1073741824) (h5 : a ≤ b) (h6 : c ≤ d) : add (a, b) (c, d) = (a + c, b + d) := by
 unfold add
 have e1 : entB (a, b) = false := by unfold entB; simp; omega
 have e2 : entB (c, d) = false := by unfold entB; simp; omega
 rw [e1, e2]
 unfold mk numB
 simp only [Bool.or_self, Bool.false_eq_true, if_false]
 rw [if_pos (by simp; omega)]
section
variable {a b x y t h : Int} (ha : -1048576 < a ∧ a < 1048576) (hb : -1048576 < b ∧ b < 1048576) (hx : -1048576 < x ∧ x < 1048576) (hy : -1048576 < y ∧ y < 1048576) (hh : 0 ≤ h ∧ h ≤ 131072)
include ha hh hx in
end
end Go.Pl

namespace Go.Pl
end Go.Pl

namespace Go.Proofs.YtkghjlgpmeibhaaGreatDoor.Arm
open Go.Arm Go.Pl
theorem zlh {a b c : List I} (hl : a.length = b.length) (h : subI a b = true) (k : subI b c = true) : subI a c = true :=
 zdc fun i hi => (ziO h hi).trans (ziO k (by omega))
theorem zsD (a : List I) : subI a a = true := zdc fun i _ => Sb.refl _
theorem zmz {a b : List I} {i : Nat} (hi : i < a.length) : atN (zbX a b) i = hull (atN a i) (atN b i) := by simp [zbX, atN, hi]
theorem zsb (a b : I) : Sb a (hull a b) := ⟨by show min a.1 b.1 ≤ a.1; omega, by show a.2 ≤ max a.2 b.2; omega⟩
theorem zsa (a b : I) : Sb b (hull a b) := ⟨by show min a.1 b.1 ≤ b.1; omega, by show b.2 ≤ max a.2 b.2; omega⟩
theorem ztq {a b : List I} : subI a (zbX a b) = true := zdc fun i hi => by rw [zmz hi]; exact zsb _ _
theorem ztp {a b : List I} (hl : b.length = a.length) : subI b (zbX a b) = true := zdc fun i hi => by rw [zmz (by omega)]; exact zsa _ _
theorem zus {T : Tp} {w : Cw} (hl : ∀ q, (zbn T w q).length = T.n) (r : List I) (p : I) : ∀ q ∈ p :: r, subI (zbn T w q) (stS T w p r) = true := by
 have key : ∀ (r : List I) (s : List I), s.length = T.n → subI s (r.foldl (fun s q => zbX s (zbn T w q)) s) = true ∧ ∀ q ∈ r, subI (zbn T w q) (r.foldl (fun s q => zbX s (zbn T w q)) s) = true := by
  intro r
  induction r with
  | nil => intro s hs; exact ⟨zsD s, by simp⟩
  | cons a r ih =>
   intro s hs
   have hs2 : (zbX s (zbn T w a)).length = T.n := by rw [zbm]; exact hs
   obtain ⟨i1, i2⟩ := ih (zbX s (zbn T w a)) hs2
   refine ⟨zlh (by rw [zbm]) ztq i1, fun q hq => ?_⟩
   rcases List.mem_cons.1 hq with rfl | hq
   ·exact zlh (by rw [hs2, hl]) (ztp (by rw [hs, hl])) i1
   ·exact i2 q hq
 intro q hq
 obtain ⟨i1, i2⟩ := key r (zbn T w p) (hl p)
 rcases List.mem_cons.1 hq with rfl | hq
 ·exact i1
 ·exact i2 q hq
theorem zuo {w : Cw} (r : List I) (p : I) : ∀ q ∈ p :: r, Sb (absC w q) (tmS2 w p r) := by
 have key : ∀ (r : List I) (s : I), Sb s (r.foldl (fun t q => hull t (absC w q)) s) ∧ ∀ q ∈ r, Sb (absC w q) (r.foldl (fun t q => hull t (absC w q)) s) := by
  intro r
  induction r with
  | nil => intro s; exact ⟨Sb.refl s, by simp⟩
  | cons a r ih =>
   intro s
   obtain ⟨i1, i2⟩ := ih (hull s (absC w a))
   refine ⟨(zsb _ _).trans i1, fun q hq => ?_⟩
   rcases List.mem_cons.1 hq with rfl | hq
   ·exact (zsa _ _).trans i1
   ·exact i2 q hq
 intro q hq
 obtain ⟨i1, i2⟩ := key r (absC w p)
 rcases List.mem_cons.1 hq with rfl | hq
 ·exact i1
 ·exact i2 q hq
theorem tm_le {w : Cw} {c : I} (r : List I) (p : I) (h : ∀ q ∈ p :: r, Sb (absC w q) c) : Sb (tmS2 w p r) c := by
 have key : ∀ (r : List I) (s : I), Sb s c → (∀ q ∈ r, Sb (absC w q) c) → Sb (r.foldl (fun t q => hull t (absC w q)) s) c := by
  intro r
  induction r with
  | nil => intro s h _; exact h
  | cons a r ih =>
   intro s h1 h2
   have ha := h2 a (by simp)
   exact ih _ ⟨by have := h1.1; have := ha.1; show c.1 ≤ min s.1 (absC w a).1; omega, by have := h1.2; have := ha.2; show max s.2 (absC w a).2 ≤ c.2; omega⟩ (fun q hq => h2 q (by simp [hq]))
 exact key r _ (h p (by simp)) (fun q hq => h q (by simp [hq]))
theorem zk7 {w : Cw} {p q : I} (h : Sb p q) : Sb (absC w p) (absC w q) := ⟨by have := h.1; show w.s.t + q.1 ≤ w.s.t + p.1; omega, by have := h.2; show w.s.t + p.2 ≤ w.s.t + q.2; omega⟩
theorem zj7 {T : Tp} {g : Gd} {w : Cw} {l : Int} (hl : 1 ≤ l ∧ l ≤ w.least) (hh : 1 ≤ w.s.h) : ∀ q ∈ zaq T g { w with least := l }, ∃ r ∈ zaq T g w, Sb q r := by
 unfold zaq
 intro q hq
 have e : zb8 g ({ w with least := l } : Cw).s = zb8 g w.s := rfl
 rw [e] at hq
 by_cases hc : zb8 g w.s = 0
 ·rw [if_pos hc] at hq; simp at hq
 ·rw [if_neg hc] at hq ⊢
  exact znk (P := zcc T g w) hl.1 hl.2 hh q hq
theorem zfk {T : Tp} {g : Gd} {w : Cw} {x : Int} (hl : 1 ≤ w.least) (hh : 1 ≤ w.s.h) (hx : 0 ≤ x ∧ x ≤ w.s.h) (hc : zb8 g w.s ≠ 0) (hP : ∀ q : I, 0 ≤ q.1 → q.1 < q.2 → q.2 ≤ w.s.h → q.1 ≤ x → x ≤ q.2 → zcc T g w q = true) : ∃ q ∈ zaq T g w, q.1 ≤ x ∧ x ≤ q.2 := by
 unfold zaq
 rw [if_neg hc]
 exact zlC hl hh hx hP
def revG (g : Gd) : Gd := ⟨revE g.f, -g.dir⟩
theorem zlw {n : Nat} {g : Gd} (h : GdOk n g) (hs : sz g.f ≤ 999999) : GdOk n (revG g) := ⟨by have := zuz g.f; show sz (revE g.f) ≤ _; omega, zuy h.wf⟩
theorem znL (g : Gd) (s : Sg) : zb8 (revG g) s = zb8 g s := by
 unfold zb8 revG
 simp only [zsf]
 exact ztF _ _ _ _
theorem zhg {T : Tp} {g : Gd} {w : Cw} (hT : tpOk T) (hw : CwOk T w) (hg : GdOk T.n g) : zaq T (revG g) w = zaq T g w := by
 have tm := hw.tm
 unfold zaq
 rw [znL]
 split
 ·rfl
 ·have hP : ∀ p : I, zcc T (revG g) w p = zcc T g w p := fun p => by
   unfold zcc revG
   simp only [zsf]
   have e : sgnI (neg (ev (zbn T w p) (absC w p) g.f)) = 0 ↔ sgnI (ev (zbn T w p) (absC w p) g.f) = 0 := by
    rw [sgn0, sgn0]
    unfold neg
    simp only
    omega
   rw [Bool.eq_iff_iff, decide_eq_true_iff, decide_eq_true_iff]
   exact e
  have : zcc T (revG g) w = zcc T g w := funext hP
  rw [this]
theorem zoe (f : Ex) (h : ∀ a, f ≠ .un .neg a) : ∃ x r, ser f = x :: r ∧ x.op ≠ 4 := by
 refine ⟨zar f, serL (kids f), zc3 f, ?_⟩
 cases f with
 | un o a => cases o with
  | neg => exact absurd rfl (h a)
  | sqr => exact (by decide : (5 : Int) ≠ 4)
  | sqrt => exact (by decide : (6 : Int) ≠ 4)
 | bin o a b => cases o <;> simp [zar, zao, B.code]
 | num c => exact (by decide : (1 : Int) ≠ 4)
 | var i => exact (by decide : (2 : Int) ≠ 4)
 | time => exact (by decide : (3 : Int) ≠ 4)
set_option maxHeartbeats 1000000 in
theorem zio (f : Ex) (dir : Int) (hd : -2 ≤ dir ∧ dir ≤ 2) (hs : sz f ≤ 500000) (H : AH) : zaf E 31 [gdA ⟨f, dir⟩] H (.ret (gdA (revG ⟨f, dir⟩))) H := by
 refine zab zah zai Tryz.func31 rfl (by rfl) Tryz.ntmps31 (by kernel_rfl) (by simp) ?_
 have wd : IntKind.i64.wrap (-dir) = -dir := zae (by omega) (by omega)
 rcases zca f with ⟨a, rfl, he⟩ | ⟨hne, he⟩
 ·have e1 : ser (.un .neg a) = zao 4 0 :: ser a := rfl
  have hl : (ser a).length ≤ 500000 := by unfold sz at hs; rw [e1] at hs; simp at hs; omega
  have hk : (1 : Int) ≤ ((ser a).length : Int) + 1 := by omega
  have hk0 : (0 : Int) < ((ser a).length : Int) + 1 := by omega
  have htk : List.take (ser a).length (List.map nd (ser a)) = List.map nd (ser a) := List.take_of_length_le (by simp)
  simp [gdA, xs, e1, wd, nd, zao, hk0, hk, htk]
  refine endD [] (by rfl) (by simp [okW, note, Eff.triv, Eff.wr, Eff.none, upTo, newAt]) ?_
  simp
  exact fin1 (rs := [.cell 2 35]) (by rfl) (by simp [resA, gdA, revG, he, xs, nd]) (by simp [noF, noFs, gdA, xs, zec])
 ·obtain ⟨x, r, hxr, hop⟩ := zoe f hne
  have hl : (x :: r).length ≤ 500000 := by unfold sz at hs; rw [hxr] at hs; exact hs
  have hb : (x.op == 4) = false := by rw [beq_eq_false_iff_ne]; exact hop
  have hk0 : (0 : Int) < (r.length : Int) + 1 := by omega
  have ap := fun (H : AH) => zdN (H := H) (l := [zao 4 0]) (m := x :: r) (f := false) (by simp) (by simp at hl ⊢; omega)
  simp only [List.map_cons, List.map_nil, nd, zao] at ap
  simp [gdA, xs, hxr, nd, zao, hk0, hb]
  refine bind_some (by simpa [nd] using ap _) ?_
  simp [wd]
  refine finG (rs := [.cell 2 35]) (vs := [.agg [.ref (H.length + 2) (1 + (r.length + 1)), .int .i64 (-dir)]]) (vs' := [gdA (revG ⟨f, dir⟩)]) (J' := [.row true 2 [.agg [xs (x :: r), .int .i64 dir]], .row true 2 [.agg [.ref (H.length + 2) (1 + (r.length + 1)), .int .i64 (-dir)]], .row false 4 ((zao 4 0 :: x :: r).map nd)]) (by rfl) (by simp [resA]) ?_ rfl (fun b => .inl rfl) (by simp [noF, noFs, gdA, xs, zec]) (by simp [one, gdA, xs])
  simp [gdA, revG, he, xs, ser, hxr, nd, zao, U.code, Nat.add_comm]
theorem zlL (xv : List I) (t : I) (g : Ex) (f : List I) : ∀ i, zbL xv t g f i = lieS xv t g f i
 | 0 => rfl
 | i + 1 => by simp only [zbL, lieS, zlL xv t g f i]
theorem zhH {q : Iq} (v : Vr) : sz (dif v (iqG q).f) ≤ 302 := by
 have h := ((zqF 5 (iqG q).f (zu6 _ _ _)).2 v).1
 rwa [f1_5] at h
theorem zfC {q : Iq} (v : Vr) : sz (dif v (revG (iqG q)).f) ≤ 303 := by
 have h := zhH (q := q) v
 show sz (dif v (revE (iqG q).f)) ≤ 303
 rcases zca (iqG q).f with ⟨a, e, k⟩ | ⟨_, k⟩
 ·rw [k]; rw [e, zjL] at h; omega
 ·rw [k, zjL]; omega
theorem zr6 (q : Iq) : sz (iqG q).f ≤ 31 := zo1 _ _ _
theorem zoA (l : List I) (hl : l.length ≤ 1000000) (H : AH) : zaf E 20 [rwN l, rwN l] H (.ret (.bool true)) H := by
 unfold rwN
 split
 ·exact zoB H
 ·have := zj0 l l hl hl H
  rwa [decide_eq_true rfl] at this
def zoL (q : Iq) (s : Sg) : Bool := sgnI (zbL s.tube (s.t, s.t + s.h) (iqG q).f ((iqS q).f.map (ev s.tube (s.t, s.t + s.h))) (iqS q).f.length) != 0
theorem zmj {q : Iq} (hq : IqOk q) {s : Sg} (k : PrOk q s) (Hx : AH) : zaf E 23 [sys (iqS q), gdA (iqG q), cwA (iqW q s)] Hx (.ret (.bool (zoL q s))) Hx ∧ zaf E 23 [sys (iqS q), gdA (revG (iqG q)), cwA (iqW q s)] Hx (.ret (.bool (zoL q s))) Hx := by
 obtain ⟨hT, hTn⟩ := zfu hq
 obtain ⟨⟨hN, hN1, hN2⟩, hO, hO1, hO2⟩ := zfw hq
 have ha := zdG (l := q.F) (most := 5) (i := iqN q) (N := iqN q) (by omega)
 have hl5 := zdf q.F 5 (iqN q) (iqN q)
 have hg := zmw hq
 have hgs := zr6 q
 have tm := k.w.tm
 have hf : ∀ e ∈ (iqS q).f, sz e ≤ 1000000000 ∧ wf (iqT q).n e = true := fun e he => by
  have := ha e he
  rw [hTn]; exact ⟨by omega, this.2⟩
 have hfl : (iqS q).f.length = iqN q := hl5
 have hv : vB (s.t, s.t + s.h) = true := zav (by have : (iqW q s).s = s := rfl; rw [this] at tm; omega) (by have : (iqW q s).s = s := rfl; rw [this] at tm; omega) (by have : (iqW q s).s = s := rfl; rw [this] at tm; omega)
 refine ⟨zqt (iqT q) (iqS q) (iqG q) (iqW q s) k.w (by omega) hf (by omega) hg (by have := zhH (q := q) .tm; omega) (fun j _ => by have := zhH (q := q) (.st j); omega) Hx, ?_⟩
 have h2 := zqt (iqT q) (iqS q) (revG (iqG q)) (iqW q s) k.w (by omega) hf (by omega) (zlw hg (by omega)) (by have := zfC (q := q) .tm; omega) (fun j _ => by have := zfC (q := q) (.st j); omega) Hx
 have hww : (iqW q s).s = s := rfl
 have hwf : wf s.tube.length (iqG q).f = true := by
  have : s.tube.length = (iqT q).n := k.w.nt
  rw [this]; exact hg.wf
 have e : sgnI (zbL (iqW q s).s.tube ((iqW q s).s.t, (iqW q s).s.t + (iqW q s).s.h) (revG (iqG q)).f ((iqS q).f.map (ev (iqW q s).s.tube ((iqW q s).s.t, (iqW q s).s.t + (iqW q s).s.h))) (iqS q).f.length) = - sgnI (zbL s.tube (s.t, s.t + s.h) (iqG q).f ((iqS q).f.map (ev s.tube (s.t, s.t + s.h))) (iqS q).f.length) := by
  rw [zlL, zlL]
  show sgnI (lieS s.tube (s.t, s.t + s.h) (revE (iqG q).f) _ _) = _
  rw [zo6 hwf]
  exact zsK (zan (zf1 (xv := s.tube) k.w.vt hv hwf _)).2.1
 rw [e] at h2
 have e2 : (-sgnI (zbL s.tube (s.t, s.t + s.h) (iqG q).f ((iqS q).f.map (ev s.tube (s.t, s.t + s.h))) (iqS q).f.length) != 0) = zoL q s := by
  unfold zoL
  generalize sgnI _ = z
  rw [Bool.eq_iff_iff, bne_iff_ne, bne_iff_ne]
  omega
 rwa [e2] at h2
set_option maxRecDepth 100000 in
set_option maxHeartbeats 4000000 in
theorem zns (q : Iq) (hq : IqOk q) (H : AH) : zaf E 9 [iqA q] H (.ret (.bool true)) H := by
 refine zab zah zai Tryz.func9 rfl (by rfl) Tryz.ntmps9 (by kernel_rfl) (by simp) ?_
 have hP := fun Hx => zet q hq Hx
 obtain ⟨hT, hTn⟩ := zfu hq
 obtain ⟨⟨hN, hN1, hN2⟩, hO, hO1, hO2⟩ := zfw hq
 have fin : ∀ {fr : AFr} {J : AH} {e : zb3}, fr 2 = .bool true → (e = .ret ∨ e = .normal) → zbz E Tryz.f9 H (.ret (.bool true)) H e fr (H ++ J) := fun h he => fin1 (rs := [.tmp 2]) (by rfl) (by simp [resA, h]) (by simp [noF]) he
 have ha := zdG (l := q.F) (most := 5) (i := iqN q) (N := iqN q) (by omega)
 have hl5 := zdf q.F 5 (iqN q) (iqN q)
 have hCo : ∀ Hx, zaf E 17 [sys (iqS q)] Hx (.ret (tpA (iqT q))) Hx := zdp (iqS q) (by show 0 < (mds q.F 5 (iqN q) (iqN q)).length ∧ (mds q.F 5 (iqN q) (iqN q)).length ≤ 6; rw [hl5]; omega) (fun e he => (ha e he).1)
 unfold prA at hP
 cases hs : zfv q with
 | none =>
  rw [hs] at hP
  simp only [iqA, zwA] at hP
  simp [iqA]
  refine zaa (zcm _) ?_
  simp
  refine zaa (hP _) ?_
  simp [sys, gdA]
  exact fin (by simp) (by simp)
 | some s =>
  rw [hs] at hP
  have k := prOk hq hs
  have hg := zmw hq
  have hgs := zr6 q
  have hdir : -2 ≤ (iqG q).dir ∧ (iqG q).dir ≤ 2 := by
   obtain ⟨t1, t2⟩ := zay q.dir (b := 2) (by decide)
   show -2 ≤ q.dir.tmod 2 ∧ q.dir.tmod 2 ≤ 2
   by_cases h : 0 ≤ q.dir
   ·have := t1 h; omega
   ·have := t2 (by omega); omega
  have hRv := fun Hx => zio (iqG q).f (iqG q).dir hdir (by omega) Hx
  have hgr : GdOk (iqT q).n (revG (iqG q)) := zlw hg (by omega)
  have hpi := k.parts
  have hln := k.len
  have hpr := zhg (w := iqW q s) hT k.w hg
  have hpp : ∀ p ∈ zaq (iqT q) (iqG q) (iqW q s), 0 ≤ p.1 ∧ p.1 ≤ p.2 ∧ p.2 ≤ (iqW q s).s.h := fun p hp => by have := hpi.inn p hp; exact ⟨this.1, by omega, this.2.2⟩
  have hTi := fun Hx => ze8 (iqT q) (iqG q) (iqW q s) hT (by omega) k.w hg hpp (by omega) Hx
  have hLo := fun Hx => zdZ (iqT q) (iqG q) (iqW q s) hT (by omega) k.w hg hpp (by omega) Hx
  have hTr := fun Hx => ze8 (iqT q) (revG (iqG q)) (iqW q s) hT (by omega) k.w hgr (by rw [hpr]; exact hpp) (by rw [hpr]; omega) Hx
  have hLr := fun Hx => zdZ (iqT q) (revG (iqG q)) (iqW q s) hT (by omega) k.w hgr (by rw [hpr]; exact hpp) (by rw [hpr]; omega) Hx
  rw [hpr] at hTr hLr
  have hO1 := fun Hx => (zmj hq k Hx).1
  have hO2 := fun Hx => (zmj hq k Hx).2
  have tm := k.w.tm
  have hEl : ∀ x, (zbn (iqT q) (iqW q s) x).length = (iqT q).n := fun x => (zbV (T := iqT q) (x := (iqW q s).s.frm) (b := (iqW q s).s.pre) (t := (iqW q s).s.t) (h := (iqW q s).s.h) (part := x) (order := (iqW q s).order) hT k.w.vf k.w.vp (by omega) (by omega)).2
  obtain ⟨L, u, b, hLe, hLs⟩ : ∃ (L : AV) (u : I) (b : Bool), locA (iqT q) (iqW q s) (zaq (iqT q) (iqG q) (iqW q s)) = .tuple [L, iv u, .bool b] ∧ (∀ Hx, zaf E 20 [L, L] Hx (.ret (.bool true)) Hx) := by
   cases hp : zaq (iqT q) (iqG q) (iqW q s) with
   | nil => exact ⟨.nilslice, (0, 0), false, rfl, zoB⟩
   | cons p r =>
    have l1 := zfS (T := iqT q) (w := iqW q s) (p := p) (r := r) hEl
    refine ⟨bx (stS (iqT q) (iqW q s) p r), tmS2 (iqW q s) p r, true, rfl, fun Hx => ?_⟩
    have := zj0 (stS (iqT q) (iqW q s) p r) (stS (iqT q) (iqW q s) p r) (by omega) (by omega) Hx
    rwa [decide_eq_true rfl] at this
  rw [hLe] at hLo hLr
  have hSt := fun Hx => zoA ((zaq (iqT q) (iqG q) (iqW q s)).map (absC (iqW q s))) (by rw [List.length_map]; omega) Hx
  generalize zaq (iqT q) (iqG q) (iqW q s) = P at *
  generalize rwN (P.map (absC (iqW q s))) = RT at *
  generalize zoL q s = ob at *
  generalize hrg : revG (iqG q) = rg at *
  simp only [iqA, gdA, cwA, sys, tpA, outA, bx] at hP hCo hTi hLo hTr hLr hO1 hO2 hRv
  simp [iqA]
  refine zaa (zcm _) ?_
  simp
  refine zaa (hP _) ?_
  simp
  refine zac (fun Hx => by simpa using hCo Hx) ?_
  simp
  refine zac (fun Hx => by simpa using hRv Hx) ?_
  simp [xs]
  refine endD [(4, 6), (5, 7)] (by rfl) (by simp [okW, note, Eff.triv, Eff.wr, Eff.none, upTo, newAt]) ?_
  simp
  refine zaa (by simpa [xs] using hLo _) ?_
  simp
  refine zaa (by simpa [xs] using hLr _) ?_
  simp
  refine zac (fun Hx => by simpa [xs] using hTi Hx) ?_
  simp
  refine zac (fun Hx => by simpa [xs] using hTr Hx) ?_
  simp
  refine zac (fun Hx => by simpa [xs] using hSt Hx) ?_
  simp
  refine zac (fun Hx => by simpa [xs] using hLs Hx) ?_
  simp
  refine zac (fun Hx => by simpa [xs] using hO1 Hx) ?_
  simp
  refine zac (fun Hx => by simpa [xs] using hO2 Hx) ?_
  simp
  refine endD [] (by rfl) (by simp [okW, note, Eff.triv, Eff.wr, Eff.none, upTo, newAt]) ?_
  simp
  exact fin (by simp) (by simp)
theorem zlM (l : List I) (t : Int) (hl : l.length ≤ 1000000000) (H : AH) : zaf E 29 [rwN l, .int .i64 t] H (.ret (.bool (l.any fun p => conB p t))) H := by
 unfold rwN
 split
 ·rename_i h
  subst h
  have := zmt [] t hl H
  simp only [bx, List.map_nil] at this
  exact zaf.weaken (args' := [.slice [] false, .int .i64 t]) this ⟨Wk.nil, Wk.refl _, trivial⟩
 ·exact zmt l t hl H
theorem zpY {T : Tp} {g : Gd} {w : Cw} {x : Int} (hw : CwOk T w) (hx : 0 ≤ x ∧ x ≤ w.s.h) (hc : zb8 g w.s ≠ 0) (hP : ∀ q : I, 0 ≤ q.1 → q.1 < q.2 → q.2 ≤ w.s.h → q.1 ≤ x → x ≤ q.2 → zcc T g w q = true) : ((zaq T g w).map (absC w)).any (fun p => conB p (w.s.t + x)) = true := by
 have tm := hw.tm
 obtain ⟨q, q1, q2, q3⟩ := zfk hw.le.1 (by omega) hx hc hP
 refine List.any_eq_true.2 ⟨absC w q, List.mem_map.2 ⟨q, q1, rfl⟩, ?_⟩
 unfold conB absC
 simp only [Bool.or_eq_true, Bool.and_eq_true, decide_eq_true_eq]
 right; omega
theorem znl {T : Tp} {g : Gd} {w : Cw} (hw : CwOk T w) (hh : w.s.h ≤ 131072) : zdP w.s.h (zaq T g w) ∧ ((zaq T g w).length : Int) ≤ 131072 := by
 have tm := hw.tm
 unfold zaq
 split
 ·exact ⟨⟨by simp, by simp⟩, by simp⟩
 ·refine ⟨zgA (h := w.s.h) hw.le.1 (by omega), ?_⟩
  have := zhf (P := zcc T g w) (h := w.s.h) hw.le.1 (by omega)
  omega
theorem zuq {a b t : Int} (ha : -1073741824 < a) (hab : a ≤ b) (hb : b < 1073741824) (ht : -1073741824 < t ∧ t < 1073741824) : sub (a, b) (t, t) = (a - t, b - t) := by
 unfold sub neg
 simp only
 rw [zqj (by omega) (by omega) (by omega) (by omega) (by omega) (by omega)]
 exact Prod.ext (by show a + -t = a - t; omega) (by show b + -t = b - t; omega)
theorem zrr {x : List I} {a b t : Int} (ha : -1073741824 < a) (hab : a ≤ b) (hb : b < 1073741824) (ht : -1073741824 < t ∧ t < 1073741824) : ev x (a, b) (minE true t) = (a - t, b - t) := by
 show sub (a, b) (pt t) = _
 rw [zj4 (by omega), zuq ha hab hb ht]
theorem zqx {T : Tp} {w : Cw} {x d : Int} (hw : CwOk T w) (hx : 1 ≤ x ∧ x ≤ w.s.h) (hd : d = 0 ∨ d = 1) : GdOk T.n ⟨minE true (w.s.t + x), d⟩ ∧ zb8 ⟨minE true (w.s.t + x), d⟩ w.s ≠ 0 ∧
  ∀ q : I, 0 ≤ q.1 → q.1 < q.2 → q.2 ≤ w.s.h → q.1 ≤ x → x ≤ q.2 → zcc T ⟨minE true (w.s.t + x), d⟩ w q = true := by
 have tm := hw.tm
 refine ⟨⟨by show sz (minE true (w.s.t + x)) ≤ _; simp [minE, sz, ser], by show wf T.n (minE true (w.s.t + x)) = true; simp [minE, wf, zi4]⟩, ?_, fun q q1 q2 q3 q4 q5 => ?_⟩
 ·unfold zb8
  simp only
  rw [zrr (by omega) (by omega) (by omega) (by omega), zrr (by omega) (by omega) (by omega) (by omega), zrr (by omega) (by omega) (by omega) (by omega)]
  have hu : upI (w.s.t - (w.s.t + x), w.s.t + w.s.h - (w.s.t + x)) (w.s.t - (w.s.t + x), w.s.t - (w.s.t + x)) (w.s.t + w.s.h - (w.s.t + x), w.s.t + w.s.h - (w.s.t + x)) = 2 := by
   unfold upI
   rw [if_pos (by simp only; omega)]
  unfold crI
  rw [hu]
  rcases hd with rfl | rfl <;> simp
 ·unfold zcc
  rw [decide_eq_true_iff]
  have e : absC w q = (w.s.t + q.1, w.s.t + q.2) := rfl
  simp only
  rw [e, zrr (by omega) (by omega) (by omega) (by omega)]
  exact sgn0.2 ⟨by simp only; omega, by simp only; omega⟩
set_option maxRecDepth 100000 in
set_option maxHeartbeats 4000000 in
theorem zo7 (q : Iq) (hq : IqOk q) (off : Int) (hof : -9223372036854775808 ≤ off ∧ off ≤ 9223372036854775807) (H : AH) : zaf E 5 [iqA q, .int .i64 off] H (.ret (.bool true)) H := by
 refine zab zah zai Tryz.func5 rfl (by rfl) Tryz.ntmps5 (by kernel_rfl) (by simp) ?_
 have hP := fun Hx => zet q hq Hx
 obtain ⟨hT, hTn⟩ := zfu hq
 obtain ⟨⟨hN, hN1, hN2⟩, hO, hO1, hO2⟩ := zfw hq
 have fin : ∀ {fr : AFr} {J : AH} {e : zb3}, fr 4 = .bool true → (e = .ret ∨ e = .normal) → zbz E Tryz.f5 H (.ret (.bool true)) H e fr (H ++ J) := fun h he => fin1 (rs := [.tmp 4]) (by rfl) (by simp [resA, h]) (by simp [noF]) he
 have ha := zdG (l := q.F) (most := 5) (i := iqN q) (N := iqN q) (by omega)
 have hl5 := zdf q.F 5 (iqN q) (iqN q)
 have hCo : ∀ Hx, zaf E 17 [sys (iqS q)] Hx (.ret (tpA (iqT q))) Hx := zdp (iqS q) (by show 0 < (mds q.F 5 (iqN q) (iqN q)).length ∧ (mds q.F 5 (iqN q) (iqN q)).length ≤ 6; rw [hl5]; omega) (fun e he => (ha e he).1)
 unfold prA at hP
 cases hs : zfv q with
 | none =>
  rw [hs] at hP
  simp only [iqA, zwA] at hP
  simp [iqA]
  refine zaa (zcm _) ?_
  simp
  refine zaa (hP _) ?_
  simp [sys, gdA]
  exact fin (by simp) (by simp)
 | some s =>
  rw [hs] at hP
  have k := prOk hq hs
  have hhb := k.hb
  have tm := k.w.tm
  have ts : (iqW q s).s.h = s.h := rfl
  have tt : (iqW q s).s.t = s.t := rfl
  have tb : (iqW q s).s.tube = s.tube := rfl
  rw [ts, tt] at tm
  obtain ⟨t1, t2⟩ := zay off (b := s.h) (by omega)
  have hr : -s.h < off.tmod s.h ∧ off.tmod s.h < s.h := by
   by_cases h : 0 ≤ off
   ·have := t1 h; omega
   ·have := t2 (by omega); omega
  have h1 := Int.tmod_nonneg s.h (a := off.tmod s.h + s.h) (by omega)
  have h2 := Int.tmod_lt_of_pos (off.tmod s.h + s.h) (b := s.h) (by omega)
  have w1 : IntKind.i64.wrap (s.t + 1) = s.t + 1 := zae (by omega) (by omega)
  have w2 : IntKind.i64.wrap (off.tmod s.h) = off.tmod s.h := zae (by omega) (by omega)
  have w3 : IntKind.i64.wrap (off.tmod s.h + s.h) = off.tmod s.h + s.h := zae (by omega) (by omega)
  have w4 : IntKind.i64.wrap ((off.tmod s.h + s.h).tmod s.h) = (off.tmod s.h + s.h).tmod s.h := zae (by omega) (by omega)
  have hne : ¬ s.h = 0 := by omega
  generalize hye : (off.tmod s.h + s.h).tmod s.h = y at *
  obtain ⟨x, hx⟩ : ∃ x, x = y + 1 := ⟨_, rfl⟩
  have w5 : IntKind.i64.wrap (s.t + 1 + y) = s.t + x := by rw [zae (by omega) (by omega)]; omega
  have hxb : 1 ≤ x ∧ x ≤ s.h := by omega
  obtain ⟨d1, d2⟩ := zay q.dir (b := 2) (by decide)
  have hdd := hq.hd
  have hdir : q.dir.tmod 2 = -1 ∨ q.dir.tmod 2 = 0 ∨ q.dir.tmod 2 = 1 := by
   by_cases h : 0 ≤ q.dir
   ·have := d1 h; omega
   ·have := d2 (by omega); omega
  have wd0 : IntKind.i64.wrap q.dir = q.dir := zae (by omega) (by omega)
  have wd1 : IntKind.i64.wrap (q.dir.tmod 2) = q.dir.tmod 2 := zae (by omega) (by omega)
  obtain ⟨d, hd01, hdc⟩ : ∃ d : Int, (d = 0 ∨ d = 1) ∧ ((q.dir.tmod 2 = d) ∨ (q.dir.tmod 2 = -1 ∧ d = 1)) := by
   rcases hdir with h | h | h
   ·exact ⟨1, .inr rfl, .inr ⟨h, rfl⟩⟩
   ·exact ⟨0, .inl rfl, .inl h⟩
   ·exact ⟨1, .inr rfl, .inl h⟩
  obtain ⟨hg0, hc0, hkp⟩ := zqx (d := d) k.w (x := x) hxb hd01
  rw [tt] at hg0 hc0 hkp
  generalize hdm : q.dir.tmod 2 = dm at *
  obtain ⟨g, hgE, hg, hpr⟩ : ∃ g : Gd, ((dm = d ∧ g = ⟨minE true (s.t + x), d⟩) ∨ (dm = -1 ∧ d = 1 ∧ g = revG ⟨minE true (s.t + x), 1⟩)) ∧ GdOk (iqT q).n g ∧ zaq (iqT q) g (iqW q s) = zaq (iqT q) ⟨minE true (s.t + x), d⟩ (iqW q s) := by
   rcases hdc with h | ⟨h, hd1⟩
   ·exact ⟨_, .inl ⟨h, rfl⟩, hg0, rfl⟩
   ·subst hd1
    exact ⟨_, .inr ⟨h, rfl, rfl⟩, zlw hg0 (by show sz (minE true (s.t + x)) ≤ _; simp [minE, sz, ser]), zhg hT k.w hg0⟩
  have hany := zpY (T := iqT q) (g := ⟨minE true (s.t + x), d⟩) (x := x) k.w (by rw [ts]; omega) hc0 hkp
  obtain ⟨q0, qm, qa, qb⟩ := zfk (T := iqT q) (g := ⟨minE true (s.t + x), d⟩) (w := iqW q s) (x := x) k.w.le.1 hhb.1 (by rw [ts]; omega) hc0 hkp
  rw [← hpr] at hany qm
  rw [tt] at hany
  obtain ⟨hpi, hln⟩ := znl (g := g) k.w hhb.2
  have hpp : ∀ p ∈ zaq (iqT q) g (iqW q s), 0 ≤ p.1 ∧ p.1 ≤ p.2 ∧ p.2 ≤ (iqW q s).s.h := fun p hp => by have := hpi.inn p hp; exact ⟨this.1, by omega, this.2.2⟩
  have hTi := fun Hx => ze8 (iqT q) g (iqW q s) hT (by omega) k.w hg hpp (by omega) Hx
  have hLo := fun Hx => zdZ (iqT q) g (iqW q s) hT (by omega) k.w hg hpp (by omega) Hx
  have hCv := fun Hx => zlM ((zaq (iqT q) g (iqW q s)).map (absC (iqW q s))) (s.t + x) (by rw [List.length_map]; omega) Hx
  rw [hany] at hCv
  have hEl : ∀ x, (zbn (iqT q) (iqW q s) x).length = (iqT q).n := fun x => (zbV (T := iqT q) (x := (iqW q s).s.frm) (b := (iqW q s).s.pre) (t := (iqW q s).s.t) (h := (iqW q s).s.h) (part := x) (order := (iqW q s).order) hT k.w.vf k.w.vp (by omega) (by omega)).2
  have hsub := k.sub
  have hnt : s.tube.length = (iqT q).n := k.w.nt
  obtain ⟨S, u, hLe, hSl, hSs, hu⟩ : ∃ (S : List I) (u : I), locA (iqT q) (iqW q s) (zaq (iqT q) g (iqW q s)) = .tuple [bx S, iv u, .bool true] ∧ S.length = s.tube.length ∧ subI S s.tube = true ∧ conB u (s.t + x) = true := by
   cases hp : zaq (iqT q) g (iqW q s) with
   | nil => rw [hp] at qm; simp at qm
   | cons p r =>
    rw [hp] at qm hpi
    refine ⟨stS (iqT q) (iqW q s) p r, tmS2 (iqW q s) p r, rfl, ?_, zlk hEl r p (fun z hz => by have h1 := hpi.inn z hz; exact hsub z h1.1 h1.2.1 h1.2.2), ?_⟩
    ·rw [hnt]; exact zfS hEl
    ·have := zuo (w := iqW q s) r p q0 qm
     have a1 := this.1
     have a2 := this.2
     have b1 : (absC (iqW q s) q0).1 = s.t + q0.1 := rfl
     have b2 : (absC (iqW q s) q0).2 = s.t + q0.2 := rfl
     unfold conB
     simp only [Bool.or_eq_true, Bool.and_eq_true, decide_eq_true_eq]
     right; omega
  rw [hLe] at hLo
  have hSu := fun Hx => zi1 S s.tube (by omega) (by omega) Hx
  rw [hSs] at hSu
  have hCt := fun Hx => zjX u (s.t + x) Hx
  rw [hu] at hCt
  have hMi := fun Hx => zms true (s.t + x) Hx
  have hRv := fun Hx => zio (minE true (s.t + x)) 1 (by decide) (by simp [minE, sz, ser]) Hx
  have hll : ((S.length : Int) == (s.tube.length : Int)) = true := by rw [beq_iff_eq]; omega
  generalize rwN ((zaq (iqT q) g (iqW q s)).map (absC (iqW q s))) = RT at *
  clear hany hpi hln hpp hkp hc0 hg0 hpr qm hsub hLe
  generalize minE true (s.t + x) = em at *
  simp only [iqA, gdA, cwA, sys, tpA, outA, bx] at hP hCo hTi hLo hSu hRv
  simp only [ts, tt, tb] at hTi hLo
  simp [iqA]
  refine zaa (zcm _) ?_
  simp
  refine zaa (hP _) ?_
  simp [ts, tt, tb, hne, w1, w2, w3, hye, w4, w5]
  refine endD [] (by rfl) (by simp [okW, note, Eff.triv, Eff.wr, Eff.none, upTo, newAt]) ?_
  simp
  refine zac (fun Hx => by simpa using hMi Hx) ?_
  simp [wd0, hdm, wd1, xs]
  refine endD [(7, 8)] (by rfl) (by simp [okW, note, Eff.triv, Eff.wr, Eff.none, upTo, newAt]) ?_
  rcases hgE with ⟨e1, e2⟩ | ⟨e1, e2, e3⟩
  ·subst e1
   subst e2
   have hb : (dm == -1) = false := by rw [beq_eq_false_iff_ne]; omega
   simp [hb]
   refine zaa (by simpa [xs] using hCo _) ?_
   simp
   refine zaa (by simpa [xs] using hLo _) ?_
   simp [hll]
   refine zaa (by simpa [xs] using hTi _) ?_
   simp
   refine zaa (by simpa using hCv _) ?_
   simp [hll]
   refine zaa (by simpa using hSu _) ?_
   simp
   refine zaa (by simpa using hCt _) ?_
   simp
   exact fin (by simp) (by simp)
  ·subst e1
   subst e3
   simp
   refine zaa (by simpa using hMi _) ?_
   simp [xs]
   refine zaa (by simpa [xs] using hRv _) ?_
   simp [xs]
   refine zaa (by simpa [xs] using hCo _) ?_
   simp
   refine zaa (by simpa [xs] using hLo _) ?_
   simp [hll]
   refine zaa (by simpa [xs] using hTi _) ?_
   simp
   refine zaa (by simpa using hCv _) ?_
   simp [hll]
   refine zaa (by simpa using hSu _) ?_
   simp
   refine zaa (by simpa using hCt _) ?_
   simp
   exact fin (by simp) (by simp)
@[simp ↓ high] theorem conv_xs (H : AH) (l : List Nd) : conv H (xs l) = (xs l, H) := by simp [xs]
@[simp ↓ high] theorem conv_bx (H : AH) (l : List I) : conv H (bx l) = (bx l, H) := by simp [bx]
@[simp ↓ high] theorem conv_mx (H : AH) (l : List (List I)) : conv H (mx l) = (mx l, H) := by simp [mx]
def vX : Ex := .var 0
def k2 : Ex := zaN 2
def oneI : I := pt 65536
def quo : Ex := .bin .div (zaN (-1)) (.un .sqr vX)
theorem oneV : vB oneI = true := by decide
end Go.Proofs.YtkghjlgpmeibhaaGreatDoor.Arm

namespace Go.Arm
theorem zo5 {α : Type} {f : α → AV} {p : α → Prop} : ∀ {xs : List AV}, (∀ x ∈ xs, ∃ a, x = f a ∧ p a) → ∃ l : List α, xs = l.map f ∧ ∀ a ∈ l, p a
 | [], h => ⟨[], rfl, fun a ha => by cases ha⟩
 | x :: r, h => by
  obtain ⟨a, rfl, ha⟩ := h x (by simp)
  obtain ⟨l, rfl, hl⟩ := zo5 (xs := r) (fun y hy => h y (by simp [hy]))
  exact ⟨a :: l, rfl, fun b hb => by
   rcases List.mem_cons.1 hb with rfl | hb
   ·exact ha
   ·exact hl b hb⟩
theorem zbo {ok : TypeId → AV → Prop} {f : TypeId × Nat} {fs : List (TypeId × Nat)} {vs : List AV} (h : OkL ok (f :: fs) vs) : ∃ v vs', vs = v :: vs' ∧ ok f.1 v ∧ OkL ok fs vs' := by
 cases vs with
 | nil => exact h.elim
 | cons v vs' => exact ⟨v, vs', rfl, h.1, h.2⟩
theorem zi9 {ok : TypeId → AV → Prop} {vs : List AV} (h : OkL ok [] vs) : vs = [] := by
 cases vs with
 | nil => rfl
 | cons v vs' => exact h.elim
section
variable {tab : Tab}
theorem zgt {n : Nat} {t : TypeId} {i : TI} {k : IntKind} {v : AV} (hi : tab t = some i) (hd : i.d = .int k) (h : OkA tab (n + 1) t v) : ∃ x, v = .int k x ∧ (Lit.int k x).wf = true := by
 unfold OkA at h
 rw [hi] at h
 simp only [hd] at h
 exact h
theorem zs7 {n : Nat} {t e : TypeId} {i ie : TI} {v : AV} (hi : tab t = some i) (hd : i.d = .slice e) (he : tab e = some ie) (h : OkA tab (n + 1) t v) : ∃ xs, v = .slice xs false ∧ (∀ x ∈ xs, OkA tab n e x) ∧ xs.length * ie.bytes ≤ reachBytes ∧ xs.length ≤ maxLen := by
 unfold OkA at h
 rw [hi] at h
 simp only [hd] at h
 obtain ⟨xs, h1, h2, h3, h4⟩ := h
 exact ⟨xs, h1, h2, h3 ie he, h4⟩
theorem zgB {n : Nat} {t : TypeId} {i : TI} {fs : List (TypeId × Nat)} {v : AV} (hi : tab t = some i) (hd : i.d = .struct fs) (h : OkA tab (n + 1) t v) : ∃ vs : List AV, v = .agg (vs.flatMap AV.cells) ∧ OkL (OkA tab n) fs vs := by
 unfold OkA at h
 rw [hi] at h
 simp only [hd] at h
 exact h
theorem zs8 {α : Type} {f : α → AV} {p : α → Prop} {n : Nat} {t e : TypeId} {i ie : TI} {v : AV} (hi : tab t = some i) (hd : i.d = .slice e) (he : tab e = some ie) (hb : 0 < ie.bytes) (hf : ∀ x, OkA tab n e x → ∃ a, x = f a ∧ p a) (h : OkA tab (n + 1) t v) :
  ∃ l : List α, v = .slice (l.map f) false ∧ (∀ a ∈ l, p a) ∧ l.length ≤ 140737488351232 := by
 obtain ⟨xs, rfl, h1, h2, h3⟩ := zs7 hi hd he h
 obtain ⟨l, rfl, hl⟩ := zo5 (f := f) (p := p) (fun x hx => hf x (h1 x hx))
 refine ⟨l, rfl, hl, ?_⟩
 have e : reachBytes = 140737488351232 := rfl
 rw [e, List.length_map] at h2
 exact Nat.le_trans (Nat.le_mul_of_pos_right _ hb) h2
end
theorem zoQ {T : Tab} {m : Nat} {a : TypeId} {av : List AV} (h : zgq T m [a] av) : ∃ x, av = [x] ∧ OkA T m a x := by
 match av, h with
 | [x], h => exact ⟨x, rfl, h.1⟩
theorem zoP {T : Tab} {m : Nat} {a b : TypeId} {av : List AV} (h : zgq T m [a, b] av) : ∃ x y, av = [x, y] ∧ OkA T m a x ∧ OkA T m b y := by
 match av, h with
 | [x, y], h => exact ⟨x, y, rfl, h.1, h.2.1⟩
theorem wfI {k : IntKind} {x : Int} (h : (Lit.int k x).wf = true) : k.min ≤ x ∧ x ≤ k.max := by
 simp [Lit.wf] at h
 exact h
end Go.Arm

namespace Go.Proofs.YtkghjlgpmeibhaaGreatDoor.Arm
open Go.Arm Go.Pl
theorem okIv {n : Nat} {v : AV} (h : OkA tab (n + 2) 48 v) : ∃ p : I, v = iv p ∧ True := by
 obtain ⟨vs, rfl, hv⟩ := zgB tab48 rfl h
 obtain ⟨a, vs, rfl, ha, hv⟩ := zbo hv
 obtain ⟨b, vs, rfl, hb, hv⟩ := zbo hv
 cases zi9 hv
 obtain ⟨x, rfl, hx⟩ := zgt tab2 rfl ha
 obtain ⟨y, rfl, hy⟩ := zgt tab2 rfl hb
 exact ⟨(x, y), rfl, trivial⟩
theorem okNd {n : Nat} {v : AV} (h : OkA tab (n + 3) 121 v) : ∃ p : Nd, v = nd p ∧ True := by
 obtain ⟨vs, rfl, hv⟩ := zgB tab121 rfl h
 obtain ⟨a, vs, rfl, ha, hv⟩ := zbo hv
 obtain ⟨b, vs, rfl, hb, hv⟩ := zbo hv
 obtain ⟨c, vs, rfl, hc, hv⟩ := zbo hv
 cases zi9 hv
 obtain ⟨x, rfl, hx⟩ := zgt tab3 rfl ha
 obtain ⟨y, rfl, hy⟩ := zgt tab3 rfl hb
 obtain ⟨p, rfl, -⟩ := okIv hc
 exact ⟨⟨x, y, p⟩, rfl, trivial⟩
theorem okXs {n : Nat} {v : AV} (h : OkA tab (n + 4) 26 v) : ∃ l : List Nd, v = xs l ∧ l.length ≤ 140737488351232 := by
 obtain ⟨l, rfl, _, hl⟩ := zs8 (f := nd) tab26 rfl tab121 (by decide) (fun x hx => okNd hx) h
 exact ⟨l, rfl, hl⟩
theorem okBx {n : Nat} {v : AV} (h : OkA tab (n + 3) 23 v) : ∃ l : List I, v = bx l ∧ l.length ≤ 140737488351232 := by
 obtain ⟨l, rfl, _, hl⟩ := zs8 (f := iv) tab23 rfl tab48 (by decide) (fun x hx => okIv hx) h
 exact ⟨l, rfl, hl⟩
theorem okXss {n : Nat} {v : AV} (h : OkA tab (n + 5) 22 v) : ∃ l : List (List Nd), v = .slice (l.map xs) false ∧ (∀ r ∈ l, r.length ≤ 140737488351232) ∧ l.length ≤ 140737488351232 := by
 obtain ⟨l, rfl, hr, hl⟩ := zs8 (f := xs) tab22 rfl tab26 (by decide) (fun x hx => okXs hx) h
 exact ⟨l, rfl, hr, hl⟩
theorem wfK8 {x : Int} (h : (Lit.int IntKind.i8 x).wf = true) : -128 ≤ x ∧ x ≤ 127 := by
 have := wfI h
 simp [IntKind.min, IntKind.max, IntKind.signed, IntKind.bits] at this
 exact this
theorem wfK64 {x : Int} (h : (Lit.int IntKind.i64 x).wf = true) : -9223372036854775808 ≤ x ∧ x ≤ 9223372036854775807 := by
 have := wfI h
 simp [IntKind.min, IntKind.max, IntKind.signed, IntKind.bits] at this
 exact this
theorem zul {x : Int} (h : (Lit.int IntKind.u8 x).wf = true) : 0 ≤ x ∧ x ≤ 255 := by
 have := wfI h
 simp [IntKind.min, IntKind.max, IntKind.signed, IntKind.bits] at this
 exact this
theorem okTs {n : Nat} {v : AV} (h : OkA tab (n + 2) 25 v) : ∃ a b : Int, v = .agg [.int .i64 a, .int .i64 b] := by
 obtain ⟨vs, rfl, hv⟩ := zgB tab25 rfl h
 obtain ⟨a, vs, rfl, ha, hv⟩ := zbo hv
 obtain ⟨b, vs, rfl, hb, hv⟩ := zbo hv
 cases zi9 hv
 obtain ⟨x, rfl, hx⟩ := zgt tab2 rfl ha
 obtain ⟨y, rfl, hy⟩ := zgt tab2 rfl hb
 exact ⟨x, y, rfl⟩
theorem okIq {n : Nat} {v : AV} (h : OkA tab (n + 7) 29 v) : ∃ q, v = iqA q ∧ IqOk q := by
 obtain ⟨vs, rfl, hv⟩ := zgB tab29 rfl h
 obtain ⟨a, vs, rfl, ha, hv⟩ := zbo hv
 obtain ⟨b, vs, rfl, hb, hv⟩ := zbo hv
 obtain ⟨c, vs, rfl, hc, hv⟩ := zbo hv
 obtain ⟨d, vs, rfl, hd, hv⟩ := zbo hv
 obtain ⟨e, vs, rfl, he, hv⟩ := zbo hv
 obtain ⟨f, vs, rfl, hf, hv⟩ := zbo hv
 obtain ⟨g, vs, rfl, hg, hv⟩ := zbo hv
 obtain ⟨k, vs, rfl, hk, hv⟩ := zbo hv
 cases zi9 hv
 obtain ⟨F, rfl, h1, h2⟩ := okXss ha
 obtain ⟨x, rfl, h4⟩ := okBx hb
 obtain ⟨t, u, rfl⟩ := okTs hc
 obtain ⟨l, rfl, h5⟩ := okXs hd
 obtain ⟨d, rfl, h6⟩ := zgt tab27 rfl he
 obtain ⟨m, rfl, h7⟩ := zgt tab2 rfl hf
 obtain ⟨p, rfl, h8⟩ := zgt tab5 rfl hg
 obtain ⟨r, rfl, h9⟩ := zgt tab5 rfl hk
 exact ⟨⟨F, x, t, u, l, d, m, p, r⟩, rfl, ⟨fun r hr => by have := h1 r hr; omega, by show F.length ≤ _; omega, by show x.length ≤ _; omega, by show l.length ≤ _; omega, wfK8 h6, zul h8, zul h9⟩⟩
end Go.Proofs.YtkghjlgpmeibhaaGreatDoor.Arm

namespace Go.Proofs.YtkghjlgpmeibhaaGreatDoor.Arm
open Go.Arm Go.Pl Go.ChangeShapes Go.WideShapes Go.ChangeAt Go.RowKit
theorem own : ownKnob Tryz.prog.godebug = none := by kernel_rfl
theorem zjh : laidOutB Tryz.prog = true := by kernel_rfl
def zft : List (String × DataW Unit) := [("armillary/interval.products", Rows.laid_armillary_interval_products), ("armillary/interval.quotients", Rows.laid_armillary_interval_quotients)]
theorem zgK (os : Os) (args : Array Value) : laidMetH Tryz.prog zft ((World.doorLaid Tryz.prog 600 os).forCall (fun _ _ => 0) ⟨#[], args, []⟩).memory :=
 laidMetH_of_parts3 (fuel := 12) (laidMet_of_run' 8 (by kernel_rfl) (by kernel_rfl)) (by kernel_rfl) (by kernel_rfl)
def ziB : List (List UInt8 × FuncId) := [([97, 114, 109, 105, 108, 108, 97, 114, 121, 47, 105, 110, 116, 101, 114, 118, 97, 108, 46, 104, 104], 337), ([97, 114, 109, 105, 108, 108, 97, 114, 121, 47, 105, 110, 116, 101, 114, 118, 97, 108, 46, 108, 108], 338), ([97, 114, 109, 105, 108, 108, 97, 114, 121, 47, 105, 110, 116, 101, 114, 118, 97, 108, 46, 108, 104], 339), ([97, 114, 109, 105, 108, 108, 97, 114, 121, 47, 105, 110, 116, 101, 114, 118, 97, 108, 46, 104, 108], 340)]
theorem zkD : ∀ p ∈ ziB, ((List.range Tryz.prog.funcs.size).filter fun f => (Tryz.prog.funcs[f]?).any (·.name.toUTF8.data.toList == p.1)) = [p.2] := by
 intro p hp
 simp only [ziB, List.mem_cons, List.not_mem_nil, or_false] at hp
 rcases hp with rfl | rfl | rfl | rfl <;> kernel_rfl
theorem zkE : ∀ p ∈ ziB, p.1 ≠ [] := by
 intro p hp
 simp only [ziB, List.mem_cons, List.not_mem_nil, or_false] at hp
 rcases hp with rfl | rfl | rfl | rfl <;> exact List.cons_ne_nil _ _
theorem gProd : Tryz.prog.globalNamed "armillary/interval.products" = some 0 := by kernel_rfl
theorem gQuot : Tryz.prog.globalNamed "armillary/interval.quotients" = some 1 := by kernel_rfl
theorem zgH {W : World} (h : laidMetH Tryz.prog zft W) : ∀ g cs, E.Γ g = some cs → VR [] W (.eptr cs 0) (.pointer (some ⟨g, 0, none⟩)) := by
 intro g cs hg
 have hg' : glob g = some cs := hg
 unfold glob at hg'
 split at hg'
 ·cases hg'
  exact zpz (P := Tryz.prog) (T := tab) (L := ziB) zgQ h (name := "armillary/interval.products") (List.mem_cons_self ..) gProd (t := 240) (by kernel_rfl) (m := 8) (by kernel_rfl) zkD zkE (by kernel_rfl) (by decide)
 ·cases hg'
  exact zpz (P := Tryz.prog) (T := tab) (L := ziB) zgQ h (name := "armillary/interval.quotients") (List.mem_cons_of_mem _ (List.mem_cons_self ..)) gQuot (t := 304) (by kernel_rfl) (m := 8) (by kernel_rfl) zkD zkE (by kernel_rfl) (by decide)
 ·cases hg'
theorem pgMaps : mapsRowed Tryz.prog = true := by kernel_rfl
theorem pgKeys : Tryz.prog.plainKeys = false := by kernel_rfl
theorem pgHeard : Tryz.prog.stopsHeard = true := by kernel_rfl
theorem pgEnter : Tryz.prog.mayEnter = true := by kernel_rfl
theorem pgLooks : true = Tryz.prog.looks [] := by kernel_rfl
theorem pgLift : (Rows.crossingReverseRow.lifted == Tryz.prog.liftsFinal) = true := by kernel_rfl
theorem pgMake : (Tryz.prog.make == some Rows.crossingReverseRow.make) = true := by kernel_rfl
theorem bAnd {a b : Bool} (h : a = true) (g : b = true) : (a && b) = true := by rw [h, g]; rfl
end Go.Proofs.YtkghjlgpmeibhaaGreatDoor.Arm
