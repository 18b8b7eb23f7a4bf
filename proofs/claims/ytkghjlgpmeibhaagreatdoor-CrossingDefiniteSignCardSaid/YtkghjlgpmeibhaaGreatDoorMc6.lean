/- Part of a proof: what the functions of the program do to abstract states, step by step. -/
import Derived.Test.YtkghjlgpmeibhaaGreatDoorMc5
import Derived.Test.YtkghjlgpmeibhaaGreatDoorMc4
import Derived.Test.YtkghjlgpmeibhaaGreatDoorMc2
import Derived.Test.YtkghjlgpmeibhaaGreatDoorTie
import Derived.Test.YtkghjlgpmeibhaaGreatDoorCards
import Derived.ProofKit
import Derived.Stop.Joined
import Derived.SevenTiedAt
set_option linter.unusedVariables false
set_option linter.unusedSimpArgs false
namespace Go.Pl
theorem zi2 {x y : List I} {s t : I} (hx : allV x) (hy : allV y) (hl : x.length = y.length) (vs : vB s = true) (vt : vB t = true) (h : ∀ i, i < x.length → Sb (atN x i) (atN y i)) (hst : Sb s t) : ∀ e : Ex, wf x.length e = true → Sb (ev x s e) (ev y t e)
 | .num c, _ => Sb.refl _
 | .var i, hw => h i (by simpa [wf] using hw)
 | .time, _ => hst
 | .un o a, hw => zrt (zaT hx vs a hw) (zaT hy vt a (by rw [← hl]; exact hw)) (zi2 hx hy hl vs vt h hst a hw)
 | .bin o a b, hw => by
  simp only [wf, Bool.and_eq_true] at hw
  exact zqD (zaT hx vs a hw.1) (zaT hx vs b hw.2) (zaT hy vt a (by rw [← hl]; exact hw.1)) (zaT hy vt b (by rw [← hl]; exact hw.2)) (zi2 hx hy hl vs vt h hst a hw.1) (zi2 hx hy hl vs vt h hst b hw.2)
theorem zkJ {a b : List I} (h : subI a b = true) {i : Nat} (hi : i < a.length) : Sb (atN a i) (atN b i) := by
 unfold subI at h
 rw [List.all_eq_true] at h
 exact Sb.of (h i (List.mem_range.2 hi))
theorem sgn0 {a : I} : sgnI a = 0 ↔ a.1 ≤ 0 ∧ 0 ≤ a.2 := by
 unfold sgnI
 split
 ·exact ⟨fun h => by omega, fun h => by omega⟩
 ·split
  ·exact ⟨fun h => by omega, fun h => by omega⟩
  ·exact ⟨fun h => by omega, fun h => rfl⟩
theorem zpH {a b : I} (h : Sb a b) (h0 : sgnI a = 0) : sgnI b = 0 := by
 have h1 := h.1
 have h2 := h.2
 have := sgn0.1 h0
 exact sgn0.2 (by omega)
theorem zfO {P : I → Bool} {least x : Int} (hl : 1 ≤ least) : ∀ (n : Nat) (p : I), 0 ≤ p.1 → p.1 < p.2 → p.1 ≤ x → x ≤ p.2 → (∀ q : I, p.1 ≤ q.1 → q.1 < q.2 → q.2 ≤ p.2 → q.1 ≤ x → x ≤ q.2 → P q = true) → ∃ q ∈ zcu P least n p, q.1 ≤ x ∧ x ≤ q.2
 | 0, p, h0, h1, a, b, hP => ⟨p, by simp [zcu, hP p (Int.le_refl _) h1 (Int.le_refl _) a b], a, b⟩
 | n + 1, p, h0, h1, a, b, hP => by
  have hp := hP p (Int.le_refl _) h1 (Int.le_refl _) a b
  by_cases h : p.2 - p.1 ≤ least
  ·exact ⟨p, by rw [zdv hp h]; simp, a, b⟩
  ·rw [zfh hp h]
   obtain ⟨e, m1, m2⟩ := zp7 hl h0 (by omega)
   rw [e]
   rcases Int.le_total x ((p.1 + p.2) / 2) with c | c
   ·obtain ⟨q, q1, q2⟩ := zfO hl n (p.1, (p.1 + p.2) / 2) h0 m1 a c (fun q k1 k2 k3 k4 k5 => hP q k1 k2 (by simp only at k3; omega) k4 k5)
    exact ⟨q, List.mem_append.2 (.inl q1), q2⟩
   ·obtain ⟨q, q1, q2⟩ := zfO hl n ((p.1 + p.2) / 2, p.2) (by show 0 ≤ _; omega) m2 c b (fun q k1 k2 k3 k4 k5 => hP q (by simp only at k1; omega) k2 k3 k4 k5)
    exact ⟨q, List.mem_append.2 (.inr q1), q2⟩
theorem zmP {l : List I} {p : I} (hl : ∀ q ∈ l, q.1 ≤ q.2) (hp : p.1 ≤ p.2) : (∀ q ∈ l, ∃ r ∈ zaM l p, Sb q r) ∧ ∃ r ∈ zaM l p, Sb p r := by
 unfold zaM
 split
 ·rename_i hc
  obtain ⟨hpos, hlp⟩ := hc
  obtain ⟨e1, hm⟩ := zd4 hpos
  have hlast := hl _ hm
  rw [zin hpos]
  refine ⟨fun q hq => ?_, ((zc6 l).1, p.2), by simp, by show (zc6 l).1 ≤ p.1; omega, Int.le_refl _⟩
  rw [← e1] at hq
  rcases List.mem_append.1 hq with hq | hq
  ·exact ⟨q, by simp [hq], Sb.refl q⟩
  ·simp at hq; subst hq
   exact ⟨((zc6 l).1, p.2), by simp, Int.le_refl _, by show (zc6 l).2 ≤ p.2; omega⟩
 ·exact ⟨fun q hq => ⟨q, by simp [hq], Sb.refl q⟩, p, by simp, Sb.refl p⟩
theorem zn8 {l : List I} {p : I} (hl : ∀ q ∈ l, q.1 ≤ q.2) (hp : p.1 ≤ p.2) : ∀ q ∈ zaM l p, q.1 ≤ q.2 := by
 unfold zaM
 split
 ·rename_i hc
  obtain ⟨hpos, hlp⟩ := hc
  obtain ⟨e1, hm⟩ := zd4 hpos
  have hlast := hl _ hm
  rw [zin hpos]
  intro q hq
  rcases List.mem_append.1 hq with hq | hq
  ·exact hl q (by rw [← e1]; simp [hq])
  ·simp at hq; subst hq; show (zc6 l).1 ≤ p.2; omega
 ·intro q hq
  rcases List.mem_append.1 hq with hq | hq
  ·exact hl q hq
  ·simp at hq; subst hq; exact hp
theorem zjM : ∀ (L l : List I), (∀ q ∈ l, q.1 ≤ q.2) → (∀ q ∈ L, q.1 ≤ q.2) → (∀ q ∈ l, ∃ r ∈ L.foldl zaM l, Sb q r) ∧ (∀ q ∈ L, ∃ r ∈ L.foldl zaM l, Sb q r)
 | [], l, _, _ => ⟨fun q hq => ⟨q, hq, Sb.refl q⟩, by simp⟩
 | p :: L, l, h1, h2 => by
  have hp := h2 p (by simp)
  obtain ⟨m1, m2⟩ := zmP h1 hp
  obtain ⟨k1, k2⟩ := zjM L (zaM l p) (zn8 h1 hp) (fun q hq => h2 q (by simp [hq]))
  refine ⟨fun q hq => ?_, fun q hq => ?_⟩
  ·obtain ⟨r, r1, r2⟩ := m1 q hq
   obtain ⟨u, u1, u2⟩ := k1 r r1
   exact ⟨u, u1, r2.trans u2⟩
  ·rcases List.mem_cons.1 hq with rfl | hq
   ·obtain ⟨r, r1, r2⟩ := m2
    obtain ⟨u, u1, u2⟩ := k1 r r1
    exact ⟨u, u1, r2.trans u2⟩
   ·exact k2 q hq
theorem znT {P : I → Bool} {least h : Int} (hl : 1 ≤ least) (hh : 1 ≤ h) : ∀ q ∈ zcu P least h.toNat (0, h), ∃ r ∈ zdI P least h, Sb q r := by
 have hk := ziP (P := P) hl h.toNat (0, h) (Int.le_refl 0) (by show 0 < h; omega)
 exact (zjM _ [] (by simp) (fun q hq => by have := hk.inn q hq; omega)).2
theorem zk4 {P : I → Bool} {least h x : Int} (hl : 1 ≤ least) (hh : 1 ≤ h) (hx : 0 ≤ x ∧ x ≤ h) (hP : ∀ q : I, 0 ≤ q.1 → q.1 < q.2 → q.2 ≤ h → q.1 ≤ x → x ≤ q.2 → P q = true) : ∃ q ∈ zdI P least h, q.1 ≤ x ∧ x ≤ q.2 := by
 obtain ⟨q, q1, q2, q3⟩ := zfO hl h.toNat (0, h) (Int.le_refl 0) (by show 0 < h; omega) hx.1 hx.2 hP
 obtain ⟨r, r1, r2⟩ := znT hl hh q q1
 exact ⟨r, r1, Int.le_trans r2.1 q2, Int.le_trans q3 r2.2⟩
theorem apart {Q : List I} (hQ : Q.Pairwise fun a b => a.2 < b.1) {a b : I} (ha : a ∈ Q) (hb : b ∈ Q) : a = b ∨ a.2 < b.1 ∨ b.2 < a.1 := by
 induction Q with
 | nil => simp at ha
 | cons c r ih =>
  obtain ⟨h1, h2⟩ := List.pairwise_cons.1 hQ
  rcases List.mem_cons.1 ha with ea | ha
  ·rcases List.mem_cons.1 hb with eb | hb
   ·exact .inl (ea.trans eb.symm)
   ·exact .inr (.inl (by rw [ea]; exact h1 b hb))
  ·rcases List.mem_cons.1 hb with eb | hb
   ·exact .inr (.inr (by rw [eb]; exact h1 a ha))
   ·exact ih h2 ha hb
theorem zjY {a p q : I} (ha : a.1 ≤ a.2) (h : Sb a p) (k : Sb a q) : za3 p q = true := by
 have h1 := h.1
 have h2 := h.2
 have k1 := k.1
 have k2 := k.2
 simp only [za3, decide_eq_true_eq]
 omega
theorem zm8 {T : Tp} {x : List I} {t h : Int} {order : Nat} {s : Sg} (hT : tpOk T) (hx : allV x) (hxn : x.length = T.n) (hh : 1 ≤ h ∧ h ≤ 1000000000) (ht : -1000000000 ≤ t ∧ t ≤ 1000000000) (hs : zcW T x t h order = some s)
  {p2 : Int} (hp : 0 ≤ p2 ∧ p2 ≤ h) : subI (zaH T x s.pre t h (0, 0) order) (zaH T x s.pre t h (0, p2) order) = true := by
 have hh0 : 0 ≤ h ∧ h ≤ 1000000000 := by omega
 obtain ⟨-, s2, s3, -⟩ := zjV hT hx hxn hh ht hs
 have hok := zjW hT hx hxn hh0 ht hs
 have v1 : vB (t, t) = true := zas (by omega) (by omega) (by omega)
 have v2 : vB (t, t + h) = true := zas (by omega) (by omega) (by omega)
 have vp : vB (0, p2) = true := zas (by omega) (by omega) (by omega)
 have len : ∀ part, (zaH T x s.pre t h part order).length = T.n := fun part => by
  simp [zaH, zdH, zdA, zaB, za4 hT hx v1 order]
 have rowV : ∀ i, i < T.n → allV ((List.range (order + 1)).map (cO T x (t, t) i) ++ [cO T s.pre (t, t + h) i (order + 1)]) := fun i hi z hz => by
  rcases List.mem_append.1 hz with hz | hz
  ·obtain ⟨m, hm, rfl⟩ := List.mem_map.1 hz
   exact zam (za9 (zaX hT hx v1 m).2.val _) _
  ·simp at hz; subst hz
   exact zam (za9 (zaX hT hok.vpre v2 (order + 1)).2.val _) _
 refine zfC fun i hi => ?_
 have hi' : i < T.n := by rw [← len (0, 0)]; exact hi
 have hpre : Sb (atN x i) (atN s.pre i) := (zkJ s3 (by omega)).trans (zkJ s2 (by rw [hok.ntube]; exact hi'))
 have e : (List.range (order + 1)).map (cO T x (t, t) i) ++ [cO T s.pre (t, t + h) i (order + 1)] = atN x i :: ((List.range order).map (fun m => cO T x (t, t) i (m + 1)) ++ [cO T s.pre (t, t + h) i (order + 1)]) := by
  rw [List.range_succ_eq_map, List.map_cons, zjb hi']
  simp [Function.comp_def]
 have hv := rowV i hi'
 have hv2 := hv
 rw [e] at hv2
 have st : ∀ k : Int, 0 ≤ k ∧ k ≤ h → Sb (atN x i) (zaV ((List.range (order + 1)).map (cO T x (t, t) i) ++ [cO T s.pre (t, t + h) i (order + 1)]) (0, k)) := fun k hk => by
  rw [e]
  exact zh5 (by omega) hv2
 have vx := (zao (zam hx i)).2.1
 rw [zcf hT hx hok.vpre hh0 ht hi', zcf hT hx hok.vpre hh0 ht hi']
 exact zfF (zfj v00 vp ⟨Int.le_refl _, hp.1⟩ hv) (zjY vx (st 0 (by omega)) hpre) (zjY vx (st p2 hp) hpre)
theorem zm7 {T : Tp} {x : List I} {t h : Int} {order : Nat} {s : Sg} (hT : tpOk T) (hx : allV x) (hxn : x.length = T.n) (hh : 1 ≤ h ∧ h ≤ 1000000000) (ht : -1000000000 ≤ t ∧ t ≤ 1000000000) (hs : zcW T x t h order = some s)
  {q p : I} (hq : 0 ≤ q.1 ∧ q.1 ≤ q.2 ∧ q.2 ≤ h) (hp : 0 ≤ p.1 ∧ p.2 ≤ h) (hqp : Sb q p) : subI (zaH T x s.pre t h q order) (zaH T x s.pre t h p order) = true := by
 rcases Int.lt_or_le 0 q.2 with h1 | h1
 ·exact zkd hT hx hxn hh ht hs ⟨hq.1, hq.2.1, by omega, hq.2.2⟩ hp hqp
 ·have a1 := hqp.1
  have a2 := hqp.2
  have eq : q = (0, 0) := Prod.ext (by show q.1 = 0; omega) (by show q.2 = 0; omega)
  have ep : p = (0, p.2) := Prod.ext (by show p.1 = 0; omega) rfl
  rw [eq, ep]
  exact zm8 hT hx hxn hh ht hs ⟨by omega, hp.2⟩
end Go.Pl

namespace Go.Proofs.YtkghjlgpmeibhaaGreatDoor.Arm
open Go.Arm Go.Pl
theorem zrE {T : Tp} {x : List I} {t h : Int} {order : Nat} {s : Sg} (hs : zcW T x t h order = some s) : s.t = t ∧ s.h = h ∧ s.frm = x ∧ s.tube = zaH T x s.pre t h (0, h) order := by
 unfold zcW at hs
 cases hr : zeU T x t h with
 | none => rw [hr] at hs; cases hs
 | some b =>
  rw [hr] at hs
  simp only at hs
  split at hs
  ·cases hs; exact ⟨rfl, rfl, rfl, rfl⟩
  ·cases hs
structure PrOk (q : Iq) (s : Sg) : Prop where
 w : CwOk (iqT q) (iqW q s)
 parts : zfW s.h (zaW (iqT q) (iqG q) (iqW q s))
 len : ((zaW (iqT q) (iqG q) (iqW q s)).length : Int) ≤ 131072
 sub : ∀ p : I, 0 ≤ p.1 → p.1 < p.2 → p.2 ≤ s.h → subI (zbM (iqT q) (iqW q s) p) s.tube = true
 hb : 1 ≤ s.h ∧ s.h ≤ 131072
 mono : ∀ p p' : I, 0 ≤ p.1 ∧ p.1 ≤ p.2 ∧ p.2 ≤ s.h → 0 ≤ p'.1 ∧ p'.2 ≤ s.h → Sb p p' → subI (zbM (iqT q) (iqW q s) p) (zbM (iqT q) (iqW q s) p') = true
theorem prOk {q : Iq} (hq : IqOk q) {s : Sg} (hs : zh3 q = some s) : PrOk q s := by
 obtain ⟨⟨hN, hN1, hN2⟩, hO, hO1, hO2⟩ := zjX hq
 obtain ⟨hT, hTn⟩ := zh2 hq
 obtain ⟨hX, hXn⟩ := zra hq
 obtain ⟨htm, hhh⟩ := zqH q.gt q.gh
 unfold zh3 at hs
 obtain ⟨e1, e2, e3, e4⟩ := zrE hs
 have hok := zjW hT hX hXn (by omega) (by omega) hs
 have hL := zqQ (least := q.least) (h := hh12 q.gh) (by omega)
 have hLe : iqL q = resS q.least (hh12 q.gh) := rfl
 have hw : CwOk (iqT q) (iqW q s) := ⟨by show allV s.frm; rw [e3]; exact hX, by show s.frm.length = _; rw [e3]; exact hXn, hok.vpre, hok.npre, hok.vtube, hok.ntube, hok.vto, hok.nto, by show -1000000000 ≤ s.t ∧ s.t ≤ 1000000000 ∧ 1 ≤ s.h ∧ s.h ≤ 1000000000 ∧ s.t + s.h ≤ 1000000000; omega, by show 1 ≤ iqO q ∧ iqO q ≤ 900; omega, by show 1 ≤ iqL q ∧ iqL q ≤ 2000000000; omega⟩
 refine ⟨hw, ?_, ?_, fun p p0 p1 p2 => ?_, by omega, fun p p' h1 h2 h3 => ?_⟩
 ·unfold zaW
  split
  ·exact ⟨by simp, by simp⟩
  ·exact zpV (h := s.h) hw.le.1 (by omega)
 ·unfold zaW
  split
  ·simp
  ·have := znU (P := zdw (iqT q) (iqG q) (iqW q s)) (h := s.h) hw.le.1 (by omega)
   show ((zdI (zdw (iqT q) (iqG q) (iqW q s)) (iqW q s).least s.h).length : Int) ≤ _
   omega
 ·have := zkd hT hX hXn (by omega) (by omega) hs (q := p) (p := (0, hh12 q.gh)) (by omega) (by show 0 ≤ (0 : Int) ∧ hh12 q.gh ≤ _; omega) ⟨p0, by show p.2 ≤ hh12 q.gh; omega⟩
  rw [e4]
  show subI (zaH (iqT q) s.frm s.pre s.t s.h p (iqO q)) _ = true
  rw [e1, e2, e3]
  exact this
 ·have := zm7 hT hX hXn (by omega) (by omega) hs (q := p) (p := p') (by omega) (by omega) h3
  show subI (zaH (iqT q) s.frm s.pre s.t s.h p (iqO q)) (zaH (iqT q) s.frm s.pre s.t s.h p' (iqO q)) = true
  rw [e1, e2, e3]
  exact this
end Go.Proofs.YtkghjlgpmeibhaaGreatDoor.Arm

namespace Go.Pl
section
variable {a b x y t h : Int} (ha : -1048576 < a ∧ a < 1048576) (hb : -1048576 < b ∧ b < 1048576) (hx : -1048576 < x ∧ x < 1048576) (hy : -1048576 < y ∧ y < 1048576) (hh : 0 ≤ h ∧ h ≤ 131072)
include ha hh hx in
end
end Go.Pl

namespace Go.Pl
end Go.Pl

namespace Go.Proofs.YtkghjlgpmeibhaaGreatDoor.Arm
open Go.Arm Go.Pl
theorem zpo {w : Cw} {p q : I} (h : Sb p q) : Sb (absC w p) (absC w q) := ⟨by have := h.1; show w.s.t + q.1 ≤ w.s.t + p.1; omega, by have := h.2; show w.s.t + p.2 ≤ w.s.t + q.2; omega⟩
theorem ziA {T : Tp} {g : Gd} {w : Cw} {x : Int} (hl : 1 ≤ w.least) (hh : 1 ≤ w.s.h) (hx : 0 ≤ x ∧ x ≤ w.s.h) (hc : zcn g w.s ≠ 0) (hP : ∀ q : I, 0 ≤ q.1 → q.1 < q.2 → q.2 ≤ w.s.h → q.1 ≤ x → x ≤ q.2 → zdw T g w q = true) : ∃ q ∈ zaW T g w, q.1 ≤ x ∧ x ≤ q.2 := by
 unfold zaW
 rw [if_neg hc]
 exact zk4 hl hh hx hP
theorem zuy (q : Iq) : sz (iqG q).f ≤ 31 := zoa _ _ _
theorem rSign (p : I) (H : AH) : zaf E 69 [iv p] H (.ret (.int .i64 (sgnI p))) H := by
 refine zab zah zai Tryz.func69 rfl (by rfl) Tryz.ntmps69 (by kernel_rfl) (by simp) ?_
 by_cases h1 : 0 < p.1
 ·simp [h1]
  exact fin1 (rs := [.tmp 2]) (by rfl) (by simp [resA, sgnI, h1]) (by simp [noF])
 ·by_cases h2 : p.2 < 0
  ·simp [h1, h2]
   exact fin1 (rs := [.tmp 2]) (by rfl) (by simp [resA, sgnI, h1, h2]) (by simp [noF])
  ·simp [h1, h2]
   exact fin1 (rs := [.tmp 2]) (by rfl) (by simp [resA, sgnI, h1, h2]) (by simp [noF])
theorem zix (g : Gd) (x : List I) (t : I) (hg : GdOk x.length g) (hx : allV x) (hxl : x.length ≤ 1000000) (ht : vB t = true) (H : AH) : zaf E 73 [gdA g, bx x, iv t] H (.ret (iv (ev x t g.f))) H := by
 refine zab zah zai Tryz.func73 rfl (by rfl) Tryz.ntmps73 (by kernel_rfl) (by simp) ?_
 have hE := fun Hx => zqT x t hx (by omega) ht (sz g.f) g.f (Nat.le_refl _) (by have := hg.sz; omega) hg.wf Hx
 simp [gdA]
 refine zaa (hE _) ?_
 simp
 exact fin1 (rs := [.cell 6 48]) (by rfl) (by simp [resA]) (by simp [noF, noFs])
theorem zrZ (g : Gd) (x : List I) (t : I) (hg : GdOk x.length g) (hx : allV x) (hxl : x.length ≤ 1000000) (ht : vB t = true) (H : AH) : zaf E 35 [gdA g, bx x, iv t] H (.ret (.int .i64 (sgnI (ev x t g.f)))) H := by
 refine zab zah zai Tryz.func35 rfl (by rfl) Tryz.ntmps35 (by kernel_rfl) (by simp) ?_
 have hE := zix g x t hg hx hxl ht
 simp [gdA]
 refine zaa (by simpa [gdA] using hE _) ?_
 simp
 refine zaa (rSign _ _) ?_
 simp
 exact fin1 (rs := [.tmp 6]) (by rfl) (by simp [resA]) (by simp [noF])
theorem r15Up (w a b : I) (H : AH) : zaf E 74 [iv w, iv a, iv b] H (.ret (.int .i64 (upI w a b))) H := by
 refine zab zah zai Tryz.func74 rfl (by rfl) Tryz.ntmps74 (by kernel_rfl) (by simp) ?_
 by_cases h1 : a.2 < 0 <;> by_cases h2 : 0 ≤ b.1 <;> by_cases h3 : w.2 < 0 <;> by_cases h4 : 0 ≤ w.1
 all_goals
  simp [h1, h2, h3, h4]
  exact fin1 (rs := [.tmp 6]) (by rfl) (by simp [resA, upI, h1, h2, h3, h4]) (by simp [noF])
theorem zr1 (w a b : I) (H : AH) : zaf E 75 [iv w, iv a, iv b] H (.ret (.int .i64 (upI (neg w) (neg a) (neg b)))) H := by
 refine zab zah zai Tryz.func75 rfl (by rfl) Tryz.ntmps75 (by kernel_rfl) (by simp) ?_
 have k1 : ((neg a).2 < 0) = (0 < a.1) := by show (-a.1 < 0) = _; rw [eq_iff_iff]; omega
 have k2 : (0 ≤ (neg b).1) = (b.2 ≤ 0) := by show (0 ≤ -b.2) = _; rw [eq_iff_iff]; omega
 have k3 : ((neg w).2 < 0) = (0 < w.1) := by show (-w.1 < 0) = _; rw [eq_iff_iff]; omega
 have k4 : (0 ≤ (neg w).1) = (w.2 ≤ 0) := by show (0 ≤ -w.2) = _; rw [eq_iff_iff]; omega
 by_cases h1 : 0 < a.1 <;> by_cases h2 : b.2 ≤ 0 <;> by_cases h3 : 0 < w.1 <;> by_cases h4 : w.2 ≤ 0
 all_goals
  simp [h1, h2, h3, h4]
  exact fin1 (rs := [.tmp 6]) (by rfl) (by simp [resA, upI, k1, k2, k3, k4, h1, h2, h3, h4]) (by simp [noF])
set_option maxHeartbeats 1000000 in
theorem zpT (T : Tp) (g : Gd) (s : Sg) (hg : GdOk T.n g) (hd : -1 ≤ g.dir ∧ g.dir ≤ 1) (hn : T.n ≤ 1000000) (vt : allV s.tube) (nt : s.tube.length = T.n) (vf : allV s.frm) (nf : s.frm.length = T.n) (vo : allV s.to) (no : s.to.length = T.n)
  (tm : -1000000000 ≤ s.t ∧ s.t ≤ 1000000000 ∧ 1 ≤ s.h ∧ s.h ≤ 1000000000 ∧ s.t + s.h ≤ 1000000000) (H : AH) : zaf E 33 [gdA g, sgA s] H (.ret (.int .i64 (zcn g s))) H := by
 refine zab zah zai Tryz.func33 rfl (by rfl) Tryz.ntmps33 (by kernel_rfl) (by simp) ?_
 have v1 : vB (s.t, s.t + s.h) = true := zas (by omega) (by omega) (by omega)
 have v2 : vB (s.t, s.t) = true := zas (by omega) (by omega) (by omega)
 have v3 : vB (s.t + s.h, s.t + s.h) = true := zas (by omega) (by omega) (by omega)
 have w1 : IntKind.i64.wrap (s.t + s.h) = s.t + s.h := zae (by omega) (by omega)
 have e1 := fun Hx => zix g s.tube (s.t, s.t + s.h) (by rw [nt]; exact hg) vt (by omega) v1 Hx
 have e2 := fun Hx => zix g s.frm (s.t, s.t) (by rw [nf]; exact hg) vf (by omega) v2 Hx
 have e3 := fun Hx => zix g s.to (s.t + s.h, s.t + s.h) (by rw [no]; exact hg) vo (by omega) v3 Hx
 have p2 := zeH s.t
 have p3 := zeH (s.t + s.h)
 rw [zhV (by omega)] at p2 p3
 unfold zcn
 generalize ev s.tube (s.t, s.t + s.h) g.f = w at *
 generalize ev s.frm (s.t, s.t) g.f = a at *
 generalize ev s.to (s.t + s.h, s.t + s.h) g.f = b at *
 have hU := fun Hx => r15Up w a b Hx
 have hD := fun Hx => zr1 w a b Hx
 unfold crI
 generalize upI w a b = c0 at *
 generalize upI (neg w) (neg a) (neg b) = c1 at *
 simp only [gdA, bx] at e1 e2 e3
 simp [gdA, sgA, bx, w1]
 refine zaa (by simpa using e1 _) ?_
 simp
 refine zac (fun Hx => by simpa using p2 Hx) ?_
 simp
 refine zac (fun Hx => by simpa using e2 Hx) ?_
 simp
 refine endD [(7, 8)] (by rfl) (by simp [okW, note, Eff.triv, Eff.wr, Eff.none, upTo, newAt]) ?_
 simp [w1]
 refine zac (fun Hx => by simpa using p3 Hx) ?_
 simp
 refine zac (fun Hx => by simpa using e3 Hx) ?_
 simp
 refine endD [(10, 11)] (by rfl) (by simp [okW, note, Eff.triv, Eff.wr, Eff.none, upTo, newAt]) ?_
 simp
 refine zaa (by simpa using hU _) ?_
 simp
 refine zaa (by simpa using hD _) ?_
 have hdc : g.dir = 1 ∨ g.dir = -1 ∨ g.dir = 0 := by omega
 rcases hdc with d1 | d1 | d1
 ·simp [d1]
  exact fin1 (rs := [.tmp 4]) (by rfl) (by simp [resA]) (by simp [noF])
 ·simp [d1]
  exact fin1 (rs := [.tmp 4]) (by rfl) (by simp [resA]) (by simp [noF])
 ·by_cases k0 : c0 = 2
  ·simp [d1, k0]
   exact fin1 (rs := [.tmp 4]) (by rfl) (by simp [resA]) (by simp [noF])
  ·have b0 : (c0 == 2) = false := by rw [beq_eq_false_iff_ne]; exact k0
   by_cases k1 : c1 = 2
   ·simp [d1, b0, k1]
    exact fin1 (rs := [.tmp 4]) (by rfl) (by simp [resA]) (by simp [noF])
   ·have b1 : (c1 == 2) = false := by rw [beq_eq_false_iff_ne]; exact k1
    by_cases z0 : c0 = 0
    ·by_cases z1 : c1 = 0
     ·simp [d1, z0, z1]
      exact fin1 (rs := [.tmp 4]) (by rfl) (by simp [resA]) (by simp [noF])
     ·have b2 : (c1 == 0) = false := by rw [beq_eq_false_iff_ne]; exact z1
      simp [d1, z0, b1, b2]
      exact fin1 (rs := [.tmp 4]) (by rfl) (by simp [resA, k1, z1]) (by simp [noF])
    ·have b2 : (c0 == 0) = false := by rw [beq_eq_false_iff_ne]; exact z0
     simp [d1, b0, b1, b2]
     exact fin1 (rs := [.tmp 4]) (by rfl) (by simp [resA, k0, k1, z0]) (by simp [noF])
theorem ztQ (w : Cw) (p : I) (hw : -1000000000 ≤ w.s.t ∧ w.s.t ≤ 1000000000) (hp : -1000000000 ≤ p.1 ∧ p.1 ≤ 1000000000 ∧ -1000000000 ≤ p.2 ∧ p.2 ≤ 1000000000) (H : AH) : zaf E 37 [cwA w, iv p] H (.ret (iv (absC w p))) H := by
 refine zab zah zai Tryz.func37 rfl (by rfl) Tryz.ntmps37 (by kernel_rfl) (by simp) ?_
 have w1 : IntKind.i64.wrap (w.s.t + p.1) = w.s.t + p.1 := zae (by omega) (by omega)
 have w2 : IntKind.i64.wrap (w.s.t + p.2) = w.s.t + p.2 := zae (by omega) (by omega)
 simp [cwA, bx, w1, w2]
 exact fin1 (rs := [.cell 4 48]) (by rfl) (by simp [resA, absC]) (by simp [noF, noFs])
theorem zrY (T : Tp) (w : Cw) (p : I) (hT : tpOk T) (hn : 1 ≤ T.n) (hw : CwOk T w) (hp : vB p = true) (H : AH) : zaf E 36 [tpA T, cwA w, iv p] H (.ret (bx (zbM T w p))) H := by
 refine zab zah zai Tryz.func36 rfl (by rfl) Tryz.ntmps36 (by kernel_rfl) (by simp) ?_
 have tm := hw.tm
 have hE := fun Hx => zc2 T w.s.frm w.s.pre w.s.t w.s.h p w.order hT hw.vf hw.nf hn hw.vp hw.np (by omega) (by omega) hp hw.od Hx
 have e : zaH T w.s.frm w.s.pre w.s.t w.s.h p w.order = zbM T w p := rfl
 rw [e] at hE
 generalize zbM T w p = R at *
 simp [tpA, outA, cwA, bx]
 refine zaa (by simpa [tpA, outA, bx] using hE _) ?_
 simp
 exact fin1 (rs := [.tmp 6]) (by rfl) (by simp [resA, bx]) (by simp [noF, bx, zaJ])
theorem zle (l : List I) (t : Int) (hl : l.length ≤ 1000000000) (H : AH) : zaf E 29 [rwN l, .int .i64 t] H (.ret (.bool (l.any fun p => conB p t))) H := by
 unfold rwN
 split
 ·rename_i h
  subst h
  have := zlU [] t hl H
  simp only [bx, List.map_nil] at this
  exact zaf.weaken (args' := [.slice [] false, .int .i64 t]) this ⟨Wk.nil, Wk.refl _, trivial⟩
 ·exact zlU l t hl H
theorem zo2 {T : Tp} {g : Gd} {w : Cw} {x : Int} (hw : CwOk T w) (hx : 0 ≤ x ∧ x ≤ w.s.h) (hc : zcn g w.s ≠ 0) (hP : ∀ q : I, 0 ≤ q.1 → q.1 < q.2 → q.2 ≤ w.s.h → q.1 ≤ x → x ≤ q.2 → zdw T g w q = true) : ((zaW T g w).map (absC w)).any (fun p => conB p (w.s.t + x)) = true := by
 have tm := hw.tm
 obtain ⟨q, q1, q2, q3⟩ := ziA hw.le.1 (by omega) hx hc hP
 refine List.any_eq_true.2 ⟨absC w q, List.mem_map.2 ⟨q, q1, rfl⟩, ?_⟩
 unfold conB absC
 simp only [Bool.or_eq_true, Bool.and_eq_true, decide_eq_true_eq]
 right; omega
theorem ziR {q : Iq} (hq : IqOk q) {s : Sg} (k : PrOk q s) {x : Int} (hx : 0 ≤ x ∧ x ≤ s.h) (h0 : sgnI (ev (zbM (iqT q) (iqW q s) (x, x)) (absC (iqW q s) (x, x)) (iqG q).f) = 0) :
  ∀ p : I, 0 ≤ p.1 → p.1 < p.2 → p.2 ≤ s.h → p.1 ≤ x → x ≤ p.2 → zdw (iqT q) (iqG q) (iqW q s) p = true := fun p p1 p2 p3 p4 p5 => by
 obtain ⟨hT, hTn⟩ := zh2 hq
 have hg := zrb hq
 have tm := k.w.tm
 have ht : (iqW q s).s.t = s.t := rfl
 have hh : (iqW q s).s.h = s.h := rfl
 have hEl := fun x => zcA (T := iqT q) (x := (iqW q s).s.frm) (b := (iqW q s).s.pre) (t := (iqW q s).s.t) (h := (iqW q s).s.h) (part := x) (order := (iqW q s).order) hT k.w.vf k.w.vp (by omega) (by omega)
 have l1 : (zbM (iqT q) (iqW q s) (x, x)).length = (iqT q).n := (hEl (x, x)).2
 have l2 : (zbM (iqT q) (iqW q s) p).length = (iqT q).n := (hEl p).2
 have hm := k.mono (x, x) p ⟨hx.1, Int.le_refl _, hx.2⟩ ⟨p1, p3⟩ ⟨p4, p5⟩
 have hab : Sb (absC (iqW q s) (x, x)) (absC (iqW q s) p) := zpo (p := (x, x)) (q := p) ⟨p4, p5⟩
 have v1 : allV (zbM (iqT q) (iqW q s) (x, x)) := (hEl (x, x)).1
 have v2 : allV (zbM (iqT q) (iqW q s) p) := (hEl p).1
 have a1 : vB (absC (iqW q s) (x, x)) = true := zas (x := (iqW q s).s.t + x) (y := (iqW q s).s.t + x) (by omega) (by omega) (by omega)
 have a2 : vB (absC (iqW q s) p) = true := zas (x := (iqW q s).s.t + p.1) (y := (iqW q s).s.t + p.2) (by omega) (by omega) (by omega)
 unfold zdw
 rw [decide_eq_true_iff]
 exact zpH (zi2 v1 v2 (by rw [l1, l2]) a1 a2 (fun i hi => zkJ hm hi) hab (iqG q).f (by rw [l1]; exact hg.wf)) h0
set_option maxRecDepth 100000 in
set_option maxHeartbeats 4000000 in
theorem zld (q : Iq) (hq : IqOk q) (off : Int) (hof : -9223372036854775808 ≤ off ∧ off ≤ 9223372036854775807) (H : AH) : zaf E 7 [iqA q, .int .i64 off] H (.ret (.bool true)) H := by
 refine zab zah zai Tryz.func7 rfl (by rfl) Tryz.ntmps7 (by kernel_rfl) (by simp) ?_
 have hP := fun Hx => zmT q hq Hx
 obtain ⟨hT, hTn⟩ := zh2 hq
 obtain ⟨⟨hN, hN1, hN2⟩, hO, hO1, hO2⟩ := zjX hq
 have fin : ∀ {fr : AFr} {J : AH} {e : zcj}, fr 4 = .bool true → (e = .ret ∨ e = .normal) → zbN E Tryz.f7 H (.ret (.bool true)) H e fr (H ++ J) := fun h he => fin1 (rs := [.tmp 4]) (by rfl) (by simp [resA, h]) (by simp [noF]) he
 have ha := ziI (l := q.F) (most := 5) (i := iqN q) (N := iqN q) (by omega)
 have hl5 := zfM q.F 5 (iqN q) (iqN q)
 have hCo : ∀ Hx, zaf E 17 [sys (iqS q)] Hx (.ret (tpA (iqT q))) Hx := zgP (iqS q) (by show 0 < (mds q.F 5 (iqN q) (iqN q)).length ∧ (mds q.F 5 (iqN q) (iqN q)).length ≤ 6; rw [hl5]; omega) (fun e he => (ha e he).1)
 unfold prA at hP
 cases hs : zh3 q with
 | none =>
  rw [hs] at hP
  simp only [iqA, zwA] at hP
  simp [iqA]
  refine zaa (zjP _) ?_
  simp
  refine zaa (hP _) ?_
  simp [sys, gdA]
  exact fin (by simp) (by simp)
 | some s =>
  rw [hs] at hP
  have k := prOk hq hs
  have hg := zrb hq
  have hgs := zuy q
  have hdir : -1 ≤ (iqG q).dir ∧ (iqG q).dir ≤ 1 := by
   obtain ⟨t1, t2⟩ := zay q.dir (b := 2) (by decide)
   show -1 ≤ q.dir.tmod 2 ∧ q.dir.tmod 2 ≤ 1
   by_cases h : 0 ≤ q.dir
   ·have := t1 h; omega
   ·have := t2 (by omega); omega
  have hpi := k.parts
  have hln := k.len
  have hhb := k.hb
  have tm := k.w.tm
  have hCr := fun Hx => zpT (iqT q) (iqG q) (iqW q s).s hg hdir (by omega) k.w.vt k.w.nt k.w.vf k.w.nf k.w.vo k.w.no tm Hx
  have hpp : ∀ p ∈ zaW (iqT q) (iqG q) (iqW q s), 0 ≤ p.1 ∧ p.1 ≤ p.2 ∧ p.2 ≤ (iqW q s).s.h := fun p hp => by have := hpi.inn p hp; exact ⟨this.1, by omega, this.2.2⟩
  have hTi := fun Hx => zlu (iqT q) (iqG q) (iqW q s) hT (by omega) k.w hg hpp (by omega) Hx
  have hCv := fun t Hx => zle ((zaW (iqT q) (iqG q) (iqW q s)).map (absC (iqW q s))) t (by rw [List.length_map]; omega) Hx
  obtain ⟨t1, t2⟩ := zay off (b := s.h + 1) (by omega)
  have hr : -(s.h + 1) < off.tmod (s.h + 1) ∧ off.tmod (s.h + 1) < s.h + 1 := by
   by_cases h : 0 ≤ off
   ·have := t1 h; omega
   ·have := t2 (by omega); omega
  have h1 := Int.tmod_nonneg (s.h + 1) (a := off.tmod (s.h + 1) + s.h + 1) (by omega)
  have h2 := Int.tmod_lt_of_pos (off.tmod (s.h + 1) + s.h + 1) (b := s.h + 1) (by omega)
  have ts : (iqW q s).s.h = s.h := rfl
  have tt : (iqW q s).s.t = s.t := rfl
  rw [ts, tt] at tm
  have w1 : IntKind.i64.wrap (s.h + 1) = s.h + 1 := zae (by omega) (by omega)
  have w2 : IntKind.i64.wrap (off.tmod (s.h + 1)) = off.tmod (s.h + 1) := zae (by omega) (by omega)
  have w3 : IntKind.i64.wrap (off.tmod (s.h + 1) + s.h) = off.tmod (s.h + 1) + s.h := zae (by omega) (by omega)
  have w4 : IntKind.i64.wrap (off.tmod (s.h + 1) + s.h + 1) = off.tmod (s.h + 1) + s.h + 1 := zae (by omega) (by omega)
  have w5 : IntKind.i64.wrap ((off.tmod (s.h + 1) + s.h + 1).tmod (s.h + 1)) = (off.tmod (s.h + 1) + s.h + 1).tmod (s.h + 1) := zae (by omega) (by omega)
  have hne : ¬ s.h + 1 = 0 := by omega
  have hkey := fun x (hx : 0 ≤ x ∧ x ≤ s.h) => ziR hq k hx
  have hcov := fun (x : Int) (hx : 0 ≤ x ∧ x ≤ s.h) (hc : zcn (iqG q) s ≠ 0) => zo2 (T := iqT q) (g := iqG q) (x := x) k.w hx hc
  generalize hxe : (off.tmod (s.h + 1) + s.h + 1).tmod (s.h + 1) = x at *
  have hx : 0 ≤ x ∧ x ≤ s.h := by omega
  have w6 : IntKind.i64.wrap (s.t + x) = s.t + x := zae (by omega) (by omega)
  have pP := zeH x
  rw [zhV (by omega)] at pP
  have hEl := fun p => zcA (T := iqT q) (x := (iqW q s).s.frm) (b := (iqW q s).s.pre) (t := (iqW q s).s.t) (h := (iqW q s).s.h) (part := p) (order := (iqW q s).order) hT k.w.vf k.w.vp (by omega) (by omega)
  have l1 : (zbM (iqT q) (iqW q s) (x, x)).length = (iqT q).n := (hEl (x, x)).2
  have hE := fun Hx => zrY (iqT q) (iqW q s) (x, x) hT (by omega) k.w (zas (by omega) (by omega) (by omega)) Hx
  have hA := fun Hx => ztQ (iqW q s) (x, x) (by omega) (by show _ ≤ x ∧ x ≤ _ ∧ _ ≤ x ∧ x ≤ _; omega) Hx
  have hS := fun Hx => zrZ (iqG q) (zbM (iqT q) (iqW q s) (x, x)) (absC (iqW q s) (x, x)) (by rw [l1]; exact hg) (hEl (x, x)).1 (by rw [l1]; omega) (zas (x := (iqW q s).s.t + x) (y := (iqW q s).s.t + x) (by omega) (by omega) (by omega)) Hx
  have hcov := fun hc h0 => hcov x hx hc (hkey x hx h0)
  rw [tt] at hcov
  have hCv := hCv (s.t + x)
  generalize hsv : sgnI (ev (zbM (iqT q) (iqW q s) (x, x)) (absC (iqW q s) (x, x)) (iqG q).f) = sv at *
  generalize zbM (iqT q) (iqW q s) (x, x) = En at *
  generalize absC (iqW q s) (x, x) = ab at *
  generalize hav : ((zaW (iqT q) (iqG q) (iqW q s)).map (absC (iqW q s))).any (fun p => conB p (s.t + x)) = av at *
  generalize rwN ((zaW (iqT q) (iqG q) (iqW q s)).map (absC (iqW q s))) = RT at *
  rw [show zcn (iqG q) (iqW q s).s = zcn (iqG q) s from rfl] at hCr
  generalize zcn (iqG q) s = cc at *
  simp only [iqA, gdA, cwA, sys, tpA, outA, bx, sgA] at hP hCo hTi hCr hE hA hS
  simp only [ts] at hTi
  simp only [ts, tt] at hE hA
  simp [iqA]
  refine zaa (zjP _) ?_
  simp
  refine zaa (hP _) ?_
  simp
  refine zaa (by simpa using hCr _) ?_
  by_cases hc : cc = 0
  ·simp [hc]
   exact fin (by simp) (by simp)
  ·have hcb : (cc == 0) = false := by rw [beq_eq_false_iff_ne]; exact hc
   simp [hcb]
   refine zaa (by simpa using hCo _) ?_
   simp [ts, hne, w1, w2, w3, w4, hxe, w5]
   refine endD [] (by rfl) (by simp [okW, note, Eff.triv, Eff.wr, Eff.none, upTo, newAt]) ?_
   simp
   refine zaa (by simpa using pP _) ?_
   simp
   refine zac (fun Hx => by simpa using hTi Hx) ?_
   simp [tt, w6]
   refine zac (fun Hx => by simpa using hCv Hx) ?_
   cases av with
   | true =>
    simp
    refine endD [] (by rfl) (by simp [okW, note, Eff.triv, Eff.wr, Eff.none, upTo, newAt]) ?_
    simp
    exact fin (by simp) (by simp)
   | false =>
    have hs0 : (sv != 0) = true := by
     rw [bne_iff_ne]
     intro h0
     have := hcov hc h0
     cases this
    simp
    refine zac (fun Hx => by simpa using hE Hx) ?_
    simp
    refine zac (fun Hx => by simpa using hA Hx) ?_
    simp
    refine zac (fun Hx => by simpa using hS Hx) ?_
    simp [hs0]
    refine endD [] (by rfl) (by simp [okW, note, Eff.triv, Eff.wr, Eff.none, upTo, newAt]) ?_
    simp
    exact fin (by simp) (by simp)
@[simp ↓ high] theorem conv_xs (H : AH) (l : List Nd) : conv H (xs l) = (xs l, H) := by simp [xs]
@[simp ↓ high] theorem conv_bx (H : AH) (l : List I) : conv H (bx l) = (bx l, H) := by simp [bx]
@[simp ↓ high] theorem conv_mx (H : AH) (l : List (List I)) : conv H (mx l) = (mx l, H) := by simp [mx]
def vX : Ex := .var 0
def k2 : Ex := zbm 2
def oneI : I := pt 65536
def quo : Ex := .bin .div (zbm (-1)) (.un .sqr vX)
theorem oneV : vB oneI = true := by decide
end Go.Proofs.YtkghjlgpmeibhaaGreatDoor.Arm

namespace Go.Arm
theorem zoe {α : Type} {f : α → AV} {p : α → Prop} : ∀ {xs : List AV}, (∀ x ∈ xs, ∃ a, x = f a ∧ p a) → ∃ l : List α, xs = l.map f ∧ ∀ a ∈ l, p a
 | [], h => ⟨[], rfl, fun a ha => by cases ha⟩
 | x :: r, h => by
  obtain ⟨a, rfl, ha⟩ := h x (by simp)
  obtain ⟨l, rfl, hl⟩ := zoe (xs := r) (fun y hy => h y (by simp [hy]))
  exact ⟨a :: l, rfl, fun b hb => by
   rcases List.mem_cons.1 hb with rfl | hb
   ·exact ha
   ·exact hl b hb⟩
theorem zbn {ok : TypeId → AV → Prop} {f : TypeId × Nat} {fs : List (TypeId × Nat)} {vs : List AV} (h : OkL ok (f :: fs) vs) : ∃ v vs', vs = v :: vs' ∧ ok f.1 v ∧ OkL ok fs vs' := by
 cases vs with
 | nil => exact h.elim
 | cons v vs' => exact ⟨v, vs', rfl, h.1, h.2⟩
theorem ziF {ok : TypeId → AV → Prop} {vs : List AV} (h : OkL ok [] vs) : vs = [] := by
 cases vs with
 | nil => rfl
 | cons v vs' => exact h.elim
section
variable {tab : Tab}
theorem zgT {n : Nat} {t : TypeId} {i : TI} {k : IntKind} {v : AV} (hi : tab t = some i) (hd : i.d = .int k) (h : OkA tab (n + 1) t v) : ∃ x, v = .int k x ∧ (Lit.int k x).wf = true := by
 unfold OkA at h
 rw [hi] at h
 simp only [hd] at h
 exact h
theorem zse {n : Nat} {t e : TypeId} {i ie : TI} {v : AV} (hi : tab t = some i) (hd : i.d = .slice e) (he : tab e = some ie) (h : OkA tab (n + 1) t v) : ∃ xs, v = .slice xs false ∧ (∀ x ∈ xs, OkA tab n e x) ∧ xs.length * ie.bytes ≤ reachBytes ∧ xs.length ≤ maxLen := by
 unfold OkA at h
 rw [hi] at h
 simp only [hd] at h
 obtain ⟨xs, h1, h2, h3, h4⟩ := h
 exact ⟨xs, h1, h2, h3 ie he, h4⟩
theorem zgj {n : Nat} {t : TypeId} {i : TI} {fs : List (TypeId × Nat)} {v : AV} (hi : tab t = some i) (hd : i.d = .struct fs) (h : OkA tab (n + 1) t v) : ∃ vs : List AV, v = .agg (vs.flatMap AV.cells) ∧ OkL (OkA tab n) fs vs := by
 unfold OkA at h
 rw [hi] at h
 simp only [hd] at h
 exact h
theorem zsf {α : Type} {f : α → AV} {p : α → Prop} {n : Nat} {t e : TypeId} {i ie : TI} {v : AV} (hi : tab t = some i) (hd : i.d = .slice e) (he : tab e = some ie) (hb : 0 < ie.bytes) (hf : ∀ x, OkA tab n e x → ∃ a, x = f a ∧ p a) (h : OkA tab (n + 1) t v) :
  ∃ l : List α, v = .slice (l.map f) false ∧ (∀ a ∈ l, p a) ∧ l.length ≤ 140737488351232 := by
 obtain ⟨xs, rfl, h1, h2, h3⟩ := zse hi hd he h
 obtain ⟨l, rfl, hl⟩ := zoe (f := f) (p := p) (fun x hx => hf x (h1 x hx))
 refine ⟨l, rfl, hl, ?_⟩
 have e : reachBytes = 140737488351232 := rfl
 rw [e, List.length_map] at h2
 exact Nat.le_trans (Nat.le_mul_of_pos_right _ hb) h2
end
theorem zsh {T : Tab} {m : Nat} {a b : TypeId} {av : List AV} (h : zmn T m [a, b] av) : ∃ x y, av = [x, y] ∧ OkA T m a x ∧ OkA T m b y := by
 match av, h with
 | [x, y], h => exact ⟨x, y, rfl, h.1, h.2.1⟩
theorem wfI {k : IntKind} {x : Int} (h : (Lit.int k x).wf = true) : k.min ≤ x ∧ x ≤ k.max := by
 simp [Lit.wf] at h
 exact h
end Go.Arm

namespace Go.Proofs.YtkghjlgpmeibhaaGreatDoor.Arm
open Go.Arm Go.Pl
theorem okIv {n : Nat} {v : AV} (h : OkA tab (n + 2) 48 v) : ∃ p : I, v = iv p ∧ True := by
 obtain ⟨vs, rfl, hv⟩ := zgj tab48 rfl h
 obtain ⟨a, vs, rfl, ha, hv⟩ := zbn hv
 obtain ⟨b, vs, rfl, hb, hv⟩ := zbn hv
 cases ziF hv
 obtain ⟨x, rfl, hx⟩ := zgT tab2 rfl ha
 obtain ⟨y, rfl, hy⟩ := zgT tab2 rfl hb
 exact ⟨(x, y), rfl, trivial⟩
theorem okNd {n : Nat} {v : AV} (h : OkA tab (n + 3) 121 v) : ∃ p : Nd, v = nd p ∧ True := by
 obtain ⟨vs, rfl, hv⟩ := zgj tab121 rfl h
 obtain ⟨a, vs, rfl, ha, hv⟩ := zbn hv
 obtain ⟨b, vs, rfl, hb, hv⟩ := zbn hv
 obtain ⟨c, vs, rfl, hc, hv⟩ := zbn hv
 cases ziF hv
 obtain ⟨x, rfl, hx⟩ := zgT tab3 rfl ha
 obtain ⟨y, rfl, hy⟩ := zgT tab3 rfl hb
 obtain ⟨p, rfl, -⟩ := okIv hc
 exact ⟨⟨x, y, p⟩, rfl, trivial⟩
theorem okXs {n : Nat} {v : AV} (h : OkA tab (n + 4) 26 v) : ∃ l : List Nd, v = xs l ∧ l.length ≤ 140737488351232 := by
 obtain ⟨l, rfl, _, hl⟩ := zsf (f := nd) tab26 rfl tab121 (by decide) (fun x hx => okNd hx) h
 exact ⟨l, rfl, hl⟩
theorem okBx {n : Nat} {v : AV} (h : OkA tab (n + 3) 23 v) : ∃ l : List I, v = bx l ∧ l.length ≤ 140737488351232 := by
 obtain ⟨l, rfl, _, hl⟩ := zsf (f := iv) tab23 rfl tab48 (by decide) (fun x hx => okIv hx) h
 exact ⟨l, rfl, hl⟩
theorem okXss {n : Nat} {v : AV} (h : OkA tab (n + 5) 22 v) : ∃ l : List (List Nd), v = .slice (l.map xs) false ∧ (∀ r ∈ l, r.length ≤ 140737488351232) ∧ l.length ≤ 140737488351232 := by
 obtain ⟨l, rfl, hr, hl⟩ := zsf (f := xs) tab22 rfl tab26 (by decide) (fun x hx => okXs hx) h
 exact ⟨l, rfl, hr, hl⟩
theorem wfK8 {x : Int} (h : (Lit.int IntKind.i8 x).wf = true) : -128 ≤ x ∧ x ≤ 127 := by
 have := wfI h
 simp [IntKind.min, IntKind.max, IntKind.signed, IntKind.bits] at this
 exact this
theorem wfK64 {x : Int} (h : (Lit.int IntKind.i64 x).wf = true) : -9223372036854775808 ≤ x ∧ x ≤ 9223372036854775807 := by
 have := wfI h
 simp [IntKind.min, IntKind.max, IntKind.signed, IntKind.bits] at this
 exact this
theorem zts {x : Int} (h : (Lit.int IntKind.u8 x).wf = true) : 0 ≤ x ∧ x ≤ 255 := by
 have := wfI h
 simp [IntKind.min, IntKind.max, IntKind.signed, IntKind.bits] at this
 exact this
theorem okTs {n : Nat} {v : AV} (h : OkA tab (n + 2) 25 v) : ∃ a b : Int, v = .agg [.int .i64 a, .int .i64 b] := by
 obtain ⟨vs, rfl, hv⟩ := zgj tab25 rfl h
 obtain ⟨a, vs, rfl, ha, hv⟩ := zbn hv
 obtain ⟨b, vs, rfl, hb, hv⟩ := zbn hv
 cases ziF hv
 obtain ⟨x, rfl, hx⟩ := zgT tab2 rfl ha
 obtain ⟨y, rfl, hy⟩ := zgT tab2 rfl hb
 exact ⟨x, y, rfl⟩
theorem okIq {n : Nat} {v : AV} (h : OkA tab (n + 7) 29 v) : ∃ q, v = iqA q ∧ IqOk q := by
 obtain ⟨vs, rfl, hv⟩ := zgj tab29 rfl h
 obtain ⟨a, vs, rfl, ha, hv⟩ := zbn hv
 obtain ⟨b, vs, rfl, hb, hv⟩ := zbn hv
 obtain ⟨c, vs, rfl, hc, hv⟩ := zbn hv
 obtain ⟨d, vs, rfl, hd, hv⟩ := zbn hv
 obtain ⟨e, vs, rfl, he, hv⟩ := zbn hv
 obtain ⟨f, vs, rfl, hf, hv⟩ := zbn hv
 obtain ⟨g, vs, rfl, hg, hv⟩ := zbn hv
 obtain ⟨k, vs, rfl, hk, hv⟩ := zbn hv
 cases ziF hv
 obtain ⟨F, rfl, h1, h2⟩ := okXss ha
 obtain ⟨x, rfl, h4⟩ := okBx hb
 obtain ⟨t, u, rfl⟩ := okTs hc
 obtain ⟨l, rfl, h5⟩ := okXs hd
 obtain ⟨d, rfl, h6⟩ := zgT tab27 rfl he
 obtain ⟨m, rfl, h7⟩ := zgT tab2 rfl hf
 obtain ⟨p, rfl, h8⟩ := zgT tab5 rfl hg
 obtain ⟨r, rfl, h9⟩ := zgT tab5 rfl hk
 exact ⟨⟨F, x, t, u, l, d, m, p, r⟩, rfl, ⟨fun r hr => by have := h1 r hr; omega, by show F.length ≤ _; omega, by show x.length ≤ _; omega, by show l.length ≤ _; omega, wfK8 h6, zts h8, zts h9⟩⟩
end Go.Proofs.YtkghjlgpmeibhaaGreatDoor.Arm

namespace Go.Proofs.YtkghjlgpmeibhaaGreatDoor.Arm
open Go.Arm Go.Pl Go.ChangeShapes Go.WideShapes Go.ChangeAt Go.RowKit
theorem own : ownKnob Tryz.prog.godebug = none := by kernel_rfl
theorem zof : laidOutB Tryz.prog = true := by kernel_rfl
def zog : List (String × DataW Unit) := [("armillary/interval.products", Rows.laid_armillary_interval_products), ("armillary/interval.quotients", Rows.laid_armillary_interval_quotients)]
theorem zqy (os : Os) (args : Array Value) : laidMetH Tryz.prog zog ((World.doorLaid Tryz.prog 600 os).forCall (fun _ _ => 0) ⟨#[], args, []⟩).memory :=
 laidMetH_of_parts3 (fuel := 12) (laidMet_of_run' 8 (by kernel_rfl) (by kernel_rfl)) (by kernel_rfl) (by kernel_rfl)
def zh8 : List (List UInt8 × FuncId) := [([97, 114, 109, 105, 108, 108, 97, 114, 121, 47, 105, 110, 116, 101, 114, 118, 97, 108, 46, 104, 104], 337), ([97, 114, 109, 105, 108, 108, 97, 114, 121, 47, 105, 110, 116, 101, 114, 118, 97, 108, 46, 108, 108], 338), ([97, 114, 109, 105, 108, 108, 97, 114, 121, 47, 105, 110, 116, 101, 114, 118, 97, 108, 46, 108, 104], 339), ([97, 114, 109, 105, 108, 108, 97, 114, 121, 47, 105, 110, 116, 101, 114, 118, 97, 108, 46, 104, 108], 340)]
theorem zj7 : ∀ p ∈ zh8, ((List.range Tryz.prog.funcs.size).filter fun f => (Tryz.prog.funcs[f]?).any (·.name.toUTF8.data.toList == p.1)) = [p.2] := by
 intro p hp
 simp only [zh8, List.mem_cons, List.not_mem_nil, or_false] at hp
 rcases hp with rfl | rfl | rfl | rfl <;> kernel_rfl
theorem zj8 : ∀ p ∈ zh8, p.1 ≠ [] := by
 intro p hp
 simp only [zh8, List.mem_cons, List.not_mem_nil, or_false] at hp
 rcases hp with rfl | rfl | rfl | rfl <;> exact List.cons_ne_nil _ _
theorem gProd : Tryz.prog.globalNamed "armillary/interval.products" = some 0 := by kernel_rfl
theorem gQuot : Tryz.prog.globalNamed "armillary/interval.quotients" = some 1 := by kernel_rfl
theorem zqj {W : World} (h : laidMetH Tryz.prog zog W) : ∀ g cs, E.Γ g = some cs → VR [] W (.eptr cs 0) (.pointer (some ⟨g, 0, none⟩)) := by
 intro g cs hg
 have hg' : glob g = some cs := hg
 unfold glob at hg'
 split at hg'
 ·cases hg'
  exact zoH (P := Tryz.prog) (T := tab) (L := zh8) zlz h (name := "armillary/interval.products") (List.mem_cons_self ..) gProd (t := 240) (by kernel_rfl) (m := 8) (by kernel_rfl) zj7 zj8 (by kernel_rfl) (by decide)
 ·cases hg'
  exact zoH (P := Tryz.prog) (T := tab) (L := zh8) zlz h (name := "armillary/interval.quotients") (List.mem_cons_of_mem _ (List.mem_cons_self ..)) gQuot (t := 304) (by kernel_rfl) (m := 8) (by kernel_rfl) zj7 zj8 (by kernel_rfl) (by decide)
 ·cases hg'
theorem ztS : mapsRowed Tryz.prog = true := by kernel_rfl
theorem ztV : Tryz.prog.plainKeys = false := by kernel_rfl
theorem zr7 : Tryz.prog.stopsHeard = true := by kernel_rfl
theorem zr8 : Tryz.prog.mayEnter = true := by kernel_rfl
theorem zr6 : true = Tryz.prog.looks [] := by kernel_rfl
theorem ztU : (Rows.crossingReverseRow.lifted == Tryz.prog.liftsFinal) = true := by kernel_rfl
theorem ztT : (Tryz.prog.make == some Rows.crossingReverseRow.make) = true := by kernel_rfl
theorem bAnd {a b : Bool} (h : a = true) (g : b = true) : (a && b) = true := by rw [h, g]; rfl
end Go.Proofs.YtkghjlgpmeibhaaGreatDoor.Arm
