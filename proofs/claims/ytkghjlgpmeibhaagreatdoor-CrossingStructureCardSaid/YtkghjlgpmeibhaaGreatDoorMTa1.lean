/- Part of a proof: what the functions of the program do to abstract states, step by step. -/
import Derived.Test.YtkghjlgpmeibhaaGreatDoorM6
set_option linter.unusedVariables false
set_option linter.unusedSimpArgs false
namespace Go.Proofs.YtkghjlgpmeibhaaGreatDoor.Arm
open Go.Arm Go.Pl
theorem zkj : ∀ (r : List I) (p : I) {q : I}, (p :: r)[r.length]? = some q → znr p.2 r = q.2
 | [], p, q, h => by simp at h; subst h; rfl
 | a :: r, p, q, h => by
  rw [ziw]
  exact zkj r a (by simpa using h)
def LSx (w : Cw) (tm : I) (m ss : List I) (H : AH) (i : Nat) (fr : AFr) (H' : AH) : Prop :=
 fr 3 = .bool true ∧ fr 6 = .ptr (H.length + 3) 1 0 0 ∧ fr 9 = bx m ∧ fr 10 = bx ss ∧ fr 11 = .ptr (H.length + 5) 1 0 0 ∧ fr 12 = .bool true ∧ fr 13 = .int .i64 i ∧ i ≤ m.length ∧
 H'[H.length + 3]? = some (.row true 8 [cwA w]) ∧ H'[H.length + 5]? = some (.row true 2 [iv tm]) ∧ ∃ J, H' = H ++ J
set_option maxRecDepth 100000 in
set_option maxHeartbeats 4000000 in
theorem zkk (q : Iq) (hq : IqOk q) (H : AH) : zaf E 6 [iqA q] H (.ret (.bool true)) H := by
 refine zab zah zai Tryz.func6 rfl (by rfl) Tryz.ntmps6 (by kernel_rfl) (by simp) ?_
 have hP := fun Hx => zet q hq Hx
 obtain ⟨hT, hTn⟩ := zfu hq
 obtain ⟨⟨hN, hN1, hN2⟩, hO, hO1, hO2⟩ := zfw hq
 have fin : ∀ {fr : AFr} {J : AH} {e : zb3}, fr 2 = .bool true → (e = .ret ∨ e = .normal) → zbz E Tryz.f6 H (.ret (.bool true)) H e fr (H ++ J) := fun h he => fin1 (rs := [.tmp 2]) (by rfl) (by simp [resA, h]) (by simp [noF]) he
 have ha := zdG (l := q.F) (most := 5) (i := iqN q) (N := iqN q) (by omega)
 have hl5 := zdf q.F 5 (iqN q) (iqN q)
 have hCo : ∀ Hx, zaf E 17 [sys (iqS q)] Hx (.ret (tpA (iqT q))) Hx := zdp (iqS q) (by show 0 < (mds q.F 5 (iqN q) (iqN q)).length ∧ (mds q.F 5 (iqN q) (iqN q)).length ≤ 6; rw [hl5]; omega) (fun e he => (ha e he).1)
 unfold prA at hP
 cases hs : zfv q with
 | none =>
  rw [hs] at hP
  simp only [iqA, zwA] at hP
  simp [iqA]
  refine zaa (zcm _) ?_
  simp
  refine zaa (hP _) ?_
  simp [sys, gdA]
  exact fin (by simp) (by simp)
 | some s =>
  rw [hs] at hP
  have k := prOk hq hs
  have hg := zmw hq
  have hpi := k.parts
  have hln := k.len
  have hhb := k.hb
  have hpp : ∀ p ∈ zaq (iqT q) (iqG q) (iqW q s), 0 ≤ p.1 ∧ p.1 ≤ p.2 ∧ p.2 ≤ (iqW q s).s.h := fun p hp => by have := hpi.inn p hp; exact ⟨this.1, by omega, this.2.2⟩
  have hTi := fun Hx => ze8 (iqT q) (iqG q) (iqW q s) hT (by omega) k.w hg hpp (by omega) Hx
  have hLo := fun Hx => zdZ (iqT q) (iqG q) (iqW q s) hT (by omega) k.w hg hpp (by omega) Hx
  have hsub := k.sub
  have tm := k.w.tm
  generalize hL : zaq (iqT q) (iqG q) (iqW q s) = l at *
  have hml : (l.map (absC (iqW q s))).length = l.length := by simp
  have hmm : ∀ z ∈ l.map (absC (iqW q s)), z.1 < z.2 ∧ s.t ≤ z.1 ∧ z.2 ≤ s.t + s.h := fun z hz => by
   obtain ⟨p, hp, rfl⟩ := List.mem_map.1 hz
   have h1 := hpi.inn p hp
   have e1 : (absC (iqW q s) p).1 = s.t + p.1 := rfl
   have e2 : (absC (iqW q s) p).2 = s.t + p.2 := rfl
   omega
  have hpw : (l.map (absC (iqW q s))).Pairwise fun a b => a.2 < b.1 := List.pairwise_map.2 (hpi.ord.imp fun {a b} h => by
   show s.t + a.2 < s.t + b.1
   omega)
  have hm0 : l.map (absC (iqW q s)) = [] ↔ l = [] := by simp
  generalize hm : l.map (absC (iqW q s)) = m at *
  have wts : IntKind.i64.wrap (s.t + s.h) = s.t + s.h := zae (by have : (iqW q s).s = s := rfl; rw [this] at tm; omega) (by have : (iqW q s).s = s := rfl; rw [this] at tm; omega)
  have ht1 : (iqW q s).s.t = s.t := rfl
  have ht2 : (iqW q s).s.h = s.h := rfl
  have ht3 : (iqW q s).s.tube = s.tube := rfl
  have ntb := k.w.nt
  simp only [iqA, gdA, cwA, sys, tpA, outA, bx] at hP hCo hTi hLo
  simp [iqA]
  refine zaa (zcm _) ?_
  simp
  refine zaa (hP _) ?_
  simp
  refine zaa (by simpa using hCo _) ?_
  simp
  refine zaa (by simpa using hTi _) ?_
  simp
  refine zaa (by simpa using hLo _) ?_
  cases l with
  | nil =>
   have hmn : m = [] := hm0.2 rfl
   subst hmn
   simp [locA, rwN]
   refine zag (fun (i : Nat) fr H' => fr 3 = .bool true ∧ fr 9 = .nilslice ∧ fr 10 = .nilslice ∧ fr 12 = .bool false ∧ fr 13 = .int .i64 0 ∧ fr 11 = .ptr (H.length + 5) 1 0 0 ∧ ∃ a b c d e J, H' = H ++ (a :: b :: c :: d :: e :: .row true 2 [iv (0, 0)] :: J)) (fun i => i) 0 ⟨by simp, by simp, by simp, by simp, by simp, by simp, _, _, _, _, _, _, by simp; (repeat (first | rfl | (refine ⟨rfl, ?_⟩)))⟩ ?_
   rintro i fr H' ⟨g3, g9, g10, g12, g13, g11, a, b, c, d, e, J, rfl⟩
   simp [g3, g9, g10, g11, g12, g13]
   exact fin (by simp) (by simp)
  | cons p r =>
   have hmn : m ≠ [] := fun h => by have := hm0.1 h; cases this
   simp [locA, rwN, hmn, bx]
   have hmp : 0 < m.length := by rw [hml]; simp
   have hml1 : m.length = r.length + 1 := by rw [hml]; simp
   have et := zsr (w := iqW q s) (p := p) (r := r) (h := s.h) hpi
   obtain ⟨z0, hz0⟩ : ∃ z, m[0]? = some z := ⟨m[0]'hmp, by rw [List.getElem?_eq_getElem]⟩
   obtain ⟨zl, hzl⟩ : ∃ z, m[m.length - 1]? = some z := ⟨m[m.length - 1]'(by omega), by rw [List.getElem?_eq_getElem]⟩
   have q1 : (tmS2 (iqW q s) p r).1 = z0.1 := by
    rw [et]
    rw [← hm] at hz0
    simp at hz0
    rw [← hz0]; rfl
   have q2 : (tmS2 (iqW q s) p r).2 = zl.2 := by
    rw [et]
    obtain ⟨y, hy⟩ : ∃ y, (p :: r)[r.length]? = some y := ⟨(p :: r)[r.length]'(by simp), by rw [List.getElem?_eq_getElem]⟩
    rw [show m.length - 1 = r.length by omega, ← hm, List.getElem?_map, hy] at hzl
    simp at hzl
    rw [← hzl, zkj r p hy]; rfl
   have hEl : ∀ x, (zbn (iqT q) (iqW q s) x).length = (iqT q).n := fun x => (zbV (T := iqT q) (x := (iqW q s).s.frm) (b := (iqW q s).s.pre) (t := (iqW q s).s.t) (h := (iqW q s).s.h) (part := x) (order := (iqW q s).order) hT k.w.vf k.w.vp (by omega) (by omega)).2
   have hsl := zfS (T := iqT q) (w := iqW q s) (p := p) (r := r) hEl
   have hss : subI (stS (iqT q) (iqW q s) p r) s.tube = true := zlk hEl r p (fun x hx => by have h1 := hpi.inn x hx; exact hsub x h1.1 h1.2.1 h1.2.2)
   have hnt : s.tube.length = (iqT q).n := ntb
   have hS := fun Hx => zi1 (stS (iqT q) (iqW q s) p r) s.tube (by rw [hsl, hnt]; exact Nat.le_refl _) (by omega) Hx
   rw [hss] at hS
   generalize tmS2 (iqW q s) p r = tt at *
   generalize stS (iqT q) (iqW q s) p r = ss at *
   refine zag (LSx (iqW q s) tt m ss H) (fun i => m.length - i) 0 ⟨by simp, by simp, by simp [bx], by simp [bx], by simp, by simp, by simp, by omega, by simp [cwA, bx], by simp, _, by simp; rfl⟩ ?_
   rintro i fr M ⟨g3, g6, g9, g10, g11, g12, g13, hi, m3, m5, J, hJ⟩
   simp [g9, g13, bx]
   refine zak (fun hcc => ?_) (fun hcc => ?_)
   ·have hlt : i < m.length := by simpa using hcc
    obtain ⟨z, hz⟩ := zaj hlt
    have hzE : ∀ h, m[i]'h = z := fun h => (gI.1 hz).2
    have hzb := hmm z (List.mem_of_getElem? hz)
    have n1 : ¬ z.2 ≤ z.1 := by omega
    have n2 : ¬ z.1 < s.t := by omega
    have n3 : ¬ s.t + s.h < z.2 := by omega
    have w2 : IntKind.i64.wrap ((i : Int) + 1) = ((i + 1 : Nat) : Int) := by rw [zae (by omega) (by omega)]; omega
    rcases Nat.eq_zero_or_pos i with h00 | hpi
    ·subst h00
     simp [g6, g9, g13, bx, hz, hzE, m3, cwA, ht1, ht2, n1, n2, n3, wts]
     refine endD [] (by rfl) (by simp [okW, note, Eff.triv, Eff.wr, Eff.none, upTo, newAt]) ?_
     simp [g13, w2]
     exact ⟨1, by show m.length - 1 < m.length - 0; omega, by simp [g3], by simp [g6], by simp [g9, bx], by simp [g10, bx], by simp [g11], by simp [g12], by simp; decide, by omega, m3, m5, J, hJ⟩
    ·obtain ⟨y, hy⟩ : ∃ y, m[i - 1]? = some y := ⟨m[i - 1]'(by omega), by rw [List.getElem?_eq_getElem]⟩
     have hyE : ∀ h, m[i - 1]'h = y := fun h => (gI.1 hy).2
     have hil : i - 1 < m.length := by omega
     have hyz : y.2 < z.1 := by
      have := List.pairwise_iff_getElem.1 hpw (i - 1) i (by omega) hlt (by omega)
      rwa [hyE, hzE] at this
     have n4 : ¬ z.1 ≤ y.2 := by omega
     have w3 : IntKind.i64.wrap ((i : Int) - 1) = ((i - 1 : Nat) : Int) := by rw [zae (by omega) (by omega)]; omega
     simp [g6, g9, g13, bx, hz, hzE, m3, cwA, ht1, ht2, n1, n2, n3, wts, hpi, w3, hy, hyE, hil, n4]
     refine endD [] (by rfl) (by simp [okW, note, Eff.triv, Eff.wr, Eff.none, upTo, newAt]) ?_
     simp [g13, w2]
     exact ⟨i + 1, by show m.length - (i + 1) < m.length - i; omega, by simp [g3], by simp [g6], by simp [g9, bx], by simp [g10, bx], by simp [g11], by simp [g12], by simp, by omega, m3, m5, J, hJ⟩
   ·have hz0E : ∀ h, m[0]'h = z0 := fun h => (gI.1 hz0).2
    have hzlE : ∀ h, m[m.length - 1]'h = zl := fun h => (gI.1 hzl).2
    have hml2 : m.length - 1 < m.length := by omega
    have wl : IntKind.i64.wrap ((m.length : Int) - 1) = ((m.length - 1 : Nat) : Int) := by rw [zae (by omega) (by omega)]; omega
    have hmne : ((m.length : Int) == 0) = false := by rw [beq_eq_false_iff_ne]; omega
    simp only [bx] at hS
    simp [g3, g6, g9, g10, g11, g12, bx, hmne, hmp, hz0, hz0E, wl, hzl, hzlE, hml2, m3, m5, q1, q2, cwA, ht3, hsl, hnt]
    refine zac (fun Hx => by simpa using hS Hx) ?_
    simp [g3]
    refine endD [] (by rfl) (by simp [okW, note, Eff.triv, Eff.wr, Eff.none, upTo, newAt]) ?_
    simp
    subst hJ
    exact fin (by simp) (by simp)
end Go.Proofs.YtkghjlgpmeibhaaGreatDoor.Arm
