/- Part of a proof: what the functions of the program do to abstract states, step by step. -/
import Derived.Test.YtkghjlgpmeibhaaGreatDoorMe5
set_option linter.unusedVariables false
set_option linter.unusedSimpArgs false
namespace Go.Proofs.YtkghjlgpmeibhaaGreatDoor.Arm
open Go.Arm Go.Pl
def Y8 (q : Iq) (finer : Int) : Int := min (QI q) (QC finer (j8 q.gh))
def LRx (q : Iq) (s : Sg) (f : Int) (l m : List I) (H M : AH) (i : Nat) (fr : zx) (H' : AH) : Prop :=
 fr 5 = .bool true ∧ fr 7 = .ptr (H.length + 2) 1 0 0 ∧ fr 8 = .ptr (H.length + 3) 1 0 0 ∧ fr 10 = .ptr (H.length + 4) 1 0 0 ∧ fr 11 = .ptr (H.length + 5) 1 0 0 ∧ fr 12 = bx l ∧ fr 13 = bx m ∧ fr 14 = .int .i64 i ∧ i ≤ m.length ∧ H' = M
def LRy (q : Iq) (s : Sg) (f : Int) (l m : List I) (z : I) (H M : AH) (i : Nat) (j : Nat) (fr : zx) (H' : AH) : Prop :=
 fr 5 = .bool true ∧ fr 7 = .ptr (H.length + 2) 1 0 0 ∧ fr 8 = .ptr (H.length + 3) 1 0 0 ∧ fr 10 = .ptr (H.length + 4) 1 0 0 ∧ fr 11 = .ptr (H.length + 5) 1 0 0 ∧ fr 12 = bx l ∧ fr 13 = bx m ∧ fr 14 = .int .i64 i ∧ fr 15 = .bool ((l.take j).any (jr z)) ∧ fr 16 = .int .i64 j ∧ j ≤ l.length ∧ H' = M
set_option maxRecDepth 100000 in
set_option maxHeartbeats 4000000 in
theorem lRefine16 (q : Iq) (hq : Xq q) (finer : Int) (H : AH) : zg E 8 [JE q, .int .i64 finer] H (.ret (.bool true)) H := by
 refine zt zn zo Tryz.func8 rfl (by rfl) Tryz.ntmps8 (by kernel_rfl) (by simp) ?_
 have hP := fun Hx => lProblem16 q hq Hx
 obtain ⟨hT, hTn⟩ := Wb hq
 obtain ⟨⟨hN, hN1, hN2⟩, hO, hO1, hO2⟩ := Wc hq
 obtain ⟨htm, hhh⟩ := zdb q.gt q.gh
 have fin : ∀ {fr : zx} {J : AH} {e : jJ}, fr 4 = .bool true → (e = .ret ∨ e = .normal) → jd E Tryz.f8 H (.ret (.bool true)) H e fr (H ++ J) := fun h he => zv (rs := [.tmp 4]) (by rfl) (by simp [ze, h]) (by simp [noF]) he
 have ha := zb3 (l := q.F) (most := 5) (i := qv q) (N := qv q) (by omega)
 have hl5 := YR q.F 5 (qv q) (qv q)
 have hCo : ∀ Hx, zg E 17 [z5 (J9 q)] Hx (.ret (zr (z7 q))) Hx := zbz (J9 q) (by show 0 < (jV q.F 5 (qv q) (qv q)).length ∧ (jV q.F 5 (qv q) (qv q)).length ≤ 6; rw [hl5]; omega) (fun e he => (ha e he).1)
 unfold prA at hP
 cases hs : YX q with
 | none =>
  rw [hs] at hP
  simp only [JE, zwA] at hP
  simp [JE]
  refine zd (lSanity16 _) ?_
  simp
  refine zd (hP _) ?_
  simp [z5, zN]
  exact fin (by simp) (by simp)
 | some s =>
  rw [hs] at hP
  have k := prOk hq hs
  have hg := iqG_ok hq
  have hsh : s.h = j8 q.gh := (step_of hs).2.1
  have hr1 := zcR (least := finer) (h := j8 q.gh) (by omega)
  have hr0 := zcR (least := q.least) (h := j8 q.gh) (by omega)
  have hLe : QI q = QC q.least (j8 q.gh) := rfl
  have hRe := fun Hx => lResolution finer s.h (by omega) Hx
  have hmin : (if QC finer s.h < QI q then QC finer s.h else QI q) = Y8 q finer := by unfold Y8; rw [hsh]; split <;> omega
  have hfl : 1 ≤ Y8 q finer ∧ Y8 q finer ≤ QI q := by unfold Y8; omega
  generalize hfE : Y8 q finer = f at *
  obtain ⟨w', hw'⟩ : ∃ w' : Cw, w' = { qb q s with least := f } := ⟨_, rfl⟩
  have ew : zQ w' = .agg [.int .i64 (qb q s).s.t, .int .i64 s.h, bx (qb q s).s.frm, bx (qb q s).s.pre, bx (qb q s).s.tube, bx (qb q s).s.to, .int .i64 (qb q s).order, .int .i64 f] := by rw [hw']; rfl
  have kw : JP (z7 q) w' := by
   have := k.w
   rw [hw']
   exact ⟨this.vf, this.nf, this.vp, this.np, this.vt, this.nt, this.vo, this.no, this.tm, this.od, by have := this.le; show 1 ≤ f ∧ f ≤ 2000000000; have e : (qb q s).least = QI q := rfl; rw [e] at this; omega⟩
  have hpi := k.parts
  have hln := k.len
  have hhb := k.hb
  have hfine : ∀ z ∈ jm (z7 q) (jN q) w', ∃ r ∈ jm (z7 q) (jN q) (qb q s), Sb z r := by rw [hw']; exact partsOf_fine hfl hhb.1
  have hpi' : Yd s.h (jm (z7 q) (jN q) w') := by
   unfold jm
   split
   ·exact ⟨by simp, by simp⟩
   ·exact zbW (h := w'.s.h) kw.le.1 (by rw [hw']; exact hhb.1) |> fun h => by rw [hw'] at h ⊢; exact h
  have hln' : ((jm (z7 q) (jN q) w').length : Int) ≤ 131072 := by
   unfold jm
   split
   ·simp
   ·have := parts_len (P := ZU (z7 q) (jN q) w') (h := w'.s.h) kw.le.1 (by rw [hw']; exact hhb.1)
    have e : w'.s.h = s.h := by rw [hw']; rfl
    omega
  have hpp : ∀ p ∈ jm (z7 q) (jN q) (qb q s), 0 ≤ p.1 ∧ p.1 ≤ p.2 ∧ p.2 ≤ (qb q s).s.h := fun p hp => by have := hpi.inn p hp; exact ⟨this.1, by omega, this.2.2⟩
  have hpp' : ∀ p ∈ jm (z7 q) (jN q) w', 0 ≤ p.1 ∧ p.1 ≤ p.2 ∧ p.2 ≤ w'.s.h := fun p hp => by have := hpi'.inn p hp; have e : w'.s.h = s.h := (by rw [hw']; rfl); exact ⟨this.1, by omega, by omega⟩
  have hTi := fun Hx => Uy (z7 q) (jN q) (qb q s) hT (by omega) k.w hg hpp (by omega) Hx
  have hLo := fun Hx => WX (z7 q) (jN q) (qb q s) hT (by omega) k.w hg hpp (by omega) Hx
  have hTi' := fun Hx => Uy (z7 q) (jN q) w' hT (by omega) kw hg hpp' (by omega) Hx
  have hLo' := fun Hx => WX (z7 q) (jN q) w' hT (by omega) kw hg hpp' (by omega) Hx
  have tm := k.w.tm
  have hEl : ∀ x, (qV (z7 q) (qb q s) x).length = (z7 q).n := fun x => (Wy (T := z7 q) (x := (qb q s).s.frm) (b := (qb q s).s.pre) (t := (qb q s).s.t) (h := (qb q s).s.h) (part := x) (order := (qb q s).order) hT k.w.vf k.w.vp (by omega) (by omega)).2
  have eE : ∀ x, qV (z7 q) w' x = qV (z7 q) (qb q s) x := fun x => by rw [hw']; rfl
  have eA : absC w' = absC (qb q s) := by rw [hw']; rfl
  have hmono := k.mono
  generalize hL : jm (z7 q) (jN q) (qb q s) = P at *
  generalize hL' : jm (z7 q) (jN q) w' = P' at *
  rw [eA] at hTi'
  have hmm : ∀ z ∈ P'.map (absC (qb q s)), ∃ y ∈ P.map (absC (qb q s)), jr z y = true := fun z hz => by
   obtain ⟨p, hp, rfl⟩ := List.mem_map.1 hz
   obtain ⟨r, hr, hs⟩ := hfine p hp
   exact ⟨absC (qb q s) r, List.mem_map.2 ⟨r, hr, rfl⟩, (absC_mono hs).to⟩
  have hml : (P.map (absC (qb q s))).length = P.length := by simp
  have hml' : (P'.map (absC (qb q s))).length = P'.length := by simp
  simp only [JE, zN, zQ, z5, zr, qx, bx] at hP hCo hTi hLo
  rw [ew] at hTi' hLo'
  simp only [zN, zr, qx, bx] at hTi' hLo'
  have ts : (qb q s).s.h = s.h := rfl
  have tl : (qb q s).least = QI q := rfl
  simp only [ts, tl] at hTi hLo
  simp [JE]
  refine zd (lSanity16 _) ?_
  simp
  refine zd (hP _) ?_
  simp
  refine zB (fun Hx => by simpa using hCo Hx) ?_
  simp
  refine zm [(3, 5), (4, 6)] (by rfl) (by simp [zl, zk, za.triv, za.wr, za.none, upTo, newAt]) ?_
  simp [ts, tl]
  refine zB (fun Hx => by simpa using hRe Hx) ?_
  simp
  refine zm [] (by rfl) (by simp [zl, zk, za.triv, za.wr, za.none, upTo, newAt]) ?_
  simp [ts, tl, hmin]
  refine zB (fun Hx => by simpa using hTi Hx) ?_
  simp
  refine zB (fun Hx => by simpa using hTi' Hx) ?_
  simp
  refine zm [] (by rfl) (by simp [zl, zk, za.triv, za.wr, za.none, upTo, newAt]) ?_
  simp
  have zY : ∀ {M : AH} {L : AH} {fr : zx} {e : jJ}, (∃ J, M = H ++ J) → fr 4 = .bool true → (e = .ret ∨ e = .normal) → jd E Tryz.f8 H (.ret (.bool true)) H e fr (M ++ L) := fun {M L fr e} ⟨J, hJ⟩ h he => by
   subst hJ
   rw [List.append_assoc]
   exact fin h he
  have hM : ∃ M : AH, M = H ++ [.row true 9 [JE q], .row true 2 [z5 (J9 q)], .row true 2 [zN (jN q)], .row true 8 [zQ (qb q s)], .row true 3 [zr (z7 q)], .row true 8 [zQ w']] := ⟨_, rfl⟩
  obtain ⟨M, hM⟩ := hM
  have hMJ : ∃ J, M = H ++ J := ⟨_, hM⟩
  have m2 : M[H.length + 2]? = some (.row true 2 [zN (jN q)]) := by rw [hM]; simp
  have m3 : M[H.length + 3]? = some (.row true 8 [zQ (qb q s)]) := by rw [hM]; simp
  have m4 : M[H.length + 4]? = some (.row true 3 [zr (z7 q)]) := by rw [hM]; simp
  have m5 : M[H.length + 5]? = some (.row true 8 [zQ w']) := by rw [hM]; simp
  have a2 := fun L => zi (L := L) m2
  have a3 := fun L => zi (L := L) m3
  have a4 := fun L => zi (L := L) m4
  have a5 := fun L => zi (L := L) m5
  simp only [zN, zQ, zr, qx, bx, ts, tl] at m2 m3 m4 a2 a3 a4
  rw [ew] at m5 a5
  simp only [bx] at m5 a5
  have hM2 : H ++ [zE.row true 9 [JE q], .row true 2 [z5 (J9 q)], .row true 2 [zN (jN q)], .row true 8 [zQ (qb q s)], .row true 3 [zr (z7 q)], .row true 8 [zQ w']] = M := hM.symm
  rw [ew] at hM2
  simp only [JE, z5, zN, zQ, zr, qx, bx, ts, tl] at hM2
  clear hM
  generalize hl : P.map (absC (qb q s)) = l at *
  generalize hm : P'.map (absC (qb q s)) = m at *
  cases m with
  | nil =>
   rw [show Zf [] = .nilslice from rfl]
   have hP0 : P' = [] := List.map_eq_nil_iff.1 hm
   rw [hP0, show J6 (z7 q) w' [] = .tuple [.nilslice, iv (0, 0), .bool false] from rfl] at hLo'
   refine zZ (fun (i : Nat) fr H' => fr 5 = .bool true ∧ fr 7 = .ptr (H.length + 2) 1 0 0 ∧ fr 8 = .ptr (H.length + 3) 1 0 0 ∧ fr 10 = .ptr (H.length + 4) 1 0 0 ∧ fr 11 = .ptr (H.length + 5) 1 0 0 ∧ fr 13 = .nilslice ∧ fr 14 = .int .i64 0 ∧ H' = M) (fun i => i) 0 ⟨by simp, by simp, by simp, by simp, by simp, by simp, by simp, by simpa [bx] using hM2⟩ ?_
   rintro i fr H' ⟨g5, g7, g8, g10, g11, g13, g14, rfl⟩
   simp [g13, g14, g7, g8, g10, m2, m3, m4]
   refine zd (by simpa using hLo _) ?_
   cases P with
   | nil =>
    simp [J6, g7, g10, g11, a2, a4, a5]
    refine zd (by simpa using hLo' _) ?_
    simp [g5]
    exact zY hMJ (by simp) (by simp)
   | cons p r =>
    simp [J6, g7, g10, g11, a2, a4, a5, bx]
    refine zd (by simpa using hLo' _) ?_
    simp [g5]
    exact zY hMJ (by simp) (by simp)
  | cons z0 m0 =>
   have hne : l ≠ [] := fun h => by
    obtain ⟨y, hy, _⟩ := hmm z0 (by simp)
    rw [h] at hy; simp at hy
   have er : Zf l = bx l := by unfold Zf; rw [if_neg hne]
   have er2 : Zf (z0 :: m0) = bx (z0 :: m0) := rfl
   have hmne : z0 :: m0 ≠ [] := by simp
   generalize z0 :: m0 = m at *
   rw [er, er2]
   refine zZ (LRx q s f l m H M) (fun i => m.length - i) 0 ⟨by simp, by simp, by simp, by simp, by simp, by simp, by simp, by simp, by omega, by simpa [bx] using hM2⟩ ?_
   rintro i fr H' ⟨g5, g7, g8, g10, g11, g12, g13, g14, hi, rfl⟩
   simp [g13, g14, bx]
   refine zL (fun hcc => ?_) (fun hcc => ?_)
   ·have hlt : i < m.length := by simpa using hcc
    obtain ⟨z, hz⟩ := zD hlt
    have hzE : ∀ h, m[i]'h = z := fun h => (gI.1 hz).2
    have w2 : IntKind.i64.wrap ((i : Int) + 1) = ((i + 1 : Nat) : Int) := by rw [zj (by omega) (by omega)]; omega
    obtain ⟨y, hy, hyz⟩ := hmm z (List.mem_of_getElem? hz)
    have hany : l.any (jr z) = true := List.any_eq_true.2 ⟨y, hy, hyz⟩
    simp
    refine zZ (LRy q s f l m z H H' i) (fun j => l.length - j) 0 ⟨by simp [g5], by simp [g7], by simp [g8], by simp [g10], by simp [g11], by simp [g12], by simp [g13], by simp [g14], by simp, by simp, by omega, rfl⟩ ?_
    clear g5 g7 g8 g10 g11 g12 g13 g14
    rintro j fr2 H2 ⟨g5, g7, g8, g10, g11, g12, g13, g14, g15, g16, hj, rfl⟩
    simp [g12, g16, bx]
    refine zL (fun hc2 => ?_) (fun hc2 => ?_)
    ·have hlt2 : j < l.length := by simpa using hc2
     obtain ⟨y2, hy2⟩ := zD hlt2
     have hyE : ∀ h, l[j]'h = y2 := fun h => (gI.1 hy2).2
     have w3 : IntKind.i64.wrap ((j : Int) + 1) = ((j + 1 : Nat) : Int) := by rw [zj (by omega) (by omega)]; omega
     have hnx : (l.take (j + 1)).any (jr z) = ((l.take j).any (jr z) || jr z y2) := by rw [List.take_add_one, hy2, List.any_append]; simp
     cases hb : (l.take j).any (jr z) with
     | true =>
      rw [hb] at g15 hnx
      simp [g12, g13, g14, g15, g16]
      refine zm [] (by rfl) (by simp [zl, zk, za.triv, za.wr, za.none, upTo, newAt]) ?_
      simp [g16, w3]
      exact ⟨j + 1, by show l.length - (j + 1) < l.length - j; omega, by simp [g5], by simp [g7], by simp [g8], by simp [g10], by simp [g11], by simp [g12, bx], by simp [g13, bx], by simp [g14], by rw [hnx]; simp, by simp, by omega, rfl⟩
     | false =>
      rw [hb] at g15 hnx
      simp [g12, g13, g14, g15, g16, bx, hz, hzE, hy2, hyE]
      refine zB (fun Hx => zbT z y2 Hx) ?_
      simp
      refine zm [] (by rfl) (by simp [zl, zk, za.triv, za.wr, za.none, upTo, newAt]) ?_
      simp [g16, w3]
      exact ⟨j + 1, by show l.length - (j + 1) < l.length - j; omega, by simp [g5], by simp [g7], by simp [g8], by simp [g10], by simp [g11], by simp [g12, bx], by simp [g13, bx], by simp [g14], by rw [hnx]; simp, by simp, by omega, rfl⟩
    ·have hj2 : j = l.length := by
      have : ¬ j < l.length := by simpa using hc2
      omega
     subst hj2
     rw [List.take_length, hany] at g15
     simp [g15, g14, w2]
     exact ⟨i + 1, by show m.length - (i + 1) < m.length - i; omega, by simp [g5], by simp [g7], by simp [g8], by simp [g10], by simp [g11], by simp [g12, bx], by simp [g13, bx], by simp, by omega, rfl⟩
   ·obtain ⟨p, r, rfl⟩ : ∃ p r, P = p :: r := by
     cases P with
     | nil => exact absurd hl.symm hne
     | cons p r => exact ⟨p, r, rfl⟩
    obtain ⟨p', r', rfl⟩ : ∃ p r, P' = p :: r := by
     cases P' with
     | nil => exact absurd hm.symm hmne
     | cons p r => exact ⟨p, r, rfl⟩
    have hEl' : ∀ x, (qV (z7 q) w' x).length = (z7 q).n := fun x => by rw [eE]; exact hEl x
    have l1 := zcy (T := z7 q) (w := qb q s) (p := p) (r := r) hEl
    have l2 := zcy (T := z7 q) (w := w') (p := p') (r := r') hEl'
    have hsub : qt (Zd (z7 q) w' p' r') (Zd (z7 q) (qb q s) p r) = true := stS_sub hEl' r' p' (fun x hx => by
     obtain ⟨y, hy, hxy⟩ := hfine x hx
     have i1 := hpi'.inn x hx
     have i2 := hpi.inn y hy
     rw [eE]
     exact zcw (by rw [hEl, hEl]) (hmono x y (by omega) (by omega) hxy) (stS_ge hEl r p y hy))
    have htms : jr (Zt w' p' r') (Zt (qb q s) p r) = true := (tm_le r' p' (fun x hx => by
     obtain ⟨y, hy, hxy⟩ := hfine x hx
     rw [eA]
     exact (absC_mono hxy).trans (tm_ge r p y hy))).to
    have hS := fun Hx => r3Subset (Zd (z7 q) w' p' r') (Zd (z7 q) (qb q s) p r) (by rw [l1, l2]; exact Nat.le_refl _) (by omega) Hx
    rw [hsub] at hS
    have hS2 := fun Hx => zbT (Zt w' p' r') (Zt (qb q s) p r) Hx
    rw [htms] at hS2
    rw [show J6 (z7 q) (qb q s) (p :: r) = .tuple [bx (Zd (z7 q) (qb q s) p r), iv (Zt (qb q s) p r), .bool true] from rfl] at hLo
    rw [show J6 (z7 q) w' (p' :: r') = .tuple [bx (Zd (z7 q) w' p' r'), iv (Zt w' p' r'), .bool true] from rfl] at hLo'
    generalize Zt w' p' r' = u' at *
    generalize Zt (qb q s) p r = u at *
    generalize Zd (z7 q) w' p' r' = S' at *
    generalize Zd (z7 q) (qb q s) p r = S at *
    have hll : ((S.length : Int) == (S'.length : Int)) = true := by rw [beq_iff_eq]; omega
    simp only [bx] at hS
    simp [g7, g8, g10, m2, m3, m4]
    refine zd (by simpa using hLo _) ?_
    simp [g7, g10, g11, a2, a4, a5, bx]
    refine zd (by simpa using hLo' _) ?_
    simp [bx, hll]
    refine zd (by simpa using hS _) ?_
    simp
    refine zd (by simpa using hS2 _) ?_
    simp [g5]
    exact zY hMJ (by simp) (by simp)
end Go.Proofs.YtkghjlgpmeibhaaGreatDoor.Arm
