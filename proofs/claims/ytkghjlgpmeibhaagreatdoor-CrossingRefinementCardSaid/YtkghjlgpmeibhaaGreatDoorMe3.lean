/- Part of a proof: what the functions of the program do to abstract states, step by step. -/
import Derived.Test.YtkghjlgpmeibhaaGreatDoorMe2
set_option linter.unusedVariables false
set_option linter.unusedSimpArgs false
namespace Go.Proofs.YtkghjlgpmeibhaaGreatDoor.Arm
open Go.Arm Go.Pl
theorem rNumber (x : Int) (H : AH) : zg E 28 [.int .i64 x] H (.ret (.bool (jH x))) H := by
 refine zt zn zo Tryz.func28 rfl (by rfl) Tryz.ntmps28 (by kernel_rfl) (by simp) ?_
 by_cases h1 : -2147483648 < x
 ·simp [h1]
  exact zY (rs := [.tmp 2]) (by rfl) (by simp [ze, jH, h1])
 ·simp [h1]
  exact zY (rs := [.tmp 2]) (by rfl) (by simp [ze, jH, h1])
theorem Jm (H : AH) : zg E 125 [] H (.ret (iv ent)) H := by
 refine zt zn zo Tryz.func125 rfl (by rfl) Tryz.ntmps125 (by kernel_rfl) (by simp) ?_
 simp
 exact zv (rs := [.cell 0 48]) (by rfl) (by simp [ze, ent]) (by simp [noF, zh])
theorem Jl (p : I) (H : AH) : zg E 72 [iv p] H (.ret (.bool (zI p))) H := by
 refine zt zn zo Tryz.func72 rfl (by rfl) Tryz.ntmps72 (by kernel_rfl) (by simp) ?_
 by_cases h1 : p.1 = -2147483648
 ·simp [h1]
  exact zv (rs := [.tmp 2]) (by rfl) (by simp [ze, zI, h1]) (by simp [noF])
 ·have h2 : (p.1 == -2147483648) = false := by simp [h1]
  simp [h2]
  exact zv (rs := [.tmp 2]) (by rfl) (by simp [ze, zI, h2]) (by simp [noF])
theorem Z1 (a b : Int) (H : AH) : zg E 76 [.int .i64 a, .int .i64 b] H (.ret (iv (mk a b))) H := by
 refine zt zn zo Tryz.func76 rfl (by rfl) Tryz.ntmps76 (by kernel_rfl) (by simp) ?_
 simp
 refine zd (rNumber _ _) ?_
 cases h1 : jH a with
 | false =>
  simp
  refine zd (Jm _) ?_
  simp
  exact zv (rs := [.cell 4 48]) (by rfl) (by simp [ze, mk, h1]) (by simp [noF, zh])
 | true =>
 simp
 refine zd (rNumber _ _) ?_
 cases h2 : jH b with
 | false =>
  simp
  refine zd (Jm _) ?_
  simp
  exact zv (rs := [.cell 4 48]) (by rfl) (by simp [ze, mk, h1, h2]) (by simp [noF, zh])
 | true =>
 simp
 exact zv (rs := [.cell 4 48]) (by rfl) (by simp [ze, mk, h1, h2]) (by simp [noF, zh])
theorem XD (x : Int) (H : AH) : zg E 34 [.int .i64 x] H (.ret (iv (pt x))) H := by
 refine zt zn zo Tryz.func34 rfl (by rfl) Tryz.ntmps34 (by kernel_rfl) (by simp) ?_
 simp
 refine zd (Z1 _ _ _) ?_
 simp
 exact zv (rs := [.cell 2 48]) (by rfl) (by simp [ze, pt]) (by simp [noF, zh])
theorem fl_go {a b : Int} (hb : b ≠ 0) : fl a b = if a.tmod b ≠ 0 ∧ (decide (a < 0) != decide (b < 0)) = true then a.tdiv b - 1 else a.tdiv b := by
 have key : ∀ c : Int, 0 < c → a / c = if a.tmod c < 0 then a.tdiv c - 1 else a.tdiv c := fun c hc => W5 a hc
 rcases Int.lt_or_gt_of_ne hb with h | h
 ·have h1 := W5 (-a) (b := -b) (by omega)
  obtain ⟨h2, h3⟩ := ZZ (-a) (b := -b) (by omega)
  have e1 : (-a).tdiv (-b) = a.tdiv b := by rw [Int.neg_tdiv_neg]
  have e2 : (-a).tmod (-b) = -(a.tmod b) := by rw [Int.tmod_neg, Int.neg_tmod]
  unfold fl
  rw [if_pos h, h1, e1, e2]
  have h4 : decide (b < 0) = true := by simp [h]
  by_cases ha : a < 0
  ·have h5 : decide (a < 0) = true := by simp [ha]
   have := h2 (by omega)
   rw [h4, h5]
   rw [if_neg (by omega), if_neg (by simp)]
  ·have h5 : decide (a < 0) = false := by simp [ha]
   rw [h4, h5]
   by_cases ha0 : a = 0
   ·subst ha0; simp
   ·have := h3 (by omega)
    by_cases hm : a.tmod b = 0
    ·rw [if_neg (by omega), if_neg (by simp [hm])]
    ·rw [if_pos (by omega), if_pos (by simp [hm])]
 ·have h1 := W5 a h
  obtain ⟨h2, h3⟩ := ZZ a h
  unfold fl
  rw [if_neg (by omega), h1]
  have h4 : decide (b < 0) = false := by simp; omega
  by_cases ha : a < 0
  ·have h5 : decide (a < 0) = true := by simp [ha]
   have := h3 ha
   rw [h4, h5]
   by_cases hm : a.tmod b = 0
   ·rw [if_neg (by omega), if_neg (by simp [hm])]
   ·rw [if_pos (by omega), if_pos (by simp [hm])]
  ·have h5 : decide (a < 0) = false := by simp [ha]
   have := h2 (by omega)
   rw [h4, h5]
   rw [if_neg (by omega), if_neg (by simp)]
theorem XE (a b : Int) (ha : -9223372036854775807 ≤ a ∧ a ≤ 9223372036854775807) (hb : b ≠ 0) (H : AH) : zg E 197 [.int .i64 a, .int .i64 b] H (.ret (.int .i64 (fl a b))) H := by
 refine zt zn zo Tryz.func197 rfl (by rfl) Tryz.ntmps197 (by kernel_rfl) (by simp) ?_
 have hq : -9223372036854775807 ≤ a.tdiv b ∧ a.tdiv b ≤ 9223372036854775807 := by
  have := Int.natAbs_tdiv_le_natAbs a b
  omega
 have w1 : IntKind.i64.wrap (a.tdiv b) = a.tdiv b := zj (by omega) (by omega)
 have w2 : IntKind.i64.wrap (a.tdiv b - 1) = a.tdiv b - 1 := zj (by omega) (by omega)
 rw [fl_go hb]
 simp
 refine Uk hb ?_
 simp [w1]
 refine Uk hb ?_
 by_cases hm : a.tmod b = 0
 ·simp [hm]
  exact zY (rs := [.tmp 4]) (by rfl) (by simp [ze, hm])
 ·have hm' : (a.tmod b != 0) = true := by simp [hm]
  simp [hm']
  refine zL (fun hc => ?_) (fun hc => ?_)
  ·simp [w2]
   exact zY (rs := [.tmp 4]) (by rfl) (by simp [ze, hm]; simp at hc; simp [hc])
  ·simp
   exact zY (rs := [.tmp 4]) (by rfl) (by simp [ze, hm]; simp at hc; simp [hc])
theorem fl_bound' {a b : Int} {M : Int} (hb : b ≠ 0) (ha : -M ≤ a ∧ a ≤ M) : -M ≤ fl a b ∧ fl a b ≤ M := by
 rcases Int.lt_or_gt_of_ne hb with h | h
 ·unfold fl
  rw [if_pos h]
  have h1 := X0 (x := -M) (y := -a) (b := -b) (by omega) (by omega)
  have h2 := X0 (x := -a) (y := M) (b := -b) (by omega) (by omega)
  have h3 : M / (-b) ≤ M := Int.ediv_le_self _ (by omega)
  have h4 : -M ≤ (-M) / (-b) := by
   refine Int.le_ediv_of_mul_le (by omega) ?_
   have : M * 1 ≤ M * (-b) := Int.mul_le_mul_of_nonneg_left (by omega) (by omega)
   rw [Int.neg_mul]; omega
  omega
 ·unfold fl
  rw [if_neg (by omega)]
  have h1 := X0 (x := -M) (y := a) (b := b) (by omega) (by omega)
  have h2 := X0 (x := a) (y := M) (b := b) (by omega) (by omega)
  have h3 : M / b ≤ M := Int.ediv_le_self _ (by omega)
  have h4 : -M ≤ (-M) / b := by
   refine Int.le_ediv_of_mul_le (by omega) ?_
   have : M * 1 ≤ M * b := Int.mul_le_mul_of_nonneg_left (by omega) (by omega)
   rw [Int.neg_mul]; omega
  omega
theorem YG (a b : Int) (ha : -9223372036854775807 ≤ a ∧ a ≤ 9223372036854775807) (hb : b ≠ 0) (H : AH) : zg E 198 [.int .i64 a, .int .i64 b] H (.ret (.int .i64 (ce a b))) H := by
 refine zt zn zo Tryz.func198 rfl (by rfl) Tryz.ntmps198 (by kernel_rfl) (by simp) ?_
 have w1 : IntKind.i64.wrap (-a) = -a := zj (by omega) (by omega)
 have hf := fl_bound' (M := 9223372036854775807) (a := -a) hb (by omega)
 have w2 : IntKind.i64.wrap (-fl (-a) b) = -fl (-a) b := zj (by omega) (by omega)
 simp [w1]
 refine zd (XE (-a) b (by omega) hb _) ?_
 simp [w2]
 exact zY (rs := [.tmp 4]) (by rfl) (by simp [ze, ce])
theorem rNeg (p : I) (h : vB p = true) (H : AH) : zg E 190 [iv p] H (.ret (iv (neg p))) H := by
 refine zt zn zo Tryz.func190 rfl (by rfl) Tryz.ntmps190 (by kernel_rfl) (by simp) ?_
 have hb := qR h
 have w1 : IntKind.i64.wrap (-p.1) = -p.1 := zj (by omega) (by omega)
 have w2 : IntKind.i64.wrap (-p.2) = -p.2 := zj (by omega) (by omega)
 simp [w1, w2]
 exact zv (rs := [.cell 2 48]) (by rfl) (by simp [ze, neg]) (by simp [noF, zh])
theorem V3 (p q : I) (hp : vB p = true) (hq : vB q = true) (H : AH) : zg E 95 [iv p, iv q] H (.ret (iv (add p q))) H := by
 refine zt zn zo Tryz.func95 rfl (by rfl) Tryz.ntmps95 (by kernel_rfl) (by simp) ?_
 have hb := qR hp
 have hc := qR hq
 have w1 : IntKind.i64.wrap (p.1 + q.1) = p.1 + q.1 := zj (by omega) (by omega)
 have w2 : IntKind.i64.wrap (p.2 + q.2) = p.2 + q.2 := zj (by omega) (by omega)
 simp
 refine zd (Jl p _) ?_
 cases h1 : zI p with
 | true =>
  simp
  refine zd (Jm _) ?_
  simp
  exact zv (rs := [.cell 4 48]) (by rfl) (by simp [ze, add, h1]) (by simp [noF, zh])
 | false =>
  simp
  refine zd (Jl q _) ?_
  cases h2 : zI q with
  | true =>
   simp
   refine zd (Jm _) ?_
   simp
   exact zv (rs := [.cell 4 48]) (by rfl) (by simp [ze, add, h1, h2]) (by simp [noF, zh])
  | false =>
   simp [w1, w2]
   refine zd (Z1 _ _ _) ?_
   simp
   exact zv (rs := [.cell 4 48]) (by rfl) (by simp [ze, add, h1, h2]) (by simp [noF, zh])
theorem rSub (p q : I) (hp : vB p = true) (hq : vB q = true) (H : AH) : zg E 193 [iv p, iv q] H (.ret (iv (sub p q))) H := by
 refine zt zn zo Tryz.func193 rfl (by rfl) Tryz.ntmps193 (by kernel_rfl) (by simp) ?_
 simp
 refine zB (fun Hx => rNeg q hq Hx) ?_
 simp
 refine zB (fun Hx => V3 p (neg q) hp (V7 hq) Hx) ?_
 simp
 refine zm [] (by rfl) (by simp [zl, zk, za.triv, za.wr, za.none, upTo, newAt]) ?_
 simp
 exact zv (rs := [.cell 4 48]) (by rfl) (by simp [ze, sub]) (by simp [noF, zh])
theorem rHull (p q : I) (H : AH) : zg E 111 [iv p, iv q] H (.ret (iv (qK p q))) H := by
 refine zt zn zo Tryz.func111 rfl (by rfl) Tryz.ntmps111 (by kernel_rfl) (by simp) ?_
 simp [Z7, ZD]
 exact zv (rs := [.cell 4 48]) (by rfl) (by simp [ze, qK]) (by simp [noF, zh])
theorem zbT (p q : I) (H : AH) : zg E 38 [iv p, iv q] H (.ret (.bool (jr p q))) H := by
 refine zt zn zo Tryz.func38 rfl (by rfl) Tryz.ntmps38 (by kernel_rfl) (by simp) ?_
 by_cases h1 : q.1 ≤ p.1
 ·simp [h1]
  exact zv (rs := [.tmp 4]) (by rfl) (by simp [ze, jr, h1]) (by simp [noF])
 ·simp [h1]
  exact zv (rs := [.tmp 4]) (by rfl) (by simp [ze, jr, h1]) (by simp [noF])
theorem rIntersect (p q : I) (H : AH) : zg E 201 [iv p, iv q] H (.ret (.tuple [iv (Qq p q), .bool (jj p q)])) H := by
 refine zt zn zo Tryz.func201 rfl (by rfl) Tryz.ntmps201 (by kernel_rfl) (by simp) ?_
 simp [Z7, ZD]
 refine zL (fun hc => ?_) (fun hc => ?_)
 ·have h0 : jj p q = false := by simp at hc; simp only [jj, decide_eq_false_iff_not]; omega
  simp
  exact qm (rs := [.cell 4 48, .tmp 5]) (vs := [iv (Qq p q), .bool (jj p q)]) (vs' := [iv (Qq p q), .bool (jj p q)]) (by rfl) (by simp [ze, Qq, h0]) (by simp; rfl) (by simp [noF, zh]) rfl
 ·have h0 : jj p q = true := by simp at hc; simp only [jj, decide_eq_true_eq]; omega
  simp
  exact qm (rs := [.cell 4 48, .tmp 5]) (vs := [iv (Qq p q), .bool (jj p q)]) (vs' := [iv (Qq p q), .bool (jj p q)]) (by rfl) (by simp [ze, Qq, h0, Vy]) (by simp; rfl) (by simp [noF, zh]) rfl
def ZL (p : I) (w : Int) : I := (p.1.tmod 1048576, p.1.tmod 1048576 + (p.2.tmod w + w).tmod w)
theorem nearI_bounds (p : I) {w : Int} (hw : 1 ≤ w) : -1048576 < (ZL p w).1 ∧ (ZL p w).1 ≤ (ZL p w).2 ∧ (ZL p w).2 < 1048576 + w ∧ (w = 1 → (ZL p w).1 = (ZL p w).2) := by
 obtain ⟨h1, h2⟩ := ZZ p.1 (b := 1048576) (by omega)
 obtain ⟨h3, h4⟩ := ZZ p.2 (b := w) (by omega)
 obtain ⟨h5, h6⟩ := ZZ (p.2.tmod w + w) (b := w) (by omega)
 have h7 : 0 ≤ p.2.tmod w + w := by
  rcases Int.lt_or_le p.2 0 with h | h
  ·have := h4 h; omega
  ·have := h3 h; omega
 have := h5 h7
 unfold ZL
 simp only
 rcases Int.lt_or_le p.1 0 with h | h
 ·have := h2 h; omega
 ·have := h1 h; omega
theorem zdr (p : I) (w : Int) (hw : 1 ≤ w ∧ w ≤ 1000000) (H : AH) : zg E 103 [iv p, .int .i64 w] H (.ret (iv (ZL p w))) H := by
 refine zt zn zo Tryz.func103 rfl (by rfl) Tryz.ntmps103 (by kernel_rfl) (by simp) ?_
 have hb := nearI_bounds p hw.1
 have hw0 : w ≠ 0 := by omega
 obtain ⟨h3, h4⟩ := ZZ p.2 (b := w) (by omega)
 have h7 : 0 ≤ p.2.tmod w + w ∧ p.2.tmod w + w < 2 * w := by
  rcases Int.lt_or_le p.2 0 with h | h
  ·have := h4 h; omega
  ·have := h3 h; omega
 have w1 : IntKind.i64.wrap (p.2.tmod w + w) = p.2.tmod w + w := zj (by omega) (by omega)
 have w2 : IntKind.i64.wrap (p.1.tmod 1048576 + (p.2.tmod w + w).tmod w) = p.1.tmod 1048576 + (p.2.tmod w + w).tmod w := zj (by have := hb; simp only [ZL] at this; omega) (by have := hb; simp only [ZL] at this; omega)
 simp [hw0, w1]
 refine zm [] (by rfl) (by simp [zl, zk, za.triv, za.wr, za.none, upTo, newAt]) ?_
 simp [w2]
 exact zv (rs := [.cell 4 48]) (by rfl) (by simp [ze, ZL]) (by simp [noF, zh])
def QF (l : List Int) (z : Int) (i : Nat) : Int := (l.take i).foldl min z
def QJ (l : List Int) (z : Int) (i : Nat) : Int := (l.take i).foldl max z
theorem loT_succ {l : List Int} {z x : Int} {i : Nat} (h : l[i]? = some x) : QF l z (i + 1) = min (QF l z i) x := by
 unfold QF; rw [List.take_add_one, h, List.foldl_append]; rfl
theorem hiT_succ {l : List Int} {z x : Int} {i : Nat} (h : l[i]? = some x) : QJ l z (i + 1) = max (QJ l z i) x := by
 unfold QJ; rw [List.take_add_one, h, List.foldl_append]; rfl
def LMul (l : List Int) (z : Int) (H : AH) (J : AH) (i : Nat) (fr : zx) (H' : AH) : Prop :=
 fr 4 = .ptr (H.length + 2) 1 0 0 ∧ fr 5 = .slice (l.map (.int .i64)) true ∧ fr 6 = .int .i64 (QF l z i) ∧ fr 7 = .int .i64 (QJ l z i) ∧ fr 8 = .int .i64 i ∧ 1 ≤ i ∧ i ≤ l.length ∧ H' = H ++ J
theorem YE (p q : I) (hp : vB p = true) (hq : vB q = true) (H : AH) : zg E 124 [iv p, iv q] H (.ret (iv (mul p q))) H := by
 refine zt zn zo Tryz.func124 rfl (by rfl) Tryz.ntmps124 (by kernel_rfl) (by simp) ?_
 simp
 refine zd (Jl p _) ?_
 cases h1 : zI p with
 | true =>
  simp
  refine zd (Jm _) ?_
  simp
  exact zv (rs := [.cell 4 48]) (by rfl) (by simp [ze, mul, h1]) (by simp [noF, zh])
 | false =>
 simp
 refine zd (Jl q _) ?_
 cases h2 : zI q with
 | true =>
  simp
  refine zd (Jm _) ?_
  simp
  exact zv (rs := [.cell 4 48]) (by rfl) (by simp [ze, mul, h1, h2]) (by simp [noF, zh])
 | false =>
 have hb := Zq hp h1
 have hc := Zq hq h2
 have w11 := QX (x := p.1) (y := q.1) (by omega) (by omega)
 have w12 := QX (x := p.1) (y := q.2) (by omega) (by omega)
 have w21 := QX (x := p.2) (y := q.1) (by omega) (by omega)
 have w22 := QX (x := p.2) (y := q.2) (by omega) (by omega)
 have v11 : IntKind.i64.wrap (p.1 * q.1) = p.1 * q.1 := zj (by omega) (by omega)
 have v12 : IntKind.i64.wrap (p.1 * q.2) = p.1 * q.2 := zj (by omega) (by omega)
 have v21 : IntKind.i64.wrap (p.2 * q.1) = p.2 * q.1 := zj (by omega) (by omega)
 have v22 : IntKind.i64.wrap (p.2 * q.2) = p.2 * q.2 := zj (by omega) (by omega)
 have hm : mul p q = mk (fl (z9 (p.1 * q.1) (p.1 * q.2) (p.2 * q.1) (p.2 * q.2)) 65536) (ce (qa (p.1 * q.1) (p.1 * q.2) (p.2 * q.1) (p.2 * q.2)) 65536) := by simp [mul, h1, h2]
 rw [hm]
 simp [v11, v12, v21, v22]
 generalize p.1 * q.1 = a at *
 generalize p.1 * q.2 = b at *
 generalize p.2 * q.1 = c at *
 generalize p.2 * q.2 = d at *
 refine zm [] (by rfl) (by simp [zl, zk, za.triv, za.wr, za.none, upTo, newAt]) ?_
 obtain ⟨l, hl⟩ : ∃ l, l = [a, b, c, d] := ⟨_, rfl⟩
 simp
 refine zZ (LMul l a H [.row true 2 [iv p], .row true 2 [iv q], .row true 2 [iv (0, 0)]]) (fun i => 4 - i) 1 ⟨by simp, by simp [hl], by simp [QF, hl], by simp [QJ, hl], by simp, by omega, by simp [hl], by simp⟩ ?_
 rintro i fr H' ⟨h4, h5, h6, h7, h8, i1, i4, rfl⟩
 have hl4 : l.length = 4 := by simp [hl]
 simp [h8]
 refine zL (fun hi => ?_) (fun hi => ?_)
 ·have hi' : i < l.length := by simp at hi; omega
  obtain ⟨x, hx⟩ := zD hi'
  have wi : IntKind.i64.wrap ((i : Int) + 1) = ((i + 1 : Nat) : Int) := by rw [zj (by omega) (by omega)]; omega
  have hx' : ∀ h, l[i]'h = x := fun h => (gI.1 hx).2
  simp [h4, h5, h6, h7, h8, hx, Z7, ZD]
  exact ⟨i + 1, by show 4 - (i + 1) < 4 - i; omega, by simp [h4], by simp [h5], by simp [loT_succ hx], by simp [hiT_succ hx], by simp [wi], by omega, by omega, rfl⟩
 ·have hi' : i = 4 := by simp at hi; omega
  subst hi'
  have e1 : QF l a 4 = z9 a b c d := by simp [QF, hl, z9]
  have e2 : QJ l a 4 = qa a b c d := by simp [QJ, hl, qa]
  simp [h4, h6, h7, e1, e2]
  refine zd (XE _ _ (by simp only [z9]; omega) (by omega) _) ?_
  simp [h4, h6, h7]
  refine zd (YG _ _ (by rw [e2]; simp only [qa]; omega) (by omega) _) ?_
  simp [h4, h6, h7, e2]
  refine zd (Z1 _ _ _) ?_
  simp [h4]
  exact zv (rs := [.cell 4 48]) (by rfl) (by simp [ze, h4]) (by simp [noF, zh])
theorem rSquare (p : I) (hp : vB p = true) (H : AH) : zg E 191 [iv p] H (.ret (iv (sq p))) H := by
 refine zt zn zo Tryz.func191 rfl (by rfl) Tryz.ntmps191 (by kernel_rfl) (by simp) ?_
 simp
 refine zd (Jl p _) ?_
 cases h1 : zI p with
 | true =>
  simp
  refine zd (Jm _) ?_
  simp
  exact zv (rs := [.cell 2 48]) (by rfl) (by simp [ze, sq, h1]) (by simp [noF, zh])
 | false =>
 have hb := Zq hp h1
 have w11 := QX (x := p.1) (y := p.1) (by omega) (by omega)
 have w22 := QX (x := p.2) (y := p.2) (by omega) (by omega)
 have v11 : IntKind.i64.wrap (p.1 * p.1) = p.1 * p.1 := zj (by omega) (by omega)
 have v22 : IntKind.i64.wrap (p.2 * p.2) = p.2 * p.2 := zj (by omega) (by omega)
 have hm : sq p = mk (fl (if p.1 ≤ 0 ∧ 0 ≤ p.2 then 0 else min (p.1 * p.1) (p.2 * p.2)) 65536) (ce (max (p.1 * p.1) (p.2 * p.2)) 65536) := by simp [sq, h1]
 rw [hm]
 simp [v11, v22, Z7, ZD]
 refine zm [] (by rfl) (by simp [zl, zk, za.triv, za.wr, za.none, upTo, newAt]) ?_
 simp
 by_cases h2 : p.1 ≤ 0 ∧ 0 ≤ p.2
 ·simp [h2.1, h2.2]
  refine zd (XE _ _ (by omega) (by omega) _) ?_
  simp
  refine zd (YG _ _ (by omega) (by omega) _) ?_
  simp
  refine zd (Z1 _ _ _) ?_
  simp
  exact zv (rs := [.cell 2 48]) (by rfl) (by simp [ze, h2]) (by simp [noF, zh])
 ·have h3 : (decide (p.1 ≤ 0) && decide (0 ≤ p.2)) = false := by simp; omega
  by_cases h4 : p.1 ≤ 0
  ·have h5 : ¬ 0 ≤ p.2 := by omega
   simp [h4, h5]
   refine zd (XE _ _ (by omega) (by omega) _) ?_
   simp
   refine zd (YG _ _ (by omega) (by omega) _) ?_
   simp
   refine zd (Z1 _ _ _) ?_
   simp
   exact zv (rs := [.cell 2 48]) (by rfl) (by simp [ze, h5]) (by simp [noF, zh])
  ·simp [h4]
   refine zd (XE _ _ (by omega) (by omega) _) ?_
   simp
   refine zd (YG _ _ (by omega) (by omega) _) ?_
   simp
   refine zd (Z1 _ _ _) ?_
   simp
   exact zv (rs := [.cell 2 48]) (by rfl) (by simp [ze, h4]) (by simp [noF, zh])
def LRt (n : Int) (H : AH) (k : Nat) (fr : zx) (H' : AH) : Prop :=
 ∃ r : Int, fr 0 = .int .i64 n ∧ fr 3 = .int .i64 r ∧ fr 4 = .int .i64 (2 ^ k / 2) ∧ k ≤ 31 ∧ 0 ≤ r ∧ r + 2 ^ k ≤ 2147483648 ∧ r * r ≤ n ∧ n < (r + 2 ^ k) * (r + 2 ^ k) ∧ H' = H
theorem rRoot (n : Int) (hn : 0 ≤ n ∧ n ≤ 140737488355328) (H : AH) : zg E 244 [.int .i64 n] H (.ret (.int .i64 (root n))) H := by
 refine zt zn zo Tryz.func244 rfl (by rfl) Tryz.ntmps244 (by kernel_rfl) (by simp) ?_
 simp
 refine zZ (LRt n H) (fun k => k) 31 ⟨0, by simp, by simp, by simp, by omega, by omega, by omega, by omega, by omega, rfl⟩ ?_
 rintro k fr H' ⟨r, h0, h3, h4, hk, r0, r1, r2, r3, rfl⟩
 cases k with
 | zero =>
  have e : root n = r := root_unique r0 r2 (by simpa using r3)
  simp [h4]
  simp [h3]
  exact zY (rs := [.tmp 2]) (by rfl) (by simp [ze, h3, e])
 | succ k =>
  have hp : (0 : Int) < 2 ^ k := by
   have : 0 < (2 : Nat) ^ k := Nat.pow_pos (by omega)
   have h3 : (((2 : Nat) ^ k : Nat) : Int) = 2 ^ k := by simp
   omega
  have e2 : (2 : Int) ^ (k + 1) = 2 * 2 ^ k := by rw [Int.pow_succ]; omega
  have e3 : (2 : Int) ^ (k + 1) / 2 = 2 ^ k := by omega
  rw [e3] at h4
  rw [e2] at r1 r3
  generalize hP : (2 : Int) ^ k = P at *
  have wr : IntKind.i64.wrap (r + P) = r + P := zj (by omega) (by omega)
  have wb := QX (x := r + P) (y := r + P) (by omega) (by omega)
  have wm : IntKind.i64.wrap ((r + P) * (r + P)) = (r + P) * (r + P) := zj (by omega) (by omega)
  have wq : IntKind.i64.wrap (P / 2) = P / 2 := zj (by omega) (by omega)
  have wt : P.tdiv 2 = P / 2 := Int.tdiv_eq_ediv_of_nonneg (by omega)
  simp [h4, hp]
  simp [h0, h3, h4, wr, wm]
  refine zL (fun hc => ?_) (fun hc => ?_)
  ·simp at hc
   simp [h0, h3, h4, wr, wq, wt]
   exact ⟨k, by show k < k + 1; omega, r + P, by simp [h0], by simp, by simp [hP], by omega, by omega, by rw [hP]; omega, hc, by rw [hP, show r + P + P = r + 2 * P by omega]; exact r3, rfl⟩
  ·simp at hc
   simp [h0, h3, h4, wq, wt]
   exact ⟨k, by show k < k + 1; omega, r, by simp [h0], by simp [h3], by simp [hP], by omega, by omega, by rw [hP]; omega, r2, by rw [hP]; omega, rfl⟩
theorem rSqrt (p : I) (hp : vB p = true) (h0 : 0 ≤ p.2) (H : AH) : zg E 192 [iv p] H (.ret (.tuple [iv (sqrt p), .bool true])) H := by
 refine zt zn zo Tryz.func192 rfl (by rfl) Tryz.ntmps192 (by kernel_rfl) (by simp) ?_
 simp
 refine zd (Jl p _) ?_
 cases h1 : zI p with
 | true =>
  simp
  exact qm (rs := [.cell 2 48, .tmp 3]) (vs := [iv (sqrt p), .bool true]) (vs' := [iv (sqrt p), .bool true]) (by rfl) (by have e : sqrt p = p := (by simp only [sqrt, h1, if_true]); rw [e]; simp [ze]) (by simp; rfl) (by simp [noF, zh]) rfl
 | false =>
 have hb := Zq hp h1
 have hlt : ¬ p.2 < 0 := by omega
 have e : sqrt p = mk (root (max p.1 0 * 65536)) (qX (p.2 * 65536)) := by simp only [sqrt, h1, hlt, if_false]; simp
 have w1 : IntKind.i64.wrap (max p.1 0 * 65536) = max p.1 0 * 65536 := zj (by omega) (by omega)
 have w2 : IntKind.i64.wrap (p.2 * 65536) = p.2 * 65536 := zj (by omega) (by omega)
 obtain ⟨g0, g1, g2⟩ := QB (n := p.2 * 65536) (by omega)
 have hx1 : 0 ≤ root (p.2 * 65536) * root (p.2 * 65536) := Int.mul_nonneg g0 g0
 have w3 : IntKind.i64.wrap (root (p.2 * 65536) * root (p.2 * 65536)) = root (p.2 * 65536) * root (p.2 * 65536) := zj (by omega) (by omega)
 have hrb : root (p.2 * 65536) ≤ 140737488355328 := by
  rcases Int.lt_or_le 140737488355328 (root (p.2 * 65536)) with h | h
  ·have : 140737488355328 * 140737488355328 ≤ root (p.2 * 65536) * root (p.2 * 65536) := Int.mul_le_mul (by omega) (by omega) (by omega) (by omega)
   omega
  ·exact h
 have w4 : IntKind.i64.wrap (root (p.2 * 65536) + 1) = root (p.2 * 65536) + 1 := zj (by omega) (by omega)
 rw [e]
 simp [hlt, ZD, w1]
 refine zB (fun Hx => rRoot _ (by omega) Hx) ?_
 simp [w2]
 refine zB (fun Hx => rRoot _ (by omega) Hx) ?_
 simp
 refine zm [] (by rfl) (by simp [zl, zk, za.triv, za.wr, za.none, upTo, newAt]) ?_
 simp [w3, w2]
 refine zL (fun hc => ?_) (fun hc => ?_)
 ·have hu : qX (p.2 * 65536) = root (p.2 * 65536) + 1 := by simp at hc; unfold qX; rw [if_pos hc]
  simp [w4]
  refine zd (Z1 _ _ _) ?_
  simp
  exact qm (rs := [.cell 2 48, .tmp 3]) (vs := [iv (mk (root (max p.1 0 * 65536)) (qX (p.2 * 65536))), .bool true]) (vs' := [iv (mk (root (max p.1 0 * 65536)) (qX (p.2 * 65536))), .bool true]) (by rfl) (by simp [ze, hu]) (by simp; rfl) (by simp [noF, zh]) rfl
 ·have hu : qX (p.2 * 65536) = root (p.2 * 65536) := by simp at hc; unfold qX; rw [if_neg (by omega)]
  simp
  refine zd (Z1 _ _ _) ?_
  simp
  exact qm (rs := [.cell 2 48, .tmp 3]) (vs := [iv (mk (root (max p.1 0 * 65536)) (qX (p.2 * 65536))), .bool true]) (vs' := [iv (mk (root (max p.1 0 * 65536)) (qX (p.2 * 65536))), .bool true]) (by rfl) (by simp [ze, hu]) (by simp; rfl) (by simp [noF, zh]) rfl
def LDv (p q : I) (fs cs : List Int) (z y : Int) (H J : AH) (i s : Nat) (fr : zx) (H' : AH) : Prop :=
 fr 4 = .ptr (H.length + 2) 1 0 0 ∧ fr 5 = .slice [.int .i64 p.1, .int .i64 p.2] true ∧ fr 6 = .slice [.int .i64 q.1, .int .i64 q.2] true ∧ fr 7 = .int .i64 (QF fs z s) ∧ fr 8 = .int .i64 (QJ cs y s) ∧ fr 9 = .int .i64 i ∧ H' = H ++ J
theorem YF (p q : I) (hp : vB p = true) (hq : vB q = true) (H : AH) : zg E 194 [iv p, iv q] H (.ret (iv (div p q))) H := by
 refine zt zn zo Tryz.func194 rfl (by rfl) Tryz.ntmps194 (by kernel_rfl) (by simp) ?_
 simp
 refine zd (Jl p _) ?_
 cases h1 : zI p with
 | true =>
  simp
  refine zd (Jm _) ?_
  simp
  exact zv (rs := [.cell 4 48]) (by rfl) (by simp [ze, div, h1]) (by simp [noF, zh])
 | false =>
 simp
 refine zd (Jl q _) ?_
 cases h2 : zI q with
 | true =>
  simp
  refine zd (Jm _) ?_
  simp
  exact zv (rs := [.cell 4 48]) (by rfl) (by simp [ze, div, h1, h2]) (by simp [noF, zh])
 | false =>
 by_cases h3 : q.1 ≤ 0 ∧ 0 ≤ q.2
 ·simp [h3.1, h3.2]
  refine zd (Jm _) ?_
  simp
  exact zv (rs := [.cell 4 48]) (by rfl) (by simp [ze, div, h1, h2, h3.1, h3.2]) (by simp [noF, zh])
 have hb := Zq hp h1
 have hc := Zq hq h2
 have h4 : (decide (q.1 ≤ 0) && decide (0 ≤ q.2)) = false := by simp; omega
 have hm : div p q = mk (z9 (fl (p.1 * 65536) q.1) (fl (p.1 * 65536) q.2) (fl (p.2 * 65536) q.1) (fl (p.2 * 65536) q.2)) (qa (ce (p.1 * 65536) q.1) (ce (p.1 * 65536) q.2) (ce (p.2 * 65536) q.1) (ce (p.2 * 65536) q.2)) := by simp [div, h1, h2, h4]
 rw [hm]
 have wp1 : IntKind.i64.wrap (p.1 * 65536) = p.1 * 65536 := zj (by omega) (by omega)
 have wp2 : IntKind.i64.wrap (p.2 * 65536) = p.2 * 65536 := zj (by omega) (by omega)
 have q1 : q.1 ≠ 0 := by omega
 have q2 : q.2 ≠ 0 := by omega
 have fF : ∀ x y, (x = p.1 ∨ x = p.2) → (y = q.1 ∨ y = q.2) → ∀ Hx, zg E 197 [.int .i64 (x * 65536), .int .i64 y] Hx (.ret (.int .i64 (fl (x * 65536) y))) Hx := fun x y hx hy Hx =>
  XE _ _ (by rcases hx with rfl | rfl <;> omega) (by rcases hy with rfl | rfl <;> assumption) Hx
 have cC : ∀ x y, (x = p.1 ∨ x = p.2) → (y = q.1 ∨ y = q.2) → ∀ Hx, zg E 198 [.int .i64 (x * 65536), .int .i64 y] Hx (.ret (.int .i64 (ce (x * 65536) y))) Hx := fun x y hx hy Hx =>
  YG _ _ (by rcases hx with rfl | rfl <;> omega) (by rcases hy with rfl | rfl <;> assumption) Hx
 obtain ⟨fs, hfs⟩ : ∃ l, l = [fl (p.1 * 65536) q.1, fl (p.1 * 65536) q.2, fl (p.2 * 65536) q.1, fl (p.2 * 65536) q.2] := ⟨_, rfl⟩
 obtain ⟨cs, hcs⟩ : ∃ l, l = [ce (p.1 * 65536) q.1, ce (p.1 * 65536) q.2, ce (p.2 * 65536) q.1, ce (p.2 * 65536) q.2] := ⟨_, rfl⟩
 obtain ⟨z, hz⟩ : ∃ z, z = fl (p.1 * 65536) q.1 := ⟨_, rfl⟩
 obtain ⟨y, hy⟩ : ∃ y, y = ce (p.1 * 65536) q.1 := ⟨_, rfl⟩
 have s1 : ∀ i k x1, (i : Nat) = 0 ∨ i = 1 → (k : Nat) = 0 ∨ k = 1 → x1 = 2 * i + k → QF fs z (x1 + 1) = min (QF fs z x1) (fl ((if i = 0 then p.1 else p.2) * 65536) (if k = 0 then q.1 else q.2)) := by
  rintro i k x1 (rfl | rfl) (rfl | rfl) rfl <;> exact loT_succ (by simp [hfs])
 have s2 : ∀ i k x1, (i : Nat) = 0 ∨ i = 1 → (k : Nat) = 0 ∨ k = 1 → x1 = 2 * i + k → QJ cs y (x1 + 1) = max (QJ cs y x1) (ce ((if i = 0 then p.1 else p.2) * 65536) (if k = 0 then q.1 else q.2)) := by
  rintro i k x1 (rfl | rfl) (rfl | rfl) rfl <;> exact hiT_succ (by simp [hcs])
 have e1 : QF fs z 4 = z9 (fl (p.1 * 65536) q.1) (fl (p.1 * 65536) q.2) (fl (p.2 * 65536) q.1) (fl (p.2 * 65536) q.2) := by simp [QF, hfs, hz, z9]
 have e2 : QJ cs y 4 = qa (ce (p.1 * 65536) q.1) (ce (p.1 * 65536) q.2) (ce (p.2 * 65536) q.1) (ce (p.2 * 65536) q.2) := by simp [QJ, hcs, hy, qa]
 rw [← e1, ← e2]
 by_cases h6 : q.1 ≤ 0
 ·have h7 : ¬ 0 ≤ q.2 := by omega
  simp [h6, h7]
  refine zm [] (by rfl) (by simp [zl, zk, za.triv, za.wr, za.none, upTo, newAt]) ?_
  simp [wp1]
  refine zB (fF p.1 q.1 (.inl rfl) (.inl rfl)) ?_
  simp [wp1]
  refine zB (cC p.1 q.1 (.inl rfl) (.inl rfl)) ?_
  simp
  refine zm [] (by rfl) (by simp [zl, zk, za.triv, za.wr, za.none, upTo, newAt]) ?_
  simp
  refine zZ (fun i fr H' => LDv p q fs cs z y H [.row true 2 [iv p], .row true 2 [iv q], .row true 2 [iv (0, 0)]] i (2 * i) fr H' ∧ i ≤ 2) (fun i => 2 - i) 0 ⟨⟨by simp, by simp, by simp, by simp [QF, hz], by simp [QJ, hy], by simp, by simp⟩, by omega⟩ ?_
  rintro i fr H' ⟨⟨g4, g5, g6, g7, g8, g9, rfl⟩, hi⟩
  simp [g9]
  refine zL (fun hc1 => ?_) (fun hc1 => ?_)
  ·have hi' : i = 0 ∨ i = 1 := by simp at hc1; omega
   simp
   refine zZ (fun k fr H' => LDv p q fs cs z y H [.row true 2 [iv p], .row true 2 [iv q], .row true 2 [iv (0, 0)]] i (2 * i + k) fr H' ∧ fr 10 = .int .i64 k ∧ k ≤ 2) (fun k => 2 - k) 0 ⟨⟨by simp [g4], by simp [g5], by simp [g6], by simp [g7], by simp [g8], by simp [g9], rfl⟩, by simp, by omega⟩ ?_
   rintro k fr2 H2 ⟨⟨k4, k5, k6, k7, k8, k9, rfl⟩, k10, hk⟩
   simp [k10]
   refine zL (fun hc2 => ?_) (fun hc2 => ?_)
   ·have hk' : k = 0 ∨ k = 1 := by simp at hc2; omega
    rcases hi' with rfl | rfl <;> rcases hk' with rfl | rfl
    ·have t1 := s1 0 0 0 (by omega) (by omega) (by omega)
     have t2 := s2 0 0 0 (by omega) (by omega) (by omega)
     simp at t1 t2 k7 k8 k9 k10
     have w : IntKind.i64.wrap 1 = 1 := by decide
     simp [k5, k6, k7, k8, k9, k10, wp1]
     refine zB (fF p.1 q.1 (.inl rfl) (.inl rfl)) ?_
     simp [k5, k6, k7, k8, k9, k10]
     refine zm [] (by rfl) (by simp [zl, zk, za.triv, za.wr, za.none, upTo, newAt]) ?_
     simp [k5, k6, k7, k8, k9, k10, wp1]
     refine zB (cC p.1 q.1 (.inl rfl) (.inl rfl)) ?_
     simp [k5, k6, k7, k8, k9, k10]
     refine zm [] (by rfl) (by simp [zl, zk, za.triv, za.wr, za.none, upTo, newAt]) ?_
     simp [k5, k6, k7, k8, k9, k10, Z7, ZD]
     exact ⟨1, by decide, ⟨by simp [k4], by simp [k5], by simp [k6], by simp [t1], by simp [t2], by simp [k9], rfl⟩, by simp [k10, w], by omega⟩
    ·have t1 := s1 0 1 1 (by omega) (by omega) (by omega)
     have t2 := s2 0 1 1 (by omega) (by omega) (by omega)
     simp at t1 t2 k7 k8 k9 k10
     have w : IntKind.i64.wrap 2 = 2 := by decide
     simp [k5, k6, k7, k8, k9, k10, wp1]
     refine zB (fF p.1 q.2 (.inl rfl) (.inr rfl)) ?_
     simp [k5, k6, k7, k8, k9, k10]
     refine zm [] (by rfl) (by simp [zl, zk, za.triv, za.wr, za.none, upTo, newAt]) ?_
     simp [k5, k6, k7, k8, k9, k10, wp1]
     refine zB (cC p.1 q.2 (.inl rfl) (.inr rfl)) ?_
     simp [k5, k6, k7, k8, k9, k10]
     refine zm [] (by rfl) (by simp [zl, zk, za.triv, za.wr, za.none, upTo, newAt]) ?_
     simp [k5, k6, k7, k8, k9, k10, Z7, ZD]
     exact ⟨2, by decide, ⟨by simp [k4], by simp [k5], by simp [k6], by simp [t1], by simp [t2], by simp [k9], rfl⟩, by simp [k10, w], by omega⟩
    ·have t1 := s1 1 0 2 (by omega) (by omega) (by omega)
     have t2 := s2 1 0 2 (by omega) (by omega) (by omega)
     simp at t1 t2 k7 k8 k9 k10
     have w : IntKind.i64.wrap 1 = 1 := by decide
     simp [k5, k6, k7, k8, k9, k10, wp2]
     refine zB (fF p.2 q.1 (.inr rfl) (.inl rfl)) ?_
     simp [k5, k6, k7, k8, k9, k10]
     refine zm [] (by rfl) (by simp [zl, zk, za.triv, za.wr, za.none, upTo, newAt]) ?_
     simp [k5, k6, k7, k8, k9, k10, wp2]
     refine zB (cC p.2 q.1 (.inr rfl) (.inl rfl)) ?_
     simp [k5, k6, k7, k8, k9, k10]
     refine zm [] (by rfl) (by simp [zl, zk, za.triv, za.wr, za.none, upTo, newAt]) ?_
     simp [k5, k6, k7, k8, k9, k10, Z7, ZD]
     exact ⟨1, by decide, ⟨by simp [k4], by simp [k5], by simp [k6], by simp [t1], by simp [t2], by simp [k9], rfl⟩, by simp [k10, w], by omega⟩
    ·have t1 := s1 1 1 3 (by omega) (by omega) (by omega)
     have t2 := s2 1 1 3 (by omega) (by omega) (by omega)
     simp at t1 t2 k7 k8 k9 k10
     have w : IntKind.i64.wrap 2 = 2 := by decide
     simp [k5, k6, k7, k8, k9, k10, wp2]
     refine zB (fF p.2 q.2 (.inr rfl) (.inr rfl)) ?_
     simp [k5, k6, k7, k8, k9, k10]
     refine zm [] (by rfl) (by simp [zl, zk, za.triv, za.wr, za.none, upTo, newAt]) ?_
     simp [k5, k6, k7, k8, k9, k10, wp2]
     refine zB (cC p.2 q.2 (.inr rfl) (.inr rfl)) ?_
     simp [k5, k6, k7, k8, k9, k10]
     refine zm [] (by rfl) (by simp [zl, zk, za.triv, za.wr, za.none, upTo, newAt]) ?_
     simp [k5, k6, k7, k8, k9, k10, Z7, ZD]
     exact ⟨2, by decide, ⟨by simp [k4], by simp [k5], by simp [k6], by simp [t1], by simp [t2], by simp [k9], rfl⟩, by simp [k10, w], by omega⟩
   ·have hk' : k = 2 := by simp at hc2; omega
    subst hk'
    have wi : IntKind.i64.wrap ((i : Int) + 1) = ((i + 1 : Nat) : Int) := by rw [zj (by omega) (by omega)]; omega
    simp [k9]
    exact ⟨i + 1, by show 2 - (i + 1) < 2 - i; omega, ⟨by simp [k4], by simp [k5], by simp [k6], by simp [k7, show 2 * (i + 1) = 2 * i + 2 by omega], by simp [k8, show 2 * (i + 1) = 2 * i + 2 by omega], by simp [wi], rfl⟩, by omega⟩
  ·have hi' : i = 2 := by simp at hc1; omega
   subst hi'
   simp at g7 g8
   simp [g4, g7, g8]
   refine zd (Z1 _ _ _) ?_
   simp [g4]
   exact zv (rs := [.cell 4 48]) (by rfl) (by simp [ze, g4]) (by simp [noF, zh])
 ·simp [h6]
  refine zm [] (by rfl) (by simp [zl, zk, za.triv, za.wr, za.none, upTo, newAt]) ?_
  simp [wp1]
  refine zB (fF p.1 q.1 (.inl rfl) (.inl rfl)) ?_
  simp [wp1]
  refine zB (cC p.1 q.1 (.inl rfl) (.inl rfl)) ?_
  simp
  refine zm [] (by rfl) (by simp [zl, zk, za.triv, za.wr, za.none, upTo, newAt]) ?_
  simp
  refine zZ (fun i fr H' => LDv p q fs cs z y H [.row true 2 [iv p], .row true 2 [iv q], .row true 2 [iv (0, 0)]] i (2 * i) fr H' ∧ i ≤ 2) (fun i => 2 - i) 0 ⟨⟨by simp, by simp, by simp, by simp [QF, hz], by simp [QJ, hy], by simp, by simp⟩, by omega⟩ ?_
  rintro i fr H' ⟨⟨g4, g5, g6, g7, g8, g9, rfl⟩, hi⟩
  simp [g9]
  refine zL (fun hc1 => ?_) (fun hc1 => ?_)
  ·have hi' : i = 0 ∨ i = 1 := by simp at hc1; omega
   simp
   refine zZ (fun k fr H' => LDv p q fs cs z y H [.row true 2 [iv p], .row true 2 [iv q], .row true 2 [iv (0, 0)]] i (2 * i + k) fr H' ∧ fr 10 = .int .i64 k ∧ k ≤ 2) (fun k => 2 - k) 0 ⟨⟨by simp [g4], by simp [g5], by simp [g6], by simp [g7], by simp [g8], by simp [g9], rfl⟩, by simp, by omega⟩ ?_
   rintro k fr2 H2 ⟨⟨k4, k5, k6, k7, k8, k9, rfl⟩, k10, hk⟩
   simp [k10]
   refine zL (fun hc2 => ?_) (fun hc2 => ?_)
   ·have hk' : k = 0 ∨ k = 1 := by simp at hc2; omega
    rcases hi' with rfl | rfl <;> rcases hk' with rfl | rfl
    ·have t1 := s1 0 0 0 (by omega) (by omega) (by omega)
     have t2 := s2 0 0 0 (by omega) (by omega) (by omega)
     simp at t1 t2 k7 k8 k9 k10
     have w : IntKind.i64.wrap 1 = 1 := by decide
     simp [k5, k6, k7, k8, k9, k10, wp1]
     refine zB (fF p.1 q.1 (.inl rfl) (.inl rfl)) ?_
     simp [k5, k6, k7, k8, k9, k10]
     refine zm [] (by rfl) (by simp [zl, zk, za.triv, za.wr, za.none, upTo, newAt]) ?_
     simp [k5, k6, k7, k8, k9, k10, wp1]
     refine zB (cC p.1 q.1 (.inl rfl) (.inl rfl)) ?_
     simp [k5, k6, k7, k8, k9, k10]
     refine zm [] (by rfl) (by simp [zl, zk, za.triv, za.wr, za.none, upTo, newAt]) ?_
     simp [k5, k6, k7, k8, k9, k10, Z7, ZD]
     exact ⟨1, by decide, ⟨by simp [k4], by simp [k5], by simp [k6], by simp [t1], by simp [t2], by simp [k9], rfl⟩, by simp [k10, w], by omega⟩
    ·have t1 := s1 0 1 1 (by omega) (by omega) (by omega)
     have t2 := s2 0 1 1 (by omega) (by omega) (by omega)
     simp at t1 t2 k7 k8 k9 k10
     have w : IntKind.i64.wrap 2 = 2 := by decide
     simp [k5, k6, k7, k8, k9, k10, wp1]
     refine zB (fF p.1 q.2 (.inl rfl) (.inr rfl)) ?_
     simp [k5, k6, k7, k8, k9, k10]
     refine zm [] (by rfl) (by simp [zl, zk, za.triv, za.wr, za.none, upTo, newAt]) ?_
     simp [k5, k6, k7, k8, k9, k10, wp1]
     refine zB (cC p.1 q.2 (.inl rfl) (.inr rfl)) ?_
     simp [k5, k6, k7, k8, k9, k10]
     refine zm [] (by rfl) (by simp [zl, zk, za.triv, za.wr, za.none, upTo, newAt]) ?_
     simp [k5, k6, k7, k8, k9, k10, Z7, ZD]
     exact ⟨2, by decide, ⟨by simp [k4], by simp [k5], by simp [k6], by simp [t1], by simp [t2], by simp [k9], rfl⟩, by simp [k10, w], by omega⟩
    ·have t1 := s1 1 0 2 (by omega) (by omega) (by omega)
     have t2 := s2 1 0 2 (by omega) (by omega) (by omega)
     simp at t1 t2 k7 k8 k9 k10
     have w : IntKind.i64.wrap 1 = 1 := by decide
     simp [k5, k6, k7, k8, k9, k10, wp2]
     refine zB (fF p.2 q.1 (.inr rfl) (.inl rfl)) ?_
     simp [k5, k6, k7, k8, k9, k10]
     refine zm [] (by rfl) (by simp [zl, zk, za.triv, za.wr, za.none, upTo, newAt]) ?_
     simp [k5, k6, k7, k8, k9, k10, wp2]
     refine zB (cC p.2 q.1 (.inr rfl) (.inl rfl)) ?_
     simp [k5, k6, k7, k8, k9, k10]
     refine zm [] (by rfl) (by simp [zl, zk, za.triv, za.wr, za.none, upTo, newAt]) ?_
     simp [k5, k6, k7, k8, k9, k10, Z7, ZD]
     exact ⟨1, by decide, ⟨by simp [k4], by simp [k5], by simp [k6], by simp [t1], by simp [t2], by simp [k9], rfl⟩, by simp [k10, w], by omega⟩
    ·have t1 := s1 1 1 3 (by omega) (by omega) (by omega)
     have t2 := s2 1 1 3 (by omega) (by omega) (by omega)
     simp at t1 t2 k7 k8 k9 k10
     have w : IntKind.i64.wrap 2 = 2 := by decide
     simp [k5, k6, k7, k8, k9, k10, wp2]
     refine zB (fF p.2 q.2 (.inr rfl) (.inr rfl)) ?_
     simp [k5, k6, k7, k8, k9, k10]
     refine zm [] (by rfl) (by simp [zl, zk, za.triv, za.wr, za.none, upTo, newAt]) ?_
     simp [k5, k6, k7, k8, k9, k10, wp2]
     refine zB (cC p.2 q.2 (.inr rfl) (.inr rfl)) ?_
     simp [k5, k6, k7, k8, k9, k10]
     refine zm [] (by rfl) (by simp [zl, zk, za.triv, za.wr, za.none, upTo, newAt]) ?_
     simp [k5, k6, k7, k8, k9, k10, Z7, ZD]
     exact ⟨2, by decide, ⟨by simp [k4], by simp [k5], by simp [k6], by simp [t1], by simp [t2], by simp [k9], rfl⟩, by simp [k10, w], by omega⟩
   ·have hk' : k = 2 := by simp at hc2; omega
    subst hk'
    have wi : IntKind.i64.wrap ((i : Int) + 1) = ((i + 1 : Nat) : Int) := by rw [zj (by omega) (by omega)]; omega
    simp [k9]
    exact ⟨i + 1, by show 2 - (i + 1) < 2 - i; omega, ⟨by simp [k4], by simp [k5], by simp [k6], by simp [k7, show 2 * (i + 1) = 2 * i + 2 by omega], by simp [k8, show 2 * (i + 1) = 2 * i + 2 by omega], by simp [wi], rfl⟩, by omega⟩
  ·have hi' : i = 2 := by simp at hc1; omega
   subst hi'
   simp at g7 g8
   simp [g4, g7, g8]
   refine zd (Z1 _ _ _) ?_
   simp [g4]
   exact zv (rs := [.cell 4 48]) (by rfl) (by simp [ze, g4]) (by simp [noF, zh])
end Go.Proofs.YtkghjlgpmeibhaaGreatDoor.Arm

namespace Go.Pl
structure Nd where
 op : Int
 n : Int
 c : I
 deriving DecidableEq
inductive U where
 | neg | sqr | sqrt
 deriving DecidableEq
inductive B where
 | add | sub | mul | div
 deriving DecidableEq
def U.code : U → Int
 | .neg => 4
 | .sqr => 5
 | .sqrt => 6
def B.code : B → Int
 | .add => 7
 | .sub => 8
 | .mul => 9
 | .div => 10
inductive Ex where
 | num (c : I)
 | var (i : Nat)
 | time
 | un (o : U) (a : Ex)
 | bin (o : B) (a b : Ex)
 deriving DecidableEq
def zK (op n : Int) : Nd := ⟨op, n, (0, 0)⟩
def zM : Ex → Nd
 | .num c => ⟨1, 0, c⟩
 | .var i => zK 2 i
 | .time => zK 3 0
 | .un o _ => zK o.code 0
 | .bin o _ _ => zK o.code 0
def zb : Ex → List Nd
 | .num c => [⟨1, 0, c⟩]
 | .var i => [zK 2 i]
 | .time => [zK 3 0]
 | .un o a => zK o.code 0 :: zb a
 | .bin o a b => zK o.code 0 :: (zb a ++ zb b)
def zz : Ex → List Ex
 | .num _ | .var _ | .time => []
 | .un _ a => [a]
 | .bin _ a b => [a, b]
def sz (e : Ex) : Nat := (zb e).length
def z3 (l : List Ex) : List Nd := l.flatMap zb
theorem QW (e : Ex) : zb e = zM e :: z3 (zz e) := by cases e <;> simp [zb, zM, z3, zz]
theorem Jd (e : Ex) : 0 < sz e := by rw [sz, QW]; simp
theorem ZS (o : U) (a : Ex) : sz (.un o a) = sz a + 1 := by simp [sz, zb]
theorem Zc (o : B) (a b : Ex) : sz (.bin o a b) = sz a + sz b + 1 := by simp [sz, zb]
theorem Je (c : I) : sz (.num c) = 1 := rfl
theorem Yo (i : Nat) : sz (.var i) = 1 := rfl
theorem Yp : sz .time = 1 := rfl
def qO (op : Int) : Int := if 1 ≤ op ∧ op ≤ 3 then 0 else if 4 ≤ op ∧ op ≤ 6 then 1 else if 7 ≤ op ∧ op ≤ 10 then 2 else -1
theorem zbf (e : Ex) : qO (zM e).op = (zz e).length := by
 cases e with
 | un o a => cases o <;> rfl
 | bin o a b => cases o <;> rfl
 | _ => rfl
def Jc : U → I → I
 | .neg, v => neg v
 | .sqr, v => sq v
 | .sqrt, v => if v.1 < 0 then ent else sqrt v
def X7 : B → I → I → I
 | .add => add
 | .sub => sub
 | .mul => mul
 | .div => div
def ev (x : List I) (t : I) : Ex → I
 | .num c => c
 | .var i => (x[i]?).getD (0, 0)
 | .time => t
 | .un o a => Jc o (ev x t a)
 | .bin o a b => X7 o (ev x t a) (ev x t b)
def wf (n : Nat) : Ex → Bool
 | .num c => vB c
 | .var i => decide (i < n)
 | .time => true
 | .un _ a => wf n a
 | .bin _ a b => wf n a && wf n b
theorem unV_valid {o : U} {v : I} (h : vB v = true) : vB (Jc o v) = true := by
 cases o with
 | neg => exact V7 h
 | sqr => exact zbg h
 | sqrt =>
  simp only [Jc]
  split
  ·decide
  ·exact sqrt_valid h
theorem binV_valid {o : B} {v w : I} (h : vB v = true) (k : vB w = true) : vB (X7 o v w) = true := by
 cases o with
 | add => exact JK h k
 | sub => exact Xy h k
 | mul => exact jU
 | div => exact X1 k
theorem QP {x : List I} {t : I} (hx : ∀ a ∈ x, vB a = true) (ht : vB t = true) : ∀ (e : Ex), wf x.length e = true → vB (ev x t e) = true
 | .num c, h => h
 | .var i, h => by
  simp only [wf, decide_eq_true_eq] at h
  simp only [ev]
  rw [List.getElem?_eq_getElem h]
  exact hx _ (List.getElem_mem h)
 | .time, _ => ht
 | .un o a, h => unV_valid (QP hx ht a h)
 | .bin o a b, h => by
  simp only [wf, Bool.and_eq_true] at h
  exact binV_valid (QP hx ht a h.1) (QP hx ht b h.2)
def jB (n : Int) : Ex := .num (pt (n * 65536))
def qJ (e : Ex) (x : Int) : Bool := match e with
 | .num c => c.1 == x && c.2 == x
 | _ => false
def jc : Ex → Option Int
 | .num c => if c.1 = c.2 then some c.1 else none
 | _ => none
def Qn (a : Ex) : Ex :=
 match jc a with
 | some c => .num (pt (-c))
 | none => match a with
  | .un .neg b => b
  | _ => .un .neg a
def QM (f : I → I → I) (a b : Ex) : Option Ex :=
 match a, b with
 | .num c, .num d => if c.1 = c.2 ∧ d.1 = d.2 ∧ (f c d).1 = (f c d).2 then some (.num (f c d)) else none
 | _, _ => none
def JU (a b : Ex) : Ex :=
 if qJ a 0 then b else if qJ b 0 then a else (QM add a b).getD (.bin .add a b)
def JT (a b : Ex) : Ex :=
 if qJ b 0 then a else if qJ a 0 then Qn b else (QM sub a b).getD (.bin .sub a b)
def Jg (a b : Ex) : Ex :=
 if qJ a 0 || qJ b 0 then jB 0 else if qJ a 65536 then b else if qJ b 65536 then a else (QM mul a b).getD (.bin .mul a b)
def XA : U → Ex → Ex
 | .neg, a => Qn a
 | .sqr, a => if qJ a 0 || qJ a 65536 then a else .un .sqr a
 | .sqrt, a => if qJ a 0 || qJ a 65536 then a else .un .sqrt a
def Jv : B → Ex → Ex → Ex
 | .add, a, b => JU a b
 | .sub, a, b => JT a b
 | .mul, a, b => Jg a b
 | .div, a, b => if qJ a 0 || qJ b 65536 then a else .bin .div a b
def zC : Ex → Ex
 | .un o a => XA o (zC a)
 | .bin o a b => Jv o (zC a) (zC b)
 | e => e
inductive Vr where
 | st (i : Int)
 | tm
 deriving DecidableEq
def QH : Vr → Ex → Bool
 | .st i, .var k => (k : Int) == i
 | .tm, .time => true
 | _, _ => false
def zJ (v : Vr) : Ex → Ex
 | .un .neg a => .un .neg (zJ v a)
 | .un .sqr a => .bin .mul (.bin .mul (jB 2) a) (zJ v a)
 | .un .sqrt a => .bin .div (zJ v a) (.bin .mul (jB 2) (.un .sqrt a))
 | .bin .add a b => .bin .add (zJ v a) (zJ v b)
 | .bin .sub a b => .bin .sub (zJ v a) (zJ v b)
 | .bin .mul a b => .bin .add (.bin .mul (zJ v a) b) (.bin .mul a (zJ v b))
 | .bin .div a b => .bin .div (.bin .sub (.bin .mul (zJ v a) b) (.bin .mul a (zJ v b))) (.un .sqr b)
 | e => if QH v e then jB 1 else jB 0
def Zy (v : Vr) (e : Ex) : Ex := zC (zJ v e)
theorem US (n : Int) : sz (jB n) = 1 := rfl
theorem smpNeg_sz (a : Ex) : sz (Qn a) ≤ sz a + 1 := by
 unfold Qn
 split
 ·rw [Je]; omega
 ·split
  ·rw [ZS]; omega
  ·rw [ZS]; omega
theorem zcb {f : I → I → I} {a b : Ex} {o : B} : sz ((QM f a b).getD (.bin o a b)) ≤ sz a + sz b + 1 := by
 unfold QM
 split
 ·split
  ·simp only [Option.getD_some, Je]; omega
  ·simp only [Option.getD_none, Zc]; omega
 ·simp only [Option.getD_none, Zc]; omega
theorem smpU_sz (o : U) (a : Ex) : sz (XA o a) ≤ sz a + 1 := by
 cases o with
 | neg => exact smpNeg_sz a
 | sqr => simp only [XA]; split <;> (try rw [ZS]) <;> omega
 | sqrt => simp only [XA]; split <;> (try rw [ZS]) <;> omega
theorem smpB_sz (o : B) (a b : Ex) : sz (Jv o a b) ≤ sz a + sz b + 1 := by
 cases o with
 | add =>
  simp only [Jv, JU]
  split
  ·omega
  ·split
   ·omega
   ·exact zcb
 | sub =>
  simp only [Jv, JT]
  split
  ·omega
  ·split
   ·have := smpNeg_sz b; omega
   ·exact zcb
 | mul =>
  simp only [Jv, Jg]
  split
  ·rw [US]; omega
  ·split
   ·omega
   ·split
    ·omega
    ·exact zcb
 | div => simp only [Jv]; split <;> (try rw [Zc]) <;> omega
theorem VZ : ∀ e : Ex, sz (zC e) ≤ sz e
 | .num _ | .var _ | .time => Nat.le_refl _
 | .un o a => by
  have h1 := VZ a
  have h2 := smpU_sz o (zC a)
  rw [ZS]; simp only [zC]; omega
 | .bin o a b => by
  have h1 := VZ a
  have h2 := VZ b
  have h3 := smpB_sz o (zC a) (zC b)
  rw [Zc]; simp only [zC]; omega
theorem pt_valid (x : Int) : vB (pt x) = true := Q2 (Int.le_refl _)
theorem number_wf' (n : Int) (k : Nat) : wf k (jB n) = true := pt_valid _
theorem smpNeg_wf {k : Nat} {a : Ex} (h : wf k a = true) : wf k (Qn a) = true := by
 unfold Qn
 split
 ·exact pt_valid _
 ·split
  ·exact h
  ·exact h
theorem zca {k : Nat} {o : B} {a b : Ex} (ha : wf k a = true) (hb : wf k b = true) : wf k ((QM (X7 o) a b).getD (.bin o a b)) = true := by
 unfold QM
 split
 ·split
  ·simp only [Option.getD_some, wf] at ha hb ⊢; exact binV_valid ha hb
  ·simp only [Option.getD_none, wf, Bool.and_eq_true] at ha hb ⊢; exact ⟨ha, hb⟩
 ·simp only [Option.getD_none, wf, Bool.and_eq_true]; exact ⟨ha, hb⟩
theorem smpU_wf {k : Nat} {o : U} {a : Ex} (h : wf k a = true) : wf k (XA o a) = true := by
 cases o with
 | neg => exact smpNeg_wf h
 | sqr => simp only [XA]; split <;> exact h
 | sqrt => simp only [XA]; split <;> exact h
theorem smpB_wf {k : Nat} {o : B} {a b : Ex} (ha : wf k a = true) (hb : wf k b = true) : wf k (Jv o a b) = true := by
 cases o with
 | add =>
  simp only [Jv, JU]
  split
  ·exact hb
  ·split
   ·exact ha
   ·exact zca (o := .add) ha hb
 | sub =>
  simp only [Jv, JT]
  split
  ·exact ha
  ·split
   ·exact smpNeg_wf hb
   ·exact zca (o := .sub) ha hb
 | mul =>
  simp only [Jv, Jg]
  split
  ·exact number_wf' _ _
  ·split
   ·exact hb
   ·split
    ·exact ha
    ·exact zca (o := .mul) ha hb
 | div =>
  simp only [Jv]
  split
  ·exact ha
  ·simp only [wf, Bool.and_eq_true]; exact ⟨ha, hb⟩
theorem Xz {k : Nat} : ∀ e : Ex, wf k e = true → wf k (zC e) = true
 | .num _, h | .var _, h | .time, h => h
 | .un o a, h => smpU_wf (Xz a h)
 | .bin o a b, h => by
  simp only [wf, Bool.and_eq_true] at h
  exact smpB_wf (Xz a h.1) (Xz b h.2)
theorem WD {k : Nat} (v : Vr) : ∀ e : Ex, wf k e = true → wf k (zJ v e) = true
 | .num _, h | .var _, h | .time, h => by unfold zJ; split <;> exact number_wf' _ _
 | .un o a, h => by
  have := WD v a h
  have h2 := number_wf' 2 k
  simp only [wf] at h
  cases o <;> simp [zJ, wf, h, this, h2]
 | .bin o a b, h => by
  simp only [wf, Bool.and_eq_true] at h
  have h1 := WD v a h.1
  have h2 := WD v b h.2
  cases o <;> simp [zJ, wf, h, h1, h2]
theorem zc3 {k : Nat} {v : Vr} {e : Ex} (h : wf k e = true) : wf k (Zy v e) = true := Xz _ (WD v e h)
end Go.Pl

namespace Go.Pl
def jW (x m : Int) : Int := x % (m + 1)
def jx (x : Nd) : Int := 1 + jW x.op 255 % 10
def nearI' (p : I) (w : Int) : I := (p.1.tmod 1048576, p.1.tmod 1048576 + (p.2.tmod w + w).tmod w)
def JI (x : Nd) : Ex := .num (nearI' x.c (1 + jW x.n 255 * jW x.n 1))
def WZ (o : Int) : U := if o = 4 then .neg else if o = 5 then .sqr else .sqrt
def bOf (o : Int) : B := if o = 7 then .add else if o = 8 then .sub else if o = 9 then .mul else .div
def qj (n : Nat) : Nat → List Nd → Ex × List Nd
 | _, [] => (jB 1, [])
 | 0, x :: r => if jx x = 2 then (.var (jW x.n 255 % n).toNat, r) else if jx x = 3 then (.time, r) else (JI x, r)
 | d + 1, x :: r =>
  if jx x = 1 then (JI x, r)
  else if jx x = 2 then (.var (jW x.n 255 % n).toNat, r)
  else if jx x = 3 then (.time, r)
  else if jx x ≤ 6 then (.un (WZ (jx x)) (qj n d r).1, (qj n d r).2)
  else (.bin (bOf (jx x)) (qj n d r).1 (qj n d (qj n d r).2).1, (qj n d (qj n d r).2).2)
def Z5 (n : Nat) (raw : List Nd) (most : Nat) : Ex := (qj n 4 (raw.take most)).1
theorem zay (x : Int) {m : Int} (h : 0 ≤ m) : 0 ≤ jW x m ∧ jW x m ≤ m := by
 unfold jW
 have h1 := Int.emod_nonneg x (b := m + 1) (by omega)
 have h2 := Int.emod_lt_of_pos x (b := m + 1) (by omega)
 omega
theorem bOp_bounds (x : Nd) : 1 ≤ jx x ∧ jx x ≤ 10 := by unfold jx; omega
theorem zcI (x : Int) {n : Nat} (h : 0 < n) : 0 ≤ jW x 255 % n ∧ jW x 255 % n < n := ⟨Int.emod_nonneg _ (by omega), Int.emod_lt_of_pos _ (by omega)⟩
theorem near_valid (p : I) {w : Int} (hw : 1 ≤ w ∧ w ≤ 1000000) : vB (nearI' p w) = true := by
 have h1 : -1048576 < p.1.tmod 1048576 ∧ p.1.tmod 1048576 < 1048576 := by
  obtain ⟨h1, h2⟩ := ZZ p.1 (b := 1048576) (by decide)
  by_cases h : 0 ≤ p.1
  ·have := h1 h; omega
  ·have := h2 (by omega); omega
 have h2 : 0 ≤ (p.2.tmod w + w).tmod w ∧ (p.2.tmod w + w).tmod w < w := by
  have h3 : -w < p.2.tmod w := by
   obtain ⟨h1, h2⟩ := ZZ p.2 (b := w) (by omega)
   by_cases h : 0 ≤ p.2
   ·have := h1 h; omega
   ·have := h2 (by omega); omega
  exact ⟨Int.tmod_nonneg _ (by omega), Int.tmod_lt_of_pos _ (by omega)⟩
 unfold vB nearI'
 rw [Bool.or_eq_true, Bool.and_eq_true, Bool.and_eq_true, XH, XH, decide_eq_true_iff]
 right; dsimp only; omega
theorem bW (x : Nd) : 1 ≤ 1 + jW x.n 255 * jW x.n 1 ∧ 1 + jW x.n 255 * jW x.n 1 ≤ 1000000 := by
 obtain ⟨a1, a2⟩ := zay x.n (m := 255) (by decide)
 obtain ⟨b1, b2⟩ := zay x.n (m := 1) (by decide)
 have h1 := Int.mul_nonneg a1 b1
 have h2 := Int.mul_le_mul a2 b2 b1 (by decide)
 omega
theorem bNum_wf (x : Nd) (n : Nat) : wf n (JI x) = true := near_valid _ (bW x)
theorem zc5 {n : Nat} (hn : 0 < n) : ∀ (d : Nat) (l : List Nd), wf n (qj n d l).1 = true
 | 0, [] => number_wf' 1 n
 | d + 1, [] => number_wf' 1 n
 | 0, x :: r => by
  simp only [qj]
  split
  ·have := zcI x.n hn; simp only [wf, decide_eq_true_eq]; omega
  ·split
   ·rfl
   ·exact bNum_wf x n
 | d + 1, x :: r => by
  simp only [qj]
  split
  ·exact bNum_wf x n
  ·split
   ·have := zcI x.n hn; simp only [wf, decide_eq_true_eq]; omega
   ·split
    ·rfl
    ·split
     ·exact zc5 hn d r
     ·simp only [wf, Bool.and_eq_true]; exact ⟨zc5 hn d r, zc5 hn d _⟩
theorem WL (n : Nat) : ∀ (d : Nat) (l : List Nd), sz (qj n d l).1 ≤ 2 ^ (d + 1) - 1
 | 0, [] => by simp [qj, jB, Je]
 | d + 1, [] => by simp only [qj, jB, Je]; have := Nat.one_lt_two_pow_iff.2 (show d + 1 + 1 ≠ 0 by omega); omega
 | 0, x :: r => by
  simp only [qj]
  split
  ·simp [Yo]
  ·split
   ·simp [Yp]
   ·simp [JI, Je]
 | d + 1, x :: r => by
  have h1 := WL n d r
  have h2 := WL n d (qj n d r).2
  have h3 : 2 ^ (d + 1 + 1) = 2 * 2 ^ (d + 1) := by rw [Nat.pow_succ]; omega
  have h4 := Nat.one_lt_two_pow_iff.2 (show d + 1 ≠ 0 by omega)
  simp only [qj]
  split
  ·simp only [JI, Je]; omega
  ·split
   ·simp only [Yo]; omega
   ·split
    ·simp only [Yp]; omega
    ·split
     ·simp only [ZS]; omega
     ·simp only [Zc]; omega
theorem mde_wf {n : Nat} (hn : 0 < n) (raw : List Nd) (most : Nat) : wf n (Z5 n raw most) = true := zc5 hn 4 _
theorem mde_sz (n : Nat) (raw : List Nd) (most : Nat) : sz (Z5 n raw most) ≤ 31 := WL n 4 _
theorem zcM (n : Nat) : ∀ (d : Nat) (l : List Nd), (qj n d l).2.length ≤ l.length ∧ sz (qj n d l).1 ≤ 2 * (l.length - (qj n d l).2.length) + 1
 | 0, [] => by simp [qj, jB, Je]
 | d + 1, [] => by simp [qj, jB, Je]
 | 0, x :: r => by
  simp only [qj]
  split
  ·simp [Yo]
  ·split
   ·simp [Yp]
   ·simp [JI, Je]
 | d + 1, x :: r => by
  have h1 := zcM n d r
  have h2 := zcM n d (qj n d r).2
  simp only [qj]
  split
  ·simp [JI, Je]
  ·split
   ·simp [Yo]
   ·split
    ·simp [Yp]
    ·split
     ·simp only [ZS, List.length_cons]; omega
     ·simp only [Zc, List.length_cons]; omega
end Go.Pl

namespace Go.Pl
def zP (a : I) (r : Rat) : Prop := a = ent ∨ ((a.1 : Rat) ≤ r * 65536 ∧ r * 65536 ≤ (a.2 : Rat))
theorem YZ {lo hi : Int} {r : Rat} (h1 : (lo : Rat) ≤ r * 65536) (h2 : r * 65536 ≤ (hi : Rat)) : zP (mk lo hi) r := by
 unfold mk
 split
 ·exact .inr ⟨h1, h2⟩
 ·exact .inl rfl
theorem zb2 {a b : I} (h : ¬ (zI a || zI b) = true) : a ≠ ent ∧ b ≠ ent := by
 simp only [Bool.or_eq_true, jw, not_or] at h
 exact h
theorem Wi {a b : I} {x y : Rat} (ha : zP a x) (hb : zP b y) : zP (add a b) (x + y) := by
 unfold add
 split
 ·exact .inl rfl
 ·rename_i h
  obtain ⟨h1, h2⟩ := zb2 h
  obtain ⟨a1, a2⟩ := ha.resolve_left h1
  obtain ⟨b1, b2⟩ := hb.resolve_left h2
  refine YZ ?_ ?_
  ·rw [Rat.intCast_add]; grind
  ·rw [Rat.intCast_add]; grind
theorem in_neg {a : I} {x : Rat} (ha : zP a x) : zP (neg a) (-x) := by
 rcases ha with rfl | ⟨h1, h2⟩
 ·exact .inl rfl
 ·refine .inr ⟨?_, ?_⟩
  ·simp only [neg, Rat.intCast_neg]; grind
  ·simp only [neg, Rat.intCast_neg]; grind
theorem zdj {a b : I} {x y : Rat} (ha : zP a x) (hb : zP b y) : zP (sub a b) (x - y) := by
 rw [Rat.sub_eq_add_neg]; exact Wi ha (in_neg hb)
theorem Jw {a b c : Rat} (h : 0 ≤ c) (k : a ≤ b) : c * a ≤ c * b := Rat.mul_le_mul_of_nonneg_left k h
theorem rmulL' {a b c : Rat} (h : c ≤ 0) (k : a ≤ b) : c * b ≤ c * a := by
 have := Rat.mul_le_mul_of_nonneg_left k (c := -c) (by grind)
 grind
theorem zbK {a1 a2 b1 b2 X Y : Rat} (h1 : a1 ≤ X) (h2 : X ≤ a2) (h3 : b1 ≤ Y) (h4 : Y ≤ b2) : X * Y ≤ a1 * b1 ∨ X * Y ≤ a1 * b2 ∨ X * Y ≤ a2 * b1 ∨ X * Y ≤ a2 * b2 := by
 rcases Rat.le_total (a := 0) (b := Y) with hy | hy
 ·have e1 := Jw hy h2
  rcases Rat.le_total (a := 0) (b := a2) with ha | ha
  ·have e2 := Jw ha h4
   right; right; right; grind
  ·have e2 := rmulL' ha h3
   right; right; left; grind
 ·have e1 := rmulL' hy h1
  rcases Rat.le_total (a := 0) (b := a1) with ha | ha
  ·have e2 := Jw ha h4
   right; left; grind
  ·have e2 := rmulL' ha h3
   left; grind
theorem corner_lo {a1 a2 b1 b2 X Y : Rat} (h1 : a1 ≤ X) (h2 : X ≤ a2) (h3 : b1 ≤ Y) (h4 : Y ≤ b2) : a1 * b1 ≤ X * Y ∨ a1 * b2 ≤ X * Y ∨ a2 * b1 ≤ X * Y ∨ a2 * b2 ≤ X * Y := by
 have := zbK (a1 := -a2) (a2 := -a1) (X := -X) (Y := Y) (b1 := b1) (b2 := b2) (by grind) (by grind) h3 h4
 grind
theorem prod_in {a1 a2 b1 b2 : Int} {X Y : Rat} (h1 : (a1 : Rat) ≤ X) (h2 : X ≤ (a2 : Rat)) (h3 : (b1 : Rat) ≤ Y) (h4 : Y ≤ (b2 : Rat)) :
  ((z9 (a1 * b1) (a1 * b2) (a2 * b1) (a2 * b2) : Int) : Rat) ≤ X * Y ∧ X * Y ≤ ((qa (a1 * b1) (a1 * b2) (a2 * b1) (a2 * b2) : Int) : Rat) := by
 have key1 : ∀ z : Int, z9 (a1 * b1) (a1 * b2) (a2 * b1) (a2 * b2) ≤ z → (z : Rat) ≤ X * Y → ((z9 (a1 * b1) (a1 * b2) (a2 * b1) (a2 * b2) : Int) : Rat) ≤ X * Y := fun z h k => Rat.le_trans (Rat.intCast_le_intCast.2 h) k
 have key2 : ∀ z : Int, z ≤ qa (a1 * b1) (a1 * b2) (a2 * b1) (a2 * b2) → X * Y ≤ (z : Rat) → X * Y ≤ ((qa (a1 * b1) (a1 * b2) (a2 * b1) (a2 * b2) : Int) : Rat) := fun z h k => Rat.le_trans k (Rat.intCast_le_intCast.2 h)
 constructor
 ·rcases corner_lo h1 h2 h3 h4 with h | h | h | h
  ·exact key1 (a1 * b1) (by simp only [z9]; omega) (by rw [Rat.intCast_mul]; exact h)
  ·exact key1 (a1 * b2) (by simp only [z9]; omega) (by rw [Rat.intCast_mul]; exact h)
  ·exact key1 (a2 * b1) (by simp only [z9]; omega) (by rw [Rat.intCast_mul]; exact h)
  ·exact key1 (a2 * b2) (by simp only [z9]; omega) (by rw [Rat.intCast_mul]; exact h)
 ·rcases zbK h1 h2 h3 h4 with h | h | h | h
  ·exact key2 (a1 * b1) (by simp only [qa]; omega) (by rw [Rat.intCast_mul]; exact h)
  ·exact key2 (a1 * b2) (by simp only [qa]; omega) (by rw [Rat.intCast_mul]; exact h)
  ·exact key2 (a2 * b1) (by simp only [qa]; omega) (by rw [Rat.intCast_mul]; exact h)
  ·exact key2 (a2 * b2) (by simp only [qa]; omega) (by rw [Rat.intCast_mul]; exact h)
theorem XC {x y b : Rat} (hb : 0 < b) (h : y * b ≤ x) : y ≤ x / b := Rat.not_lt.1 fun k => by
 have := (Rat.div_lt_iff hb).1 k
 exact absurd h (Rat.not_le.2 this)
theorem VB {x y b : Rat} (hb : 0 < b) (h : x ≤ y * b) : x / b ≤ y := Rat.not_lt.1 fun k => by
 have := (Rat.lt_div_iff hb).1 k
 exact absurd h (Rat.not_le.2 this)
theorem fl_pos_le {x b : Int} (hb : 0 < b) : ((x / b : Int) : Rat) * (b : Rat) ≤ (x : Rat) ∧ (x : Rat) < (((x / b : Int) : Rat) + 1) * (b : Rat) := by
 constructor
 ·rw [← Rat.intCast_mul]; exact Rat.intCast_le_intCast.2 (Int.ediv_mul_le x (by omega))
 ·have e : (((x / b : Int) : Rat) + 1) * (b : Rat) = (((x / b + 1) * b : Int) : Rat) := by rw [Rat.intCast_mul, Rat.intCast_add]; rfl
  rw [e]; exact Rat.intCast_lt_intCast.2 (Int.lt_ediv_add_one_mul_self x hb)
theorem rneg_div (x b : Rat) : (-x) / (-b) = x / b := by
 by_cases h : b = 0
 ·subst h; grind
 ·grind
theorem rneg_div' (x b : Rat) : (-x) / b = -(x / b) := by grind
theorem Vc {x b : Int} (hb : b ≠ 0) : ((fl x b : Int) : Rat) ≤ (x : Rat) / (b : Rat) ∧ (x : Rat) / (b : Rat) < ((fl x b : Int) : Rat) + 1 := by
 have key : ∀ (y c : Int), 0 < c → ((y / c : Int) : Rat) ≤ (y : Rat) / (c : Rat) ∧ (y : Rat) / (c : Rat) < ((y / c : Int) : Rat) + 1 := fun y c hc => by
  obtain ⟨k1, k2⟩ := fl_pos_le (x := y) hc
  have hc' : (0 : Rat) < (c : Rat) := Rat.intCast_pos.2 hc
  exact ⟨XC hc' k1, (Rat.div_lt_iff hc').2 k2⟩
 unfold fl
 split
 ·rename_i h
  have := key (-x) (-b) (by omega)
  rw [Rat.intCast_neg, Rat.intCast_neg, rneg_div] at this
  exact this
 ·exact key x b (by omega)
theorem VC {x b : Int} (hb : b ≠ 0) : (x : Rat) / (b : Rat) ≤ ((ce x b : Int) : Rat) ∧ ((ce x b : Int) : Rat) - 1 < (x : Rat) / (b : Rat) := by
 obtain ⟨h1, h2⟩ := Vc (x := -x) hb
 unfold ce
 rw [Rat.intCast_neg, rneg_div'] at h1 h2
 rw [Rat.intCast_neg]
 constructor <;> grind
theorem zdk {a b : I} {x y : Rat} (ha : zP a x) (hb : zP b y) : zP (mul a b) (x * y) := by
 unfold mul
 split
 ·exact .inl rfl
 ·rename_i h
  obtain ⟨h1, h2⟩ := zb2 h
  obtain ⟨a1, a2⟩ := ha.resolve_left h1
  obtain ⟨b1, b2⟩ := hb.resolve_left h2
  obtain ⟨p1, p2⟩ := prod_in a1 a2 b1 b2
  generalize z9 _ _ _ _ = m at *
  generalize qa _ _ _ _ = M at *
  obtain ⟨f1, _⟩ := Vc (x := m) (b := 65536) (by decide)
  obtain ⟨f2, _⟩ := VC (x := M) (b := 65536) (by decide)
  have e : ((65536 : Int) : Rat) = 65536 := rfl
  rw [e] at f1 f2
  refine YZ ?_ ?_
  ·grind
  ·grind
theorem zaO (x : Rat) : 0 ≤ x * x := by
 rcases Rat.le_total (a := 0) (b := x) with h | h
 ·exact Rat.mul_nonneg h h
 ·have := Rat.mul_nonneg (a := -x) (b := -x) (by grind) (by grind)
  grind
theorem in_sq {a : I} {x : Rat} (ha : zP a x) : zP (sq a) (x * x) := by
 unfold sq
 split
 ·exact .inl rfl
 ·rename_i h
  have h1 : a ≠ ent := fun k => h (jw.2 k)
  obtain ⟨a1, a2⟩ := ha.resolve_left h1
  have p : (((if a.1 ≤ 0 ∧ 0 ≤ a.2 then 0 else min (a.1 * a.1) (a.2 * a.2) : Int)) : Rat) ≤ (x * 65536) * (x * 65536) := by
   split
   ·exact zaO _
   ·rename_i hn
    rcases Int.lt_or_le 0 a.1 with hp | hp
    ·have hp' : (0 : Rat) ≤ (a.1 : Rat) := Rat.intCast_nonneg.2 (by omega)
     have k1 := Jw hp' a1
     have k2 := Jw (Rat.le_trans hp' a1) a1
     refine Rat.le_trans (b := ((a.1 * a.1 : Int) : Rat)) (Rat.intCast_le_intCast.2 (by omega)) ?_
     rw [Rat.intCast_mul]; grind
    ·have hp' : (a.2 : Rat) ≤ 0 := Rat.intCast_nonpos.2 (by omega)
     have k1 := rmulL' hp' a2
     have k2 := rmulL' (Rat.le_trans a2 hp') a2
     refine Rat.le_trans (b := ((a.2 * a.2 : Int) : Rat)) (Rat.intCast_le_intCast.2 (by omega)) ?_
     rw [Rat.intCast_mul]; grind
  have q : (x * 65536) * (x * 65536) ≤ ((max (a.1 * a.1) (a.2 * a.2) : Int) : Rat) := by
   have m1 : ((a.1 * a.1 : Int) : Rat) ≤ ((max (a.1 * a.1) (a.2 * a.2) : Int) : Rat) := Rat.intCast_le_intCast.2 (by omega)
   have m2 : ((a.2 * a.2 : Int) : Rat) ≤ ((max (a.1 * a.1) (a.2 * a.2) : Int) : Rat) := Rat.intCast_le_intCast.2 (by omega)
   rw [Rat.intCast_mul] at m1 m2
   rcases Rat.le_total (a := 0) (b := x * 65536) with hx | hx
   ·have k1 := Jw hx a2
    have k2 := Jw (Rat.le_trans hx a2) a2
    grind
   ·have k1 := rmulL' hx a1
    have k2 := rmulL' (Rat.le_trans a1 hx) a1
    grind
  generalize (if a.1 ≤ 0 ∧ 0 ≤ a.2 then 0 else min (a.1 * a.1) (a.2 * a.2) : Int) = m at *
  generalize (max (a.1 * a.1) (a.2 * a.2) : Int) = M at *
  obtain ⟨f1, _⟩ := Vc (x := m) (b := 65536) (by decide)
  obtain ⟨f2, _⟩ := VC (x := M) (b := 65536) (by decide)
  have e : ((65536 : Int) : Rat) = 65536 := rfl
  rw [e] at f1 f2
  exact YZ (by grind) (by grind)
theorem zaS {b y : Rat} (hb : 0 < b) (h : b ≤ y) : y⁻¹ ≤ b⁻¹ := by
 have hy : 0 < y := by grind
 have e1 := Rat.inv_mul_cancel y (by grind)
 have e2 := Rat.inv_mul_cancel b (by grind)
 have p1 := Rat.inv_pos.2 hy
 have p2 := Rat.inv_pos.2 hb
 have k1 := Jw (Rat.le_of_lt (Rat.mul_pos p1 p2)) h
 rw [Rat.mul_assoc, e2, Rat.mul_one, Rat.mul_comm y⁻¹, Rat.mul_assoc, e1, Rat.mul_one] at k1
 exact k1
theorem rinv_neg (y : Rat) : (-y)⁻¹ = -(y⁻¹) := by grind
theorem rinv_in {b1 b2 Y : Rat} (h1 : b1 ≤ Y) (h2 : Y ≤ b2) (h : 0 < b1 ∨ b2 < 0) : b2⁻¹ ≤ Y⁻¹ ∧ Y⁻¹ ≤ b1⁻¹ := by
 rcases h with h | h
 ·exact ⟨zaS (by grind) h2, zaS h h1⟩
 ·have k1 := zaS (b := -b2) (y := -Y) (by grind) (by grind)
  have k2 := zaS (b := -Y) (y := -b1) (by grind) (by grind)
  rw [rinv_neg, rinv_neg] at k1 k2
  constructor <;> grind
theorem quot_in {a1 a2 b1 b2 : Int} {X Y : Rat} (h1 : (a1 : Rat) ≤ X) (h2 : X ≤ (a2 : Rat)) (h3 : (b1 : Rat) ≤ Y) (h4 : Y ≤ (b2 : Rat)) (h : 0 < b1 ∨ b2 < 0) :
  ((z9 (fl (a1 * 65536) b1) (fl (a1 * 65536) b2) (fl (a2 * 65536) b1) (fl (a2 * 65536) b2) : Int) : Rat) ≤ X * 65536 / Y ∧ X * 65536 / Y ≤ ((qa (ce (a1 * 65536) b1) (ce (a1 * 65536) b2) (ce (a2 * 65536) b1) (ce (a2 * 65536) b2) : Int) : Rat) := by
 have hb : b1 ≤ b2 := Rat.intCast_le_intCast.1 (Rat.le_trans h3 h4)
 have hh : 0 < (b1 : Rat) ∨ (b2 : Rat) < 0 := by
  rcases h with h | h
  ·exact .inl (Rat.intCast_pos.2 h)
  ·exact .inr (by have := Rat.intCast_lt_intCast.2 h; exact this)
 obtain ⟨i1, i2⟩ := rinv_in h3 h4 hh
 have n1 : b1 ≠ 0 := by omega
 have n2 : b2 ≠ 0 := by omega
 have e : X * 65536 / Y = (X * 65536) * Y⁻¹ := Rat.div_def _ _
 have x1 : ((a1 * 65536 : Int) : Rat) ≤ X * 65536 := by rw [Rat.intCast_mul]; have e : ((65536 : Int) : Rat) = 65536 := rfl; rw [e]; grind
 have x2 : X * 65536 ≤ ((a2 * 65536 : Int) : Rat) := by rw [Rat.intCast_mul]; have e : ((65536 : Int) : Rat) = 65536 := rfl; rw [e]; grind
 have l1 := (Vc (x := a1 * 65536) n1).1
 have l2 := (Vc (x := a1 * 65536) n2).1
 have l3 := (Vc (x := a2 * 65536) n1).1
 have l4 := (Vc (x := a2 * 65536) n2).1
 have u1 := (VC (x := a1 * 65536) n1).1
 have u2 := (VC (x := a1 * 65536) n2).1
 have u3 := (VC (x := a2 * 65536) n1).1
 have u4 := (VC (x := a2 * 65536) n2).1
 rw [Rat.div_def] at l1 l2 l3 l4 u1 u2 u3 u4
 rw [e]
 have key1 : ∀ z : Int, z9 (fl (a1 * 65536) b1) (fl (a1 * 65536) b2) (fl (a2 * 65536) b1) (fl (a2 * 65536) b2) ≤ z → (z : Rat) ≤ X * 65536 * Y⁻¹ → ((z9 (fl (a1 * 65536) b1) (fl (a1 * 65536) b2) (fl (a2 * 65536) b1) (fl (a2 * 65536) b2) : Int) : Rat) ≤ X * 65536 * Y⁻¹ := fun z h k => Rat.le_trans (Rat.intCast_le_intCast.2 h) k
 have key2 : ∀ z : Int, z ≤ qa (ce (a1 * 65536) b1) (ce (a1 * 65536) b2) (ce (a2 * 65536) b1) (ce (a2 * 65536) b2) → X * 65536 * Y⁻¹ ≤ (z : Rat) → X * 65536 * Y⁻¹ ≤ ((qa (ce (a1 * 65536) b1) (ce (a1 * 65536) b2) (ce (a2 * 65536) b1) (ce (a2 * 65536) b2) : Int) : Rat) := fun z h k => Rat.le_trans k (Rat.intCast_le_intCast.2 h)
 constructor
 ·rcases corner_lo x1 x2 i1 i2 with k | k | k | k
  ·exact key1 _ (by simp only [z9]; omega) (Rat.le_trans l2 k)
  ·exact key1 _ (by simp only [z9]; omega) (Rat.le_trans l1 k)
  ·exact key1 _ (by simp only [z9]; omega) (Rat.le_trans l4 k)
  ·exact key1 _ (by simp only [z9]; omega) (Rat.le_trans l3 k)
 ·rcases zbK x1 x2 i1 i2 with k | k | k | k
  ·exact key2 _ (by simp only [qa]; omega) (Rat.le_trans k u2)
  ·exact key2 _ (by simp only [qa]; omega) (Rat.le_trans k u1)
  ·exact key2 _ (by simp only [qa]; omega) (Rat.le_trans k u4)
  ·exact key2 _ (by simp only [qa]; omega) (Rat.le_trans k u3)
def X2 (b : I) : Prop := b ≠ ent ∧ (0 < b.1 ∨ b.2 < 0)
theorem div_undef {a b : I} (h : ¬ X2 b) : div a b = ent := by
 unfold div
 rw [if_pos]
 by_cases hb : b = ent
 ·simp [jw.2 hb]
 ·have : ¬ (0 < b.1 ∨ b.2 < 0) := fun k => h ⟨hb, k⟩
  have h1 : b.1 ≤ 0 ∧ 0 ≤ b.2 := by omega
  simp [h1.1, h1.2]
theorem zdl {a b : I} {x y : Rat} (ha : zP a x) (hb : X2 b → zP b y) : zP (div a b) (x / y) := by
 by_cases hd : X2 b
 ·have hb := hb hd
  unfold div
  split
  ·exact .inl rfl
  ·rename_i h
   simp only [Bool.or_eq_true, jw, not_or] at h
   obtain ⟨a1, a2⟩ := ha.resolve_left h.1.1
   obtain ⟨b1, b2⟩ := hb.resolve_left h.1.2
   obtain ⟨p1, p2⟩ := quot_in a1 a2 b1 b2 hd.2
   have e : x * 65536 * 65536 / (y * 65536) = x / y * 65536 := by
    have hy : y ≠ 0 := by
     rintro rfl
     have z1 : ((b.1 : Int) : Rat) ≤ 0 := by grind
     have z2 : 0 ≤ ((b.2 : Int) : Rat) := by grind
     have := Rat.intCast_nonpos.1 z1
     have := Rat.intCast_nonneg.1 z2
     have := hd.2
     omega
    grind
   rw [e] at p1 p2
   exact YZ p1 p2
 ·rw [div_undef hd]; exact .inl rfl
end Go.Pl

namespace Go.Pl
theorem root_mono_lt {n r : Int} (hn : 0 ≤ n) (hr : 0 ≤ r) (h : r * r ≤ n) : r ≤ root n := by
 obtain ⟨g0, g1, g2⟩ := QB hn
 rcases Int.lt_or_le (root n) r with k | k
 ·have : (root n + 1) * (root n + 1) ≤ r * r := Int.mul_le_mul (by omega) (by omega) (by omega) hr
  omega
 ·exact k
theorem rootU_spec {n : Int} (hn : 0 ≤ n) : 0 ≤ qX n ∧ n ≤ qX n * qX n := by
 obtain ⟨g0, g1, g2⟩ := QB hn
 unfold qX
 split
 ·exact ⟨by omega, by omega⟩
 ·exact ⟨g0, by omega⟩
def qp (k : Nat) : Int := 65536 * (k + 1)
theorem grid_pos (k : Nat) : 0 < qp k := by unfold qp; omega
theorem Wq (k : Nat) : (0 : Rat) < (qp k : Rat) := Rat.intCast_pos.2 (grid_pos k)
def rt (k : Nat) (x : Rat) : Rat := (root ((x * (qp k : Rat) * (qp k : Rat)).floor) : Rat) / (qp k : Rat)
theorem rsq_le {a b : Rat} (ha : 0 ≤ a) (hb : 0 ≤ b) (h : a * a ≤ b * b) : a ≤ b := Rat.not_lt.1 fun k => by
 have h1 := Rat.mul_lt_mul_of_pos_left (c := a) k (by grind)
 have h2 := Jw hb (Rat.le_of_lt k)
 grind
theorem zcC (k : Nat) {x : Rat} (hx : 0 ≤ x) : 0 ≤ rt k x ∧ rt k x * rt k x ≤ x ∧ x < (rt k x + 1 / (qp k : Rat)) * (rt k x + 1 / (qp k : Rat)) := by
 have hN := Wq k
 have hfx : 0 ≤ (x * (qp k : Rat) * (qp k : Rat)) := Rat.mul_nonneg (Rat.mul_nonneg hx (Rat.le_of_lt hN)) (Rat.le_of_lt hN)
 have hf : 0 ≤ (x * (qp k : Rat) * (qp k : Rat)).floor := Rat.le_floor_iff.2 hfx
 have f1 := Rat.floor_le (x * (qp k : Rat) * (qp k : Rat))
 have f2 := Rat.lt_floor_add_one (x * (qp k : Rat) * (qp k : Rat))
 obtain ⟨g0, g1, g2⟩ := QB hf
 unfold rt
 generalize (x * (qp k : Rat) * (qp k : Rat)).floor = n at *
 generalize root n = r at *
 generalize (qp k : Rat) = N at *
 have r0 : (0 : Rat) ≤ (r : Rat) := Rat.intCast_nonneg.2 g0
 have r1 : (r : Rat) * (r : Rat) ≤ (n : Rat) := by rw [← Rat.intCast_mul]; exact Rat.intCast_le_intCast.2 g1
 have r2 : ((n + 1 : Int) : Rat) ≤ ((r : Rat) + 1) * ((r : Rat) + 1) := by
  have : ((n + 1 : Int) : Rat) ≤ (((r + 1) * (r + 1) : Int) : Rat) := Rat.intCast_le_intCast.2 (by omega)
  rw [Rat.intCast_mul, Rat.intCast_add r 1] at this; exact this
 refine ⟨XC hN (by grind), ?_, ?_⟩
 ·have e : (r : Rat) / N * ((r : Rat) / N) = (r : Rat) * (r : Rat) / (N * N) := by grind
  rw [e]
  exact VB (Rat.mul_pos hN hN) (by grind)
 ·have e : ((r : Rat) / N + 1 / N) * ((r : Rat) / N + 1 / N) = ((r : Rat) + 1) * ((r : Rat) + 1) / (N * N) := by grind
  rw [e]
  exact (Rat.lt_div_iff (Rat.mul_pos hN hN)).2 (by grind)
theorem rt_ge (k : Nat) {x : Rat} (hx : 0 ≤ x) {L : Int} (hL : 0 ≤ L) (h : (L : Rat) * (L : Rat) ≤ x * 65536 * 65536) : (L : Rat) ≤ rt k x * 65536 := by
 have hN := Wq k
 have hfx : 0 ≤ (x * (qp k : Rat) * (qp k : Rat)) := Rat.mul_nonneg (Rat.mul_nonneg hx (Rat.le_of_lt hN)) (Rat.le_of_lt hN)
 have hf : 0 ≤ (x * (qp k : Rat) * (qp k : Rat)).floor := Rat.le_floor_iff.2 hfx
 have eg : (qp k : Rat) = 65536 * ((k + 1 : Nat) : Rat) := by
  unfold qp
  rw [Rat.intCast_mul]; rfl
 have hk : (0 : Rat) < ((k + 1 : Nat) : Rat) := Rat.natCast_pos.2 (by omega)
 have h1 : L * (k + 1 : Nat) ≤ root ((x * (qp k : Rat) * (qp k : Rat)).floor) := by
  refine root_mono_lt hf (Int.mul_nonneg hL (by omega)) (Rat.le_floor_iff.2 ?_)
  rw [Rat.intCast_mul, Rat.intCast_mul, Rat.intCast_natCast, eg]
  generalize ((k + 1 : Nat) : Rat) = K at *
  have := Jw (Rat.le_of_lt (Rat.mul_pos hk hk)) h
  grind
 have h2 := Rat.intCast_le_intCast.2 h1
 rw [Rat.intCast_mul, Rat.intCast_natCast] at h2
 unfold rt
 generalize (root ((x * (qp k : Rat) * (qp k : Rat)).floor) : Rat) = R at *
 rw [eg]
 generalize ((k + 1 : Nat) : Rat) = K at *
 have e : R / (65536 * K) * 65536 = R / K := by grind
 rw [e]
 exact XC hk h2
theorem rt_le (k : Nat) {x : Rat} (hx : 0 ≤ x) {U : Int} (hU : 0 ≤ U) (h : x * 65536 * 65536 ≤ (U : Rat) * (U : Rat)) : rt k x * 65536 ≤ (U : Rat) := by
 obtain ⟨g0, g1, _⟩ := zcC k hx
 refine rsq_le (by grind) (Rat.intCast_nonneg.2 hU) ?_
 grind
theorem in_rt (k : Nat) {a : I} {x : Rat} (ha : zP a x) : zP (Jc .sqrt a) (rt k x) := by
 simp only [Jc]
 split
 ·exact .inl rfl
 ·rename_i h0
  unfold sqrt
  have hne : a ≠ ent := by rintro rfl; exact h0 (by decide)
  obtain ⟨a1, a2⟩ := ha.resolve_left hne
  have hx : 0 ≤ x := by
   have : (0 : Rat) ≤ (a.1 : Rat) := Rat.intCast_nonneg.2 (by omega)
   grind
  have h2 : 0 ≤ a.2 := by
   have : (0 : Rat) ≤ (a.2 : Rat) := by grind
   exact Rat.intCast_nonneg.1 this
  rw [if_neg (by rw [jw]; exact hne), if_neg (by omega)]
  have hm : max a.1 0 = a.1 := by omega
  rw [hm]
  have e : ((65536 : Int) : Rat) = 65536 := rfl
  refine YZ ?_ ?_
  ·obtain ⟨g0, g1, _⟩ := QB (n := a.1 * 65536) (by omega)
   refine rt_ge k hx g0 ?_
   have := Rat.intCast_le_intCast.2 g1
   rw [Rat.intCast_mul, Rat.intCast_mul, e] at this
   grind
  ·obtain ⟨g0, g1⟩ := rootU_spec (n := a.2 * 65536) (by omega)
   refine rt_le k hx g0 ?_
   have := Rat.intCast_le_intCast.2 g1
   rw [Rat.intCast_mul, Rat.intCast_mul, e] at this
   grind
end Go.Pl

namespace Go.Pl
def Sb (a b : I) : Prop := b.1 ≤ a.1 ∧ a.2 ≤ b.2
theorem Sb.refl (a : I) : Sb a a := ⟨Int.le_refl _, Int.le_refl _⟩
theorem Sb.trans {a b c : I} (h : Sb a b) (k : Sb b c) : Sb a c := ⟨Int.le_trans k.1 h.1, Int.le_trans h.2 k.2⟩
theorem Sb.to {a b : I} (h : Sb a b) : jr a b = true := by simp [jr, h.1, h.2]
theorem Sb.ent {a : I} (h : vB a = true) : Sb a ent := by
 have := qR h
 exact ⟨this.1, this.2.2⟩
theorem Sb.bounded {a b : I} (h : Sb a b) (hb : vB b = true) (hne : b ≠ Pl.ent) : a ≠ Pl.ent := by
 rintro rfl
 have h1 := Zq hb (by rw [Bool.eq_false_iff, Ne, jw]; exact hne)
 have h2 := h.1
 simp only [Pl.ent] at h2
 omega
theorem vB_mk {lo hi : Int} (h : lo ≤ hi) : vB (mk lo hi) = true := Q2 h
theorem UY {lo hi lo' hi' : Int} (h1 : lo' ≤ lo) (h : lo ≤ hi) (h2 : hi ≤ hi') : Sb (mk lo hi) (mk lo' hi') := by
 by_cases hb : (jH lo' && jH hi') = true
 ·have e : mk lo' hi' = (lo', hi') := by unfold mk; rw [if_pos hb]
  rw [Bool.and_eq_true, XH, XH] at hb
  have e2 : mk lo hi = (lo, hi) := by unfold mk; rw [if_pos (by rw [Bool.and_eq_true, XH, XH]; omega)]
  rw [e, e2]; exact ⟨h1, h2⟩
 ·have e : mk lo' hi' = ent := by unfold mk; rw [if_neg hb]
  rw [e]; exact Sb.ent (vB_mk h)
section
variable {a b a' b' : I}
theorem ent2 (h : ¬ (zI a' || zI b') = true) (ha' : vB a' = true) (hb' : vB b' = true) (ha : Sb a a') (hb : Sb b b') : ¬ (zI a || zI b) = true := by
 obtain ⟨h1, h2⟩ := zb2 h
 have := ha.bounded ha' h1
 have := hb.bounded hb' h2
 simp [jw, *]
theorem neg_mono (h : Sb a a') : Sb (neg a) (neg a') := ⟨by simp only [neg]; have := h.2; omega, by simp only [neg]; have := h.1; omega⟩
theorem Us (va : vB a = true) (vb : vB b = true) (va' : vB a' = true) (vb' : vB b' = true) (ha : Sb a a') (hb : Sb b b') : Sb (add a b) (add a' b') := by
 by_cases h : (zI a' || zI b') = true
 ·have e : add a' b' = ent := by unfold add; rw [if_pos h]
  rw [e]; exact Sb.ent (JK va vb)
 ·have h' := ent2 h va' vb' ha hb
  have e : add a' b' = mk (a'.1 + b'.1) (a'.2 + b'.2) := by unfold add; rw [if_neg h]
  have e2 : add a b = mk (a.1 + b.1) (a.2 + b.2) := by unfold add; rw [if_neg h']
  have h1 := qR va
  have h2 := qR vb
  have h3 := ha.1; have h4 := ha.2; have h5 := hb.1; have h6 := hb.2
  rw [e, e2]; exact UY (by omega) (by omega) (by omega)
theorem sub_mono (va : vB a = true) (vb : vB b = true) (va' : vB a' = true) (vb' : vB b' = true) (ha : Sb a a') (hb : Sb b b') : Sb (sub a b) (sub a' b') := Us va (V7 vb) va' (V7 vb') ha (neg_mono hb)
theorem ic {x y : Int} : (x : Rat) ≤ (y : Rat) ↔ x ≤ y := Rat.intCast_le_intCast
theorem zaY (ha : Sb a a') (hb : Sb b b') {x y : Int} (hx : x = a.1 ∨ x = a.2) (hy : y = b.1 ∨ y = b.2) (la : a.1 ≤ a.2) (lb : b.1 ≤ b.2) :
  z9 (a'.1 * b'.1) (a'.1 * b'.2) (a'.2 * b'.1) (a'.2 * b'.2) ≤ x * y ∧ x * y ≤ qa (a'.1 * b'.1) (a'.1 * b'.2) (a'.2 * b'.1) (a'.2 * b'.2) := by
 have h3 := ha.1; have h4 := ha.2; have h5 := hb.1; have h6 := hb.2
 have := prod_in (a1 := a'.1) (a2 := a'.2) (b1 := b'.1) (b2 := b'.2) (X := (x : Rat)) (Y := (y : Rat)) (ic.2 (by omega)) (ic.2 (by omega)) (ic.2 (by omega)) (ic.2 (by omega))
 rw [← Rat.intCast_mul, ic, ic] at this
 exact this
theorem ce_mono {x y b : Int} (hb : 0 < b) (h : x ≤ y) : ce x b ≤ ce y b := (jQ x y b b).1 hb h
theorem zcf {x y b : Int} (hb : 0 < b) (h : x ≤ y) : fl x b ≤ fl y b := (jE x y b b).1 hb h
theorem fl_le_ce' {x b : Int} (hb : b ≠ 0) : fl x b ≤ ce x b := by
 have h1 := (Vc (x := x) hb).1
 have h2 := (VC (x := x) hb).1
 exact ic.1 (Rat.le_trans h1 h2)
theorem UD {x y : Int} (h1 : -y ≤ x) (h2 : x ≤ y) : x * x ≤ y * y := by
 have := Int.mul_nonneg (show 0 ≤ y - x by omega) (show 0 ≤ y + x by omega)
 grind
theorem sqle' {x y : Int} (h1 : y ≤ x) (h2 : x ≤ -y) : x * x ≤ y * y := by
 have := UD (x := x) (y := -y) (by omega) h2
 rwa [Int.neg_mul_neg] at this
theorem sqnn (x : Int) : 0 ≤ x * x := by
 by_cases h : 0 ≤ x
 ·exact Int.mul_nonneg h h
 ·have := Int.mul_nonneg (show 0 ≤ -x by omega) (show 0 ≤ -x by omega)
  rwa [Int.neg_mul_neg] at this
theorem UW (va : vB a = true) (vb : vB b = true) (va' : vB a' = true) (vb' : vB b' = true) (ha : Sb a a') (hb : Sb b b') : Sb (mul a b) (mul a' b') := by
 by_cases h : (zI a' || zI b') = true
 ·have e : mul a' b' = ent := by unfold mul; rw [if_pos h]
  rw [e]; exact Sb.ent jU
 ·have h' := ent2 h va' vb' ha hb
  have h1 := qR va
  have h2 := qR vb
  have c1 := zaY ha hb (x := a.1) (y := b.1) (.inl rfl) (.inl rfl) h1.2.1 h2.2.1
  have c2 := zaY ha hb (x := a.1) (y := b.2) (.inl rfl) (.inr rfl) h1.2.1 h2.2.1
  have c3 := zaY ha hb (x := a.2) (y := b.1) (.inr rfl) (.inl rfl) h1.2.1 h2.2.1
  have c4 := zaY ha hb (x := a.2) (y := b.2) (.inr rfl) (.inr rfl) h1.2.1 h2.2.1
  unfold mul
  rw [if_neg h, if_neg h']
  generalize z9 (a'.1 * b'.1) (a'.1 * b'.2) (a'.2 * b'.1) (a'.2 * b'.2) = m at *
  generalize qa (a'.1 * b'.1) (a'.1 * b'.2) (a'.2 * b'.1) (a'.2 * b'.2) = M at *
  have d1 : m ≤ z9 (a.1 * b.1) (a.1 * b.2) (a.2 * b.1) (a.2 * b.2) := by simp only [z9]; omega
  have d2 : qa (a.1 * b.1) (a.1 * b.2) (a.2 * b.1) (a.2 * b.2) ≤ M := by simp only [qa]; omega
  have d3 : z9 (a.1 * b.1) (a.1 * b.2) (a.2 * b.1) (a.2 * b.2) ≤ qa (a.1 * b.1) (a.1 * b.2) (a.2 * b.1) (a.2 * b.2) := by simp only [z9, qa]; omega
  exact UY (zcf (by decide) d1) (Int.le_trans (zcf (by decide) d3) (fl_le_ce' (by decide))) (ce_mono (by decide) d2)
theorem sq_mono (va : vB a = true) (va' : vB a' = true) (ha : Sb a a') : Sb (sq a) (sq a') := by
 by_cases h : zI a' = true
 ·have e : sq a' = ent := by unfold sq; rw [if_pos h]
  rw [e]; exact Sb.ent (zbg va)
 ·have h' : ¬ zI a = true := by rw [jw]; exact ha.bounded va' (fun k => h (jw.2 k))
  have h1 := qR va
  have h3 := ha.1; have h4 := ha.2
  unfold sq
  rw [if_neg h, if_neg h']
  have s1 := sqnn a.1
  have s2 := sqnn a.2
  have m1 : a.1 * a.1 ≤ max (a'.1 * a'.1) (a'.2 * a'.2) := by
   by_cases q : 0 ≤ a.1
   ·have := UD (x := a.1) (y := a'.2) (by omega) (by omega)
    omega
   ·have := sqle' (x := a.1) (y := a'.1) (by omega) (by omega)
    omega
  have m2 : a.2 * a.2 ≤ max (a'.1 * a'.1) (a'.2 * a'.2) := by
   by_cases q : 0 ≤ a.2
   ·have := UD (x := a.2) (y := a'.2) (by omega) (by omega)
    omega
   ·have := sqle' (x := a.2) (y := a'.1) (by omega) (by omega)
    omega
  have n1 : (if a'.1 ≤ 0 ∧ 0 ≤ a'.2 then 0 else min (a'.1 * a'.1) (a'.2 * a'.2)) ≤ (if a.1 ≤ 0 ∧ 0 ≤ a.2 then 0 else min (a.1 * a.1) (a.2 * a.2)) := by
   by_cases hz : a'.1 ≤ 0 ∧ 0 ≤ a'.2
   ·rw [if_pos hz]; split <;> omega
   ·rw [if_neg hz, if_neg (by omega)]
    by_cases k : 0 < a'.1
    ·have e1 := UD (x := a'.1) (y := a.1) (by omega) (by omega)
     have e2 := UD (x := a'.1) (y := a.2) (by omega) (by omega)
     omega
    ·have e1 := sqle' (x := a'.2) (y := a.1) (by omega) (by omega)
     have e2 := sqle' (x := a'.2) (y := a.2) (by omega) (by omega)
     omega
  have n2 : (if a.1 ≤ 0 ∧ 0 ≤ a.2 then 0 else min (a.1 * a.1) (a.2 * a.2)) ≤ max (a.1 * a.1) (a.2 * a.2) := by split <;> omega
  generalize (if a'.1 ≤ 0 ∧ 0 ≤ a'.2 then 0 else min (a'.1 * a'.1) (a'.2 * a'.2)) = m at *
  generalize (if a.1 ≤ 0 ∧ 0 ≤ a.2 then 0 else min (a.1 * a.1) (a.2 * a.2)) = m' at *
  exact UY (zcf (by decide) n1) (Int.le_trans (zcf (by decide) n2) (fl_le_ce' (by decide))) (ce_mono (by decide) (by omega))
theorem defn_mono (vb' : vB b' = true) (hb : Sb b b') (h : X2 b') (lb : b.1 ≤ b.2) : X2 b := by
 have h3 := hb.1; have h4 := hb.2
 refine ⟨hb.bounded vb' h.1, ?_⟩
 rcases h.2 with h | h <;> omega
theorem zaw (ha : Sb a a') (hb : Sb b b') (hd : X2 b') {x y : Int} (hx : x = a.1 ∨ x = a.2) (hy : y = b.1 ∨ y = b.2) (la : a.1 ≤ a.2) (lb : b.1 ≤ b.2) :
  z9 (fl (a'.1 * 65536) b'.1) (fl (a'.1 * 65536) b'.2) (fl (a'.2 * 65536) b'.1) (fl (a'.2 * 65536) b'.2) ≤ fl (x * 65536) y ∧ ce (x * 65536) y ≤ qa (ce (a'.1 * 65536) b'.1) (ce (a'.1 * 65536) b'.2) (ce (a'.2 * 65536) b'.1) (ce (a'.2 * 65536) b'.2) := by
 have h3 := ha.1; have h4 := ha.2; have h5 := hb.1; have h6 := hb.2
 have hy0 : y ≠ 0 := by rcases hd.2 with h | h <;> omega
 obtain ⟨k1, k2⟩ := quot_in (a1 := a'.1) (a2 := a'.2) (b1 := b'.1) (b2 := b'.2) (X := (x : Rat)) (Y := (y : Rat)) (ic.2 (by omega)) (ic.2 (by omega)) (ic.2 (by omega)) (ic.2 (by omega)) hd.2
 have e : (x : Rat) * 65536 = ((x * 65536 : Int) : Rat) := by rw [Rat.intCast_mul]; rfl
 rw [e] at k1 k2
 have f1 := (Vc (x := x * 65536) hy0).2
 have f2 := (VC (x := x * 65536) hy0).2
 generalize ((x * 65536 : Int) : Rat) / (y : Rat) = q at *
 generalize z9 (fl (a'.1 * 65536) b'.1) (fl (a'.1 * 65536) b'.2) (fl (a'.2 * 65536) b'.1) (fl (a'.2 * 65536) b'.2) = m at *
 generalize qa (ce (a'.1 * 65536) b'.1) (ce (a'.1 * 65536) b'.2) (ce (a'.2 * 65536) b'.1) (ce (a'.2 * 65536) b'.2) = M at *
 have g1 : (m : Rat) < ((fl (x * 65536) y + 1 : Int) : Rat) := by
  rw [Rat.intCast_add (fl (x * 65536) y) 1]; have e : ((1 : Int) : Rat) = 1 := rfl; rw [e]; grind
 have g2 : ((ce (x * 65536) y - 1 : Int) : Rat) < (M : Rat) := by
  rw [Rat.intCast_sub (ce (x * 65536) y) 1]; have e : ((1 : Int) : Rat) = 1 := rfl; rw [e]; grind
 have g1 := Rat.intCast_lt_intCast.1 g1
 have g2 := Rat.intCast_lt_intCast.1 g2
 omega
theorem div_mono (va : vB a = true) (vb : vB b = true) (va' : vB a' = true) (vb' : vB b' = true) (ha : Sb a a') (hb : Sb b b') : Sb (div a b) (div a' b') := by
 by_cases hd : X2 b'
 ·by_cases hea : a' = ent
  ·have e : div a' b' = ent := by unfold div; rw [if_pos (by simp [jw.2 hea])]
   rw [e]; exact Sb.ent (X1 vb)
  have h1 := qR va
  have h2 := qR vb
  have hd2 := defn_mono vb' hb hd h2.2.1
  have hea2 := ha.bounded va' hea
  have z1 : ¬ (zI a' || zI b' || (decide (b'.1 ≤ 0) && decide (0 ≤ b'.2))) = true := by
   have := hd.1
   simp [jw, *]
   rcases hd.2 with h | h <;> omega
  have z2 : ¬ (zI a || zI b || (decide (b.1 ≤ 0) && decide (0 ≤ b.2))) = true := by
   have := hd2.1
   simp [jw, *]
   rcases hd2.2 with h | h <;> omega
  have c1 := zaw ha hb hd (x := a.1) (y := b.1) (.inl rfl) (.inl rfl) h1.2.1 h2.2.1
  have c2 := zaw ha hb hd (x := a.1) (y := b.2) (.inl rfl) (.inr rfl) h1.2.1 h2.2.1
  have c3 := zaw ha hb hd (x := a.2) (y := b.1) (.inr rfl) (.inl rfl) h1.2.1 h2.2.1
  have c4 := zaw ha hb hd (x := a.2) (y := b.2) (.inr rfl) (.inr rfl) h1.2.1 h2.2.1
  have c5 : fl (a.1 * 65536) b.1 ≤ ce (a.1 * 65536) b.1 := fl_le_ce' (by rcases hd2.2 with h | h <;> omega)
  unfold div
  rw [if_neg z1, if_neg z2]
  generalize z9 (fl (a'.1 * 65536) b'.1) (fl (a'.1 * 65536) b'.2) (fl (a'.2 * 65536) b'.1) (fl (a'.2 * 65536) b'.2) = m at *
  generalize qa (ce (a'.1 * 65536) b'.1) (ce (a'.1 * 65536) b'.2) (ce (a'.2 * 65536) b'.1) (ce (a'.2 * 65536) b'.2) = M at *
  refine UY ?_ ?_ ?_ <;> simp only [z9, qa] <;> omega
 ·rw [div_undef hd]; exact Sb.ent (X1 vb)
theorem zcE {m n : Int} (hm : 0 ≤ m) (h : m ≤ n) : root m ≤ root n := by
 obtain ⟨g0, g1, g2⟩ := QB hm
 exact root_mono_lt (by omega) g0 (by omega)
theorem rootU_mono {m n : Int} (hm : 0 ≤ m) (h : m ≤ n) : qX m ≤ qX n := by
 obtain ⟨g0, g1, g2⟩ := QB hm
 obtain ⟨h0, h1⟩ := rootU_spec (n := n) (by omega)
 unfold qX
 split
 ·rename_i hlt
  have h3 : root m < qX n := by
   rcases Int.lt_or_le (root m) (qX n) with k | k
   ·exact k
   ·have := Int.mul_le_mul k k h0 g0
    omega
  unfold qX at h3
  omega
 ·have := zcE hm h
  unfold qX at h0
  split <;> omega
theorem sqrt_mono (va : vB a = true) (va' : vB a' = true) (ha : Sb a a') : Sb (Jc .sqrt a) (Jc .sqrt a') := by
 simp only [Jc]
 by_cases h0 : a'.1 < 0
 ·rw [if_pos h0]; exact Sb.ent (unV_valid (o := .sqrt) va)
 ·have h1 := qR va
  have h3 := ha.1; have h4 := ha.2
  have hne' : ¬ zI a' = true := by rw [jw]; rintro rfl; exact h0 (by decide)
  have hne : ¬ zI a = true := by rw [jw]; exact ha.bounded va' (fun k => hne' (jw.2 k))
  rw [if_neg h0, if_neg (by omega)]
  unfold sqrt
  rw [if_neg hne', if_neg hne, if_neg (by omega), if_neg (by omega)]
  have e1 : max a.1 0 = a.1 := by omega
  have e2 : max a'.1 0 = a'.1 := by omega
  rw [e1, e2]
  refine UY (zcE (by omega) (by omega)) ?_ (rootU_mono (by omega) (by omega))
  have := zcE (m := a.1 * 65536) (n := a.2 * 65536) (by omega) (by omega)
  unfold qX
  split <;> omega
end
end Go.Pl

namespace Go.Pl
structure zT where
 op : Int
 a : Int
 b : Int
 c : I
 deriving DecidableEq
structure Tp where
 n : Nat
 L : List zT
 out : List Nat
def Wf (n i : Nat) (x : zT) : Prop :=
 (x.op = 1 ∧ vB x.c = true) ∨ (x.op = 2 ∧ 0 ≤ x.a ∧ x.a < n) ∨ x.op = 3 ∨ (4 ≤ x.op ∧ x.op ≤ 6 ∧ 0 ≤ x.a ∧ x.a < i ∧ x.b = 0) ∨ (7 ≤ x.op ∧ x.op ≤ 10 ∧ 0 ≤ x.a ∧ x.a < i ∧ 0 ≤ x.b ∧ x.b < i)
structure z8 (t : Tp) : Prop where
 ins : ∀ i x, t.L[i]? = some x → Wf t.n i x
 len : t.out.length = t.n
 out : ∀ k ∈ t.out, k < t.L.length
 small : t.n ≤ 1000 ∧ t.L.length ≤ 100000
def qU (l : List I) (k : Int) : I := (l[k.toNat]?).getD (0, 0)
def Zg (p : I) : I := if p.1 < 0 then ent else sqrt p
def jT (o : Int) (p q : I) : I :=
 if o = 4 then neg p else if o = 5 then sq p else if o = 6 then Zg p else if o = 7 then add p q else if o = 8 then sub p q else if o = 9 then mul p q else div p q
def jC (y : zT) (l x : List I) (t : I) : I :=
 if y.op = 1 then y.c else if y.op = 2 then qU x y.a else if y.op = 3 then t else jT y.op (qU l y.a) (qU l y.b)
def qy (L : List zT) (x : List I) (t : I) : List I := L.foldl (fun l y => l ++ [jC y l x t]) []
def Zl (T : Tp) (x : List I) (t : I) : List I := T.out.map fun k : Nat => qU (qy T.L x t) (k : Int)
theorem Yk (L : List zT) (y : zT) (x : List I) (t : I) : qy (L ++ [y]) x t = qy L x t ++ [jC y (qy L x t) x t] := by simp [qy]
theorem zbh {α : Type} {P : List α → Prop} (h0 : P []) (h1 : ∀ l a, P l → P (l ++ [a])) (l : List α) : P l := by
 have : ∀ r : List α, P r.reverse := by
  intro r
  induction r with
  | nil => exact h0
  | cons a r ih => rw [List.reverse_cons]; exact h1 _ _ ih
 have := this l.reverse
 rwa [List.reverse_reverse] at this
theorem Xu (x : List I) (t : I) : ∀ L : List zT, (qy L x t).length = L.length := by
 intro L
 refine zbh (P := fun L => (qy L x t).length = L.length) rfl (fun L y ih => ?_) L
 rw [Yk]; simp [ih]
def zq (l : List I) : Prop := ∀ p ∈ l, vB p = true
theorem Xj {l : List I} (h : zq l) (k : Int) : vB (qU l k) = true := by
 unfold qU
 cases hk : l[k.toNat]? with
 | none => decide
 | some p => exact h p (List.mem_of_getElem? hk)
theorem rootI_valid {p : I} (h : vB p = true) : vB (Zg p) = true := by
 unfold Zg; split
 ·exact zbH
 ·exact sqrt_valid h
theorem opI_valid {o : Int} {p q : I} (hp : vB p = true) (hq : vB q = true) : vB (jT o p q) = true := by
 unfold jT
 split
 ·exact V7 hp
 split
 ·exact zbg hp
 split
 ·exact rootI_valid hp
 split
 ·exact JK hp hq
 split
 ·exact Xy hp hq
 split
 ·exact jU
 ·exact X1 hq
theorem insV_valid {y : zT} {l x : List I} {t : I} (hc : y.op = 1 → vB y.c = true) (hl : zq l) (hx : zq x) (ht : vB t = true) : vB (jC y l x t) = true := by
 unfold jC
 split
 ·exact hc ‹_›
 split
 ·exact Xj hx _
 split
 ·exact ht
 ·exact opI_valid (Xj hl _) (Xj hl _)
theorem za3 {l : List I} {p : I} (h : zq l) (hp : vB p = true) : zq (l ++ [p]) := by
 intro q hq
 rcases List.mem_append.1 hq with hq | hq
 ·exact h q hq
 ·simp at hq; subst hq; exact hp
theorem Uz {x : List I} {t : I} (hx : zq x) (ht : vB t = true) : ∀ {L : List zT}, (∀ y ∈ L, y.op = 1 → vB y.c = true) → zq (qy L x t) := by
 intro L
 refine zbh (P := fun L => (∀ y ∈ L, y.op = 1 → vB y.c = true) → zq (qy L x t)) (fun _ p hp => by simp [qy] at hp) (fun L y ih => ?_) L
 intro h
 rw [Yk]
 have := ih fun z hz => h z (by simp [hz])
 exact za3 this (insV_valid (h y (by simp)) this hx ht)
theorem z8.num {T : Tp} (h : z8 T) : ∀ y ∈ T.L, y.op = 1 → vB y.c = true := by
 intro y hy ho
 obtain ⟨i, hi⟩ := List.mem_iff_getElem?.1 hy
 rcases h.ins i y hi with h | h | h | h | h
 ·exact h.2
 all_goals omega
theorem Wx {T : Tp} (h : z8 T) {x : List I} {t : I} (hx : zq x) (ht : vB t = true) : zq (Zl T x t) := by
 intro p hp
 obtain ⟨k, _, rfl⟩ := List.mem_map.1 hp
 exact Xj (Uz hx ht h.num) _
theorem evalT_len {T : Tp} (h : z8 T) {x : List I} {t : I} : (Zl T x t).length = T.n := by simp [Zl, h.len]
def qS (l : List zT) (x : zT) : List zT × Nat := match l.findIdx? (fun y => decide (y = x)) with
 | some i => (l, i)
 | none => (l ++ [x], l.length)
def qc : Ex → List zT → List zT × Nat
 | .num c, l => qS l ⟨1, 0, 0, c⟩
 | .var i, l => qS l ⟨2, i, 0, (0, 0)⟩
 | .time, l => qS l ⟨3, 0, 0, (0, 0)⟩
 | .un o a, l => qS (qc a l).1 ⟨o.code, ((qc a l).2 : Int), 0, (0, 0)⟩
 | .bin o a b, l => qS (qc b (qc a l).1).1 ⟨o.code, ((qc a l).2 : Int), ((qc b (qc a l).1).2 : Int), (0, 0)⟩
def jf : List Ex → List zT × List Nat → List zT × List Nat
 | [], s => s
 | e :: r, s => jf r ((qc e s.1).1, s.2 ++ [(qc e s.1).2])
def Uh (F : List Ex) : Tp := ⟨F.length, (jf F ([], [])).1, (jf F ([], [])).2⟩
def YY (n : Nat) (l : List zT) : Prop := ∀ i x, l[i]? = some x → Wf n i x
theorem Wz {n : Nat} {l : List zT} {x : zT} (h : YY n l) (hx : Wf n l.length x) : YY n (qS l x).1 ∧ (qS l x).2 < (qS l x).1.length ∧ l.length ≤ (qS l x).1.length ∧ (qS l x).1.length ≤ l.length + 1 := by
 unfold qS
 cases hf : l.findIdx? (fun y => decide (y = x)) with
 | some i =>
  refine ⟨h, ?_, by simp, by simp⟩
  rw [List.findIdx?_eq_some_iff_getElem] at hf
  exact hf.1
 | none =>
  refine ⟨fun i y hi => ?_, by simp, by simp, by simp⟩
  simp only at hi
  rcases Nat.lt_or_ge i l.length with hlt | hge
  ·rw [List.getElem?_append_left hlt] at hi; exact h i y hi
  ·have : i = l.length := by have := (gJ.1 hi).1; simp at this; omega
   subst this
   simp at hi; subst hi; exact hx
theorem U_code (o : U) : 4 ≤ o.code ∧ o.code ≤ 6 := by cases o <;> decide
theorem B_code (o : B) : 7 ≤ o.code ∧ o.code ≤ 10 := by cases o <;> decide
theorem zcl {n : Nat} : ∀ {e : Ex} {l : List zT}, wf n e = true → YY n l → YY n (qc e l).1 ∧ (qc e l).2 < (qc e l).1.length ∧ l.length ≤ (qc e l).1.length ∧ (qc e l).1.length ≤ l.length + sz e
 | .num c, l, he, h => by
  have := Wz (x := ⟨1, 0, 0, c⟩) h (.inl ⟨rfl, he⟩)
  rw [Je]; exact this
 | .var i, l, he, h => by
  simp only [wf, decide_eq_true_eq] at he
  have := Wz (x := ⟨2, (i : Int), 0, (0, 0)⟩) h (.inr (.inl ⟨rfl, by simp, by simpa using he⟩))
  rw [Yo]; exact this
 | .time, l, he, h => by
  have := Wz (x := ⟨3, 0, 0, (0, 0)⟩) h (.inr (.inr (.inl rfl)))
  rw [Yp]; exact this
 | .un o a, l, he, h => by
  obtain ⟨h1, h2, h3, h4⟩ := zcl (e := a) he h
  have := Wz (x := ⟨o.code, ((qc a l).2 : Int), 0, (0, 0)⟩) h1 (.inr (.inr (.inr (.inl ⟨(U_code o).1, (U_code o).2, by simp, by simpa using h2, rfl⟩))))
  rw [ZS]
  exact ⟨this.1, this.2.1, by show _ ≤ (qS _ _).1.length; omega, by show (qS _ _).1.length ≤ _; omega⟩
 | .bin o a b, l, he, h => by
  simp only [wf, Bool.and_eq_true] at he
  obtain ⟨h1, h2, h3, h4⟩ := zcl (e := a) he.1 h
  obtain ⟨g1, g2, g3, g4⟩ := zcl (e := b) he.2 h1
  have := Wz (x := ⟨o.code, ((qc a l).2 : Int), ((qc b (qc a l).1).2 : Int), (0, 0)⟩) g1 (.inr (.inr (.inr (.inr ⟨(B_code o).1, (B_code o).2, by simp, by simp; omega, by simp, by simpa using g2⟩))))
  rw [Zc]
  exact ⟨this.1, this.2.1, by show _ ≤ (qS _ _).1.length; omega, by show (qS _ _).1.length ≤ _; omega⟩
theorem cmpAll_ok {n : Nat} : ∀ {F : List Ex} {s : List zT × List Nat}, (∀ e ∈ F, wf n e = true) → YY n s.1 → (∀ k ∈ s.2, k < s.1.length) →
  YY n (jf F s).1 ∧ (∀ k ∈ (jf F s).2, k < (jf F s).1.length) ∧ (jf F s).2.length = s.2.length + F.length ∧ (jf F s).1.length ≤ s.1.length + (F.map sz).sum
 | [], s, _, h, hk => ⟨h, hk, by simp [jf], by simp [jf]⟩
 | e :: r, s, he, h, hk => by
  obtain ⟨h1, h2, h3, h4⟩ := zcl (he e (by simp)) h
  have := cmpAll_ok (F := r) (s := ((qc e s.1).1, s.2 ++ [(qc e s.1).2])) (fun e' h' => he e' (by simp [h'])) h1 (fun k hk' => by
   rcases List.mem_append.1 hk' with hk' | hk'
   ·exact Nat.lt_of_lt_of_le (hk k hk') h3
   ·simp at hk'; subst hk'; exact h2)
  refine ⟨this.1, this.2.1, ?_, ?_⟩
  ·have := this.2.2.1; simp only [jf] at this ⊢; rw [this]; simp; omega
  ·have := this.2.2.2; simp only [jf, List.map_cons, List.sum_cons] at this ⊢; omega
def j2 : List Ex → List zT → List zT × List Nat
 | [], l => (l, [])
 | e :: r, l => ((j2 r (qc e l).1).1, (qc e l).2 :: (j2 r (qc e l).1).2)
theorem cmpK_snoc : ∀ (r : List Ex) (e : Ex) (l : List zT), j2 (r ++ [e]) l = ((qc e (j2 r l).1).1, (j2 r l).2 ++ [(qc e (j2 r l).1).2])
 | [], e, l => rfl
 | a :: r, e, l => by simp only [List.cons_append, j2, cmpK_snoc r e]
def Z9 (e : Ex) (ks : List Nat) : zT := ⟨(zM e).op, if (zM e).op = 2 then (zM e).n else ((ks[0]?).getD 0 : Nat), ((ks[1]?).getD 0 : Nat), if (zM e).op = 1 then (zM e).c else (0, 0)⟩
theorem zcL (e : Ex) (l : List zT) : qc e l = qS (j2 (zz e) l).1 (Z9 e (j2 (zz e) l).2) := by
 cases e with
 | num c => rfl
 | var i => rfl
 | time => rfl
 | un o a => cases o <;> rfl
 | bin o a b => cases o <;> rfl
theorem WA (l : List zT) (x : zT) : (qS l x).1.length ≤ l.length + 1 ∧ l.length ≤ (qS l x).1.length := by
 unfold qS; split <;> simp
theorem zch (l : List zT) (x : zT) : (qS l x).1 ≠ [] := by
 unfold qS
 split
 ·rename_i i h
  rw [List.findIdx?_eq_some_iff_getElem] at h
  obtain ⟨h1, _⟩ := h
  intro e
  simp only at e
  rw [e] at h1; simp at h1
 ·simp
theorem WH : ∀ (e : Ex) (l : List zT), (qc e l).1.length ≤ l.length + sz e ∧ l.length ≤ (qc e l).1.length
 | .num c, l => WA _ _
 | .var i, l => WA _ _
 | .time, l => WA _ _
 | .un o a, l => by
  have h1 := WH a l
  have h2 := WA (qc a l).1 ⟨o.code, ((qc a l).2 : Int), 0, (0, 0)⟩
  rw [ZS]; simp only [qc]; omega
 | .bin o a b, l => by
  have h1 := WH a l
  have h2 := WH b (qc a l).1
  have h3 := WA (qc b (qc a l).1).1 ⟨o.code, ((qc a l).2 : Int), ((qc b (qc a l).1).2 : Int), (0, 0)⟩
  rw [Zc]; simp only [qc]; omega
theorem zcm : ∀ (r : List Ex) (l : List zT), (j2 r l).1.length ≤ l.length + (z3 r).length ∧ (j2 r l).2.length = r.length
 | [], l => by simp [j2, z3]
 | e :: r, l => by
  have h1 := WH e l
  have h2 := zcm r (qc e l).1
  simp only [j2, z3, List.flatMap_cons, List.length_append, List.length_cons] at h2 ⊢
  have : sz e = (zb e).length := rfl
  omega
end Go.Pl

namespace Go.Pl
def jM (p : I) (n d : Int) : I := if zI p then p else mk (fl (p.1 * n) d) (ce (p.2 * n) d)
theorem zax {p : I} {n d : Int} (h : vB p = true) (hn : 0 ≤ n) (hd : 0 < d) : vB (jM p n d) = true := by
 unfold jM
 cases he : zI p with
 | true => simpa using h
 | false =>
  simp only [Bool.false_eq_true, if_false]
  have := Zq h he
  exact Q2 (Wt hd (Int.mul_le_mul_of_nonneg_right this.2.1 hn))
def zf (l : List I) (k : Nat) : I := (l[k]?).getD (0, 0)
theorem qE {l : List I} (h : zq l) (k : Nat) : vB (zf l k) = true := by
 unfold zf
 cases hk : l[k]? with
 | none => decide
 | some p => exact h p (List.mem_of_getElem? hk)
def Xx (f : Nat → I) : Nat → I
 | 0 => (0, 0)
 | 1 => f 0
 | m + 2 => add (Xx f (m + 1)) (f (m + 1))
theorem sumF_valid {f : Nat → I} (h : ∀ i, vB (f i) = true) : ∀ m, vB (Xx f m) = true
 | 0 => (by decide : vB (0, 0) = true)
 | 1 => h 0
 | m + 2 => JK (sumF_valid h (m + 1)) (h _)
def qB (a b : List I) (frm m k : Nat) : I := Xx (fun i => mul (zf a (frm + i)) (zf b (k - (frm + i)))) m
theorem Ve (a b : List I) (frm m k : Nat) : vB (qB a b frm m k) = true := sumF_valid (fun _ => jU) m
def Zu (a b q : List I) : I :=
 if q.length = 0 then div (zf a 0) (zf b 0) else div (sub (zf a q.length) (qB b q 1 q.length q.length)) (zf b 0)
def Zp (a q : List I) : I :=
 if q.length = 0 then Zg (zf a 0) else div (sub (zf a q.length) (qB q q 1 (q.length - 1) q.length)) (jM (zf q 0) 2 1)
theorem nextQ_valid {a b : List I} (ha : zq a) (hb : zq b) (q : List I) : vB (Zu a b q) = true := by
 unfold Zu; split
 ·exact X1 (qE hb _)
 ·exact X1 (qE hb _)
theorem nextR_valid {a q : List I} (ha : zq a) (hq : zq q) : vB (Zp a q) = true := by
 unfold Zp; split
 ·exact rootI_valid (qE ha _)
 ·exact X1 (zax (qE hq _) (by decide) (by decide))
def zu (l : List (List I)) (i : Int) : List I := (l[i.toNat]?).getD []
def qq (x : zT) (l : List (List I)) (own : List I) (t : I) : I :=
 let k := own.length
 if x.op = 4 then neg (zf (zu l x.a) k)
 else if x.op = 7 then add (zf (zu l x.a) k) (zf (zu l x.b) k)
 else if x.op = 8 then sub (zf (zu l x.a) k) (zf (zu l x.b) k)
 else if x.op = 9 then qB (zu l x.a) (zu l x.b) 0 (k + 1) k
 else if x.op = 5 then (if k = 0 then sq (zf (zu l x.a) 0) else qB (zu l x.a) (zu l x.a) 0 (k + 1) k)
 else if x.op = 10 then Zu (zu l x.a) (zu l x.b) own
 else if x.op = 6 then Zp (zu l x.a) own
 else if x.op = 1 then (if k = 0 then x.c else (0, 0))
 else if x.op = 3 then (if k = 0 then t else if k = 1 then (65536, 65536) else (0, 0))
 else (0, 0)
def ql : List I → I → I
 | [], _ => (0, 0)
 | [a], _ => a
 | a :: r, h => add (mul (ql r h) h) a
def ZE (l : List (List I)) (h : I) : List I := l.map fun s => ql s h
def jG (L : List zT) (out : List (List I)) (t : I) (k : Nat) (l : List (List I)) : Nat → List (List I)
 | 0 => l
 | i + 1 =>
  let l' := jG L out t k l i
  match L[i]? with
  | some x => l'.set i (zu l' i ++ [if x.op = 2 then zf (zu out x.a) k else qq x l' (zu l' i) t])
  | none => l'
def j5 (T : Tp) (l : List (List I)) (k : Nat) (out : List (List I)) : Nat → List (List I)
 | 0 => out
 | i + 1 =>
  let o' := j5 T l k out i
  match T.out[i]? with
  | some at' => o'.set i (zu o' i ++ [jM (zf (zu l (at' : Int)) k) 1 (k + 1)])
  | none => o'
def zH (T : Tp) (x : List I) (t : I) : Nat → List (List I) × List (List I)
 | 0 => (List.replicate T.L.length [], (List.range T.n).map fun i => [zf x i])
 | k + 1 =>
  let q := zH T x t k
  let l := jG T.L q.2 t k q.1 T.L.length
  (l, j5 T l k q.2 T.out.length)
def qw (T : Tp) (x : List I) (t : I) (order : Nat) : List (List I) := (zH T x t order).2
end Go.Pl

namespace Go.Proofs.YtkghjlgpmeibhaaGreatDoor.Arm
open Go.Arm Go.Pl
theorem zdR (p q : I) (H : AH) : zg E 64 [iv p, iv q] H (.ret (iv (qK p q))) H := by
 refine zt zn zo Tryz.func64 rfl (by rfl) Tryz.ntmps64 (by kernel_rfl) (by simp) ?_
 simp [Z7, ZD]
 exact zv (rs := [.cell 4 48]) (by rfl) (by simp [ze, qK]) (by simp [zh, noF])
theorem iPickI (b : Bool) (p q : I) (H : AH) : zg E 268 [.bool b, iv p, iv q] H (.ret (iv (if b then p else q))) H := by
 refine zt zn zo Tryz.func268 rfl (by rfl) Tryz.ntmps268 (by kernel_rfl) (by simp) ?_
 cases b with
 | true =>
  simp
  exact zv (rs := [.cell 6 48]) (by rfl) (by simp [ze]) (by simp [zh, noF])
 | false =>
  simp
  exact zv (rs := [.cell 6 48]) (by rfl) (by simp [ze]) (by simp [zh, noF])
theorem iPick64 (b : Bool) (x y : Int) (H : AH) : zg E 301 [.bool b, .int .i64 x, .int .i64 y] H (.ret (.int .i64 (if b then x else y))) H := by
 refine zt zn zo Tryz.func301 rfl (by rfl) Tryz.ntmps301 (by kernel_rfl) (by simp) ?_
 cases b with
 | true =>
  simp
  exact zY (rs := [.tmp 6]) (by rfl) (by simp [ze])
 | false =>
  simp
  exact zY (rs := [.tmp 6]) (by rfl) (by simp [ze])
theorem iIntersect (p q : I) (H : AH) : zg E 231 [iv p, iv q] H (.ret (.tuple [iv (Qq p q), .bool (jj p q)])) H := by
 refine zt zn zo Tryz.func231 rfl (by rfl) Tryz.ntmps231 (by kernel_rfl) (by simp) ?_
 simp [Z7, ZD]
 refine zd (iPickI (jj p q) (Vy p q) (0, 0) _) ?_
 simp
 exact qm (rs := [.cell 4 48, .tmp 5]) (vs := [iv (Qq p q), .bool (jj p q)]) (vs' := [iv (Qq p q), .bool (jj p q)]) (by rfl) (by simp [ze, Qq, jj]) (by simp; rfl) (by simp [noF, zh]) rfl
theorem fMulRatio (a n d : Int) (ha : -2147483648 ≤ a ∧ a ≤ 2147483648) (hn : 0 ≤ n ∧ n ≤ 1073741824) (hd : 1 ≤ d ∧ d ≤ 1073741824) (H : AH) :
  zg E 300 [.int .i64 a, .int .i64 n, .int .i64 d] H (.ret (.tuple [.int .i64 (fl (a * n) d), .int .i64 (ce (a * n) d), .int .i64 0])) H := by
 refine zt zn zo Tryz.func300 rfl (by rfl) Tryz.ntmps300 (by kernel_rfl) (by simp) ?_
 have hb : -2305843009213693952 ≤ a * n ∧ a * n ≤ 2305843009213693952 := by
  have h1 := Int.mul_le_mul_of_nonneg_right ha.2 hn.1
  have h2 := Int.mul_le_mul_of_nonneg_right ha.1 hn.1
  omega
 have w1 : IntKind.i64.wrap (a * n) = a * n := zj (by omega) (by omega)
 have c1 : ¬ n < -1073741824 := by omega
 have c2 : ¬ 1073741824 < n := by omega
 have c3 : ¬ d < 1 := by omega
 have c4 : ¬ 1073741824 < d := by omega
 simp [c1, c2, c3, c4, w1]
 refine zd (zcJ (a * n) d (by omega) (by omega) _) ?_
 simp
 exact Zx (rs := [.tmp 6, .tmp 7, .tmp 8]) (vs := [.int .i64 (fl (a * n) d), .int .i64 (ce (a * n) d), .int .i64 0]) (by rfl) (by simp [ze]) rfl
theorem iMulRatio (p : I) (n d : Int) (hp : vB p = true) (hn : 0 ≤ n ∧ n ≤ 1073741824) (hd : 1 ≤ d ∧ d ≤ 1073741824) (H : AH) : zg E 266 [iv p, .int .i64 n, .int .i64 d] H (.ret (iv (jM p n d))) H := by
 refine zt zn zo Tryz.func266 rfl (by rfl) Tryz.ntmps266 (by kernel_rfl) (by simp) ?_
 simp
 refine zd (JF p _) ?_
 have hb := qR hp
 simp
 refine zL (fun he => ?_) (fun he => ?_)
 ·simp
  exact zv (rs := [.cell 6 48]) (by rfl) (by simp [ze, jM, he]) (by simp [zh, noF])
 ·have c1 : ¬ n < 0 := by omega
  simp
  refine zd (iPick64 (decide (n < 0)) p.2 p.1 _) ?_
  simp [c1]
  refine zd (fMulRatio p.1 n d (by omega) hn hd _) ?_
  simp
  refine zd (iPick64 (decide (n < 0)) p.1 p.2 _) ?_
  simp [c1]
  refine zd (fMulRatio p.2 n d (by omega) hn hd _) ?_
  simp
  refine zd (Zw _ _ _) ?_
  simp
  exact zv (rs := [.cell 6 48]) (by rfl) (by simp [ze, jM, he]) (by simp [zh, noF])
theorem rWidth (p : I) (h : vB p = true) (H : AH) : zg E 221 [iv p] H (.ret (.int .i64 (p.2 - p.1))) H := by
 refine zt zn zo Tryz.func221 rfl (by rfl) Tryz.ntmps221 (by kernel_rfl) (by simp) ?_
 have hb := qR h
 have w1 : IntKind.i64.wrap (p.2 - p.1) = p.2 - p.1 := zj (by omega) (by omega)
 simp [w1]
 exact zv (rs := [.tmp 2]) (by rfl) (by simp [ze]) (by simp [zh, noF])
theorem rSame2 (p q : I) (H : AH) : zg E 222 [iv p, iv q] H (.ret (.bool (p == q))) H := by
 refine zt zn zo Tryz.func222 rfl (by rfl) Tryz.ntmps222 (by kernel_rfl) (by simp) ?_
 have e : (p == q) = (p.1 == q.1 && p.2 == q.2) := rfl
 simp
 refine zdy (fun h1 => ?_) (fun h1 => ?_)
 ·simp [h1]
  exact zv (rs := [.tmp 4]) (by rfl) (by simp [ze, e, h1]) (by simp [zh, noF])
 ·simp [h1]
  exact zv (rs := [.tmp 4]) (by rfl) (by simp [ze, e, h1]) (by simp [zh, noF])
theorem zbx (p : I) (n d : Int) (hp : vB p = true) (hn : 0 ≤ n ∧ n ≤ 1073741824) (hd : 1 ≤ d ∧ d ≤ 1073741824) (H : AH) : zg E 200 [iv p, .int .i64 n, .int .i64 d] H (.ret (iv (jM p n d))) H := by
 refine zt zn zo Tryz.func200 rfl (by rfl) Tryz.ntmps200 (by kernel_rfl) (by simp) ?_
 simp
 refine zd (Jl p _) ?_
 have hb := qR hp
 simp
 refine zL (fun he => ?_) (fun he => ?_)
 ·simp
  exact zv (rs := [.cell 6 48]) (by rfl) (by simp [ze, jM, he]) (by simp [zh, noF])
 ·have b1 : -2305843009213693952 ≤ p.1 * n ∧ p.1 * n ≤ p.2 * n ∧ p.2 * n ≤ 2305843009213693952 := by
   have h1 := Int.mul_le_mul_of_nonneg_right hb.2.2 hn.1
   have h2 := Int.mul_le_mul_of_nonneg_right hb.1 hn.1
   have h3 := Int.mul_le_mul_of_nonneg_right hb.2.1 hn.1
   omega
  have w1 : IntKind.i64.wrap (p.1 * n) = p.1 * n := zj (by omega) (by omega)
  have w2 : IntKind.i64.wrap (p.2 * n) = p.2 * n := zj (by omega) (by omega)
  have m1 : min (p.1 * n) (p.2 * n) = p.1 * n := by omega
  have m2 : max (p.1 * n) (p.2 * n) = p.2 * n := by omega
  simp [w1, w2, Z7, ZD, m1, m2]
  refine zm [] (by rfl) (by simp [zl, zk, za.triv, za.wr, za.none, upTo, newAt]) ?_
  simp
  refine zd (XE (p.1 * n) d (by omega) (by omega) _) ?_
  simp
  refine zd (YG (p.2 * n) d (by omega) (by omega) _) ?_
  simp
  refine zd (Z1 _ _ _) ?_
  simp
  exact zv (rs := [.cell 6 48]) (by rfl) (by simp [ze, jM, he]) (by simp [zh, noF])
def bx (l : List I) : AV := .slice (l.map iv) false
theorem accBase {H A J : AH} {v v0 : AV} {sz : Nat} {l : List AV} (h : qr (H ++ A) J v sz l v0) : qr H (A ++ J) v sz l v0 := by
 rcases h with h | ⟨k, h1, h2⟩
 ·exact .inl h
 ·exact .inr ⟨A.length + k, by rw [h1, List.length_append, Nat.add_assoc], by rw [List.getElem?_append_right (by omega), Nat.add_sub_cancel_left]; exact h2⟩
theorem js (l : List I) (n : Nat) : zh n (l.map iv) = true := jL.2 fun x hx => by obtain ⟨y, _, rfl⟩ := List.mem_map.1 hx; simp [noF, zh]
theorem Yz {H J : AH} {b : Nat} {x y : zE} (h : b < H.length) : (H.set b x ++ J).set b y = H.set b y ++ J := by
 rw [List.set_append_left _ _ (by simpa using h), List.set_set]
theorem zcT {H J : AH} {v v0 : AV} {l : List I} {p : I} (hacc : qr H J v 2 (l.map iv) v0) (h0 : Xc v0 = true) (hl : l.length ≤ 1000000000) :
  ∃ v' J', qn zp (H ++ J) 23 v (.slice [iv p] true) = some (v', H ++ J') ∧ qr H J' v' 2 ((l ++ [p]).map iv) v0 ∧ (∀ j y, J[j]? = some y → (∀ n, v ≠ .ref (H.length + j) n) → J'[j]? = some y) ∧ J.length ≤ J'.length := by
 obtain ⟨v', J', hap, hacc', hk, hle, _⟩ := qr.push (T := zp) (t := 23) (e := 48) (x := .slice [iv p] true) (ys := [iv p]) hacc tab23 rfl tab48 h0 rfl (by simp [qo]) ⟨by decide, by simp⟩ (by simp; omega) (by simp; omega)
 exact ⟨v', J', hap, by simpa using hacc', hk, hle⟩
theorem and_low {m : Nat} (hm : m ≤ 16) (x : Int) : Vi .i64 x ((2 ^ m - 1 : Nat) : Int) = jW x ((2 ^ m - 1 : Nat) : Int) := by
 have h0 : (2 : Nat) ^ m ≤ 65536 := Nat.pow_le_pow_right (n := 2) (by decide) hm
 have h00 : 0 < (2 : Nat) ^ m := Nat.pow_pos (by decide)
 unfold Vi jW
 have e1 : (BitVec.ofInt 64 ((2 ^ m - 1 : Nat) : Int)).toNat = 2 ^ m - 1 := by
  rw [BitVec.toNat_ofInt]; omega
 have e2 : ((BitVec.ofInt 64 x &&& BitVec.ofInt 64 ((2 ^ m - 1 : Nat) : Int)).toNat : Int) = x % ((2 ^ m : Nat) : Int) := by
  rw [BitVec.toNat_and, e1, Nat.and_two_pow_sub_one_eq_mod, BitVec.toNat_ofInt]
  rw [Int.natCast_emod, Int.toNat_of_nonneg (Int.emod_nonneg _ (by decide))]
  rw [Int.emod_emod_of_dvd]
  have : ((2 : Nat) ^ 64 : Int) = ((2 ^ m : Nat) : Int) * ((2 ^ (64 - m) : Nat) : Int) := by
   rw [← Int.natCast_mul, ← Nat.pow_add, show m + (64 - m) = 64 by omega]; rfl
  exact ⟨_, this⟩
 have e3 : IntKind.i64.bits = 64 := rfl
 rw [e3, e2]
 have e4 : ((2 ^ m - 1 : Nat) : Int) + 1 = ((2 ^ m : Nat) : Int) := by omega
 rw [e4]
 have h1 := Int.emod_nonneg x (b := ((2 ^ m : Nat) : Int)) (by omega)
 have h2 := Int.emod_lt_of_pos x (b := ((2 ^ m : Nat) : Int)) (by omega)
 exact zj (by omega) (by omega)
theorem zdq (x : Int) : Vi .i64 x 255 = jW x 255 := and_low (m := 8) (by decide) x
theorem and1' (x : Int) : Vi .i64 x 1 = jW x 1 := and_low (m := 1) (by decide) x
def zG (x : zT) : AV := .agg [.int .i64 x.op, .int .i64 x.a, .int .i64 x.b, .int .i64 x.c.1, .int .i64 x.c.2]
def qx (l : List Nat) : AV := .slice (l.map fun k : Nat => .int .i64 (k : Int)) false
def zr (t : Tp) : AV := .agg [.int .i64 (t.n : Int), .slice (t.L.map zG) false, qx t.out]
theorem r8Op (o : Int) (p q : I) (hp : vB p = true) (hq : vB q = true) (H : AH) : zg E 261 [.int .i64 o, iv p, iv q] H (.ret (iv (jT o p q))) H := by
 refine zt zn zo Tryz.func261 rfl (by rfl) Tryz.ntmps261 (by kernel_rfl) (by simp) ?_
 simp
 refine zL (fun hc => ?_) (fun hc => ?_)
 ·have h4 : o = 4 := by simpa using hc
  simp
  refine zd (rNeg p hp _) ?_
  simp
  exact zv (rs := [.cell 6 48]) (by rfl) (by simp [ze, jT, h4]) (by simp [zh, noF])
 have h4 : ¬ o = 4 := by simpa using hc
 simp
 refine zL (fun hc => ?_) (fun hc => ?_)
 ·have h5 : o = 5 := by simpa using hc
  simp
  refine zd (rSquare p hp _) ?_
  simp
  exact zv (rs := [.cell 6 48]) (by rfl) (by simp [ze, jT, h5]) (by simp [zh, noF])
 have h5 : ¬ o = 5 := by simpa using hc
 simp
 refine zL (fun hc => ?_) (fun hc => ?_)
 ·have h6 : o = 6 := by simpa using hc
  simp
  refine zL (fun hc => ?_) (fun hc => ?_)
  ·have h0 : p.1 < 0 := by simpa using hc
   simp
   refine zd (Jm _) ?_
   simp
   exact zv (rs := [.cell 6 48]) (by rfl) (by simp [ze, jT, h6, Zg, h0]) (by simp [zh, noF])
  ·have h0 : ¬ p.1 < 0 := by simpa using hc
   have hb := qR hp
   simp
   refine zd (rSqrt p hp (by omega) _) ?_
   simp
   exact zv (rs := [.cell 6 48]) (by rfl) (by simp [ze, jT, h6, Zg, h0]) (by simp [zh, noF])
 have h6 : ¬ o = 6 := by simpa using hc
 simp
 refine zL (fun hc => ?_) (fun hc => ?_)
 ·have h7 : o = 7 := by simpa using hc
  simp
  refine zd (V3 p q hp hq _) ?_
  simp
  exact zv (rs := [.cell 6 48]) (by rfl) (by simp [ze, jT, h7]) (by simp [zh, noF])
 have h7 : ¬ o = 7 := by simpa using hc
 simp
 refine zL (fun hc => ?_) (fun hc => ?_)
 ·have h8 : o = 8 := by simpa using hc
  simp
  refine zd (rSub p q hp hq _) ?_
  simp
  exact zv (rs := [.cell 6 48]) (by rfl) (by simp [ze, jT, h8]) (by simp [zh, noF])
 have h8 : ¬ o = 8 := by simpa using hc
 simp
 refine zL (fun hc => ?_) (fun hc => ?_)
 ·have h9 : o = 9 := by simpa using hc
  simp
  refine zd (YE p q hp hq _) ?_
  simp
  exact zv (rs := [.cell 6 48]) (by rfl) (by simp [ze, jT, h9]) (by simp [zh, noF])
 have h9 : ¬ o = 9 := by simpa using hc
 simp
 refine zd (YF p q hp hq _) ?_
 simp
 exact zv (rs := [.cell 6 48]) (by rfl) (by simp [ze, jT, h4, h5, h6, h7, h8, h9]) (by simp [zh, noF])
@[simp] theorem bin_one (g : Nat) (H : AH) (z : Bool) : qe zp H .neq 139 (.func (.func g) [] []) .nilfunc z = some (.bool true, H) := by simp [qe, qY, jF, nilI]
@[simp] theorem bin_two (H : AH) (z : Bool) : qe zp H .neq 139 .nilfunc .nilfunc z = some (.bool false, H) := by simp [qe, qY, jF, nilI]
def ji (l : List I) (n : Nat) : List AV := (l ++ List.replicate (n - l.length) (0, 0)).map iv
theorem zbZ {l : List I} {n : Nat} (h : l.length ≤ n) : (ji l n).length = n := by simp [ji]; omega
theorem zbX {l : List I} {n : Nat} {p : I} (h : l.length < n) : (ji l n).set l.length (iv p) = ji (l ++ [p]) n := by
 unfold ji
 have e : List.replicate (n - l.length) ((0, 0) : I) = (0, 0) :: List.replicate (n - (l ++ [p]).length) (0, 0) := by
  rw [show n - l.length = (n - (l ++ [p]).length) + 1 by simp; omega, List.replicate_succ]
 rw [e]
 simp
theorem zbB {l : List I} {n k : Nat} (h : l.length ≤ k) (hk : k < n) : (ji l n)[k]? = some (iv (0, 0)) := by
 unfold ji
 rw [List.getElem?_map, List.getElem?_append_right h, List.getElem?_replicate, if_pos (by omega)]; rfl
theorem zb0 {l : List I} {n : Nat} (h : l.length = n) : ji l n = l.map iv := by simp [ji, h]
theorem zbY (n : Nat) : ji [] n = List.replicate n (iv (0, 0)) := by simp [ji]
theorem app_row {H : AH} {t e : TypeId} {i ie : TI} {x : AV} {l : List AV} {b n sz : Nat} {f : Bool} (hi : zp t = some i) (hd : i.d = .slice e) (he : zp e = some ie) (h1 : ie.size = sz) (h0 : 0 < sz) (hx : ([x].all fun y => y.cells.length == sz && y.cells.all qo) = true) (hz : (qF ie.zero).map List.length = some sz) (hb : ie.bytes ≤ 1000) (hn : l.length = n) (hnb : n ≤ 1000000000) (hH : H[b]? = some (.row true sz l)) :
  qn zp H t (.ref b n) (.slice [x] f) = some (.ref b (n + 1), H.set b (.row true sz (l ++ [x]))) := by
 subst hn
 have h2 : qn zp H t (.ref b l.length) (.slice [x] f) = jO ie H (.ref b l.length) [x] := by
  simp only [qn, hi, hd, he, jk]
  rw [if_neg (by simp), if_pos ⟨by omega, by rw [h1]; exact hz, by rw [h1]; exact hx⟩]
 have hk : (l.length + 1) * ie.bytes ≤ 1000000001 * 1000 := Nat.mul_le_mul (by omega) hb
 rw [h2]
 simp only [jO, hH]
 rw [if_pos (by simp [h1]; omega)]
 simp [h1]
theorem X8 {H : AH} {p : I} {l : List AV} {b n : Nat} {f : Bool} (hn : l.length = n) (hnb : n ≤ 1000000000) (hH : H[b]? = some (.row true 2 l)) :
  qn zp H 23 (.ref b n) (.slice [iv p] f) = some (.ref b (n + 1), H.set b (.row true 2 (l ++ [iv p]))) :=
 app_row tab23 rfl tab48 rfl (by decide) (by simp [qo]) (by simp) (by decide) hn hnb hH
def LRe (T : Tp) (x : List I) (t : I) (H : AH) (i : Nat) (fr : zx) (H' : AH) : Prop :=
 fr 1 = bx x ∧ fr 3 = .ptr H.length 1 0 0 ∧ fr 5 = .ptr (H.length + 1) 1 0 0 ∧ fr 8 = .slice [] true ∧ fr 9 = .int .i64 i ∧ i ≤ T.L.length ∧
 ∃ J, H' = H ++ J ∧ J[0]? = some (.row true 3 [zr T]) ∧ J[1]? = some (.row true 2 [iv t]) ∧ qr H J (fr 7) 2 ((qy (T.L.take i) x t).map iv) (.slice [] true) ∧ (∀ n, fr 7 ≠ .ref (H.length + 0) n) ∧ (∀ n, fr 7 ≠ .ref (H.length + 1) n)
def LRo (T : Tp) (l : List I) (H : AH) (i : Nat) (fr : zx) (H' : AH) : Prop :=
 fr 3 = .ptr H.length 1 0 0 ∧ fr 11 = .int .i64 i ∧ i ≤ T.out.length ∧
 ∃ J, H' = H ++ J ∧ J[0]? = some (.row true 3 [zr T]) ∧ qr H J (fr 8) 2 ((T.out.take i).map fun k : Nat => iv (qU l k)) (.slice [] true) ∧ (∀ n, fr 8 ≠ .ref (H.length + 0) n) ∧
  (T.out ≠ [] → ∃ kk, fr 7 = .ref (H.length + kk) l.length ∧ J[kk]? = some (.row true 2 (l.map iv)) ∧ ∀ n, fr 8 ≠ .ref (H.length + kk) n)
theorem r8Eval (T : Tp) (x : List I) (t : I) (hT : z8 T) (hx : zq x) (hxn : x.length = T.n) (ht : vB t = true) (H : AH) : zg E 220 [zr T, bx x, iv t] H (.ret (bx (Zl T x t))) H := by
 refine zt zn zo Tryz.func220 rfl (by rfl) Tryz.ntmps220 (by kernel_rfl) (by simp) ?_
 have hsm := hT.small
 simp [zr]
 refine zZ (LRe T x t H) (fun i => T.L.length - i) 0 ⟨by simp, by simp, by simp, by simp, by simp, by omega, _, rfl, by simp [zr], by simp, .inl ⟨by simp [qy], by simp⟩, by simp, by simp⟩ ?_
 rintro i fr H' ⟨g1, g3, g5, g8, g9, hi, J, rfl, hJ0, hJ1, hacc, hn0, hn1⟩
 have hJl : 1 < J.length := (gI.1 hJ1).1
 simp [g3, g9, hJ0, zr]
 refine zL (fun hc => ?_) (fun hc => ?_)
 ·have hlt : i < T.L.length := by simpa using hc
  obtain ⟨y, hy⟩ := zD hlt
  have hins := hT.ins i y hy
  have hnext : qy (T.L.take (i + 1)) x t = qy (T.L.take i) x t ++ [jC y (qy (T.L.take i) x t) x t] := by rw [List.take_add_one, hy]; exact Yk _ _ _ _
  have hlen : (qy (T.L.take i) x t).length = i := by rw [Xu]; simp; omega
  have hval : zq (qy (T.L.take i) x t) := Uz hx ht fun z hz => hT.num z (List.mem_of_mem_take hz)
  have w2 : IntKind.i64.wrap ((i : Int) + 1) = ((i + 1 : Nat) : Int) := by rw [zj (by omega) (by omega)]; omega
  have hyE : ∀ h, T.L[i]'h = y := fun h => (gI.1 hy).2
  have hpush : ∀ (L : AH) (p : I), jC y (qy (T.L.take i) x t) x t = p → ∃ v' J', qn zp (H ++ (J ++ L)) 23 (fr 7) (.slice [iv p] true) = some (v', H ++ J') ∧
    (∃ J2, H ++ J' = H ++ J2 ∧ J2[0]? = some (.row true 3 [zr T]) ∧ J2[1]? = some (.row true 2 [iv t]) ∧ qr H J2 v' 2 ((qy (T.L.take (i + 1)) x t).map iv) (.slice [] true) ∧ (∀ n, v' ≠ .ref (H.length + 0) n) ∧ (∀ n, v' ≠ .ref (H.length + 1) n)) := by
   intro L p hp
   obtain ⟨v', J', hap, hacc', hk, hle, hnew⟩ := qr.push (T := zp) (t := 23) (e := 48) (x := .slice [iv p] true) (ys := [iv p]) (hacc.len (L := L)) tab23 rfl tab48 rfl rfl (by simp [qo]) ⟨by decide, by simp⟩ (by rw [List.length_map, hlen]; dsimp only [List.length_cons, List.length_nil]; omega) (by rw [List.length_map, hlen]; dsimp only [List.length_cons, List.length_nil]; omega)
   have hnv : ∀ c, c < 2 → (∀ n, fr 7 ≠ .ref (H.length + c) n) → ∀ n, v' ≠ .ref (H.length + c) n := by
    intro c hc2 hf n hv
    rcases hnew c n hv with ⟨m, hm⟩ | hm
    ·exact hf m hm
    ·simp at hm; omega
   refine ⟨v', J', hap, J', rfl, hk 0 _ (zi hJ0) hn0, hk 1 _ (zi hJ1) hn1, ?_, hnv 0 (by omega) hn0, hnv 1 (by omega) hn1⟩
   rw [hnext, hp]
   simpa using hacc'
  obtain ⟨o, a, b, c⟩ := y
  rcases hins with ⟨h1, h2⟩ | ⟨h1, h2⟩ | h1 | h1 | h1
  ·simp only at h1
   subst h1
   obtain ⟨v', J', hap, hfin⟩ := hpush [.row true 5 [zG ⟨1, a, b, c⟩]] c (by simp [jC])
   simp [g1, g3, g5, g9, hy, hyE, zG, ↓old hJ0, hJ0, zr]
   refine bind_some (by simpa [zG] using hap) ?_
   simp [g9, w2]
   exact ⟨i + 1, by show T.L.length - (i + 1) < T.L.length - i; omega, by simp [g1], by simp [g3], by simp [g5], by simp [g8], by simp, by omega, hfin⟩
  ·simp only at h1 h2
   subst h1
   obtain ⟨k, rfl⟩ : ∃ k : Nat, a = k := ⟨a.toNat, by omega⟩
   obtain ⟨p, hp⟩ := zD (l := x) (i := k) (by omega)
   have hpE : ∀ h, x[k]'h = p := fun h => (gI.1 hp).2
   obtain ⟨v', J', hap, hfin⟩ := hpush [.row true 5 [zG ⟨2, k, b, c⟩]] p (by simp [jC, qU, hp])
   simp [g1, g3, g5, g9, hy, hyE, zG, ↓old hJ0, hJ0, zr, bx, hp, hpE]
   refine bind_some (by simpa [zG] using hap) ?_
   simp [g9, w2]
   exact ⟨i + 1, by show T.L.length - (i + 1) < T.L.length - i; omega, by simp [g1, bx], by simp [g3], by simp [g5], by simp [g8], by simp, by omega, hfin⟩
  ·simp only at h1
   subst h1
   obtain ⟨v', J', hap, hfin⟩ := hpush [.row true 5 [zG ⟨3, a, b, c⟩]] t (by simp [jC])
   simp [g1, g3, g5, g9, hy, hyE, zG, ↓old hJ0, ↓old hJ1, hJ0, zr]
   refine bind_some (by simpa [zG] using hap) ?_
   simp [g9, w2]
   exact ⟨i + 1, by show T.L.length - (i + 1) < T.L.length - i; omega, by simp [g1], by simp [g3], by simp [g5], by simp [g8], by simp, by omega, hfin⟩
  all_goals
   have h1' : 4 ≤ o ∧ o ≤ 10 ∧ 0 ≤ a ∧ a < i ∧ 0 ≤ b ∧ b < i := by simp only at h1; omega
   clear h1
   obtain ⟨h1, h2, h3, h4, h5, h6⟩ := h1'
   obtain ⟨k, rfl⟩ : ∃ k : Nat, a = k := ⟨a.toNat, by omega⟩
   obtain ⟨m, rfl⟩ : ∃ m : Nat, b = m := ⟨b.toNat, by omega⟩
   obtain ⟨p, hp⟩ := zD (l := qy (T.L.take i) x t) (i := k) (by omega)
   obtain ⟨q, hq⟩ := zD (l := qy (T.L.take i) x t) (i := m) (by omega)
   have hpE : ∀ h, (qy (T.L.take i) x t)[k]'h = p := fun h => (gI.1 hp).2
   have hqE : ∀ h, (qy (T.L.take i) x t)[m]'h = q := fun h => (gI.1 hq).2
   have hpv := hval p (List.mem_of_getElem? hp)
   have hqv := hval q (List.mem_of_getElem? hq)
   have e1 : (o == 1) = false := by simp; omega
   have e2 : (o == 2) = false := by simp; omega
   have e3 : (o == 3) = false := by simp; omega
   have hins : jC ⟨o, k, m, c⟩ (qy (T.L.take i) x t) x t = jT o p q := by
    have n1 : ¬ o = 1 := by omega
    have n2 : ¬ o = 2 := by omega
    have n3 : ¬ o = 3 := by omega
    simp [jC, n1, n2, n3, qU, hp, hq]
   rcases hacc with ⟨h0, _⟩ | ⟨kk, hv, hJk⟩
   ·have : (qy (T.L.take i) x t).length = 0 := by simpa using congrArg List.length h0
    omega
   rw [List.length_map, hlen] at hv
   have hkk0 : kk ≠ 0 := by intro e; subst e; exact hn0 i hv
   have hkk1 : kk ≠ 1 := by intro e; subst e; exact hn1 i hv
   have hkl : kk < J.length := (gI.1 hJk).1
   have hki : k < i := by omega
   have hmi : m < i := by omega
   simp [g1, g3, g5, g9, hv, hy, hyE, zG, ↓old hJ0, ↓old hJ1, hJ0, zr, e1, e2, e3, ↓old hJk, hJk, hlen, hp, hpE, hq, hqE, hki, hmi]
   refine zB (fun Hx => r8Op o p q hpv hqv Hx) ?_
   simp
   refine bind_some (X8 (p := jT o p q) (l := (qy (T.L.take i) x t).map iv) (by simp [hlen]) (by omega) (by simp [old hJk])) ?_
   simp [qZ hJk]
   refine zm [(6, 15), (7, 15), (11, 15), (12, 15)] (by rfl) (by simp [zl, zk, za.triv, za.wr, za.none, upTo, newAt]; omega) ?_
   simp [g9, w2]
   refine ⟨i + 1, by show T.L.length - (i + 1) < T.L.length - i; omega, by simp [g1], by simp [g3], by simp [g5], by simp [g8], by simp, by omega, _, rfl, zi ?_, zi ?_, ?_, ?_, ?_⟩
   ·rw [List.getElem?_set_ne hkk0]; exact hJ0
   ·rw [List.getElem?_set_ne hkk1]; exact hJ1
   ·rw [hnext, hins]
    exact .inr ⟨kk, by simp [hlen], by simpa using set_get' hJk⟩
   ·intro n; simp; omega
   ·intro n; simp; omega
 ·have hi' : i = T.L.length := by have : ¬ i < T.L.length := by simpa using hc
                                  omega
  subst hi'
  rw [List.take_length] at hacc
  have hol : T.out.length ≤ 1000 := by rw [hT.len]; exact hsm.1
  have hlen := Xu x t T.L
  have hval : zq (qy T.L x t) := Uz hx ht hT.num
  have hev : Zl T x t = T.out.map fun k : Nat => qU (qy T.L x t) (k : Int) := rfl
  rw [hev]
  generalize qy T.L x t = l at *
  simp
  refine zZ (LRo T l H) (fun i => T.out.length - i) 0 ⟨by simp [g3], by simp, by omega, J, rfl, hJ0, .inl ⟨by simp, by simp [g8]⟩, by simp [g8], ?_⟩ ?_
  ·intro hne
   rcases hacc with ⟨h0, _⟩ | ⟨kk, hv, hJk⟩
   ·exfalso
    have h0' : l = [] := by simpa using h0
    obtain ⟨o, r, ho⟩ := List.exists_cons_of_ne_nil hne
    have := hT.out o (by rw [ho]; simp)
    rw [h0'] at hlen; simp at hlen; omega
   ·exact ⟨kk, by simpa using hv, hJk, by simp [g8]⟩
  clear hJ0 hJ1 hJl g1 g3 g5 g8 g9 hi hc hacc hn0 hn1 hev
  rintro i fr H' ⟨g3, g11, hi, J', rfl, hJ0, hacc, hn0, hrd⟩
  have hJl : 0 < J'.length := (gI.1 hJ0).1
  simp [g3, g11, hJ0, zr, qx]
  refine zL (fun hc => ?_) (fun hc => ?_)
  ·have hlt : i < T.out.length := by simpa using hc
   obtain ⟨o, ho⟩ := zD hlt
   have hoE : ∀ h, T.out[i]'h = o := fun h => (gI.1 ho).2
   have hol2 : o < l.length := by rw [hlen]; exact hT.out o (List.mem_of_getElem? ho)
   obtain ⟨p, hp⟩ := zD (l := l) (i := o) hol2
   have hpE : ∀ h, l[o]'h = p := fun h => (gI.1 hp).2
   have w2 : IntKind.i64.wrap ((i : Int) + 1) = ((i + 1 : Nat) : Int) := by rw [zj (by omega) (by omega)]; omega
   obtain ⟨kk, hv, hJk, hne⟩ := hrd (by intro e; rw [e] at hlt; simp at hlt)
   obtain ⟨v', J2, hap, hacc', hk, hle, hnew⟩ := qr.push (T := zp) (t := 23) (e := 48) (x := .slice [iv p] true) (ys := [iv p]) hacc tab23 rfl tab48 rfl rfl (by simp [qo]) ⟨by decide, by simp⟩ (by rw [List.length_map, List.length_take]; dsimp only [List.length_cons, List.length_nil]; omega) (by rw [List.length_map, List.length_take]; dsimp only [List.length_cons, List.length_nil]; omega)
   have hnv : ∀ c, c < J'.length → (∀ n, fr 8 ≠ .ref (H.length + c) n) → ∀ n, v' ≠ .ref (H.length + c) n := by
    intro c hc2 hf n hv
    rcases hnew c n hv with ⟨m, hm⟩ | hm
    ·exact hf m hm
    ·omega
   have hft : T.out.take (i + 1) = T.out.take i ++ [o] := by rw [List.take_add_one, ho]; rfl
   simp [g3, g11, hv, hJ0, zr, qx, ho, hoE, hol2, hJk, hp, hpE]
   refine bind_some (by simpa using hap) ?_
   simp [g11, w2]
   refine ⟨i + 1, by show T.out.length - (i + 1) < T.out.length - i; omega, by simp [g3], by simp, by omega, J2, rfl, hk 0 _ hJ0 hn0, ?_, hnv 0 hJl hn0, fun _ => ⟨kk, by simp [hv], hk kk _ hJk hne, hnv kk (gI.1 hJk).1 hne⟩⟩
   rw [hft]
   simpa [qU, hp] using hacc'
  ·have hi' : i = T.out.length := by have : ¬ i < T.out.length := by simpa using hc
                                     omega
   subst hi'
   rw [List.take_length] at hacc
   simp
   have e : (T.out.map fun k : Nat => iv (qU l k)) = (T.out.map fun k : Nat => qU l k).map iv := by simp
   rw [e] at hacc
   exact ZO (t := 6) (by rfl) (by simp) hacc rfl (js _ _)
theorem r8Arity (op : Int) (H : AH) : zg E 104 [.int .i64 op] H (.ret (.int .i64 (qO op))) H := by
 refine zt zn zo Tryz.func104 rfl (by rfl) Tryz.ntmps104 (by kernel_rfl) (by simp) ?_
 by_cases h1 : 1 ≤ op
 ·by_cases h3 : op ≤ 3
  ·have e : qO op = 0 := by unfold qO; rw [if_pos (by omega)]
   simp [h1, h3]
   exact zY (rs := [.tmp 2]) (by rfl) (by simp [ze, e])
  ·by_cases h4 : op ≤ 6
   ·have e : qO op = 1 := by unfold qO; rw [if_neg (by omega), if_pos (by omega)]
    have h5 : 4 ≤ op := by omega
    simp [h1, h3, h4, h5]
    exact zY (rs := [.tmp 2]) (by rfl) (by simp [ze, e])
   ·by_cases h6 : op ≤ 10
    ·have e : qO op = 2 := by unfold qO; rw [if_neg (by omega), if_neg (by omega), if_pos (by omega)]
     have h5 : 4 ≤ op := by omega
     have h7 : 7 ≤ op := by omega
     simp [h1, h3, h4, h5, h6, h7]
     exact zY (rs := [.tmp 2]) (by rfl) (by simp [ze, e])
    ·have e : qO op = -1 := by unfold qO; rw [if_neg (by omega), if_neg (by omega), if_neg (by omega)]
     have h5 : 4 ≤ op := by omega
     have h7 : 7 ≤ op := by omega
     simp [h1, h3, h4, h5, h6, h7]
     exact zY (rs := [.tmp 2]) (by rfl) (by simp [ze, e])
 ·have e : qO op = -1 := by unfold qO; rw [if_neg (by omega), if_neg (by omega), if_neg (by omega)]
  have h5 : ¬ 4 ≤ op := by omega
  have h7 : ¬ 7 ≤ op := by omega
  simp [h1, h5, h7]
  exact zY (rs := [.tmp 2]) (by rfl) (by simp [ze, e])
theorem r8Same (x y : zT) (H : AH) : zg E 161 [zG x, zG y] H (.ret (.bool (decide (x = y)))) H := by
 refine zt zn zo Tryz.func161 rfl (by rfl) Tryz.ntmps161 (by kernel_rfl) (by simp) ?_
 have e : decide (x = y) = ((x.op == y.op && x.a == y.a) && x.b == y.b && x.c == y.c) := by
  rw [Bool.eq_iff_iff]; cases x; cases y; simp [and_assoc]
 rw [e]
 simp [zG]
 refine zdy (fun h1 => ?_) (fun h1 => ?_)
 ·simp [h1]
  refine zdy (fun h2 => ?_) (fun h2 => ?_)
  ·simp [h2]
   refine zdy (fun h3 => ?_) (fun h3 => ?_)
   ·simp [h3]
    refine zd (rSame2 x.c y.c _) ?_
    simp
    exact zv (rs := [.tmp 4]) (by rfl) (by simp [ze, h1, h2, h3]) (by simp [zh, noF])
   ·simp [h3]
    exact zv (rs := [.tmp 4]) (by rfl) (by simp [ze, h1, h2, h3]) (by simp [zh, noF])
  ·simp [h2]
   exact zv (rs := [.tmp 4]) (by rfl) (by simp [ze, h1, h2]) (by simp [zh, noF])
 ·simp [h1]
  exact zv (rs := [.tmp 4]) (by rfl) (by simp [ze, h1]) (by simp [zh, noF])
def lA (l : List zT) : AV := if l = [] then .nilslice else .slice (l.map zG) false
theorem zbn (l : List zT) (n : Nat) : zh n (l.map zG) = true := jL.2 fun x hx => by obtain ⟨y, _, rfl⟩ := List.mem_map.1 hx; simp [zG, noF, zh]
def LEm (l : List zT) (x : zT) (v : AV) (H : AH) (i : Nat) (fr : zx) (H' : AH) : Prop :=
 fr 0 = v ∧ fr 3 = .ptr H.length 1 0 0 ∧ fr 6 = .int .i64 i ∧ i ≤ l.length ∧ (∀ j y, j < i → l[j]? = some y → y ≠ x) ∧ H' = H ++ [.row true 5 [zG x]]
theorem r8Emit (l : List zT) (x : zT) (hl : l.length ≤ 100000) (H : AH) : zg E 105 [lA l, zG x] H (.ret (.tuple [lA (qS l x).1, .int .i64 (qS l x).2])) H := by
 refine zt zn zo Tryz.func105 rfl (by rfl) Tryz.ntmps105 (by kernel_rfl) (by simp) ?_
 simp
 refine zZ (LEm l x (lA l) H) (fun i => l.length - i) 0 ⟨by simp, by simp, by simp, by omega, by intro j y hj; omega, by simp [zG]⟩ ?_
 rintro i fr H' ⟨g0, g3, g6, hi, hno, rfl⟩
 have hend : ∀ (fr : zx), fr 0 = lA l → fr 3 = .ptr H.length 1 0 0 → fr 6 = .int .i64 l.length → (∀ j y, j < l.length → l[j]? = some y → y ≠ x) → ∀ J0 : AH, J0 = [.row true 5 [zG x]] →
   ∃ v' J', (∃ v1 J1, qn zp (H ++ J0) 42 (.slice [] true) (lA l) = some (v1, H ++ J1) ∧ J1[0]? = some (.row true 5 [zG x]) ∧ qn zp (H ++ J1) 42 v1 (.slice [zG x] true) = some (v', H ++ J')) ∧
    qr H J' v' 5 ((l ++ [x]).map zG) (.slice [] true) := by
  intro fr g0 g3 g6 hno J0 hJ0
  subst hJ0
  have hels : jk (H ++ [.row true 5 [zG x]]) (lA l) = some (l.map zG) := by
   unfold lA; split
   ·rename_i h; subst h; rfl
   ·rfl
  obtain ⟨v1, J1, hap, hacc, hk, _, hnew⟩ := qr.push (T := zp) (t := 42) (e := 165) (H := H) (J := [.row true 5 [zG x]]) (v := .slice [] true) (v0 := .slice [] true) (xs := []) (.inl ⟨rfl, rfl⟩) tab42 rfl tab165 rfl hels (by rw [List.all_eq_true]; intro z hz; obtain ⟨y, _, rfl⟩ := List.mem_map.1 hz; simp [zG, qo]) ⟨by decide, by simp⟩ (by simp; omega) (by simp; omega)
  have hJ10 : J1[0]? = some (.row true 5 [zG x]) := hk 0 _ rfl (by simp)
  obtain ⟨v2, J2, hap2, hacc2, _⟩ := qr.push (T := zp) (t := 42) (e := 165) (x := .slice [zG x] true) (ys := [zG x]) hacc tab42 rfl tab165 rfl rfl (by simp [zG, qo]) ⟨by decide, by simp⟩ (by simp; omega) (by simp; omega)
  exact ⟨v2, J2, ⟨v1, J1, hap, hJ10, hap2⟩, by simpa using hacc2⟩
 by_cases hl0 : l = []
 ·subst hl0
  have hi0 : i = 0 := by simpa using hi
  subst hi0
  have hlA : lA [] = .nilslice := rfl
  have he : qS [] x = ([x], 0) := rfl
  obtain ⟨v', J', ⟨v1, J1, ha1, hld, ha2⟩, hacc⟩ := hend fr g0 g3 g6 (by simp) _ rfl
  have hJ1l : 0 < J1.length := (gI.1 hld).1
  rw [he]
  simp [g0, g3, g6, hlA]
  refine bind_some (by simpa [zG, hlA] using ha1) ?_
  simp [g3, hld, zG]
  refine bind_some (by simpa [zG] using ha2) ?_
  simp [g0, hlA]
  rcases hacc with ⟨h0, _⟩ | ⟨kk, hv, hJk⟩
  ·simp at h0
  subst hv
  have hnl : lA [x] = .slice ([x].map zG) false := by unfold lA; rw [if_neg (by simp)]
  rw [hnl]
  exact qm (J := J') (J' := J'.set kk (.row false 5 ([x].map zG))) (rs := [.tmp 4, .tmp 5]) (vs := [.ref (H.length + kk) ([x].map zG).length, .int .i64 0]) (vs' := [.slice ([x].map zG) false, .int .i64 0]) (by rfl) (by simp [ze]) (by simp [hJk] <;> simpa using hJk) (by simp [zh, noF, zG]) rfl
 have hlA : lA l = .slice (l.map zG) false := by unfold lA; rw [if_neg hl0]
 simp [g0, g3, g6, hlA]
 refine zL (fun hc => ?_) (fun hc => ?_)
 ·have hlt : i < l.length := by simpa using hc
  obtain ⟨y, hy⟩ := zD hlt
  have hyE : ∀ h, l[i]'h = y := fun h => (gI.1 hy).2
  have w2 : IntKind.i64.wrap ((i : Int) + 1) = ((i + 1 : Nat) : Int) := by rw [zj (by omega) (by omega)]; omega
  simp [g0, g3, g6, hlA, hy, hyE, zG]
  refine zB (fun Hx => r8Same y x Hx) ?_
  simp
  refine zm [] (by rfl) (by simp [zl, zk, za.triv, za.wr, za.none, upTo, newAt]) ?_
  simp
  refine zL (fun hq => ?_) (fun hq => ?_)
  ·have hq' : y = x := by simpa using hq
   subst hq'
   have he : qS l y = (l, i) := by
    unfold qS
    rw [show l.findIdx? (fun z => decide (z = y)) = some i from by
     rw [List.findIdx?_eq_some_iff_getElem]
     refine ⟨hlt, by simp [hyE], fun j hj => ?_⟩
     simpa using hno j _ hj (List.getElem?_eq_getElem (by omega))]
   rw [he]
   simp [g0, g6, hlA]
   exact qm (J := [.row true 5 [zG y]]) (rs := [.tmp 4, .tmp 5]) (vs := [.slice (l.map zG) false, .int .i64 i]) (vs' := [.slice (l.map zG) false, .int .i64 i]) (by rfl) (by simp [ze, g0, g6, hlA]) (by simp; rfl) (by simp [zh, noF, zbn]) rfl
  ·have hq' : ¬ y = x := by simpa using hq
   simp [g6, w2]
   refine ⟨i + 1, by show l.length - (i + 1) < l.length - i; omega, by simp [g0, hlA], by simp [g3], by simp, by omega, fun j z hj hz => ?_, by simp [zG]⟩
   by_cases hji : j = i
   ·subst hji; rw [hy] at hz; cases hz; exact hq'
   ·exact hno j z (by omega) hz
 ·have hi' : i = l.length := by have : ¬ i < l.length := by simpa using hc
                                omega
  subst hi'
  have he : qS l x = (l ++ [x], l.length) := by
   unfold qS
   rw [show l.findIdx? (fun z => decide (z = x)) = none from by
    rw [List.findIdx?_eq_none_iff]
    intro z hz
    obtain ⟨j, hj⟩ := List.mem_iff_getElem?.1 hz
    simpa using hno j z (gI.1 hj).1 hj]
  rw [he]
  obtain ⟨v', J', ⟨v1, J1, ha1, hld, ha2⟩, hacc⟩ := hend fr g0 g3 g6 hno _ rfl
  simp [g0, g3, g6, hlA]
  refine bind_some (by simpa [zG, hlA] using ha1) ?_
  have hJ1l : 0 < J1.length := (gI.1 hld).1
  simp [g3, hld, zG]
  refine bind_some (by simpa [zG] using ha2) ?_
  simp [g0, hlA]
  rcases hacc with ⟨h0, _⟩ | ⟨kk, hv, hJk⟩
  ·simp at h0
  subst hv
  have hnl : lA (l ++ [x]) = .slice ((l ++ [x]).map zG) false := by unfold lA; rw [if_neg (by simp)]
  rw [hnl]
  exact qm (J := J') (J' := J'.set kk (.row false 5 ((l ++ [x]).map zG))) (rs := [.tmp 4, .tmp 5]) (vs := [.ref (H.length + kk) ((l ++ [x]).map zG).length, .int .i64 l.length]) (vs' := [.slice ((l ++ [x]).map zG) false, .int .i64 l.length]) (by rfl) (by simp [ze]) (by simp [hJk]) (by simp only [zh, noF, zbn, Bool.and_self]) rfl
def J3 (l : List I) (w : Int) (n : Nat) : List I := (List.range n).map fun k => ZL ((l[k]?).getD (0, 0)) w
theorem nrb_succ (l : List I) (w : Int) (n : Nat) : J3 l w (n + 1) = J3 l w n ++ [ZL ((l[n]?).getD (0, 0)) w] := by simp [J3, List.range_succ]
theorem zcH (l : List I) (w : Int) (n : Nat) : (J3 l w n).length = n := by simp [J3]
theorem nearI_valid (p : I) {w : Int} (hw : 1 ≤ w ∧ w ≤ 1000000) : vB (ZL p w) = true := near_valid p hw
theorem nrb_valid (l : List I) {w : Int} (hw : 1 ≤ w ∧ w ≤ 1000000) (n : Nat) : zq (J3 l w n) := fun p hp => by
 obtain ⟨k, _, rfl⟩ := List.mem_map.1 hp; exact nearI_valid _ hw
def LBo (l : List I) (w : Int) (n : Nat) (H : AH) (i : Nat) (fr : zx) (H' : AH) : Prop :=
 fr 0 = bx l ∧ fr 1 = .int .i64 n ∧ fr 2 = .int .i64 w ∧ fr 8 = .int .i64 i ∧ i ≤ n ∧ ∃ J, H' = H ++ J ∧ qr H J (fr 7) 2 ((J3 l w i).map iv) (.slice [] true)
theorem r8Boxes (l : List I) (n : Nat) (w : Int) (hn : n ≤ 1000000) (hw : 1 ≤ w ∧ w ≤ 1000000) (hl : l.length ≤ 200000000000000) (H : AH) : zg E 58 [bx l, .int .i64 n, .int .i64 w] H (.ret (bx (J3 l w n))) H := by
 refine zt zn zo Tryz.func58 rfl (by rfl) Tryz.ntmps58 (by kernel_rfl) (by simp) ?_
 simp [bx]
 refine zZ (LBo l w n H) (fun i => n - i) 0 ⟨by simp [bx], by simp, by simp, by simp, by omega, [], by simp, .inl ⟨by simp [J3], by simp⟩⟩ ?_
 rintro i fr H' ⟨g0, g1, g2, g8, hi, J, rfl, hacc⟩
 simp [g1, g8]
 refine zL (fun hc => ?_) (fun hc => ?_)
 ·have hlt : i < n := by simpa using hc
  have w2 : IntKind.i64.wrap ((i : Int) + 1) = ((i + 1 : Nat) : Int) := by rw [zj (by omega) (by omega)]; omega
  simp [g0, g8, bx]
  refine zL (fun hc2 => ?_) (fun hc2 => ?_)
  ·have hlt2 : i < l.length := by simpa using hc2
   obtain ⟨p, hp⟩ := zD hlt2
   have hpE : ∀ h, l[i]'h = p := fun h => (gI.1 hp).2
   simp [g0, g2, g8, bx, hp, hpE]
   refine zd (zdr p w hw _) ?_
   simp
   obtain ⟨v', J', hap, hacc', _⟩ := zcT (p := ZL p w) (hacc.len (L := [.row true 2 [iv p]])) rfl (by rw [zcH]; omega)
   refine bind_some (by simpa [iv] using hap) ?_
   simp [g8, w2]
   exact ⟨i + 1, by show n - (i + 1) < n - i; omega, by simp [g0, bx], by simp [g1], by simp [g2], by simp, by omega, J', rfl, by rw [nrb_succ]; simpa [hp] using hacc'⟩
  ·have hlt2 : l[i]? = none := by
    have : ¬ i < l.length := by simpa using hc2
    rw [List.getElem?_eq_none_iff]; omega
   simp [g2]
   refine zd (zdr (0, 0) w hw _) ?_
   simp
   obtain ⟨v', J', hap, hacc', _⟩ := zcT (p := ZL (0, 0) w) (hacc.len (L := [.row true 2 [iv (0, 0)]])) rfl (by rw [zcH]; omega)
   refine bind_some (by simpa [iv] using hap) ?_
   simp [g8, w2]
   exact ⟨i + 1, by show n - (i + 1) < n - i; omega, by simp [g0, bx], by simp [g1], by simp [g2], by simp, by omega, J', rfl, by rw [nrb_succ]; simpa [hlt2] using hacc'⟩
 ·have hi' : i = n := by have : ¬ i < n := by simpa using hc
                         omega
  subst hi'
  simp
  exact ZO (t := 6) (by rfl) (by simp) hacc rfl (js _ _)
theorem iSqrtN (p : I) (h0 : p.2 < 0) (H : AH) : zg E 182 [iv p] H (.ret (.tuple [iv (0, 0), .bool false])) H := by
 refine zt zn zo Tryz.func182 rfl (by rfl) Tryz.ntmps182 (by kernel_rfl) (by simp) ?_
 have h1 : zI p = false := by
  cases h : zI p with
  | false => rfl
  | true => rw [jw] at h; subst h; simp [ent] at h0
 simp
 refine zd (JF p _) ?_
 simp [h1, h0]
 exact qm (rs := [.cell 2 48, .tmp 3]) (vs := [iv (0, 0), .bool false]) (vs' := [iv (0, 0), .bool false]) (by rfl) (by simp [ze]) (by simp; rfl) (by simp [noF, zh]) rfl
theorem rSqrtN (p : I) (h0 : p.2 < 0) (H : AH) : zg E 192 [iv p] H (.ret (.tuple [iv (0, 0), .bool false])) H := by
 refine zt zn zo Tryz.func192 rfl (by rfl) Tryz.ntmps192 (by kernel_rfl) (by simp) ?_
 have h1 : zI p = false := by
  cases h : zI p with
  | false => rfl
  | true => rw [jw] at h; subst h; simp [ent] at h0
 simp
 refine zd (Jl p _) ?_
 simp [h1, h0]
 exact qm (rs := [.cell 2 48, .tmp 3]) (vs := [iv (0, 0), .bool false]) (vs' := [iv (0, 0), .bool false]) (by rfl) (by simp [ze]) (by simp; rfl) (by simp [noF, zh]) rfl
def Jf (p : I) : I := if p.2 < 0 then (0, 0) else sqrt p
theorem zdo (p : I) (hp : vB p = true) (H : AH) : zg E 182 [iv p] H (.ret (.tuple [iv (Jf p), .bool (decide (0 ≤ p.2))])) H := by
 by_cases h : p.2 < 0
 ·have e : Jf p = (0, 0) := by simp [Jf, h]
  have e2 : decide (0 ≤ p.2) = false := by simp; omega
  rw [e, e2]; exact iSqrtN p h H
 ·have e : Jf p = sqrt p := by simp [Jf, h]
  have e2 : decide (0 ≤ p.2) = true := by simp; omega
  rw [e, e2]; exact iSqrt p hp (by omega) H
theorem rSqrtA (p : I) (hp : vB p = true) (H : AH) : zg E 192 [iv p] H (.ret (.tuple [iv (Jf p), .bool (decide (0 ≤ p.2))])) H := by
 by_cases h : p.2 < 0
 ·have e : Jf p = (0, 0) := by simp [Jf, h]
  have e2 : decide (0 ≤ p.2) = false := by simp; omega
  rw [e, e2]; exact rSqrtN p h H
 ·have e : Jf p = sqrt p := by simp [Jf, h]
  have e2 : decide (0 ≤ p.2) = true := by simp; omega
  rw [e, e2]; exact rSqrt p hp (by omega) H
theorem zad {p : I} (hp : vB p = true) (h : 0 ≤ p.1) : Jf p = Zg p := by
 have := qR hp
 have h1 : ¬ p.2 < 0 := by omega
 have h2 : ¬ p.1 < 0 := by omega
 simp [Jf, Zg, h1, h2]
theorem sUnit (H : AH) : zg E 302 [] H (.ret (iv (65536, 65536))) H := by
 refine zt zn zo Tryz.func302 rfl (by rfl) Tryz.ntmps302 (by kernel_rfl) (by simp) ?_
 simp
 refine zd (zc0 _ _) ?_
 simp
 exact zv (rs := [.cell 0 48]) (by rfl) (by simp [ze, pt, mk, jH]) (by simp [zh, noF])
theorem YA (p : I) (H : AH) : zg E 262 [iv p] H (.ret (iv p)) H := by
 refine zt zn zo Tryz.func262 rfl (by rfl) Tryz.ntmps262 (by kernel_rfl) (by simp) ?_
 simp
 exact zv (rs := [.cell 2 48]) (by rfl) (by simp [ze]) (by simp [zh, noF])
theorem sDivide (p : I) (k : Int) (hp : vB p = true) (hk : 1 ≤ k ∧ k ≤ 1000000) (H : AH) : zg E 265 [iv p, .int .i64 k] H (.ret (iv (jM p 1 k))) H := by
 refine zt zn zo Tryz.func265 rfl (by rfl) Tryz.ntmps265 (by kernel_rfl) (by simp) ?_
 have w1 : IntKind.i64.wrap k = k := zj (by omega) (by omega)
 simp [w1]
 refine zd (iMulRatio p 1 k hp (by omega) (by omega) _) ?_
 simp
 exact zv (rs := [.cell 4 48]) (by rfl) (by simp [ze]) (by simp [zh, noF])
def qP : AV := .agg [zS 262, zS 180, zS 91, zS 234, zS 118, zS 181, zS 263, zS 264, zS 265]
theorem sIntervals (H : AH) : zg E 226 [] H (.ret qP) H := by
 refine zt zn zo Tryz.func226 rfl (by rfl) Tryz.ntmps226 (by kernel_rfl) (by simp) ?_
 simp
 exact zv (rs := [.cell 0 276]) (by rfl) (by simp [ze, qP, zS]) (by simp [zh, noF, qP, zS])
theorem zcS (H : AH) : zg E 248 [] H (.ret (iv (0, 0))) H := by
 refine zt zn zo Tryz.func248 rfl (by rfl) Tryz.ntmps248 (by kernel_rfl) (by simp) ?_
 simp
 exact zv (rs := [.cell 0 48]) (by rfl) (by simp [ze]) (by simp [zh, noF])
theorem r9One (H : AH) : zg E 249 [] H (.ret (iv (65536, 65536))) H := by
 refine zt zn zo Tryz.func249 rfl (by rfl) Tryz.ntmps249 (by kernel_rfl) (by simp) ?_
 simp
 refine zd (XD _ _) ?_
 simp
 exact zv (rs := [.cell 0 48]) (by rfl) (by simp [ze, pt, mk, jH]) (by simp [zh, noF])
theorem zdf (p : I) (hp : vB p = true) (H : AH) : zg E 288 [iv p] H (.ret (iv (Zg p))) H := by
 refine zt zn zo Tryz.func288 rfl (by rfl) Tryz.ntmps288 (by kernel_rfl) (by simp) ?_
 simp
 refine zd (rSqrtA p hp _) ?_
 simp
 refine zL (fun hc => ?_) (fun hc => ?_)
 ·have h0 : p.1 < 0 := by simpa using hc
  simp
  refine zd (Jm _) ?_
  simp
  exact zv (rs := [.cell 2 48]) (by rfl) (by simp [ze, Zg, h0]) (by simp [zh, noF])
 ·have h0 : ¬ p.1 < 0 := by simpa using hc
  simp
  exact zv (rs := [.cell 2 48]) (by rfl) (by simp [ze, zad hp (by omega)]) (by simp [zh, noF])
theorem convI_zero (a b : List I) (frm k : Nat) : qB a b frm 0 k = (0, 0) := rfl
theorem zaZ (a b : List I) (frm k : Nat) : qB a b frm 1 k = mul (zf a frm) (zf b (k - frm)) := rfl
theorem zaB (a b : List I) (frm m k : Nat) (hm : 0 < m) : qB a b frm (m + 1) k = add (qB a b frm m k) (mul (zf a (frm + m)) (zf b (k - (frm + m)))) := by
 cases m with
 | zero => omega
 | succ m => rfl
def LCv (a b : List I) (b1 b2 frm tt k : Nat) (H : AH) (i : Nat) (fr : zx) (H' : AH) : Prop :=
 fr 1 = .ref b1 a.length ∧ fr 2 = .ref b2 b.length ∧ fr 3 = .int .i64 frm ∧ fr 4 = .int .i64 ((tt : Int) - 1) ∧ fr 5 = .int .i64 k ∧ fr 6 = .ptr H.length 1 0 0 ∧ fr 12 = .ptr (H.length + 1) 1 0 0 ∧ fr 13 = .ptr (H.length + 2) 1 0 0 ∧ fr 14 = .int .i64 i ∧ frm ≤ i ∧ i ≤ tt ∧
 ∃ J, H' = H ++ J ∧ J[0]? = some (.row true 9 [qP]) ∧ J[1]? = some (.row true 2 [iv (0, 0)]) ∧ J[2]? = some (.row true 2 [iv (qB a b frm (i - frm) k)])
theorem sConvolve (a b : List I) (b1 b2 frm tt k : Nat) (w1 w2 : Bool) (ha : zq a) (hb : zq b) (hft : frm ≤ tt) (hta : tt ≤ a.length) (htk : tt ≤ k + 1) (hkb : tt = frm ∨ k - frm < b.length) (hk : k ≤ 1000000) (H : AH) (hb1 : H[b1]? = some (.row w1 2 (a.map iv))) (hb2 : H[b2]? = some (.row w2 2 (b.map iv))) :
  zg E 299 [qP, .ref b1 a.length, .ref b2 b.length, .int .i64 frm, .int .i64 ((tt : Int) - 1), .int .i64 k] H (.ret (iv (qB a b frm (tt - frm) k))) H := by
 refine zt zn zo Tryz.func299 rfl (by rfl) Tryz.ntmps299 (by kernel_rfl) (by simp) ?_
 have hl1 := (gI.1 hb1).1
 have hl2 := (gI.1 hb2).1
 simp [qP, zS]
 refine zd (YA (0, 0) _) ?_
 simp
 refine zZ (LCv a b b1 b2 frm tt k H) (fun i => tt - i) frm ⟨by simp, by simp, by simp, by simp, by simp, by simp, by simp, by simp, by simp, by omega, hft, _, rfl, by simp [qP, zS], by simp, by simp [convI_zero]⟩ ?_
 rintro i fr H' ⟨g1, g2, g3, g4, g5, g6, g12, g13, g14, hfi, hi, J, rfl, hJ0, hJ1, hJ2⟩
 have hJl : 2 < J.length := (gI.1 hJ2).1
 simp [g4, g14]
 refine zL (fun hc => ?_) (fun hc => ?_)
 ·have hlt : i < tt := by simp at hc; omega
  obtain ⟨p, hp⟩ := zD (l := a) (i := i) (by omega)
  obtain ⟨q, hq⟩ := zD (l := b) (i := k - i) (by omega)
  have hpE : ∀ h, a[i]'h = p := fun h => (gI.1 hp).2
  have hqE : ∀ h, b[k - i]'h = q := fun h => (gI.1 hq).2
  have hpv := ha p (List.mem_of_getElem? hp)
  have hqv := hb q (List.mem_of_getElem? hq)
  have wk : IntKind.i64.wrap ((k : Int) - (i : Int)) = ((k - i : Nat) : Int) := by rw [zj (by omega) (by omega)]; omega
  have wi : IntKind.i64.wrap ((i : Int) + 1) = ((i + 1 : Nat) : Int) := by rw [zj (by omega) (by omega)]; omega
  have hia : i < a.length := by omega
  have hkb2 : k - i < b.length := by omega
  simp [g1, g2, g3, g5, g6, g14, ↓old hJ0, hJ0, qP, zS, hb1, hb2, zi hb1, zi hb2, hp, hpE, hq, hqE, wk, hia, hkb2]
  refine zB (fun Hx => Y2 p q hpv hqv Hx) ?_
  simp
  refine zm [(13, 14)] (by rfl) (by simp [zl, zk, za.triv, za.wr, za.none, upTo, newAt]; exact ⟨fun h => by rw [h] at hJl; simp at hJl, by omega, by omega⟩) ?_
  simp [g3, g14]
  have hm : mul p q = mul (zf a i) (zf b (k - i)) := by simp [zf, hp, hq]
  have fin : ∀ (r : I) (K : AH), r = qB a b frm (i + 1 - frm) k → ∃ J2, H ++ ((J.set 2 (.row true 2 [iv r])) ++ K) = H ++ J2 ∧ J2[0]? = some (.row true 9 [qP]) ∧ J2[1]? = some (.row true 2 [iv (0, 0)]) ∧ J2[2]? = some (.row true 2 [iv (qB a b frm (i + 1 - frm) k)]) := by
   intro r K hr
   refine ⟨_, rfl, zi ?_, zi ?_, ?_⟩
   ·rw [List.getElem?_set_ne (by omega)]; exact hJ0
   ·rw [List.getElem?_set_ne (by omega)]; exact hJ1
   ·rw [hr]; exact set_get' hJ2
  refine zL (fun hq2 => ?_) (fun hq2 => ?_)
  ·have hgt : frm < i := by simp at hq2; omega
   have hcs : add (qB a b frm (i - frm) k) (mul p q) = qB a b frm (i + 1 - frm) k := by
    rw [show i + 1 - frm = (i - frm) + 1 by omega, zaB _ _ _ _ _ (by omega), show frm + (i - frm) = i by omega, hm]
   have hcv := Ve a b frm (i - frm) k
   simp [g6, g13, ↓old hJ0, qP, zS, ↓old hJ2, qZ hJ2]
   refine zd (V8 _ _ hcv jU _) ?_
   simp [g13, g14, wi, ↓old hJ2, qZ hJ2]
   exact ⟨i + 1, by show tt - (i + 1) < tt - i; omega, by simp [g1], by simp [g2], by simp [g3], by simp [g4], by simp [g5], by simp [g6], by simp [g12], by simp [g13], by simp, by omega, by omega, fin _ _ hcs⟩
  ·have heq : i = frm := by simp at hq2; omega
   subst heq
   have hcs : mul p q = qB a b i (i + 1 - i) k := by
    rw [show i + 1 - i = 1 by omega, zaZ, hm]
   simp [g13, g14, wi, ↓old hJ2, qZ hJ2]
   exact ⟨i + 1, by show tt - (i + 1) < tt - i; omega, by simp [g1], by simp [g2], by simp [g3], by simp [g4], by simp [g5], by simp [g6], by simp [g12], by simp [g13], by simp, by omega, by omega, fin _ _ hcs⟩
 ·have hi' : i = tt := by simp at hc; omega
  subst hi'
  simp [g12, g13, hJ1, hJ2]
  exact zv (rs := [.cell 12 48]) (by rfl) (by simp [ze, g12, Jh hJ1]) (by simp [zh, noF])
def VN (H : AH) (v : AV) (q : List I) : Prop := (q = [] ∧ (v = .nilslice ∨ v = .slice [] true)) ∨ ∃ b w, v = .ref b q.length ∧ H[b]? = some (.row w 2 (q.map iv))
def LNq (a b q : List I) (ba bb bq : Nat) (H : AH) (i : Nat) (fr : zx) (H' : AH) : Prop :=
 fr 0 = .ref ba a.length ∧ fr 1 = .ref bb b.length ∧ fr 2 = .ref bq q.length ∧ fr 6 = .ptr H.length 1 0 0 ∧ fr 7 = .int .i64 q.length ∧ fr 8 = .ptr (H.length + 1) 1 0 0 ∧ fr 9 = .int .i64 i ∧ 1 ≤ i ∧ i ≤ q.length + 1 ∧
 ∃ J, H' = H ++ J ∧ J[0]? = some (.row true 2 [iv (0, 0)]) ∧ J[1]? = some (.row true 2 [iv (qB b q 1 (i - 1) q.length)])
theorem sNextQuotient (a b q : List I) (ba bb : Nat) (w1 w2 : Bool) (v : AV) (ha : zq a) (hb : zq b) (hq : zq q) (hal : q.length < a.length) (hbl : q.length < b.length) (hk : q.length ≤ 1000000) (H : AH) (hba : H[ba]? = some (.row w1 2 (a.map iv))) (hbb : H[bb]? = some (.row w2 2 (b.map iv))) (hv : VN H v q) :
  zg E 263 [.ref ba a.length, .ref bb b.length, v] H (.ret (iv (Zu a b q))) H := by
 refine zt zn zo Tryz.func263 rfl (by rfl) Tryz.ntmps263 (by kernel_rfl) (by simp) ?_
 have hl1 := (gI.1 hba).1
 have hl2 := (gI.1 hbb).1
 obtain ⟨a0, ha0⟩ := zD (l := a) (i := 0) (by omega)
 obtain ⟨b0, hb0⟩ := zD (l := b) (i := 0) (by omega)
 have ha0E : ∀ h, a[0]'h = a0 := fun h => (gI.1 ha0).2
 have hb0E : ∀ h, b[0]'h = b0 := fun h => (gI.1 hb0).2
 have ha0v := ha a0 (List.mem_of_getElem? ha0)
 have hb0v := hb b0 (List.mem_of_getElem? hb0)
 have hap : 0 < a.length := by omega
 have hbp : 0 < b.length := by omega
 rcases hv with ⟨rfl, rfl | rfl⟩ | ⟨bq, w, rfl, hbq⟩
 ·simp [hba, hbb, zi hba, zi hbb, ha0, ha0E, hb0, hb0E, hap, hbp]
  refine zB (fun Hx => Y3 a0 b0 ha0v hb0v Hx) ?_
  simp
  refine zm [] (by rfl) (by simp [zl, zk, za.triv, za.wr, za.none, upTo, newAt]; omega) ?_
  simp
  exact zv (rs := [.cell 6 48]) (by rfl) (by simp [ze, Zu, zf, ha0, hb0]) (by simp [zh, noF])
 ·simp [hba, hbb, zi hba, zi hbb, ha0, ha0E, hb0, hb0E, hap, hbp]
  refine zB (fun Hx => Y3 a0 b0 ha0v hb0v Hx) ?_
  simp
  refine zm [] (by rfl) (by simp [zl, zk, za.triv, za.wr, za.none, upTo, newAt]; omega) ?_
  simp
  exact zv (rs := [.cell 6 48]) (by rfl) (by simp [ze, Zu, zf, ha0, hb0]) (by simp [zh, noF])
 by_cases hq0 : q = []
 ·subst hq0
  simp [hba, hbb, zi hba, zi hbb, ha0, ha0E, hb0, hb0E, hap, hbp, hbq, zi hbq]
  refine zB (fun Hx => Y3 a0 b0 ha0v hb0v Hx) ?_
  simp
  refine zm [] (by rfl) (by simp [zl, zk, za.triv, za.wr, za.none, upTo, newAt]; omega) ?_
  simp
  exact zv (rs := [.cell 6 48]) (by rfl) (by simp [ze, Zu, zf, ha0, hb0]) (by simp [zh, noF])
 have hql : 0 < q.length := List.length_pos_iff.2 hq0
 have hl3 := (gI.1 hbq).1
 have hne : ((q.length : Int) == 0) = false := by rw [beq_eq_false_iff_ne]; omega
 simp [hbq, zi hbq, hne]
 refine zZ (LNq a b q ba bb bq H) (fun i => q.length + 1 - i) 1 ⟨by simp, by simp, by simp, by simp, by simp, by simp, by simp, by omega, by omega, _, rfl, by simp, by simp [qB, Xx]⟩ ?_
 rintro i fr H' ⟨g0, g1, g2, g6, g7, g8, g9, h1i, hi, J, rfl, hJ0, hJ1⟩
 have hJl : 1 < J.length := (gI.1 hJ1).1
 simp [g7, g9]
 refine zL (fun hc => ?_) (fun hc => ?_)
 ·have hlt : i ≤ q.length := by simp at hc; omega
  obtain ⟨p, hp⟩ := zD (l := b) (i := i) (by omega)
  obtain ⟨r, hr⟩ := zD (l := q) (i := q.length - i) (by omega)
  have hpE : ∀ h, b[i]'h = p := fun h => (gI.1 hp).2
  have hrE : ∀ h, q[q.length - i]'h = r := fun h => (gI.1 hr).2
  have hpv := hb p (List.mem_of_getElem? hp)
  have hrv := hq r (List.mem_of_getElem? hr)
  have wk : IntKind.i64.wrap ((q.length : Int) - (i : Int)) = ((q.length - i : Nat) : Int) := by rw [zj (by omega) (by omega)]; omega
  have wi : IntKind.i64.wrap ((i : Int) + 1) = ((i + 1 : Nat) : Int) := by rw [zj (by omega) (by omega)]; omega
  have hia : i < b.length := by omega
  have hkb2 : q.length - i < q.length := by omega
  simp [g0, g1, g2, g7, g9, hbb, hbq, zi hbb, zi hbq, hp, hpE, hr, hrE, wk, hia, hkb2]
  refine zB (fun Hx => Y2 p r hpv hrv Hx) ?_
  simp
  refine zm [(11, 12)] (by rfl) (by simp [zl, zk, za.triv, za.wr, za.none, upTo, newAt]; omega) ?_
  simp [g9]
  have hm : mul p r = mul (zf b i) (zf q (q.length - i)) := by simp [zf, hp, hr]
  have fin : ∀ (z : I) (K : AH), z = qB b q 1 i q.length → ∃ J2, H ++ ((J.set 1 (.row true 2 [iv z])) ++ K) = H ++ J2 ∧ J2[0]? = some (.row true 2 [iv (0, 0)]) ∧ J2[1]? = some (.row true 2 [iv (qB b q 1 (i + 1 - 1) q.length)]) := by
   intro z K hz
   refine ⟨_, rfl, zi ?_, ?_⟩
   ·rw [List.getElem?_set_ne (by omega)]; exact hJ0
   ·rw [hz]; exact set_get' hJ1
  refine zL (fun hq2 => ?_) (fun hq2 => ?_)
  ·have hgt : 1 < i := by simp at hq2; omega
   have hcs : add (qB b q 1 (i - 1) q.length) (mul p r) = qB b q 1 i q.length := by
    have := zaB b q 1 (i - 1) q.length (by omega)
    rw [show i - 1 + 1 = i by omega, show 1 + (i - 1) = i by omega] at this
    rw [this, hm]
   have hcv := Ve b q 1 (i - 1) q.length
   simp [g8, ↓old hJ1, qZ hJ1]
   refine zd (V8 _ _ hcv jU _) ?_
   simp [g8, g9, wi, ↓old hJ1, qZ hJ1]
   exact ⟨i + 1, by show q.length + 1 - (i + 1) < q.length + 1 - i; omega, by simp [g0], by simp [g1], by simp [g2], by simp [g6], by simp [g7], by simp [g8], by simp, by omega, by omega, fin _ _ hcs⟩
  ·have heq : i = 1 := by simp at hq2; omega
   subst heq
   have hcs : mul p r = qB b q 1 1 q.length := by rw [zaZ, hm]
   have wr2 : IntKind.i64.wrap 2 = 2 := zj (by decide) (by decide)
   simp [g8, g9, wr2, ↓old hJ1, qZ hJ1]
   exact ⟨2, by show q.length + 1 - 2 < q.length + 1 - 1; omega, by simp [g0], by simp [g1], by simp [g2], by simp [g6], by simp [g7], by simp [g8], by simp, by omega, by omega, fin _ _ hcs⟩
 ·have hi' : i = q.length + 1 := by simp at hc; omega
  subst hi'
  rw [show q.length + 1 - 1 = q.length by omega] at hJ1
  obtain ⟨p, hp⟩ := zD hal
  have hpE : ∀ h, a[q.length]'h = p := fun h => (gI.1 hp).2
  have hpv := ha p (List.mem_of_getElem? hp)
  have hcv := Ve b q 1 q.length q.length
  simp [g0, g1, g6, g7, g8, hba, hbb, zi hba, zi hbb, hp, hpE, hb0, hb0E, hal, hbp, hJ1]
  refine zB (fun Hx => Wm p _ hpv hcv Hx) ?_
  simp [g1, hbb, zi hbb, hb0, hb0E, hbp]
  refine zB (fun Hx => Y3 _ b0 (Xy hpv hcv) hb0v Hx) ?_
  simp [g6, hJ0]
  refine zm [] (by rfl) (by simp [zl, zk, za.triv, za.wr, za.none, upTo, newAt]; omega) ?_
  simp [g6]
  exact zv (rs := [.cell 6 48]) (by rfl) (by simp [ze, g6, Jh hJ0, Zu, hq0, zf, hp, hb0]) (by simp [zh, noF])
theorem r9NextQuotient (a b q : List I) (ba bb : Nat) (w1 w2 : Bool) (v : AV) (ha : zq a) (hb : zq b) (hq : zq q) (hal : q.length < a.length) (hbl : q.length < b.length) (hk : q.length ≤ 1000000) (H : AH) (hba : H[ba]? = some (.row w1 2 (a.map iv))) (hbb : H[bb]? = some (.row w2 2 (b.map iv))) (hv : VN H v q) :
  zg E 251 [.ref ba a.length, .ref bb b.length, v] H (.ret (iv (Zu a b q))) H := by
 refine zt zn zo Tryz.func251 rfl (by rfl) Tryz.ntmps251 (by kernel_rfl) (by simp) ?_
 have hl1 := (gI.1 hba).1
 have hl2 := (gI.1 hbb).1
 obtain ⟨a0, ha0⟩ := zD (l := a) (i := 0) (by omega)
 obtain ⟨b0, hb0⟩ := zD (l := b) (i := 0) (by omega)
 have ha0E : ∀ h, a[0]'h = a0 := fun h => (gI.1 ha0).2
 have hb0E : ∀ h, b[0]'h = b0 := fun h => (gI.1 hb0).2
 have ha0v := ha a0 (List.mem_of_getElem? ha0)
 have hb0v := hb b0 (List.mem_of_getElem? hb0)
 have hap : 0 < a.length := by omega
 have hbp : 0 < b.length := by omega
 rcases hv with ⟨rfl, rfl | rfl⟩ | ⟨bq, w, rfl, hbq⟩
 ·simp [hba, hbb, zi hba, zi hbb, ha0, ha0E, hb0, hb0E, hap, hbp]
  refine zB (fun Hx => YF a0 b0 ha0v hb0v Hx) ?_
  simp
  refine zm [] (by rfl) (by simp [zl, zk, za.triv, za.wr, za.none, upTo, newAt]; omega) ?_
  simp
  exact zv (rs := [.cell 6 48]) (by rfl) (by simp [ze, Zu, zf, ha0, hb0]) (by simp [zh, noF])
 ·simp [hba, hbb, zi hba, zi hbb, ha0, ha0E, hb0, hb0E, hap, hbp]
  refine zB (fun Hx => YF a0 b0 ha0v hb0v Hx) ?_
  simp
  refine zm [] (by rfl) (by simp [zl, zk, za.triv, za.wr, za.none, upTo, newAt]; omega) ?_
  simp
  exact zv (rs := [.cell 6 48]) (by rfl) (by simp [ze, Zu, zf, ha0, hb0]) (by simp [zh, noF])
 by_cases hq0 : q = []
 ·subst hq0
  simp [hba, hbb, zi hba, zi hbb, ha0, ha0E, hb0, hb0E, hap, hbp, hbq, zi hbq]
  refine zB (fun Hx => YF a0 b0 ha0v hb0v Hx) ?_
  simp
  refine zm [] (by rfl) (by simp [zl, zk, za.triv, za.wr, za.none, upTo, newAt]; omega) ?_
  simp
  exact zv (rs := [.cell 6 48]) (by rfl) (by simp [ze, Zu, zf, ha0, hb0]) (by simp [zh, noF])
 have hql : 0 < q.length := List.length_pos_iff.2 hq0
 have hl3 := (gI.1 hbq).1
 have hne : ((q.length : Int) == 0) = false := by rw [beq_eq_false_iff_ne]; omega
 simp [hbq, zi hbq, hne]
 refine zd (zcS _) ?_
 simp
 refine zZ (LNq a b q ba bb bq H) (fun i => q.length + 1 - i) 1 ⟨by simp, by simp, by simp, by simp, by simp, by simp, by simp, by omega, by omega, _, rfl, by simp, by simp [qB, Xx]⟩ ?_
 rintro i fr H' ⟨g0, g1, g2, g6, g7, g8, g9, h1i, hi, J, rfl, hJ0, hJ1⟩
 have hJl : 1 < J.length := (gI.1 hJ1).1
 simp [g7, g9]
 refine zL (fun hc => ?_) (fun hc => ?_)
 ·have hlt : i ≤ q.length := by simp at hc; omega
  obtain ⟨p, hp⟩ := zD (l := b) (i := i) (by omega)
  obtain ⟨r, hr⟩ := zD (l := q) (i := q.length - i) (by omega)
  have hpE : ∀ h, b[i]'h = p := fun h => (gI.1 hp).2
  have hrE : ∀ h, q[q.length - i]'h = r := fun h => (gI.1 hr).2
  have hpv := hb p (List.mem_of_getElem? hp)
  have hrv := hq r (List.mem_of_getElem? hr)
  have wk : IntKind.i64.wrap ((q.length : Int) - (i : Int)) = ((q.length - i : Nat) : Int) := by rw [zj (by omega) (by omega)]; omega
  have wi : IntKind.i64.wrap ((i : Int) + 1) = ((i + 1 : Nat) : Int) := by rw [zj (by omega) (by omega)]; omega
  have hia : i < b.length := by omega
  have hkb2 : q.length - i < q.length := by omega
  simp [g0, g1, g2, g7, g9, hbb, hbq, zi hbb, zi hbq, hp, hpE, hr, hrE, wk, hia, hkb2]
  refine zB (fun Hx => YE p r hpv hrv Hx) ?_
  simp
  refine zm [(11, 12)] (by rfl) (by simp [zl, zk, za.triv, za.wr, za.none, upTo, newAt]; omega) ?_
  simp [g9]
  have hm : mul p r = mul (zf b i) (zf q (q.length - i)) := by simp [zf, hp, hr]
  have fin : ∀ (z : I) (K : AH), z = qB b q 1 i q.length → ∃ J2, H ++ ((J.set 1 (.row true 2 [iv z])) ++ K) = H ++ J2 ∧ J2[0]? = some (.row true 2 [iv (0, 0)]) ∧ J2[1]? = some (.row true 2 [iv (qB b q 1 (i + 1 - 1) q.length)]) := by
   intro z K hz
   refine ⟨_, rfl, zi ?_, ?_⟩
   ·rw [List.getElem?_set_ne (by omega)]; exact hJ0
   ·rw [hz]; exact set_get' hJ1
  refine zL (fun hq2 => ?_) (fun hq2 => ?_)
  ·have heq : i = 1 := by simp at hq2; omega
   subst heq
   have hcs : mul p r = qB b q 1 1 q.length := by rw [zaZ, hm]
   have wr2 : IntKind.i64.wrap 2 = 2 := zj (by decide) (by decide)
   simp [g8, g9, wr2, ↓old hJ1, qZ hJ1]
   exact ⟨2, by show q.length + 1 - 2 < q.length + 1 - 1; omega, by simp [g0], by simp [g1], by simp [g2], by simp [g6], by simp [g7], by simp [g8], by simp, by omega, by omega, fin _ _ hcs⟩
  ·have hgt : 1 < i := by simp at hq2; omega
   have hcs : add (qB b q 1 (i - 1) q.length) (mul p r) = qB b q 1 i q.length := by
    have := zaB b q 1 (i - 1) q.length (by omega)
    rw [show i - 1 + 1 = i by omega, show 1 + (i - 1) = i by omega] at this
    rw [this, hm]
   have hcv := Ve b q 1 (i - 1) q.length
   simp [g8, ↓old hJ1, qZ hJ1]
   refine zd (V3 _ _ hcv jU _) ?_
   simp [g8, g9, wi, ↓old hJ1, qZ hJ1]
   exact ⟨i + 1, by show q.length + 1 - (i + 1) < q.length + 1 - i; omega, by simp [g0], by simp [g1], by simp [g2], by simp [g6], by simp [g7], by simp [g8], by simp, by omega, by omega, fin _ _ hcs⟩
 ·have hi' : i = q.length + 1 := by simp at hc; omega
  subst hi'
  rw [show q.length + 1 - 1 = q.length by omega] at hJ1
  obtain ⟨p, hp⟩ := zD hal
  have hpE : ∀ h, a[q.length]'h = p := fun h => (gI.1 hp).2
  have hpv := ha p (List.mem_of_getElem? hp)
  have hcv := Ve b q 1 q.length q.length
  simp [g0, g1, g6, g7, g8, hba, hbb, zi hba, zi hbb, hp, hpE, hb0, hb0E, hal, hbp, hJ1]
  refine zB (fun Hx => rSub p _ hpv hcv Hx) ?_
  simp [g1, hbb, zi hbb, hb0, hb0E, hbp]
  refine zB (fun Hx => YF _ b0 (Xy hpv hcv) hb0v Hx) ?_
  simp [g6, hJ0]
  refine zm [] (by rfl) (by simp [zl, zk, za.triv, za.wr, za.none, upTo, newAt]; omega) ?_
  simp [g6]
  exact zv (rs := [.cell 6 48]) (by rfl) (by simp [ze, g6, Jh hJ0, Zu, hq0, zf, hp, hb0]) (by simp [zh, noF])
def VA (frm tt k : Nat) : AV := .agg [.int .i64 frm, .int .i64 ((tt : Int) - 1), .int .i64 k]
def LCw (a b : List I) (b1 b2 frm tt k : Nat) (H : AH) (i : Nat) (fr : zx) (H' : AH) : Prop :=
 fr 0 = .ref b1 a.length ∧ fr 1 = .ref b2 b.length ∧ fr 5 = .ptr H.length 1 0 0 ∧ fr 6 = .ptr (H.length + 1) 1 0 0 ∧ fr 7 = .ptr (H.length + 2) 1 0 0 ∧ fr 8 = .int .i64 i ∧ frm ≤ i ∧ i ≤ tt ∧
 ∃ J, H' = H ++ J ∧ J[0]? = some (.row true 3 [VA frm tt k]) ∧ J[1]? = some (.row true 2 [iv (0, 0)]) ∧ J[2]? = some (.row true 2 [iv (qB a b frm (i - frm) k)])
theorem r9Convolved (a b : List I) (b1 b2 frm tt k : Nat) (w1 w2 : Bool) (ha : zq a) (hb : zq b) (hft : frm ≤ tt) (hta : tt ≤ a.length) (htk : tt ≤ k + 1) (hkb : tt = frm ∨ k - frm < b.length) (hk : k ≤ 1000000) (H : AH) (hb1 : H[b1]? = some (.row w1 2 (a.map iv))) (hb2 : H[b2]? = some (.row w2 2 (b.map iv))) :
  zg E 250 [.ref b1 a.length, .ref b2 b.length, VA frm tt k] H (.ret (iv (qB a b frm (tt - frm) k))) H := by
 refine zt zn zo Tryz.func250 rfl (by rfl) Tryz.ntmps250 (by kernel_rfl) (by simp) ?_
 have hl1 := (gI.1 hb1).1
 have hl2 := (gI.1 hb2).1
 simp [VA]
 refine zd (zcS _) ?_
 simp
 refine zZ (LCw a b b1 b2 frm tt k H) (fun i => tt - i) frm ⟨by simp, by simp, by simp, by simp, by simp, by simp, by omega, hft, _, rfl, by simp [VA], by simp, by simp [convI_zero]⟩ ?_
 rintro i fr H' ⟨g0, g1, g5, g6, g7, g8, hfi, hi, J, rfl, hJ0, hJ1, hJ2⟩
 have hJl : 2 < J.length := (gI.1 hJ2).1
 simp [g5, g8, hJ0, VA]
 refine zL (fun hc => ?_) (fun hc => ?_)
 ·have hlt : i < tt := by simp at hc; omega
  obtain ⟨p, hp⟩ := zD (l := a) (i := i) (by omega)
  obtain ⟨q, hq⟩ := zD (l := b) (i := k - i) (by omega)
  have hpE : ∀ h, a[i]'h = p := fun h => (gI.1 hp).2
  have hqE : ∀ h, b[k - i]'h = q := fun h => (gI.1 hq).2
  have hpv := ha p (List.mem_of_getElem? hp)
  have hqv := hb q (List.mem_of_getElem? hq)
  have wk : IntKind.i64.wrap ((k : Int) - (i : Int)) = ((k - i : Nat) : Int) := by rw [zj (by omega) (by omega)]; omega
  have wi : IntKind.i64.wrap ((i : Int) + 1) = ((i + 1 : Nat) : Int) := by rw [zj (by omega) (by omega)]; omega
  have hia : i < a.length := by omega
  have hkb2 : k - i < b.length := by omega
  simp [g0, g1, g5, g8, hJ0, VA, hb1, hb2, zi hb1, zi hb2, hp, hpE, hq, hqE, wk, hia, hkb2]
  refine zB (fun Hx => YE p q hpv hqv Hx) ?_
  simp
  refine zm [(12, 13)] (by rfl) (by simp [zl, zk, za.triv, za.wr, za.none, upTo, newAt]; exact ⟨by omega, fun h => by rw [h] at hJl; simp at hJl, by omega⟩) ?_
  simp [g5, g8, ↓old hJ0, hJ0, VA]
  have hm : mul p q = mul (zf a i) (zf b (k - i)) := by simp [zf, hp, hq]
  have fin : ∀ (r : I) (K : AH), r = qB a b frm (i + 1 - frm) k → ∃ J2, H ++ ((J.set 2 (.row true 2 [iv r])) ++ K) = H ++ J2 ∧ J2[0]? = some (.row true 3 [VA frm tt k]) ∧ J2[1]? = some (.row true 2 [iv (0, 0)]) ∧ J2[2]? = some (.row true 2 [iv (qB a b frm (i + 1 - frm) k)]) := by
   intro r K hr
   refine ⟨_, rfl, zi ?_, zi ?_, ?_⟩
   ·rw [List.getElem?_set_ne (by omega)]; exact hJ0
   ·rw [List.getElem?_set_ne (by omega)]; exact hJ1
   ·rw [hr]; exact set_get' hJ2
  refine zL (fun hq2 => ?_) (fun hq2 => ?_)
  ·have heq : i = frm := by simp at hq2; omega
   subst heq
   have hcs : mul p q = qB a b i (i + 1 - i) k := by
    rw [show i + 1 - i = 1 by omega, zaZ, hm]
   simp [g7, g8, wi, ↓old hJ2, qZ hJ2]
   exact ⟨i + 1, by show tt - (i + 1) < tt - i; omega, by simp [g0], by simp [g1], by simp [g5], by simp [g6], by simp [g7], by simp, by omega, by omega, fin _ _ hcs⟩
  ·have hgt : frm < i := by simp at hq2; omega
   have hcs : add (qB a b frm (i - frm) k) (mul p q) = qB a b frm (i + 1 - frm) k := by
    rw [show i + 1 - frm = (i - frm) + 1 by omega, zaB _ _ _ _ _ (by omega), show frm + (i - frm) = i by omega, hm]
   have hcv := Ve a b frm (i - frm) k
   simp [g7, ↓old hJ2, qZ hJ2]
   refine zd (V3 _ _ hcv jU _) ?_
   simp [g7, g8, wi, ↓old hJ2, qZ hJ2]
   exact ⟨i + 1, by show tt - (i + 1) < tt - i; omega, by simp [g0], by simp [g1], by simp [g5], by simp [g6], by simp [g7], by simp, by omega, by omega, fin _ _ hcs⟩
 ·have hi' : i = tt := by simp at hc; omega
  subst hi'
  simp [g6, g7, hJ1, hJ2]
  exact zv (rs := [.cell 6 48]) (by rfl) (by simp [ze, g6, Jh hJ1]) (by simp [zh, noF])
theorem sNextRoot (a q : List I) (ba : Nat) (w1 : Bool) (v : AV) (ha : zq a) (hq : zq q) (hal : q.length < a.length) (hk : q.length ≤ 1000000) (H : AH) (hba : H[ba]? = some (.row w1 2 (a.map iv))) (hv : VN H v q) :
  zg E 264 [.ref ba a.length, v] H (.ret (iv (Zp a q))) H := by
 refine zt zn zo Tryz.func264 rfl (by rfl) Tryz.ntmps264 (by kernel_rfl) (by simp) ?_
 have hl1 := (gI.1 hba).1
 obtain ⟨a0, ha0⟩ := zD (l := a) (i := 0) (by omega)
 have ha0E : ∀ h, a[0]'h = a0 := fun h => (gI.1 ha0).2
 have ha0v := ha a0 (List.mem_of_getElem? ha0)
 have hap : 0 < a.length := by omega
 rcases hv with ⟨rfl, rfl | rfl⟩ | ⟨bq, w, rfl, hbq⟩
 ·simp [hba, zi hba, ha0, ha0E, hap]
  refine zd (zdo a0 ha0v _) ?_
  simp [hba, zi hba, ha0, ha0E, hap]
  refine zL (fun hc => ?_) (fun hc => ?_)
  ·have h0 : 0 ≤ a0.1 := by simpa using hc
   simp
   exact zv (rs := [.cell 4 48]) (by rfl) (by simp [ze, Zp, zf, ha0, zad ha0v h0]) (by simp [zh, noF])
  ·have h0 : a0.1 < 0 := by have : ¬ 0 ≤ a0.1 := by simpa using hc
                            omega
   simp
   refine zd (Qb _) ?_
   simp
   exact zv (rs := [.cell 4 48]) (by rfl) (by simp [ze, Zp, zf, ha0, Zg, h0]) (by simp [zh, noF])
 ·simp [hba, zi hba, ha0, ha0E, hap]
  refine zd (zdo a0 ha0v _) ?_
  simp [hba, zi hba, ha0, ha0E, hap]
  refine zL (fun hc => ?_) (fun hc => ?_)
  ·have h0 : 0 ≤ a0.1 := by simpa using hc
   simp
   exact zv (rs := [.cell 4 48]) (by rfl) (by simp [ze, Zp, zf, ha0, zad ha0v h0]) (by simp [zh, noF])
  ·have h0 : a0.1 < 0 := by have : ¬ 0 ≤ a0.1 := by simpa using hc
                            omega
   simp
   refine zd (Qb _) ?_
   simp
   exact zv (rs := [.cell 4 48]) (by rfl) (by simp [ze, Zp, zf, ha0, Zg, h0]) (by simp [zh, noF])
 by_cases hq0 : q = []
 ·subst hq0
  simp [hba, zi hba, hbq, zi hbq, ha0, ha0E, hap]
  refine zd (zdo a0 ha0v _) ?_
  simp [hba, zi hba, ha0, ha0E, hap]
  refine zL (fun hc => ?_) (fun hc => ?_)
  ·have h0 : 0 ≤ a0.1 := by simpa using hc
   simp
   exact zv (rs := [.cell 4 48]) (by rfl) (by simp [ze, Zp, zf, ha0, zad ha0v h0]) (by simp [zh, noF])
  ·have h0 : a0.1 < 0 := by have : ¬ 0 ≤ a0.1 := by simpa using hc
                            omega
   simp
   refine zd (Qb _) ?_
   simp
   exact zv (rs := [.cell 4 48]) (by rfl) (by simp [ze, Zp, zf, ha0, Zg, h0]) (by simp [zh, noF])
 have hql : 0 < q.length := List.length_pos_iff.2 hq0
 have hl3 := (gI.1 hbq).1
 have hne : ((q.length : Int) == 0) = false := by rw [beq_eq_false_iff_ne]; omega
 have wk : IntKind.i64.wrap ((q.length : Int) - 1) = (q.length : Int) - 1 := zj (by omega) (by omega)
 obtain ⟨q0, hq0'⟩ := zD (l := q) (i := 0) hql
 have hq0E : ∀ h, q[0]'h = q0 := fun h => (gI.1 hq0').2
 have hq0v := hq q0 (List.mem_of_getElem? hq0')
 obtain ⟨p, hp⟩ := zD hal
 have hpE : ∀ h, a[q.length]'h = p := fun h => (gI.1 hp).2
 have hpv := ha p (List.mem_of_getElem? hp)
 have hcv := Ve q q 1 (q.length - 1) q.length
 simp [hbq, zi hbq, hne]
 refine zd (sIntervals _) ?_
 simp [wk]
 refine zd (sConvolve q q bq bq 1 q.length q.length w w hq hq (by omega) (by omega) (by omega) (by omega) (by omega) _ (zi hbq) (zi hbq)) ?_
 simp [hba, hbq, zi hba, zi hbq, hp, hpE, hal]
 refine zB (fun Hx => Wm p _ hpv hcv Hx) ?_
 simp [hba, hbq, zi hba, zi hbq, hq0', hq0E, hql]
 refine zB (fun Hx => iMulRatio q0 2 1 hq0v (by omega) (by omega) Hx) ?_
 simp
 refine zB (fun Hx => Y3 _ _ (Xy hpv hcv) (zax hq0v (by decide) (by decide)) Hx) ?_
 simp
 refine zm [] (by rfl) (by simp [zl, zk, za.triv, za.wr, za.none, upTo, newAt]; omega) ?_
 simp
 exact zv (rs := [.cell 4 48]) (by rfl) (by simp [ze, Zp, hq0, zf, hp, hq0']) (by simp [zh, noF])
theorem r9NextRoot (a q : List I) (ba : Nat) (w1 : Bool) (v : AV) (ha : zq a) (hq : zq q) (hal : q.length < a.length) (hk : q.length ≤ 1000000) (H : AH) (hba : H[ba]? = some (.row w1 2 (a.map iv))) (hv : VN H v q) :
  zg E 252 [.ref ba a.length, v] H (.ret (iv (Zp a q))) H := by
 refine zt zn zo Tryz.func252 rfl (by rfl) Tryz.ntmps252 (by kernel_rfl) (by simp) ?_
 have hl1 := (gI.1 hba).1
 obtain ⟨a0, ha0⟩ := zD (l := a) (i := 0) (by omega)
 have ha0E : ∀ h, a[0]'h = a0 := fun h => (gI.1 ha0).2
 have ha0v := ha a0 (List.mem_of_getElem? ha0)
 have hap : 0 < a.length := by omega
 rcases hv with ⟨rfl, rfl | rfl⟩ | ⟨bq, w, rfl, hbq⟩
 ·simp [hba, zi hba, ha0, ha0E, hap]
  refine zd (zdf a0 ha0v _) ?_
  simp
  exact zv (rs := [.cell 4 48]) (by rfl) (by simp [ze, Zp, zf, ha0]) (by simp [zh, noF])
 ·simp [hba, zi hba, ha0, ha0E, hap]
  refine zd (zdf a0 ha0v _) ?_
  simp
  exact zv (rs := [.cell 4 48]) (by rfl) (by simp [ze, Zp, zf, ha0]) (by simp [zh, noF])
 by_cases hq0 : q = []
 ·subst hq0
  simp [hba, zi hba, hbq, zi hbq, ha0, ha0E, hap]
  refine zd (zdf a0 ha0v _) ?_
  simp
  exact zv (rs := [.cell 4 48]) (by rfl) (by simp [ze, Zp, zf, ha0]) (by simp [zh, noF])
 have hql : 0 < q.length := List.length_pos_iff.2 hq0
 have hl3 := (gI.1 hbq).1
 have hne : ((q.length : Int) == 0) = false := by rw [beq_eq_false_iff_ne]; omega
 have wk : IntKind.i64.wrap ((q.length : Int) - 1) = (q.length : Int) - 1 := zj (by omega) (by omega)
 obtain ⟨q0, hq0'⟩ := zD (l := q) (i := 0) hql
 have hq0E : ∀ h, q[0]'h = q0 := fun h => (gI.1 hq0').2
 have hq0v := hq q0 (List.mem_of_getElem? hq0')
 obtain ⟨p, hp⟩ := zD hal
 have hpE : ∀ h, a[q.length]'h = p := fun h => (gI.1 hp).2
 have hpv := ha p (List.mem_of_getElem? hp)
 have hcv := Ve q q 1 (q.length - 1) q.length
 simp [hbq, zi hbq, hne, wk]
 refine zd (r9Convolved q q bq bq 1 q.length q.length w w hq hq (by omega) (by omega) (by omega) (by omega) (by omega) _ (zi hbq) (zi hbq)) ?_
 simp [hba, hbq, zi hba, zi hbq, hp, hpE, hal]
 refine zB (fun Hx => rSub p _ hpv hcv Hx) ?_
 simp [hba, hbq, zi hba, zi hbq, hq0', hq0E, hql]
 refine zB (fun Hx => zbx q0 2 1 hq0v (by omega) (by omega) Hx) ?_
 simp
 refine zB (fun Hx => YF _ _ (Xy hpv hcv) (zax hq0v (by decide) (by decide)) Hx) ?_
 simp
 refine zm [] (by rfl) (by simp [zl, zk, za.triv, za.wr, za.none, upTo, newAt]; omega) ?_
 simp
 exact zv (rs := [.cell 4 48]) (by rfl) (by simp [ze, Zp, hq0, zf, hp, hq0']) (by simp [zh, noF])
theorem Q9 {g : FuncId} {args : List AV} {next : ZA} {H : AH} {r : AV} (rds : List Nat) (hb : ∀ b ∈ rds, b < H.length) (h : ∀ Hx : AH, (∀ b ∈ rds, Hx[b]? = H[b]?) → zg E g args Hx (.ret r) Hx)
  (kk : next .go r ⟨rds, [], none, true⟩ H) : ZP E (.func (.func g) [] []) args next H :=
 ⟨r, rds, [], ⟨hb, fun p hp => by simp at hp, fun Hx hx => .inl (by rw [List.nil_append, List.append_nil]; exact h Hx hx)⟩, kk⟩
def WR (H : AH) (L : Nat) (cells : List AV) (l : List (List I)) : Prop := H[L]? = some (.row true 1 cells) ∧ cells.length = l.length ∧ ∀ (j : Nat) v q, cells[j]? = some v → l[j]? = some q → VN H v q
theorem WR.get {H : AH} {L : Nat} {cells : List AV} {l : List (List I)} (h : WR H L cells l) {j : Nat} (hj : (zu l j).length ≠ 0) : ∃ b w, cells[j]? = some (.ref b (zu l j).length) ∧ H[b]? = some (.row w 2 ((zu l j).map iv)) ∧ j < l.length := by
 cases hl : l[j]? with
 | none => exfalso; apply hj; simp [zu, hl]
 | some q =>
  have e : zu l j = q := by simp [zu, hl]
  have hlt := (gI.1 hl).1
  obtain ⟨v, hv⟩ := zD (l := cells) (i := j) (by rw [h.2.1]; exact hlt)
  rcases h.2.2 j v q hv hl with ⟨h0, _⟩ | ⟨b, w, rfl, hb⟩
  ·exfalso; apply hj; rw [e, h0]; rfl
  ·rw [e]; exact ⟨b, w, hv, hb, hlt⟩
def zcW (x : zT) (l : List (List I)) (k : Nat) : Prop :=
 (x.op = 1 ∧ vB x.c = true) ∨ x.op = 3 ∨ (4 ≤ x.op ∧ x.op ≤ 6 ∧ 0 ≤ x.a ∧ (zu l x.a).length = k + 1) ∨ (7 ≤ x.op ∧ x.op ≤ 10 ∧ 0 ≤ x.a ∧ 0 ≤ x.b ∧ (zu l x.a).length = k + 1 ∧ (zu l x.b).length = k + 1)
theorem sConv0 (a b : List I) (b1 b2 k : Nat) (w1 w2 : Bool) (ha : zq a) (hb : zq b) (hal : a.length = k + 1) (hbl : b.length = k + 1) (hk : k ≤ 100000) (H : AH) (hb1 : H[b1]? = some (.row w1 2 (a.map iv))) (hb2 : H[b2]? = some (.row w2 2 (b.map iv))) :
  zg E 299 [qP, .ref b1 (k + 1), .ref b2 (k + 1), .int .i64 0, .int .i64 k, .int .i64 k] H (.ret (iv (qB a b 0 (k + 1) k))) H := by
 have := sConvolve a b b1 b2 0 (k + 1) k w1 w2 ha hb (by omega) (by omega) (by omega) (by omega) (by omega) H hb1 hb2
 rw [hal, hbl, show ((k + 1 : Nat) : Int) - 1 = k by omega] at this
 exact this
theorem sNext (x : zT) (L : Nat) (cells : List AV) (l : List (List I)) (own : List I) (v : AV) (t : I) (hx : zcW x l own.length) (hL : ∀ q ∈ l, zq q) (ho : zq own) (ht : vB t = true) (hk : own.length ≤ 100000) (H : AH) (hR : WR H L cells l) (hv : VN H v own) :
  zg E 267 [qP, zG x, .ref L l.length, v, iv t] H (.ret (iv (qq x l own t))) H := by
 refine zt zn zo Tryz.func267 rfl (by rfl) Tryz.ntmps267 (by kernel_rfl) (by simp) ?_
 have hH := hR.1
 have hcl := hR.2.1
 have hLl := (gI.1 hH).1
 have hr : ∀ i, zq (zu l i) := by
  intro i
  unfold zu
  cases h : l[i.toNat]? with
  | none => intro p hp; simp at hp
  | some q => exact hL q (List.mem_of_getElem? h)
 have hlen : ∀ K : AH, qu zp (H ++ K) 23 v = some (.int .i64 own.length) := by
  intro K
  rcases hv with ⟨rfl, rfl | rfl⟩ | ⟨bq, w, rfl, hbq⟩
  ·simp [qu]
  ·simp [qu]
  ·simp [qu, zi hbq]
 have wz : IntKind.i64.wrap 0 = 0 := zj (by decide) (by decide)
 obtain ⟨o, a, b, c⟩ := x
 have hfin : ∀ (fr : zx) (J : AH) (p : I), qq ⟨o, a, b, c⟩ l own t = p → fr 10 = .ptr (H.length + 3) 1 0 0 → J[3]? = some (.row true 2 [iv p]) → jd E Tryz.f267 H (.ret (iv (qq ⟨o, a, b, c⟩ l own t))) H .ret fr (H ++ J) := by
  intro fr J p hp h10 hJ
  rw [hp]
  exact zv (rs := [.cell 10 48]) (by rfl) (by simp [ze, h10, hJ]) (by simp [zh, noF])
 rcases hx with ⟨h1, h2⟩ | h1 | ⟨h1, h2, h3, h4⟩ | ⟨h1, h2, h3, h4, h5, h6⟩
 ·simp only at h1 h2
  subst h1
  by_cases k0 : own.length = 0
  ·simp only [k0] at hlen
   simp [-qu, hlen, qP, zS, zG]
   refine zd (YA c _) ?_
   simp
   exact hfin _ _ c (by simp [qq, k0]) (by simp) (by simp)
  ·have hne : ((own.length : Int) == 0) = false := by rw [beq_eq_false_iff_ne]; omega
   simp [-qu, hlen, qP, zS, zG, hne]
   refine zd (YA (0, 0) _) ?_
   simp
   exact hfin _ _ (0, 0) (by simp [qq, k0]) (by simp) (by simp)
 ·simp only at h1
  subst h1
  by_cases k0 : own.length = 0
  ·simp only [k0] at hlen
   simp [-qu, hlen, qP, zS, zG]
   refine zd (YA t _) ?_
   simp
   exact hfin _ _ t (by simp [qq, k0]) (by simp) (by simp)
  ·by_cases k1 : own.length = 1
   ·simp only [k1] at hlen
    simp [-qu, hlen, qP, zS, zG]
    refine zd (sUnit _) ?_
    simp
    refine zd (YA (65536, 65536) _) ?_
    simp
    exact hfin _ _ (65536, 65536) (by simp [qq, k1]) (by simp) (by simp)
   ·have hne : ((own.length : Int) == 0) = false := by rw [beq_eq_false_iff_ne]; omega
    have hne1 : ((own.length : Int) == 1) = false := by rw [beq_eq_false_iff_ne]; omega
    simp [-qu, hlen, qP, zS, zG, hne, hne1]
    refine zd (YA (0, 0) _) ?_
    simp
    exact hfin _ _ (0, 0) (by simp [qq, k0, k1]) (by simp) (by simp)
 ·simp only at h1 h2 h3 h4
  obtain ⟨ka, rfl⟩ : ∃ k : Nat, a = k := ⟨a.toNat, by omega⟩
  obtain ⟨bA, wA, hcA, hbA, hka⟩ := hR.get (j := ka) (by omega)
  rw [h4] at hcA
  have hcAE : ∀ h, cells[ka]'h = .ref bA (own.length + 1) := fun h => (gI.1 hcA).2
  have hAl := (gI.1 hbA).1
  have hva := hr ka
  obtain ⟨p, hp⟩ := zD (l := zu l ka) (i := own.length) (by omega)
  have hpE : ∀ h, (zu l ka)[own.length]'h = p := fun h => (gI.1 hp).2
  have hpv := hva p (List.mem_of_getElem? hp)
  have ho3 : o = 4 ∨ o = 5 ∨ o = 6 := by omega
  have hkk : (own.length : Int) < (own.length : Int) + 1 := by omega
  have hb2 : own.length < own.length + 1 := by omega
  rcases ho3 with rfl | rfl | rfl
  ·simp [-qu, hlen, qP, zS, zG, hH, zi hH, hcA, hcAE, hbA, zi hbA, hp, hpE, hka, h4, hcl, hkk]
   refine zB (fun Hx => Y1 p hpv Hx) ?_
   simp
   refine zm [] (by rfl) (by simp [zl, zk, za.triv, za.wr, za.none, upTo, newAt]; omega) ?_
   simp
   exact hfin _ _ (neg p) (by simp [qq, zf, hp]) (by simp) (by simp)
  ·by_cases k0 : own.length = 0
   ·rw [k0] at h4 hp hcA
    simp only [k0] at hpE hcAE hlen
    simp [-qu, hlen, qP, zS, zG, hH, zi hH, hcA, hcAE, hbA, zi hbA, hp, hpE, hka, h4, hcl]
    refine zB (fun Hx => iSquare p hpv Hx) ?_
    simp
    refine zm [] (by rfl) (by simp [zl, zk, za.triv, za.wr, za.none, upTo, newAt]; omega) ?_
    simp
    exact hfin _ _ (sq p) (by simp [qq, zf, hp, k0]) (by simp) (by simp)
   ·have hne : ((own.length : Int) == 0) = false := by rw [beq_eq_false_iff_ne]; omega
    simp [-qu, hlen, qP, zS, zG, hH, zi hH, hcA, hcAE, hbA, zi hbA, hp, hpE, hka, h4, hcl, hkk, hne]
    refine Q9 [bA] (by simp; omega) (fun Hx hx => by
     have e : Hx[bA]? = some (.row wA 2 ((zu l ka).map iv)) := by rw [hx bA (by simp)]; exact zi hbA
     simpa [qP, zS] using sConv0 _ _ bA bA own.length wA wA hva hva h4 h4 (by omega) Hx e e) ?_
    simp
    refine zm [] (by rfl) (by simp [zl, zk, za.triv, za.wr, za.none, upTo, newAt]; omega) ?_
    simp
    exact hfin _ _ (qB (zu l ka) (zu l ka) 0 (own.length + 1) own.length) (by simp [qq, k0]) (by simp) (by simp)
  ·simp [-qu, hlen, qP, zS, zG, hH, zi hH, hcA, hcAE, hbA, zi hbA, hp, hpE, hka, h4, hcl, hkk]
   have hS := fun Hx e hv' => sNextRoot (zu l ka) own bA wA v hva ho (by omega) (by omega) Hx e hv'
   rw [h4] at hS
   rcases hv with ⟨rfl, rfl | rfl⟩ | ⟨bq, w, rfl, hbq⟩
   ·refine Q9 [bA] (by simp; omega) (fun Hx hx => hS Hx (by rw [hx bA (by simp)]; exact zi hbA) (.inl ⟨rfl, .inl rfl⟩)) ?_
    simp
    refine zm [] (by rfl) (by simp [zl, zk, za.triv, za.wr, za.none, upTo, newAt]; omega) ?_
    simp
    exact hfin _ _ (Zp (zu l ka) []) (by simp [qq]) (by simp) (by simp)
   ·refine Q9 [bA] (by simp; omega) (fun Hx hx => hS Hx (by rw [hx bA (by simp)]; exact zi hbA) (.inl ⟨rfl, .inr rfl⟩)) ?_
    simp
    refine zm [] (by rfl) (by simp [zl, zk, za.triv, za.wr, za.none, upTo, newAt]; omega) ?_
    simp
    exact hfin _ _ (Zp (zu l ka) []) (by simp [qq]) (by simp) (by simp)
   ·have hql := (gI.1 hbq).1
    refine Q9 [bA, bq] (by simp; omega) (fun Hx hx => hS Hx (by rw [hx bA (by simp)]; exact zi hbA) (.inr ⟨bq, w, rfl, by rw [hx bq (by simp)]; exact zi hbq⟩)) ?_
    simp
    refine zm [] (by rfl) (by simp [zl, zk, za.triv, za.wr, za.none, upTo, newAt]; omega) ?_
    simp
    exact hfin _ _ (Zp (zu l ka) own) (by simp [qq]) (by simp) (by simp)
 ·simp only at h1 h2 h3 h4 h5 h6
  obtain ⟨ka, rfl⟩ : ∃ k : Nat, a = k := ⟨a.toNat, by omega⟩
  obtain ⟨kb, rfl⟩ : ∃ k : Nat, b = k := ⟨b.toNat, by omega⟩
  obtain ⟨bA, wA, hcA, hbA, hka⟩ := hR.get (j := ka) (by omega)
  obtain ⟨bB, wB, hcB, hbB, hkb⟩ := hR.get (j := kb) (by omega)
  rw [h5] at hcA
  rw [h6] at hcB
  have hcAE : ∀ h, cells[ka]'h = .ref bA (own.length + 1) := fun h => (gI.1 hcA).2
  have hcBE : ∀ h, cells[kb]'h = .ref bB (own.length + 1) := fun h => (gI.1 hcB).2
  have hAl := (gI.1 hbA).1
  have hBl := (gI.1 hbB).1
  have hva := hr ka
  have hvb := hr kb
  obtain ⟨p, hp⟩ := zD (l := zu l ka) (i := own.length) (by omega)
  have hpE : ∀ h, (zu l ka)[own.length]'h = p := fun h => (gI.1 hp).2
  have hpv := hva p (List.mem_of_getElem? hp)
  obtain ⟨q, hq⟩ := zD (l := zu l kb) (i := own.length) (by omega)
  have hqE : ∀ h, (zu l kb)[own.length]'h = q := fun h => (gI.1 hq).2
  have hqv := hvb q (List.mem_of_getElem? hq)
  have hkk : (own.length : Int) < (own.length : Int) + 1 := by omega
  have ho4 : o = 7 ∨ o = 8 ∨ o = 9 ∨ o = 10 := by omega
  rcases ho4 with rfl | rfl | rfl | rfl
  ·simp [-qu, hlen, qP, zS, zG, hH, zi hH, hcA, hcAE, hbA, zi hbA, hp, hpE, hka, h5, hcB, hcBE, hbB, zi hbB, hq, hqE, hkb, h6, hcl, hkk]
   refine zB (fun Hx => V8 p q hpv hqv Hx) ?_
   simp
   refine zm [] (by rfl) (by simp [zl, zk, za.triv, za.wr, za.none, upTo, newAt]; omega) ?_
   simp
   exact hfin _ _ (add p q) (by simp [qq, zf, hp, hq]) (by simp) (by simp)
  ·simp [-qu, hlen, qP, zS, zG, hH, zi hH, hcA, hcAE, hbA, zi hbA, hp, hpE, hka, h5, hcB, hcBE, hbB, zi hbB, hq, hqE, hkb, h6, hcl, hkk]
   refine zB (fun Hx => Wm p q hpv hqv Hx) ?_
   simp
   refine zm [] (by rfl) (by simp [zl, zk, za.triv, za.wr, za.none, upTo, newAt]; omega) ?_
   simp
   exact hfin _ _ (sub p q) (by simp [qq, zf, hp, hq]) (by simp) (by simp)
  ·simp [-qu, hlen, qP, zS, zG, hH, zi hH, hcA, hcAE, hbA, zi hbA, hp, hpE, hka, h5, hcB, hcBE, hbB, zi hbB, hq, hqE, hkb, h6, hcl, hkk]
   refine Q9 [bA, bB] (by simp; omega) (fun Hx hx => by
    have e1 : Hx[bA]? = some (.row wA 2 ((zu l ka).map iv)) := by rw [hx bA (by simp)]; exact zi hbA
    have e2 : Hx[bB]? = some (.row wB 2 ((zu l kb).map iv)) := by rw [hx bB (by simp)]; exact zi hbB
    simpa [qP, zS] using sConv0 _ _ bA bB own.length wA wB hva hvb h5 h6 (by omega) Hx e1 e2) ?_
   simp
   refine zm [] (by rfl) (by simp [zl, zk, za.triv, za.wr, za.none, upTo, newAt]; omega) ?_
   simp
   exact hfin _ _ (qB (zu l ka) (zu l kb) 0 (own.length + 1) own.length) (by simp [qq]) (by simp) (by simp)
  ·simp [-qu, hlen, qP, zS, zG, hH, zi hH, hcA, hcAE, hbA, zi hbA, hp, hpE, hka, h5, hcB, hcBE, hbB, zi hbB, hq, hqE, hkb, h6, hcl, hkk]
   have hS := fun Hx e e2 hv' => sNextQuotient (zu l ka) (zu l kb) own bA bB wA wB v hva hvb ho (by omega) (by omega) (by omega) Hx e e2 hv'
   rw [h5, h6] at hS
   rcases hv with ⟨rfl, rfl | rfl⟩ | ⟨bq, w, rfl, hbq⟩
   ·refine Q9 [bA, bB] (by simp; omega) (fun Hx hx => hS Hx (by rw [hx bA (by simp)]; exact zi hbA) (by rw [hx bB (by simp)]; exact zi hbB) (.inl ⟨rfl, .inl rfl⟩)) ?_
    simp
    refine zm [] (by rfl) (by simp [zl, zk, za.triv, za.wr, za.none, upTo, newAt]; omega) ?_
    simp
    exact hfin _ _ (Zu (zu l ka) (zu l kb) []) (by simp [qq]) (by simp) (by simp)
   ·refine Q9 [bA, bB] (by simp; omega) (fun Hx hx => hS Hx (by rw [hx bA (by simp)]; exact zi hbA) (by rw [hx bB (by simp)]; exact zi hbB) (.inl ⟨rfl, .inr rfl⟩)) ?_
    simp
    refine zm [] (by rfl) (by simp [zl, zk, za.triv, za.wr, za.none, upTo, newAt]; omega) ?_
    simp
    exact hfin _ _ (Zu (zu l ka) (zu l kb) []) (by simp [qq]) (by simp) (by simp)
   ·have hql := (gI.1 hbq).1
    refine Q9 [bA, bB, bq] (by simp; omega) (fun Hx hx => hS Hx (by rw [hx bA (by simp)]; exact zi hbA) (by rw [hx bB (by simp)]; exact zi hbB) (.inr ⟨bq, w, rfl, by rw [hx bq (by simp)]; exact zi hbq⟩)) ?_
    simp
    refine zm [] (by rfl) (by simp [zl, zk, za.triv, za.wr, za.none, upTo, newAt]; omega) ?_
    simp
    exact hfin _ _ (Zu (zu l ka) (zu l kb) own) (by simp [qq]) (by simp) (by simp)
theorem r9Conv0 (a b : List I) (b1 b2 k : Nat) (w1 w2 : Bool) (ha : zq a) (hb : zq b) (hal : a.length = k + 1) (hbl : b.length = k + 1) (hk : k ≤ 100000) (H : AH) (hb1 : H[b1]? = some (.row w1 2 (a.map iv))) (hb2 : H[b2]? = some (.row w2 2 (b.map iv))) :
  zg E 250 [.ref b1 (k + 1), .ref b2 (k + 1), .agg [.int .i64 0, .int .i64 k, .int .i64 k]] H (.ret (iv (qB a b 0 (k + 1) k))) H := by
 have := r9Convolved a b b1 b2 0 (k + 1) k w1 w2 ha hb (by omega) (by omega) (by omega) (by omega) (by omega) H hb1 hb2
 unfold VA at this
 rw [hal, hbl, show ((k + 1 : Nat) : Int) - 1 = k by omega] at this
 exact this
theorem r9Next (x : zT) (L : Nat) (cells : List AV) (l : List (List I)) (own : List I) (v : AV) (t : I) (hx : zcW x l own.length) (hL : ∀ q ∈ l, zq q) (ho : zq own) (ht : vB t = true) (hk : own.length ≤ 100000) (H : AH) (hR : WR H L cells l) (hv : VN H v own) :
  zg E 199 [zG x, .ref L l.length, v, iv t] H (.ret (iv (qq x l own t))) H := by
 refine zt zn zo Tryz.func199 rfl (by rfl) Tryz.ntmps199 (by kernel_rfl) (by simp) ?_
 have hH := hR.1
 have hcl := hR.2.1
 have hLl := (gI.1 hH).1
 have hr : ∀ i, zq (zu l i) := by
  intro i
  unfold zu
  cases h : l[i.toNat]? with
  | none => intro p hp; simp at hp
  | some q => exact hL q (List.mem_of_getElem? h)
 have hlen : ∀ K : AH, qu zp (H ++ K) 23 v = some (.int .i64 own.length) := by
  intro K
  rcases hv with ⟨rfl, rfl | rfl⟩ | ⟨bq, w, rfl, hbq⟩
  ·simp [qu]
  ·simp [qu]
  ·simp [qu, zi hbq]
 have wz : IntKind.i64.wrap 0 = 0 := zj (by decide) (by decide)
 obtain ⟨o, a, b, c⟩ := x
 have hfin : ∀ (fr : zx) (J : AH) (p : I), qq ⟨o, a, b, c⟩ l own t = p → fr 8 = .ptr (H.length + 2) 1 0 0 → J[2]? = some (.row true 2 [iv p]) → jd E Tryz.f199 H (.ret (iv (qq ⟨o, a, b, c⟩ l own t))) H .ret fr (H ++ J) := by
  intro fr J p hp h10 hJ
  rw [hp]
  exact zv (rs := [.cell 8 48]) (by rfl) (by simp [ze, h10, hJ]) (by simp [zh, noF])
 rcases hx with ⟨h1, h2⟩ | h1 | ⟨h1, h2, h3, h4⟩ | ⟨h1, h2, h3, h4, h5, h6⟩
 ·simp only at h1 h2
  subst h1
  by_cases k0 : own.length = 0
  ·simp only [k0] at hlen
   simp [-qu, hlen, zG]
   exact hfin _ _ c (by simp [qq, k0]) (by simp) (by simp)
  ·have hne : ((own.length : Int) == 0) = false := by rw [beq_eq_false_iff_ne]; omega
   simp [-qu, hlen, zG, hne]
   refine zd (zcS _) ?_
   simp
   exact hfin _ _ (0, 0) (by simp [qq, k0]) (by simp) (by simp)
 ·simp only at h1
  subst h1
  by_cases k0 : own.length = 0
  ·simp only [k0] at hlen
   simp [-qu, hlen, zG]
   exact hfin _ _ t (by simp [qq, k0]) (by simp) (by simp)
  ·by_cases k1 : own.length = 1
   ·simp only [k1] at hlen
    simp [-qu, hlen, zG]
    refine zd (r9One _) ?_
    simp
    exact hfin _ _ (65536, 65536) (by simp [qq, k1]) (by simp) (by simp)
   ·have hne : ((own.length : Int) == 0) = false := by rw [beq_eq_false_iff_ne]; omega
    have hne1 : ((own.length : Int) == 1) = false := by rw [beq_eq_false_iff_ne]; omega
    simp [-qu, hlen, zG, hne, hne1]
    refine zd (zcS _) ?_
    simp
    exact hfin _ _ (0, 0) (by simp [qq, k0, k1]) (by simp) (by simp)
 ·simp only at h1 h2 h3 h4
  obtain ⟨ka, rfl⟩ : ∃ k : Nat, a = k := ⟨a.toNat, by omega⟩
  obtain ⟨bA, wA, hcA, hbA, hka⟩ := hR.get (j := ka) (by omega)
  rw [h4] at hcA
  have hcAE : ∀ h, cells[ka]'h = .ref bA (own.length + 1) := fun h => (gI.1 hcA).2
  have hAl := (gI.1 hbA).1
  have hva := hr ka
  obtain ⟨p, hp⟩ := zD (l := zu l ka) (i := own.length) (by omega)
  have hpE : ∀ h, (zu l ka)[own.length]'h = p := fun h => (gI.1 hp).2
  have hpv := hva p (List.mem_of_getElem? hp)
  have ho3 : o = 4 ∨ o = 5 ∨ o = 6 := by omega
  have hkk : (own.length : Int) < (own.length : Int) + 1 := by omega
  have hb2 : own.length < own.length + 1 := by omega
  rcases ho3 with rfl | rfl | rfl
  ·simp [-qu, hlen, zG, hH, zi hH, hcA, hcAE, hbA, zi hbA, hp, hpE, hka, h4, hcl, hkk]
   refine zd (rNeg p hpv _) ?_
   simp
   exact hfin _ _ (neg p) (by simp [qq, zf, hp]) (by simp) (by simp)
  ·by_cases k0 : own.length = 0
   ·rw [k0] at h4 hp hcA
    simp only [k0] at hpE hcAE hlen
    simp [-qu, hlen, zG, hH, zi hH, hcA, hcAE, hbA, zi hbA, hp, hpE, hka, h4, hcl]
    refine zd (rSquare p hpv _) ?_
    simp
    exact hfin _ _ (sq p) (by simp [qq, zf, hp, k0]) (by simp) (by simp)
   ·have hne : ((own.length : Int) == 0) = false := by rw [beq_eq_false_iff_ne]; omega
    simp [-qu, hlen, zG, hH, zi hH, hcA, hcAE, hbA, zi hbA, hp, hpE, hka, h4, hcl, hkk, hne]
    refine Q9 [bA] (by simp; omega) (fun Hx hx => by
     have e : Hx[bA]? = some (.row wA 2 ((zu l ka).map iv)) := by rw [hx bA (by simp)]; exact zi hbA
     simpa using r9Conv0 _ _ bA bA own.length wA wA hva hva h4 h4 (by omega) Hx e e) ?_
    simp
    refine zm [] (by rfl) (by simp [zl, zk, za.triv, za.wr, za.none, upTo, newAt]; omega) ?_
    simp
    exact hfin _ _ (qB (zu l ka) (zu l ka) 0 (own.length + 1) own.length) (by simp [qq, k0]) (by simp) (by simp)
  ·simp [-qu, hlen, zG, hH, zi hH, hcA, hcAE, hbA, zi hbA, hp, hpE, hka, h4, hcl, hkk]
   have hS := fun Hx e hv' => r9NextRoot (zu l ka) own bA wA v hva ho (by omega) (by omega) Hx e hv'
   rw [h4] at hS
   have hvK : ∀ K : AH, VN (H ++ K) v own := by
    intro K
    rcases hv with h | ⟨bq, w, h, hbq⟩
    ·exact .inl h
    ·exact .inr ⟨bq, w, h, zi hbq⟩
   refine zd (hS _ (zi hbA) (hvK _)) ?_
   simp
   exact hfin _ _ (Zp (zu l ka) own) (by simp [qq]) (by simp) (by simp)
 ·simp only at h1 h2 h3 h4 h5 h6
  obtain ⟨ka, rfl⟩ : ∃ k : Nat, a = k := ⟨a.toNat, by omega⟩
  obtain ⟨kb, rfl⟩ : ∃ k : Nat, b = k := ⟨b.toNat, by omega⟩
  obtain ⟨bA, wA, hcA, hbA, hka⟩ := hR.get (j := ka) (by omega)
  obtain ⟨bB, wB, hcB, hbB, hkb⟩ := hR.get (j := kb) (by omega)
  rw [h5] at hcA
  rw [h6] at hcB
  have hcAE : ∀ h, cells[ka]'h = .ref bA (own.length + 1) := fun h => (gI.1 hcA).2
  have hcBE : ∀ h, cells[kb]'h = .ref bB (own.length + 1) := fun h => (gI.1 hcB).2
  have hAl := (gI.1 hbA).1
  have hBl := (gI.1 hbB).1
  have hva := hr ka
  have hvb := hr kb
  obtain ⟨p, hp⟩ := zD (l := zu l ka) (i := own.length) (by omega)
  have hpE : ∀ h, (zu l ka)[own.length]'h = p := fun h => (gI.1 hp).2
  have hpv := hva p (List.mem_of_getElem? hp)
  obtain ⟨q, hq⟩ := zD (l := zu l kb) (i := own.length) (by omega)
  have hqE : ∀ h, (zu l kb)[own.length]'h = q := fun h => (gI.1 hq).2
  have hqv := hvb q (List.mem_of_getElem? hq)
  have hkk : (own.length : Int) < (own.length : Int) + 1 := by omega
  have ho4 : o = 7 ∨ o = 8 ∨ o = 9 ∨ o = 10 := by omega
  rcases ho4 with rfl | rfl | rfl | rfl
  ·simp [-qu, hlen, zG, hH, zi hH, hcA, hcAE, hbA, zi hbA, hp, hpE, hka, h5, hcB, hcBE, hbB, zi hbB, hq, hqE, hkb, h6, hcl, hkk]
   refine zB (fun Hx => V3 p q hpv hqv Hx) ?_
   simp
   refine zm [] (by rfl) (by simp [zl, zk, za.triv, za.wr, za.none, upTo, newAt]; omega) ?_
   simp
   exact hfin _ _ (add p q) (by simp [qq, zf, hp, hq]) (by simp) (by simp)
  ·simp [-qu, hlen, zG, hH, zi hH, hcA, hcAE, hbA, zi hbA, hp, hpE, hka, h5, hcB, hcBE, hbB, zi hbB, hq, hqE, hkb, h6, hcl, hkk]
   refine zB (fun Hx => rSub p q hpv hqv Hx) ?_
   simp
   refine zm [] (by rfl) (by simp [zl, zk, za.triv, za.wr, za.none, upTo, newAt]; omega) ?_
   simp
   exact hfin _ _ (sub p q) (by simp [qq, zf, hp, hq]) (by simp) (by simp)
  ·simp [-qu, hlen, zG, hH, zi hH, hcA, hcAE, hbA, zi hbA, hp, hpE, hka, h5, hcB, hcBE, hbB, zi hbB, hq, hqE, hkb, h6, hcl, hkk]
   refine Q9 [bA, bB] (by simp; omega) (fun Hx hx => by
    have e1 : Hx[bA]? = some (.row wA 2 ((zu l ka).map iv)) := by rw [hx bA (by simp)]; exact zi hbA
    have e2 : Hx[bB]? = some (.row wB 2 ((zu l kb).map iv)) := by rw [hx bB (by simp)]; exact zi hbB
    simpa using r9Conv0 _ _ bA bB own.length wA wB hva hvb h5 h6 (by omega) Hx e1 e2) ?_
   simp
   refine zm [] (by rfl) (by simp [zl, zk, za.triv, za.wr, za.none, upTo, newAt]; omega) ?_
   simp
   exact hfin _ _ (qB (zu l ka) (zu l kb) 0 (own.length + 1) own.length) (by simp [qq]) (by simp) (by simp)
  ·simp [-qu, hlen, zG, hH, zi hH, hcA, hcAE, hbA, zi hbA, hp, hpE, hka, h5, hcB, hcBE, hbB, zi hbB, hq, hqE, hkb, h6, hcl, hkk]
   have hS := fun Hx e e2 hv' => r9NextQuotient (zu l ka) (zu l kb) own bA bB wA wB v hva hvb ho (by omega) (by omega) (by omega) Hx e e2 hv'
   rw [h5, h6] at hS
   rcases hv with ⟨rfl, rfl | rfl⟩ | ⟨bq, w, rfl, hbq⟩
   ·refine Q9 [bA, bB] (by simp; omega) (fun Hx hx => hS Hx (by rw [hx bA (by simp)]; exact zi hbA) (by rw [hx bB (by simp)]; exact zi hbB) (.inl ⟨rfl, .inl rfl⟩)) ?_
    simp
    refine zm [] (by rfl) (by simp [zl, zk, za.triv, za.wr, za.none, upTo, newAt]; omega) ?_
    simp
    exact hfin _ _ (Zu (zu l ka) (zu l kb) []) (by simp [qq]) (by simp) (by simp)
   ·refine Q9 [bA, bB] (by simp; omega) (fun Hx hx => hS Hx (by rw [hx bA (by simp)]; exact zi hbA) (by rw [hx bB (by simp)]; exact zi hbB) (.inl ⟨rfl, .inr rfl⟩)) ?_
    simp
    refine zm [] (by rfl) (by simp [zl, zk, za.triv, za.wr, za.none, upTo, newAt]; omega) ?_
    simp
    exact hfin _ _ (Zu (zu l ka) (zu l kb) []) (by simp [qq]) (by simp) (by simp)
   ·have hql := (gI.1 hbq).1
    refine Q9 [bA, bB, bq] (by simp; omega) (fun Hx hx => hS Hx (by rw [hx bA (by simp)]; exact zi hbA) (by rw [hx bB (by simp)]; exact zi hbB) (.inr ⟨bq, w, rfl, by rw [hx bq (by simp)]; exact zi hbq⟩)) ?_
    simp
    refine zm [] (by rfl) (by simp [zl, zk, za.triv, za.wr, za.none, upTo, newAt]; omega) ?_
    simp
    exact hfin _ _ (Zu (zu l ka) (zu l kb) own) (by simp [qq]) (by simp) (by simp)
def j9 (l : List (List I)) : AV := .slice (l.map bx) false
theorem zbd (a : I) (r : List I) (h : I) (hr : r ≠ []) : ql (a :: r) h = add (mul (ql r h) h) a := by
 cases r with
 | nil => exact absurd rfl hr
 | cons b r => rfl
theorem zaJ {h : I} : ∀ {s : List I}, zq s → vB (ql s h) = true
 | [], _ => (by decide : vB (0, 0) = true)
 | [a], hs => hs a (by simp)
 | a :: b :: r, hs => by rw [zbd _ _ _ (by simp)]; exact JK jU (hs a (by simp))
theorem sEval1 (p h : I) (b : Nat) (w : Bool) (hp : vB p = true) (hh : vB h = true) (H : AH) (hb : H[b]? = some (.row w 2 [iv h])) : zg E 233 [iv p, .ptr b 1 0 0] H (.ret (iv (mul p h))) H := by
 refine zt zn zo Tryz.func233 rfl (by rfl) Tryz.ntmps233 (by kernel_rfl) (by simp) ?_
 have hl := (gI.1 hb).1
 simp [hb, zi hb]
 refine zd (Y2 p h hp hh _) ?_
 simp
 exact zv (rs := [.cell 3 48]) (by rfl) (by simp [ze]) (by simp [zh, noF])
theorem zbL {g : FuncId} {captured args : List AV} {next : ZA} {H : AH} {r : AV} (rds : List Nat) (hb : ∀ b ∈ rds, b < H.length) (h : ∀ Hx : AH, (∀ b ∈ rds, Hx[b]? = H[b]?) → zg E g (args ++ captured) Hx (.ret r) Hx)
  (kk : next .go r ⟨rds, [], none, true⟩ H) : ZP E (.func (.func g) [] captured) args next H :=
 ⟨r, rds, [], ⟨hb, fun p hp => by simp at hp, fun Hx hx => .inl (by rw [List.nil_append]; exact h Hx hx)⟩, kk⟩
def UX (b : Nat) : AV := .func (.func 233) [] [.ptr b 1 0 0]
def LHo (l : List (List I)) (h : I) (b : Nat) (H : AH) (i : Nat) (fr : zx) (H' : AH) : Prop :=
 fr 1 = UX b ∧ fr 2 = zS 91 ∧ fr 7 = .ref H.length l.length ∧ fr 15 = j9 l ∧ fr 16 = .int .i64 l.length ∧ fr 17 = .int .i64 i ∧ i ≤ l.length ∧ ∃ J, H' = H ++ J ∧ J[0]? = some (.row true 2 (ji ((l.take i).map fun s => ql s h) l.length))
def LHi (l : List (List I)) (s : List I) (h : I) (b : Nat) (H : AH) (i : Nat) (m : Nat) (fr : zx) (H' : AH) : Prop :=
 fr 1 = UX b ∧ fr 2 = zS 91 ∧ fr 7 = .ref H.length l.length ∧ fr 15 = j9 l ∧ fr 16 = .int .i64 l.length ∧ fr 17 = .int .i64 i ∧ fr 8 = .int .i64 i ∧ fr 9 = bx s ∧ fr 11 = .int .i64 ((m : Int) - 1) ∧ m < s.length ∧
 ∃ J k, H' = H ++ J ∧ J[0]? = some (.row true 2 (ji ((l.take i).map fun s => ql s h) l.length)) ∧ 0 < k ∧ fr 10 = .ptr (H.length + k) 1 0 0 ∧ J[k]? = some (.row true 2 [iv (ql (s.drop m) h)])
theorem sHorner (l : List (List I)) (h : I) (b : Nat) (w : Bool) (hl : ∀ s ∈ l, zq s ∧ s ≠ [] ∧ s.length ≤ 100000) (hn : l.length ≤ 1000) (hh : vB h = true) (H : AH) (hb : H[b]? = some (.row w 2 [iv h])) :
  zg E 232 [j9 l, UX b, zS 91] H (.ret (bx (ZE l h))) H := by
 refine zt zn zo Tryz.func232 rfl (by rfl) Tryz.ntmps232 (by kernel_rfl) (by simp) ?_
 have hbl := (gI.1 hb).1
 simp [j9]
 refine ZQ (by omega) ?_
 simp
 refine zZ (LHo l h b H) (fun i => l.length - i) 0 ⟨by simp, by simp, by simp, by simp [j9], by simp, by simp, by omega, _, rfl, by simp [zbY]⟩ ?_
 rintro i fr H' ⟨g1, g2, g7, g15, g16, g17, hi, J, rfl, hJ0⟩
 have hJl : 0 < J.length := (gI.1 hJ0).1
 simp [g16, g17]
 refine zL (fun hc => ?_) (fun hc => ?_)
 ·have hlt : i < l.length := by simpa using hc
  obtain ⟨s, hs⟩ := zD hlt
  have hsE : ∀ h, l[i]'h = s := fun h => (gI.1 hs).2
  obtain ⟨hsv, hsn, hsl⟩ := hl s (List.mem_of_getElem? hs)
  have hpos : 0 < s.length := List.length_pos_iff.2 hsn
  obtain ⟨p, hp⟩ := zD (l := s) (i := s.length - 1) (by omega)
  have hpE : ∀ h, s[s.length - 1]'h = p := fun h => (gI.1 hp).2
  have w1 : IntKind.i64.wrap ((s.length : Int) - 1) = ((s.length - 1 : Nat) : Int) := by rw [zj (by omega) (by omega)]; omega
  have w2 : IntKind.i64.wrap ((s.length : Int) - 2) = ((s.length - 1 : Nat) : Int) - 1 := by rw [zj (by omega) (by omega)]; omega
  have wi : IntKind.i64.wrap ((i : Int) + 1) = ((i + 1 : Nat) : Int) := by rw [zj (by omega) (by omega)]; omega
  have hdl : ql (s.drop (s.length - 1)) h = p := by
   have : s.drop (s.length - 1) = [p] := by
    rw [List.drop_eq_getElem_cons (by omega), hpE, show s.length - 1 + 1 = s.length by omega, List.drop_length]
   rw [this]; rfl
  simp [g15, g17, j9, bx, hs, hsE, hp, hpE, w1, w2]
  refine zZ (LHi l s h b H i) (fun m => m) (s.length - 1) ⟨by simp [g1], by simp [g2], by simp [g7], by simp [g15], by simp [g16], by simp [g17], by simp, by simp [bx], by simp, by omega, _, J.length, rfl, zi hJ0, hJl, by simp, by simp [hdl]⟩ ?_
  clear hJ0 hJl g1 g2 g7 g15 g16 g17
  rintro m fr H' ⟨g1, g2, g7, g15, g16, g17, g8, g9, g11, hm, J', k, rfl, hJ0, hk0, g10, hJk⟩
  simp [g11]
  refine zL (fun hc2 => ?_) (fun hc2 => ?_)
  ·have hm1 : 1 ≤ m := by simp at hc2; omega
   have g11' : fr 11 = .int .i64 ((m - 1 : Nat) : Int) := by rw [g11]; congr 1; omega
   obtain ⟨a, ha⟩ := zD (l := s) (i := m - 1) (by omega)
   have haE : ∀ h, s[m - 1]'h = a := fun h => (gI.1 ha).2
   have hav := hsv a (List.mem_of_getElem? ha)
   have hdv : vB (ql (s.drop m) h) = true := zaJ fun p hp => hsv p (List.mem_of_mem_drop hp)
   have hstep : add (mul (ql (s.drop m) h) h) a = ql (s.drop (m - 1)) h := by
    have : s.drop (m - 1) = a :: s.drop m := by
     rw [List.drop_eq_getElem_cons (by omega), haE, show m - 1 + 1 = m by omega]
    rw [this, zbd]
    intro h0
    have := congrArg List.length h0
    simp at this; omega
   have hkl := (gI.1 hJk).1
   have hml : m - 1 < s.length := by omega
   have wm : IntKind.i64.wrap (((m - 1 : Nat) : Int) - 1) = ((m - 1 : Nat) : Int) - 1 := zj (by omega) (by omega)
   simp [g1, g2, g9, g10, g11', UX, zS, hJk, ha, haE, bx]
   refine zbL [b] (by simp; omega) (fun Hx hx => sEval1 _ h b w hdv hh Hx (by rw [hx b (by simp)]; exact zi hb)) ?_
   simp [g2, g9, g11', zS, bx, ha, haE]
   refine zB (fun Hx => V8 _ a jU hav Hx) ?_
   simp [g10, hJk]
   refine zm [(2, 9)] (by rfl) (by simp [zl, zk, za.triv, za.wr, za.none, upTo, newAt]; omega) ?_
   simp [g11', wm]
   refine ⟨m - 1, by show m - 1 < m; omega, by simp [g1, UX], by simp [g2, zS], by simp [g7], by simp [g15], by simp [g16], by simp [g17], by simp [g8], by simp [g9, bx], by simp, by omega, _, k, rfl, ?_, hk0, by simp [g10], ?_⟩
   ·rw [List.getElem?_set_ne (by omega)]; exact hJ0
   ·rw [← hstep]; exact Jh hJk
  ·have hm0 : m = 0 := by simp at hc2; omega
   subst hm0
   have hW0 : (ji ((l.take i).map fun s => ql s h) l.length)[i]? = some (iv (0, 0)) := zbB (by simp <;> omega) hlt
   have hW0E : ∀ h', (ji ((l.take i).map fun s => ql s h) l.length)[i]'h' = iv (0, 0) := fun h' => (gI.1 hW0).2
   have hWl : (ji ((l.take i).map fun s => ql s h) l.length).length = l.length := zbZ (by simp <;> omega)
   have hWset : (ji ((l.take i).map fun s => ql s h) l.length).set i (iv (ql s h)) = ji ((l.take (i + 1)).map fun s => ql s h) l.length := by
    have := zbX (l := (l.take i).map fun s => ql s h) (n := l.length) (p := ql s h) (by simp <;> omega)
    rw [show ((l.take i).map fun s => ql s h).length = i by (simp <;> omega)] at this
    rw [this, List.take_add_one, hs]
    simp
   generalize ji ((l.take i).map fun s => ql s h) l.length = W at *
   have hJl2 := (gI.1 hJ0).1
   rw [List.drop_zero] at hJk
   simp [g7, g8, g10, g17, hJ0, hJk, hWl, hlt, hW0, hW0E, wi]
   refine ⟨i + 1, by show l.length - (i + 1) < l.length - i; omega, by simp [g1], by simp [g2], by simp [g7], by simp [g15], by simp [g16], by simp, by omega, _, rfl, ?_⟩
   rw [← hWset]; exact Jh hJ0
 ·have hi' : i = l.length := by have : ¬ i < l.length := by simpa using hc
                                omega
  subst hi'
  rw [List.take_length, zb0 (by simp)] at hJ0
  simp
  exact ZO (t := 6) (v := .ref (H.length + 0) l.length) (v0 := .nilslice) (sz := 2) (xs := (ZE l h).map iv) (by rfl) (by simp [g7]) (.inr ⟨0, by simp [ZE], hJ0⟩) rfl (js _ _)
theorem sEval (l : List (List I)) (h : I) (hl : ∀ s ∈ l, zq s ∧ s ≠ [] ∧ s.length ≤ 100000) (hn : l.length ≤ 1000) (hh : vB h = true) (H : AH) : zg E 176 [j9 l, iv h] H (.ret (bx (ZE l h))) H := by
 refine zt zn zo Tryz.func176 rfl (by rfl) Tryz.ntmps176 (by kernel_rfl) (by simp) ?_
 simp
 refine zd (sHorner l h H.length true hl hn hh _ (by simp)) ?_
 simp
 exact zv (rs := [.tmp 4]) (by rfl) (by simp [ze]) (by simp only [bx, noF, js])
def LE9 (l : List (List I)) (h : I) (H : AH) (i : Nat) (fr : zx) (H' : AH) : Prop :=
 fr 0 = j9 l ∧ fr 3 = .ptr H.length 1 0 0 ∧ fr 6 = .int .i64 i ∧ i ≤ l.length ∧ ∃ J, H' = H ++ J ∧ J[0]? = some (.row true 2 [iv h]) ∧ qr H J (fr 5) 2 (((l.take i).map fun s => ql s h).map iv) (.slice [] true) ∧ (∀ n, fr 5 ≠ .ref (H.length + 0) n)
def LE9u (l : List (List I)) (s : List I) (h : I) (H : AH) (i : Nat) (m : Nat) (fr : zx) (H' : AH) : Prop :=
 fr 0 = j9 l ∧ fr 3 = .ptr H.length 1 0 0 ∧ fr 6 = .int .i64 i ∧ fr 8 = .int .i64 ((m : Int) - 1) ∧ m < s.length ∧
 ∃ J k, H' = H ++ J ∧ J[0]? = some (.row true 2 [iv h]) ∧ qr H J (fr 5) 2 (((l.take i).map fun s => ql s h).map iv) (.slice [] true) ∧ (∀ n, fr 5 ≠ .ref (H.length + 0) n) ∧ 0 < k ∧ fr 7 = .ptr (H.length + k) 1 0 0 ∧ J[k]? = some (.row true 2 [iv (ql (s.drop m) h)]) ∧ (∀ n, fr 5 ≠ .ref (H.length + k) n)
theorem r9Eval (l : List (List I)) (h : I) (hl : ∀ s ∈ l, zq s ∧ s ≠ [] ∧ s.length ≤ 100000) (hn : l.length ≤ 1000) (hh : vB h = true) (H : AH) : zg E 129 [j9 l, iv h] H (.ret (bx (ZE l h))) H := by
 refine zt zn zo Tryz.func129 rfl (by rfl) Tryz.ntmps129 (by kernel_rfl) (by simp) ?_
 simp
 refine zZ (LE9 l h H) (fun i => l.length - i) 0 ⟨by simp, by simp, by simp, by omega, _, rfl, by simp, .inl ⟨by simp, by simp⟩, by simp⟩ ?_
 rintro i fr H' ⟨g0, g3, g6, hi, J, rfl, hJ0, hacc, hn0⟩
 have hJl : 0 < J.length := (gI.1 hJ0).1
 simp [g0, g6, j9]
 refine zL (fun hc => ?_) (fun hc => ?_)
 ·have hlt : i < l.length := by simpa using hc
  obtain ⟨s, hs⟩ := zD hlt
  have hsE : ∀ h, l[i]'h = s := fun h => (gI.1 hs).2
  obtain ⟨hsv, hsn, hsl⟩ := hl s (List.mem_of_getElem? hs)
  have hpos : 0 < s.length := List.length_pos_iff.2 hsn
  obtain ⟨p, hp⟩ := zD (l := s) (i := s.length - 1) (by omega)
  have hpE : ∀ h, s[s.length - 1]'h = p := fun h => (gI.1 hp).2
  have w1 : IntKind.i64.wrap ((s.length : Int) - 1) = ((s.length - 1 : Nat) : Int) := by rw [zj (by omega) (by omega)]; omega
  have w2 : IntKind.i64.wrap ((s.length : Int) - 2) = ((s.length - 1 : Nat) : Int) - 1 := by rw [zj (by omega) (by omega)]; omega
  have wi : IntKind.i64.wrap ((i : Int) + 1) = ((i + 1 : Nat) : Int) := by rw [zj (by omega) (by omega)]; omega
  have hdl : ql (s.drop (s.length - 1)) h = p := by
   have : s.drop (s.length - 1) = [p] := by
    rw [List.drop_eq_getElem_cons (by omega), hpE, show s.length - 1 + 1 = s.length by omega, List.drop_length]
   rw [this]; rfl
  have hnJ : ∀ n, fr 5 ≠ .ref (H.length + J.length) n := by
   intro n hv
   rcases hacc with ⟨_, h0⟩ | ⟨kk, h0, hk⟩
   ·rw [h0] at hv; cases hv
   ·rw [h0] at hv
    have := (gI.1 hk).1
    simp at hv; omega
  simp [g0, g6, j9, bx, hs, hsE, hp, hpE, w1]
  refine zm [(12, 13)] (by rfl) (by simp [zl, zk, za.triv, za.wr, za.none, upTo, newAt]) ?_
  simp [g0, g6, j9, bx, hs, hsE, w2]
  refine zZ (LE9u l s h H i) (fun m => m) (s.length - 1) ⟨by simp [g0, j9], by simp [g3], by simp [g6], by simp, by omega, _, J.length, rfl, zi hJ0, by simpa using hacc.len, by simpa using hn0, hJl, by simp, by simp [hdl], by simpa using hnJ⟩ ?_
  clear hJ0 hJl hacc hn0 hnJ g0 g3 g6
  rintro m fr H' ⟨g0, g3, g6, g8, hm, J', k, rfl, hJ0, hacc, hn0, hk0, g7, hJk, hnk⟩
  simp [g8]
  refine zL (fun hc2 => ?_) (fun hc2 => ?_)
  ·have hm1 : 1 ≤ m := by simp at hc2; omega
   have g8' : fr 8 = .int .i64 ((m - 1 : Nat) : Int) := by rw [g8]; congr 1; omega
   obtain ⟨a, ha⟩ := zD (l := s) (i := m - 1) (by omega)
   have haE : ∀ h, s[m - 1]'h = a := fun h => (gI.1 ha).2
   have hav := hsv a (List.mem_of_getElem? ha)
   have hdv : vB (ql (s.drop m) h) = true := zaJ fun p hp => hsv p (List.mem_of_mem_drop hp)
   have hstep : add (mul (ql (s.drop m) h) h) a = ql (s.drop (m - 1)) h := by
    have : s.drop (m - 1) = a :: s.drop m := by
     rw [List.drop_eq_getElem_cons (by omega), haE, show m - 1 + 1 = m by omega]
    rw [this, zbd]
    intro h0
    have := congrArg List.length h0
    simp at this; omega
   have hkl := (gI.1 hJk).1
   have wm : IntKind.i64.wrap (((m - 1 : Nat) : Int) - 1) = ((m - 1 : Nat) : Int) - 1 := zj (by omega) (by omega)
   simp [g0, g3, g6, g7, g8', hJ0, hJk, j9, bx, hs, hsE, ha, haE]
   refine zB (fun Hx => YE _ h hdv hh Hx) ?_
   simp [g0, g6, g8', j9, bx, hs, hsE, ha, haE]
   refine zB (fun Hx => V3 _ a jU hav Hx) ?_
   simp [g7, hJk]
   refine zm [(0, 11)] (by rfl) (by simp [zl, zk, za.triv, za.wr, za.none, upTo, newAt]; omega) ?_
   simp [g8', wm]
   refine ⟨m - 1, by show m - 1 < m; omega, by simp [g0, j9], by simp [g3], by simp [g6], by simp, by omega, _, k, rfl, ?_, by simpa using hacc.set hnk, by simpa using hn0, hk0, by simp [g7], ?_, by simpa using hnk⟩
   ·rw [List.getElem?_set_ne (by omega)]; exact hJ0
   ·rw [← hstep]; exact Jh hJk
  ·have hm0 : m = 0 := by simp at hc2; omega
   subst hm0
   rw [List.drop_zero] at hJk
   have hft : (l.take (i + 1)).map (fun s => ql s h) = (l.take i).map (fun s => ql s h) ++ [ql s h] := by rw [List.take_add_one, hs]; simp
   obtain ⟨v', J2, hap, hacc', hk', hle, hnew⟩ := qr.push (T := zp) (t := 23) (e := 48) (x := .slice [iv (ql s h)] true) (ys := [iv (ql s h)]) hacc tab23 rfl tab48 rfl rfl (by simp [qo]) ⟨by decide, by simp⟩ (by simp; omega) (by simp; omega)
   have hJl2 : 0 < J'.length := (gI.1 hJ0).1
   simp [g6, g7, hJk]
   refine bind_some (by simpa using hap) ?_
   simp [g6, wi]
   refine ⟨i + 1, by show l.length - (i + 1) < l.length - i; omega, by simp [g0], by simp [g3], by simp, by omega, J2, rfl, hk' 0 _ hJ0 hn0, by rw [hft]; simpa using hacc', ?_⟩
   intro n hv
   rcases hnew 0 n (by simpa using hv) with ⟨m, hm⟩ | hm
   ·exact hn0 m hm
   ·omega
 ·have hi' : i = l.length := by have : ¬ i < l.length := by simpa using hc
                                omega
  subst hi'
  rw [List.take_length] at hacc
  simp
  exact ZO (t := 4) (by rfl) (by simp) hacc rfl (js _ _)
end Go.Proofs.YtkghjlgpmeibhaaGreatDoor.Arm

namespace Go.Pl
structure Ct where
 order : Int
 first : Int
 least : Int
 most : Int
 wide : Int
 deriving DecidableEq
def Vz (x n : Int) : Int := max (x.tmod n) (-(x.tmod n))
theorem magn_bounds (x : Int) {n : Int} (hn : 0 < n) : 0 ≤ Vz x n ∧ Vz x n < n := by
 obtain ⟨h1, h2⟩ := ZZ x hn
 unfold Vz
 by_cases h : 0 ≤ x
 ·have := h1 h; omega
 ·have := h2 (by omega); omega
end Go.Pl

namespace Go.Pl
def Zn (b : List I) : Bool := b.all fun p => !zI p
def qt (a b : List I) : Bool := (List.range a.length).all fun i => jr (zf a i) (zf b i)
structure Sg where
 t : Int
 h : Int
 frm : List I
 pre : List I
 tube : List I
 to : List I
def jo (a b : List I) : List I := (List.range a.length).map fun i => qK (zf a i) (zf b i)
def Q5 (p : I) : I := mk (p.1 - ((p.2 - p.1) / 16 + 1)) (p.2 + ((p.2 - p.1) / 16 + 1))
def ju (a : List I) : List I := (List.range a.length).map fun i => Q5 (zf a i)
theorem inflI_valid {p : I} (h : vB p = true) : vB (Q5 p) = true := by
 have := qR h
 exact Q2 (by omega)
def jA (p q : I) : I := if jj p q then Vy p q else q
theorem restrI_valid {p q : I} (hp : vB p = true) (hq : vB q = true) : vB (jA p q) = true := by
 unfold jA
 split
 ·rename_i h
  have h1 := qR hp
  have h2 := qR hq
  simp only [jj, decide_eq_true_eq] at h
  by_cases e1 : p = ent
  ·have e : Vy p q = q := by subst e1; exact Prod.ext (by show max (-2147483648) q.1 = q.1; omega) (by show min 2147483648 q.2 = q.2; omega)
   rw [e]; exact hq
  ·by_cases e2 : q = ent
   ·have e : Vy p q = p := by subst e2; exact Prod.ext (by show max p.1 (-2147483648) = p.1; omega) (by show min p.2 2147483648 = p.2; omega)
    rw [e]; exact hp
   ·have a1 : zI p = false := by cases hh : zI p with
     | false => rfl
     | true => exact absurd (jw.1 hh) e1
    have a2 : zI q = false := by cases hh : zI q with
     | false => rfl
     | true => exact absurd (jw.1 hh) e2
    have b1 := Zq hp a1
    have b2 := Zq hq a2
    exact qA (by omega) h (by omega)
 ·exact hq
def Jk (a b : List I) : List I := (List.range a.length).map fun i => jA (zf a i) (zf b i)
def Zv (h : Int) (p q : I) : I := add p (mul (mk 0 h) q)
def zV (T : Tp) (x b : List I) (t h : Int) : List I := (List.range x.length).map fun i => Zv h (zf x i) (zf (Zl T b (mk t (t + h))) i)
theorem imgI_valid {h : Int} {p q : I} (hp : vB p = true) : vB (Zv h p q) = true := JK hp jU
theorem UK {n : Nat} {f : Nat → I} (h : ∀ i, vB (f i) = true) : zq ((List.range n).map f) := fun p hp => by
 obtain ⟨k, _, rfl⟩ := List.mem_map.1 hp; exact h k
theorem Jn {T : Tp} {x b : List I} {t h : Int} (hx : zq x) : zq (zV T x b t h) := UK fun i => imgI_valid (qE hx i)
theorem VE {T : Tp} {x b : List I} {t h : Int} : (zV T x b t h).length = x.length := by simp [zV]
def validatesB (T : Tp) (x b : List I) (t h : Int) : Bool := Zn (zV T x b t h) && qt (zV T x b t h) b
theorem zaI {b : List I} (h : zq b) : zq (ju b) := UK fun i => inflI_valid (qE h i)
theorem zbF (b : List I) : (ju b).length = b.length := by simp [ju]
theorem hull_valid {p q : I} (hp : vB p = true) (hq : vB q = true) : vB (qK p q) = true := by
 have h1 := qR hp
 have h2 := qR hq
 cases a1 : zI p with
 | true =>
  rw [jw] at a1; subst a1
  have e : qK ent q = ent := Prod.ext (by show min (-2147483648) q.1 = -2147483648; omega) (by show max 2147483648 q.2 = 2147483648; omega)
  rw [e]; exact zbH
 | false =>
  cases a2 : zI q with
  | true =>
   rw [jw] at a2; subst a2
   have e : qK p ent = ent := Prod.ext (by show min p.1 (-2147483648) = -2147483648; omega) (by show max p.2 2147483648 = 2147483648; omega)
   rw [e]; exact zbH
  | false =>
   have b1 := Zq hp a1
   have b2 := Zq hq a2
   exact qA (by omega) (by omega) (by omega)
theorem V9 {a b : List I} (ha : zq a) (hb : zq b) : zq (jo a b) := UK fun i => hull_valid (qE ha i) (qE hb i)
theorem Q7 (a b : List I) : (jo a b).length = a.length := by simp [jo]
def VF (T : Tp) (x : List I) (t h : Int) : Nat → List I → Option (List I)
 | 0, _ => none
 | k + 1, b =>
  if Zn b = false then none
  else if Zn (ju b) = false then none
  else if Zn (zV T x (ju b) t h) = false then none
  else if qt (zV T x (ju b) t h) (ju b) = true then some (zV T x (ju b) t h)
  else VF T x t h k (jo (ju b) (zV T x (ju b) t h))
def Qu (T : Tp) (x : List I) (t h : Int) : Option (List I) := VF T x t h 8 (jo x (zV T x x t h))
def Xf (T : Tp) (x : List I) (t h : Int) : Nat → List I → List (List I × List I)
 | 0, _ => []
 | k + 1, b =>
  if Zn b = false then []
  else if Zn (ju b) = false then []
  else if Zn (zV T x (ju b) t h) = false then []
  else (ju b, zV T x (ju b) t h) :: Xf T x t h k (jo (ju b) (zV T x (ju b) t h))
def Y5 (p : List I × List I) : Option (List I) := if qt p.2 p.1 = true then some p.2 else none
theorem zbJ (T : Tp) (x : List I) (t h : Int) : ∀ (n : Nat) (b : List I), VF T x t h n b = (Xf T x t h n b).findSome? Y5
 | 0, _ => rfl
 | n + 1, b => by
  simp only [VF, Xf]
  split
  ·rfl
  split
  ·rfl
  split
  ·rfl
  rw [List.findSome?_cons]
  simp only [Y5]
  split
  ·rfl
  ·exact zbJ T x t h n _
theorem zcn {T : Tp} {x : List I} {t h : Int} (hx : zq x) : ∀ (n : Nat) (b : List I), zq b → b.length = x.length → ∀ p ∈ Xf T x t h n b, zq p.1 ∧ p.1.length = x.length ∧ zq p.2 ∧ p.2.length = x.length
 | 0, _, _, _, p, hp => by simp [Xf] at hp
 | n + 1, b, hb, hl, p, hp => by
  simp only [Xf] at hp
  split at hp
  ·cases hp
  split at hp
  ·cases hp
  split at hp
  ·cases hp
  have h1 := zaI hb
  have h2 : (ju b).length = x.length := by rw [zbF, hl]
  rcases List.mem_cons.1 hp with rfl | hp
  ·exact ⟨h1, h2, Jn hx, VE⟩
  ·exact zcn hx n _ (V9 h1 (Jn hx)) (by rw [Q7, h2]) p hp
theorem ZT {l : List (List I)} {j : Nat} {q : List I} (h : l[j]? = some q) : zu l j = q := by simp [zu, h]
theorem zaa {l : List (List I)} {j : Nat} {q : List I} (h : j < l.length) : zu (l.set j q) j = q := by simp [zu, h]
theorem rowN_set_ne {l : List (List I)} {j k : Nat} {q : List I} (h : j ≠ k) : zu (l.set j q) k = zu l k := by simp [zu, List.getElem?_set_ne h]
theorem Jj {l : List (List I)} (h : ∀ q ∈ l, zq q) (j : Int) : zq (zu l j) := by
 unfold zu
 cases hl : l[j.toNat]? with
 | none => intro p hp; simp at hp
 | some q => exact h q (List.mem_of_getElem? hl)
theorem QV {c : Prop} [Decidable c] {p q : I} (hp : c → vB p = true) (hq : vB q = true) : vB (if c then p else q) = true := by
 split
 ·exact hp ‹_›
 ·exact hq
theorem nextC_valid {x : zT} {l : List (List I)} {own : List I} {t : I} (hc : x.op = 1 → vB x.c = true) (hl : ∀ q ∈ l, zq q) (ho : zq own) (ht : vB t = true) : vB (qq x l own t) = true := by
 have h0 : vB (0, 0) = true := qA (by omega) (by omega) (by omega)
 have h1 : vB (65536, 65536) = true := qA (by omega) (by omega) (by omega)
 have hr : ∀ j, zq (zu l j) := fun j => Jj hl j
 exact QV (fun _ => V7 (qE (hr _) _)) (QV (fun _ => JK (qE (hr _) _) (qE (hr _) _)) (QV (fun _ => Xy (qE (hr _) _) (qE (hr _) _)) (QV (fun _ => Ve _ _ _ _ _)
  (QV (fun _ => QV (fun _ => zbg (qE (hr _) _)) (Ve _ _ _ _ _)) (QV (fun _ => nextQ_valid (hr _) (hr _) _) (QV (fun _ => nextR_valid (hr _) ho) (QV (fun h => QV (fun _ => hc h) h0) (QV (fun _ => QV (fun _ => ht) (QV (fun _ => h1) h0)) h0))))))))
structure Ji (m k i : Nat) (l : List (List I)) : Prop where
 len : l.length = m
 row : ∀ j, j < m → (zu l j).length = if j < i then k + 1 else k
 val : ∀ q ∈ l, zq q
theorem set_valid {l : List (List I)} {j : Nat} {q : List I} (h : ∀ q ∈ l, zq q) (hq : zq q) : ∀ p ∈ l.set j q, zq p := fun p hp => by
 rcases List.mem_or_eq_of_mem_set hp with hp | rfl
 ·exact h p hp
 ·exact hq
theorem Ji.push {m k i : Nat} {l : List (List I)} (h : Ji m k i l) (hi : i < m) {p : I} (hp : vB p = true) : Ji m k (i + 1) (l.set i (zu l i ++ [p])) := by
 refine ⟨by simp [h.len], fun j hj => ?_, set_valid h.val (za3 (Jj h.val i) hp)⟩
 by_cases hji : i = j
 ·subst hji
  rw [zaa (by rw [h.len]; exact hi)]
  have := h.row i hi
  rw [if_neg (by omega)] at this
  simp [this]
 ·rw [rowN_set_ne hji, h.row j hj]
  by_cases h1 : j < i
  ·rw [if_pos h1, if_pos (by omega)]
  ·rw [if_neg h1, if_neg (by omega)]
theorem Ji.next {m k : Nat} {l : List (List I)} (h : Ji m k m l) : Ji m (k + 1) 0 l := ⟨h.len, fun j hj => by rw [h.row j hj, if_pos hj, if_neg (by omega)], h.val⟩
def QQ (x : zT) (out l : List (List I)) (t : I) (k i : Nat) : I := if x.op = 2 then zf (zu out x.a) k else qq x l (zu l i) t
theorem Yu {L : List zT} {out l : List (List I)} {t : I} {k i : Nat} {x : zT} (hx : L[i]? = some x) :
  jG L out t k l (i + 1) = (jG L out t k l i).set i (zu (jG L out t k l i) i ++ [QQ x out (jG L out t k l i) t k i]) := by
 simp only [jG, hx, QQ]
theorem Yt {T : Tp} {l out : List (List I)} {k i o : Nat} (ho : T.out[i]? = some o) :
  j5 T l k out (i + 1) = (j5 T l k out i).set i (zu (j5 T l k out i) i ++ [jM (zf (zu l (o : Int)) k) 1 (k + 1)]) := by
 simp only [j5, ho]
section
variable {T : Tp} {x : List I} {t : I} (hT : z8 T) (hx : zq x) (ht : vB t = true)
include hT ht in
theorem Yv {out l : List (List I)} {k : Nat} (hl : Ji T.L.length k 0 l) (ho : ∀ q ∈ out, zq q) : ∀ i, i ≤ T.L.length → Ji T.L.length k i (jG T.L out t k l i)
 | 0, _ => hl
 | i + 1, hi => by
  have ih := Yv hl ho i (by omega)
  have hlt : i < T.L.length := by omega
  rw [Yu (List.getElem?_eq_getElem hlt)]
  refine ih.push hlt ?_
  unfold QQ
  split
  ·exact qE (Jj ho _) _
  ·exact nextC_valid (hT.num _ (List.getElem_mem hlt)) ih.val (Jj ih.val _) ht
include hT in
theorem UC {l out : List (List I)} {k : Nat} (hl : ∀ q ∈ l, zq q) (ho : Ji T.n (k + 1) 0 out) : ∀ i, i ≤ T.n → Ji T.n (k + 1) i (j5 T l k out i)
 | 0, _ => ho
 | i + 1, hi => by
  have ih := UC hl ho i (by omega)
  have hlt : i < T.out.length := by rw [hT.len]; omega
  rw [Yt (List.getElem?_eq_getElem hlt)]
  exact ih.push (by omega) (zax (qE (Jj hl _) _) (by decide) (by omega))
include hT hx ht in
theorem j0 : ∀ k, Ji T.L.length k 0 (zH T x t k).1 ∧ Ji T.n (k + 1) 0 (zH T x t k).2
 | 0 => by
  refine ⟨⟨by simp [zH], fun j hj => by rw [if_neg (by omega)]; simp [zH, zu, hj], fun q hq => ?_⟩, ⟨by simp [zH], fun j hj => by rw [if_neg (by omega)]; simp [zH, zu, hj], fun q hq => ?_⟩⟩
  ·have : q = [] := by simp only [zH] at hq; exact List.eq_of_mem_replicate hq
   subst this; intro p hp; simp at hp
  ·simp only [zH, List.mem_map, List.mem_range] at hq
   obtain ⟨j, _, rfl⟩ := hq
   intro p hp
   simp at hp; subst hp
   exact qE hx j
 | k + 1 => by
  obtain ⟨h1, h2⟩ := j0 k
  have h3 := Yv hT ht h1 h2.val T.L.length (Nat.le_refl _)
  have h4 := UC hT h3.val h2 T.n (Nat.le_refl _)
  simp only [zH]
  rw [hT.len]
  exact ⟨h3.next, h4.next⟩
end
def j6 (T : Tp) (b : List I) (t h : Int) (order : Nat) : List I := (qw T b (t, t + h) (order + 1)).map fun s => zf s (order + 1)
def qW (l : List (List I)) (r : List I) : List (List I) := (List.range l.length).map fun i : Nat => zu l (i : Int) ++ [zf r i]
def qM (T : Tp) (x b : List I) (t h : Int) (part : I) (order : Nat) : List I := Jk (ZE (qW (qw T x (t, t) order) (j6 T b t h order)) part) b
def QG (T : Tp) (x : List I) (t h : Int) (order : Nat) : Option Sg := match Qu T x t h with
 | none => none
 | some b => if Zn (qM T x b t h (0, h) order) && Zn (qM T x b t h (h, h) order) then some ⟨t, h, x, b, qM T x b t h (0, h) order, qM T x b t h (h, h) order⟩ else none
end Go.Pl

namespace Go.Proofs.YtkghjlgpmeibhaaGreatDoor.Arm
open Go.Arm Go.Pl
theorem all_false {α : Type} {P : α → Bool} {l : List α} {i : Nat} {p : α} (h : l[i]? = some p) (hp : P p = false) : l.all P = false := by
 rw [List.all_eq_false]
 exact ⟨p, List.mem_of_getElem? h, by simp [hp]⟩
def YN (P : I → Bool) (b : List I) (i : Nat) : Prop := ∀ j p, j < i → b[j]? = some p → P p = true
theorem okTo_zero (P : I → Bool) (b : List I) : YN P b 0 := fun j p hj => by omega
theorem okTo_succ {P : I → Bool} {b : List I} {i : Nat} {p : I} (h : YN P b i) (hp : b[i]? = some p) (hP : P p = true) : YN P b (i + 1) := by
 intro j q hj hq
 by_cases hji : j = i
 ·subst hji; rw [hp] at hq; cases hq; exact hP
 ·exact h j q (by omega) hq
theorem okTo_all {P : I → Bool} {b : List I} (h : YN P b b.length) : b.all P = true := by
 rw [List.all_eq_true]
 intro p hp
 obtain ⟨j, hj⟩ := List.mem_iff_getElem?.1 hp
 exact h j p (gI.1 hj).1 hj
def LBd (b : List I) (d ix : Nat) (w : Option Int) (H : AH) (i : Nat) (fr : zx) (H' : AH) : Prop :=
 fr 0 = bx b ∧ (∀ x, w = some x → fr 1 = .int .i64 x) ∧ fr ix = .int .i64 i ∧ i ≤ b.length ∧ H' = H
theorem za9 (b : List I) (hl : b.length ≤ 1000000) (H : AH) : zg E 158 [bx b] H (.ret (.bool (Zn b))) H := by
 refine zt zn zo Tryz.func158 rfl (by rfl) Tryz.ntmps158 (by kernel_rfl) (by simp) ?_
 simp [bx]
 refine zZ (fun i fr H' => LBd b 0 3 none H i fr H' ∧ YN (fun p => !zI p) b i) (fun i => b.length - i) 0 ⟨⟨by simp [bx], by simp, by simp, by omega, rfl⟩, okTo_zero _ _⟩ ?_
 rintro i fr H' ⟨⟨g0, g1, gi, hi, rfl⟩, hok⟩
 clear g1
 simp [g0, gi, bx]
 refine zL (fun hc => ?_) (fun hc => ?_)
 ·have hlt : i < b.length := by simpa using hc
  obtain ⟨p, hp⟩ := zD hlt
  have hpE : ∀ h, b[i]'h = p := fun h => (gI.1 hp).2
  have w2 : IntKind.i64.wrap ((i : Int) + 1) = ((i + 1 : Nat) : Int) := by rw [zj (by omega) (by omega)]; omega
  simp [g0, gi, bx, hp, hpE]
  refine zd (Jl p _) ?_
  simp
  refine zL (fun hq => ?_) (fun hq => ?_)
  ·have hP : (fun p => !zI p : I → Bool) p = false := by simpa using hq
   have hall : b.all (fun p => !zI p) = false := all_false hp hP
   simp
   exact zY (rs := [.tmp 2]) (by rfl) (by simp [ze, Zn, hall])
  ·have hP : (fun p => !zI p : I → Bool) p = true := by simpa using hq
   simp [gi, w2]
   refine ⟨i + 1, by show b.length - (i + 1) < b.length - i; omega, ⟨by simp [g0, bx], by simp, by simp, by omega, rfl⟩, okTo_succ hok hp hP⟩
 ·have hi' : i = b.length := by have : ¬ i < b.length := by simpa using hc
                                omega
  subst hi'
  have hall : b.all (fun p => !zI p) = true := okTo_all hok
  simp
  exact zY (rs := [.tmp 2]) (by rfl) (by simp [ze, Zn, hall])
theorem r12Unbounded (b : List I) (hl : b.length ≤ 1000000) (H : AH) : zg E 102 [bx b] H (.ret (.bool (!Zn b))) H := by
 refine zt zn zo Tryz.func102 rfl (by rfl) Tryz.ntmps102 (by kernel_rfl) (by simp) ?_
 simp [bx]
 refine zZ (fun i fr H' => LBd b 0 3 none H i fr H' ∧ YN (fun p => !zI p) b i) (fun i => b.length - i) 0 ⟨⟨by simp [bx], by simp, by simp, by omega, rfl⟩, okTo_zero _ _⟩ ?_
 rintro i fr H' ⟨⟨g0, g1, gi, hi, rfl⟩, hok⟩
 clear g1
 simp [g0, gi, bx]
 refine zL (fun hc => ?_) (fun hc => ?_)
 ·have hlt : i < b.length := by simpa using hc
  obtain ⟨p, hp⟩ := zD hlt
  have hpE : ∀ h, b[i]'h = p := fun h => (gI.1 hp).2
  have w2 : IntKind.i64.wrap ((i : Int) + 1) = ((i + 1 : Nat) : Int) := by rw [zj (by omega) (by omega)]; omega
  simp [g0, gi, bx, hp, hpE]
  refine zd (Jl p _) ?_
  simp
  refine zL (fun hq => ?_) (fun hq => ?_)
  ·have hP : (fun p => !zI p : I → Bool) p = false := by simpa using hq
   have hall : b.all (fun p => !zI p) = false := all_false hp hP
   simp
   exact zY (rs := [.tmp 2]) (by rfl) (by simp [ze, Zn, hall])
  ·have hP : (fun p => !zI p : I → Bool) p = true := by simpa using hq
   simp [gi, w2]
   refine ⟨i + 1, by show b.length - (i + 1) < b.length - i; omega, ⟨by simp [g0, bx], by simp, by simp, by omega, rfl⟩, okTo_succ hok hp hP⟩
 ·have hi' : i = b.length := by have : ¬ i < b.length := by simpa using hc
                                omega
  subst hi'
  have hall : b.all (fun p => !zI p) = true := okTo_all hok
  simp
  exact zY (rs := [.tmp 2]) (by rfl) (by simp [ze, Zn, hall])
def okN (P : Nat → Bool) (i : Nat) : Prop := ∀ j, j < i → P j = true
theorem okN_succ {P : Nat → Bool} {i : Nat} (h : okN P i) (hP : P i = true) : okN P (i + 1) := by
 intro j hj
 by_cases hji : j = i
 ·subst hji; exact hP
 ·exact h j (by omega)
theorem okN_all {P : Nat → Bool} {n : Nat} (h : okN P n) : (List.range n).all P = true := by
 rw [List.all_eq_true]; intro j hj; exact h j (List.mem_range.1 hj)
theorem okN_false {P : Nat → Bool} {n i : Nat} (hi : i < n) (hP : P i = false) : (List.range n).all P = false := by
 rw [List.all_eq_false]; exact ⟨i, List.mem_range.2 hi, by simp [hP]⟩
def LSu (a b : List I) (H : AH) (i : Nat) (fr : zx) (H' : AH) : Prop :=
 fr 0 = bx a ∧ fr 1 = bx b ∧ fr 5 = .int .i64 i ∧ i ≤ a.length ∧ H' = H ∧ okN (fun k => jr (zf a k) (zf b k)) i
theorem r11Subset (a b : List I) (hab : a.length ≤ b.length) (hl : a.length ≤ 1000000) (H : AH) : zg E 160 [bx a, bx b] H (.ret (.bool (qt a b))) H := by
 refine zt zn zo Tryz.func160 rfl (by rfl) Tryz.ntmps160 (by kernel_rfl) (by simp) ?_
 simp [bx]
 refine zZ (LSu a b H) (fun i => a.length - i) 0 ⟨by simp [bx], by simp [bx], by simp, by omega, rfl, fun j hj => by omega⟩ ?_
 rintro i fr H' ⟨g0, g1, g5, hi, rfl, hok⟩
 simp [g0, g5, bx]
 refine zL (fun hc => ?_) (fun hc => ?_)
 ·have hlt : i < a.length := by simpa using hc
  obtain ⟨p, hp⟩ := zD hlt
  obtain ⟨q, hq⟩ := zD (l := b) (i := i) (by omega)
  have hpE : ∀ h, a[i]'h = p := fun h => (gI.1 hp).2
  have hqE : ∀ h, b[i]'h = q := fun h => (gI.1 hq).2
  have w2 : IntKind.i64.wrap ((i : Int) + 1) = ((i + 1 : Nat) : Int) := by rw [zj (by omega) (by omega)]; omega
  have hs : jr (zf a i) (zf b i) = jr p q := by simp [zf, hp, hq]
  simp [g0, g1, g5, bx, hp, hpE, hq, hqE]
  refine zB (fun Hx => zbT p q Hx) ?_
  simp
  refine zm [] (by rfl) (by simp [zl, zk, za.triv, za.wr, za.none, upTo, newAt]) ?_
  simp
  refine zL (fun hb => ?_) (fun hb => ?_)
  ·have hP : jr p q = false := by simpa using hb
   have hall : qt a b = false := okN_false hlt (by rw [hs]; exact hP)
   simp
   exact zY (rs := [.tmp 4]) (by rfl) (by simp [ze, hall])
  ·have hP : jr p q = true := by simpa using hb
   simp [g5, w2]
   exact ⟨i + 1, by show a.length - (i + 1) < a.length - i; omega, by simp [g0, bx], by simp [g1, bx], by simp, by omega, rfl, okN_succ hok (by rw [hs]; exact hP)⟩
 ·have hi' : i = a.length := by have : ¬ i < a.length := by simpa using hc
                                omega
  subst hi'
  have hall : qt a b = true := okN_all hok
  simp
  exact zY (rs := [.tmp 4]) (by rfl) (by simp [ze, hall])
theorem r3Subset (a b : List I) (hab : a.length ≤ b.length) (hl : a.length ≤ 1000000) (H : AH) : zg E 32 [bx a, bx b] H (.ret (.bool (qt a b))) H := by
 refine zt zn zo Tryz.func32 rfl (by rfl) Tryz.ntmps32 (by kernel_rfl) (by simp) ?_
 simp [bx]
 refine zZ (LSu a b H) (fun i => a.length - i) 0 ⟨by simp [bx], by simp [bx], by simp, by omega, rfl, fun j hj => by omega⟩ ?_
 rintro i fr H' ⟨g0, g1, g5, hi, rfl, hok⟩
 simp [g0, g5, bx]
 refine zL (fun hc => ?_) (fun hc => ?_)
 ·have hlt : i < a.length := by simpa using hc
  obtain ⟨p, hp⟩ := zD hlt
  obtain ⟨q, hq⟩ := zD (l := b) (i := i) (by omega)
  have hpE : ∀ h, a[i]'h = p := fun h => (gI.1 hp).2
  have hqE : ∀ h, b[i]'h = q := fun h => (gI.1 hq).2
  have w2 : IntKind.i64.wrap ((i : Int) + 1) = ((i + 1 : Nat) : Int) := by rw [zj (by omega) (by omega)]; omega
  have hs : jr (zf a i) (zf b i) = jr p q := by simp [zf, hp, hq]
  simp [g0, g1, g5, bx, hp, hpE, hq, hqE]
  refine zB (fun Hx => zbT p q Hx) ?_
  simp
  refine zm [] (by rfl) (by simp [zl, zk, za.triv, za.wr, za.none, upTo, newAt]) ?_
  simp
  refine zL (fun hb => ?_) (fun hb => ?_)
  ·have hP : jr p q = false := by simpa using hb
   have hall : qt a b = false := okN_false hlt (by rw [hs]; exact hP)
   simp
   exact zY (rs := [.tmp 4]) (by rfl) (by simp [ze, hall])
  ·have hP : jr p q = true := by simpa using hb
   simp [g5, w2]
   exact ⟨i + 1, by show a.length - (i + 1) < a.length - i; omega, by simp [g0, bx], by simp [g1, bx], by simp, by omega, rfl, okN_succ hok (by rw [hs]; exact hP)⟩
 ·have hi' : i = a.length := by have : ¬ i < a.length := by simpa using hc
                                omega
  subst hi'
  have hall : qt a b = true := okN_all hok
  simp
  exact zY (rs := [.tmp 4]) (by rfl) (by simp [ze, hall])
def JW (s : Sg) : AV := .agg [.int .i64 s.t, .int .i64 s.h, bx s.frm, bx s.pre, bx s.tube, bx s.to]
theorem zcO {H : AH} {p : I} {f : Bool} : qn zp H 23 (.slice [] true) (.slice [iv p] f) = some (.ref H.length 1, H ++ [.row true 2 [iv p]]) := by
 have h2 : qn zp H 23 (.slice [] true) (.slice [iv p] f) = jO i48 H (.slice [] true) [iv p] := by
  simp only [qn, tab23, tab48, jk]
  rfl
 rw [h2]
 rfl
def LHu (a b : List I) (H : AH) (i : Nat) (fr : zx) (H' : AH) : Prop :=
 fr 0 = bx a ∧ fr 1 = bx b ∧ fr 6 = .int .i64 i ∧ i ≤ a.length ∧ ∃ J, H' = H ++ J ∧ qr H J (fr 5) 2 (((List.range i).map fun i => qK (zf a i) (zf b i)).map iv) (.slice [] true)
theorem r11Hull (a b : List I) (hab : a.length ≤ b.length) (hl : a.length ≤ 1000000) (H : AH) : zg E 156 [bx a, bx b] H (.ret (bx (jo a b))) H := by
 refine zt zn zo Tryz.func156 rfl (by rfl) Tryz.ntmps156 (by kernel_rfl) (by simp) ?_
 simp [bx]
 refine zZ (LHu a b H) (fun i => a.length - i) 0 ⟨by simp [bx], by simp [bx], by simp, by omega, [], by simp, .inl ⟨by simp, by simp⟩⟩ ?_
 rintro i fr H' ⟨g0, g1, g6, hi, J, rfl, hacc⟩
 simp [g0, g6, bx]
 refine zL (fun hc => ?_) (fun hc => ?_)
 ·have hlt : i < a.length := by simpa using hc
  obtain ⟨p, hp⟩ := zD hlt
  obtain ⟨q, hq⟩ := zD (l := b) (i := i) (by omega)
  have hpE : ∀ h, a[i]'h = p := fun h => (gI.1 hp).2
  have hqE : ∀ h, b[i]'h = q := fun h => (gI.1 hq).2
  have w2 : IntKind.i64.wrap ((i : Int) + 1) = ((i + 1 : Nat) : Int) := by rw [zj (by omega) (by omega)]; omega
  have hs : qK (zf a i) (zf b i) = qK p q := by simp [zf, hp, hq]
  have hnx : (List.range (i + 1)).map (fun i => qK (zf a i) (zf b i)) = (List.range i).map (fun i => qK (zf a i) (zf b i)) ++ [qK p q] := by rw [List.range_succ, List.map_append]; simp [hs]
  rcases hacc with ⟨h0, hv⟩ | ⟨kk, hv, hJk⟩
  ·have hi0 : i = 0 := by simpa using congrArg List.length h0
   subst hi0
   have wr1 : IntKind.i64.wrap 1 = 1 := zj (by decide) (by decide)
   simp [g0, g1, g6, hv, bx, hp, hpE, hq, hqE]
   refine zB (fun Hx => rHull p q Hx) ?_
   simp
   refine bind_some (zcO (p := qK p q)) ?_
   simp
   refine zm [] (by rfl) (by simp [zl, zk, za.triv, za.wr, za.none, upTo, newAt]) ?_
   simp [g6, wr1]
   exact ⟨1, by show a.length - 1 < a.length - 0; omega, by simp [g0, bx], by simp [g1, bx], by simp, by omega, J ++ [.row true 2 [iv (qK p q)]], by simp, .inr ⟨J.length, by simp, by rw [hnx]; simp⟩⟩
  ·simp only [List.length_map, List.length_range] at hv
   have hkl := (gI.1 hJk).1
   simp [g0, g1, g6, hv, bx, hp, hpE, hq, hqE]
   refine zB (fun Hx => rHull p q Hx) ?_
   simp
   refine bind_some (X8 (p := qK p q) (l := ((List.range i).map fun i => qK (zf a i) (zf b i)).map iv) (by simp) (by omega) (by simpa using hJk)) ?_
   simp
   refine zm [] (by rfl) (by simp [zl, zk, za.triv, za.wr, za.none, upTo, newAt]) ?_
   simp [g6, w2]
   exact ⟨i + 1, by show a.length - (i + 1) < a.length - i; omega, by simp [g0, bx], by simp [g1, bx], by simp, by omega, J.set kk (.row true 2 (((List.range (i + 1)).map fun i => qK (zf a i) (zf b i)).map iv)), by rw [hnx]; simp, .inr ⟨kk, by simp, Jh hJk⟩⟩
 ·have hi' : i = a.length := by have : ¬ i < a.length := by simpa using hc
                                omega
  subst hi'
  simp
  exact ZO (t := 4) (by rfl) (by simp) hacc rfl (js _ _)
def LIn (a : List I) (H : AH) (i : Nat) (fr : zx) (H' : AH) : Prop :=
 fr 0 = bx a ∧ fr 4 = .int .i64 i ∧ i ≤ a.length ∧ ∃ J, H' = H ++ J ∧ qr H J (fr 3) 2 (((List.range i).map fun i => Q5 (zf a i)).map iv) (.slice [] true)
theorem r11Inflate (a : List I) (ha : zq a) (hl : a.length ≤ 1000000) (H : AH) : zg E 159 [bx a] H (.ret (bx (ju a))) H := by
 refine zt zn zo Tryz.func159 rfl (by rfl) Tryz.ntmps159 (by kernel_rfl) (by simp) ?_
 simp [bx]
 refine zZ (LIn a H) (fun i => a.length - i) 0 ⟨by simp [bx], by simp, by omega, [], by simp, .inl ⟨by simp, by simp⟩⟩ ?_
 rintro i fr H' ⟨g0, g6, hi, J, rfl, hacc⟩
 simp [g0, g6, bx]
 refine zL (fun hc => ?_) (fun hc => ?_)
 ·have hlt : i < a.length := by simpa using hc
  obtain ⟨p, hp⟩ := zD hlt
  have hpv := ha p (List.mem_of_getElem? hp)
  have hb := qR hpv
  have wt : (p.2 - p.1).tdiv 16 = (p.2 - p.1) / 16 := Int.tdiv_eq_ediv_of_nonneg (by omega)
  have v0 : IntKind.i64.wrap ((p.2 - p.1) / 16) = (p.2 - p.1) / 16 := zj (by omega) (by omega)
  have v1 : IntKind.i64.wrap ((p.2 - p.1) / 16 + 1) = (p.2 - p.1) / 16 + 1 := zj (by omega) (by omega)
  have v2 : IntKind.i64.wrap (p.1 - ((p.2 - p.1) / 16 + 1)) = p.1 - ((p.2 - p.1) / 16 + 1) := zj (by omega) (by omega)
  have v3 : IntKind.i64.wrap (p.2 + ((p.2 - p.1) / 16 + 1)) = p.2 + ((p.2 - p.1) / 16 + 1) := zj (by omega) (by omega)
  have hpE : ∀ h, a[i]'h = p := fun h => (gI.1 hp).2
  have w2 : IntKind.i64.wrap ((i : Int) + 1) = ((i + 1 : Nat) : Int) := by rw [zj (by omega) (by omega)]; omega
  have hs : Q5 (zf a i) = Q5 p := by simp [zf, hp]
  have hnx : (List.range (i + 1)).map (fun i => Q5 (zf a i)) = (List.range i).map (fun i => Q5 (zf a i)) ++ [Q5 p] := by rw [List.range_succ, List.map_append]; simp [hs]
  rcases hacc with ⟨h0, hv⟩ | ⟨kk, hv, hJk⟩
  ·have hi0 : i = 0 := by simpa using congrArg List.length h0
   subst hi0
   have wr1 : IntKind.i64.wrap 1 = 1 := zj (by decide) (by decide)
   simp [g0, g6, bx, hp, hpE]
   refine zd (rWidth p hpv _) ?_
   simp [g0, g6, hv, bx, hp, hpE, wt, v0, v1, v2, v3]
   refine zB (fun Hx => Z1 _ _ Hx) ?_
   simp
   refine bind_some (zcO (p := Q5 p)) ?_
   simp
   refine zm [] (by rfl) (by simp [zl, zk, za.triv, za.wr, za.none, upTo, newAt]) ?_
   simp [g6, wr1]
   exact ⟨1, by show a.length - 1 < a.length - 0; omega, by simp [g0, bx], by simp, by omega, J ++ [.row true 2 [iv (Q5 p)]], by simp, .inr ⟨J.length, by simp, by rw [hnx]; simp⟩⟩
  ·simp only [List.length_map, List.length_range] at hv
   have hkl := (gI.1 hJk).1
   simp [g0, g6, bx, hp, hpE]
   refine zd (rWidth p hpv _) ?_
   simp [g0, g6, hv, bx, hp, hpE, wt, v0, v1, v2, v3]
   refine zB (fun Hx => Z1 _ _ Hx) ?_
   simp
   refine bind_some (X8 (p := Q5 p) (l := ((List.range i).map fun i => Q5 (zf a i)).map iv) (by simp) (by omega) (by simpa using hJk)) ?_
   simp
   refine zm [] (by rfl) (by simp [zl, zk, za.triv, za.wr, za.none, upTo, newAt]) ?_
   simp [g6, w2]
   exact ⟨i + 1, by show a.length - (i + 1) < a.length - i; omega, by simp [g0, bx], by simp, by omega, J.set kk (.row true 2 (((List.range (i + 1)).map fun i => Q5 (zf a i)).map iv)), by rw [hnx]; simp, .inr ⟨kk, by simp, Jh hJk⟩⟩
 ·have hi' : i = a.length := by have : ¬ i < a.length := by simpa using hc
                                omega
  subst hi'
  simp
  exact ZO (t := 2) (by rfl) (by simp) hacc rfl (js _ _)
def LRs (a b : List I) (H : AH) (i : Nat) (fr : zx) (H' : AH) : Prop :=
 fr 0 = bx a ∧ fr 1 = bx b ∧ fr 6 = .int .i64 i ∧ i ≤ a.length ∧ ∃ J, H' = H ++ J ∧ qr H J (fr 5) 2 (((List.range i).map fun i => jA (zf a i) (zf b i)).map iv) (.slice [] true)
theorem r12Restricted (a b : List I) (hab : a.length ≤ b.length) (hl : a.length ≤ 1000000) (H : AH) : zg E 128 [bx a, bx b] H (.ret (bx (Jk a b))) H := by
 refine zt zn zo Tryz.func128 rfl (by rfl) Tryz.ntmps128 (by kernel_rfl) (by simp) ?_
 simp [bx]
 refine zZ (LRs a b H) (fun i => a.length - i) 0 ⟨by simp [bx], by simp [bx], by simp, by omega, [], by simp, .inl ⟨by simp, by simp⟩⟩ ?_
 rintro i fr H' ⟨g0, g1, g6, hi, J, rfl, hacc⟩
 simp [g0, g6, bx]
 refine zL (fun hc => ?_) (fun hc => ?_)
 ·have hlt : i < a.length := by simpa using hc
  obtain ⟨p, hp⟩ := zD hlt
  obtain ⟨q, hq⟩ := zD (l := b) (i := i) (by omega)
  have hpE : ∀ h, a[i]'h = p := fun h => (gI.1 hp).2
  have hqE : ∀ h, b[i]'h = q := fun h => (gI.1 hq).2
  have w2 : IntKind.i64.wrap ((i : Int) + 1) = ((i + 1 : Nat) : Int) := by rw [zj (by omega) (by omega)]; omega
  have hs : jA (zf a i) (zf b i) = jA p q := by simp [zf, hp, hq]
  have hnx : (List.range (i + 1)).map (fun i => jA (zf a i) (zf b i)) = (List.range i).map (fun i => jA (zf a i) (zf b i)) ++ [jA p q] := by rw [List.range_succ, List.map_append]; simp [hs]
  simp [g0, g1, g6, bx, hp, hpE, hq, hqE]
  refine zB (fun Hx => rIntersect p q Hx) ?_
  simp
  refine zm [(12, 13)] (by rfl) (by simp [zl, zk, za.triv, za.wr, za.none, upTo, newAt]) ?_
  simp
  have hpush := zcT (p := jA p q) (hacc.len (L := [.row true 2 [iv (jA p q)]])) rfl (by simp; omega)
  obtain ⟨v', J', hap, hacc', _⟩ := hpush
  refine zL (fun hb => ?_) (fun hb => ?_)
  ·have hr : jA p q = q := by have : jj p q = false := by simpa using hb
                              simp [jA, this]
   rw [hr] at hap
   simp [g1, g6, bx, hq, hqE]
   refine bind_some (by simpa [iv] using hap) ?_
   simp [g6, w2]
   exact ⟨i + 1, by show a.length - (i + 1) < a.length - i; omega, by simp [g0, bx], by simp [g1, bx], by simp, by omega, J', rfl, by rw [hnx]; exact hacc'⟩
  ·have hb' : jj p q = true := by simpa using hb
   have hr : jA p q = Qq p q := by simp [jA, Qq, hb']
   rw [hr] at hap
   simp [g6]
   refine bind_some (by simpa [iv] using hap) ?_
   simp [g6, w2]
   exact ⟨i + 1, by show a.length - (i + 1) < a.length - i; omega, by simp [g0, bx], by simp [g1, bx], by simp, by omega, J', rfl, by rw [hnx]; exact hacc'⟩
 ·have hi' : i = a.length := by have : ¬ i < a.length := by simpa using hc
                                omega
  subst hi'
  simp
  exact ZO (t := 4) (by rfl) (by simp) hacc rfl (js _ _)
def LIm (x f : List I) (t h : Int) (A : zE) (H : AH) (i : Nat) (fr : zx) (H' : AH) : Prop :=
 fr 1 = bx x ∧ fr 7 = .ptr (H.length + 1) 1 0 0 ∧ fr 9 = bx f ∧ fr 11 = .int .i64 i ∧ i ≤ x.length ∧ ∃ J, H' = H ++ J ∧ J[0]? = some A ∧ J[1]? = some (.row true 2 [.agg [.int .i64 t, .int .i64 h]]) ∧ qr H J (fr 10) 2 (((List.range i).map fun i => Zv h (zf x i) (zf f i)).map iv) (.slice [] true) ∧ (∀ n, fr 10 ≠ .ref (H.length + 0) n) ∧ (∀ n, fr 10 ≠ .ref (H.length + 1) n)
theorem r11Image (T : Tp) (x b : List I) (t h : Int) (hT : z8 T) (hx : zq x) (hb : zq b) (hxn : x.length = T.n) (hbn : b.length = T.n) (hh : 0 ≤ h ∧ h ≤ 1000000000) (ht : -1000000000 ≤ t ∧ t ≤ 1000000000) (H : AH) :
  zg E 157 [zr T, bx x, bx b, .agg [.int .i64 t, .int .i64 h]] H (.ret (bx (zV T x b t h))) H := by
 refine zt zn zo Tryz.func157 rfl (by rfl) Tryz.ntmps157 (by kernel_rfl) (by simp) ?_
 have w1 : IntKind.i64.wrap (t + h) = t + h := zj (by omega) (by omega)
 have hsm := hT.small
 have htv : vB (mk t (t + h)) = true := Q2 (by omega)
 have hhv : vB (mk 0 h) = true := Q2 (by omega)
 simp [zr, w1]
 refine zB (fun Hx => Z1 t (t + h) Hx) ?_
 simp
 refine zB (fun Hx => by simpa [zr] using r8Eval T b (mk t (t + h)) hT hb hbn htv Hx) ?_
 simp
 refine zm [] (by rfl) (by simp [zl, zk, za.triv, za.wr, za.none, upTo, newAt]) ?_
 have hfv := Wx hT hb htv
 have hfl := evalT_len hT (x := b) (t := mk t (t + h))
 unfold zV
 generalize Zl T b (mk t (t + h)) = f at *
 simp
 refine zZ (LIm x f t h (.row true 3 [zr T]) H) (fun i => x.length - i) 0 ⟨by simp, by simp, by simp, by simp, by omega, _, rfl, by simp [zr], by simp, .inl ⟨by simp, by simp⟩, by simp, by simp⟩ ?_
 rintro i fr H' ⟨g1, g7, g9, g11, hi, J, rfl, hJ0, hJ1, hacc, hn0, hn1⟩
 have hJl : 1 < J.length := (gI.1 hJ1).1
 simp [g1, g11, bx]
 refine zL (fun hc => ?_) (fun hc => ?_)
 ·have hlt : i < x.length := by simpa using hc
  obtain ⟨p, hp⟩ := zD hlt
  obtain ⟨q, hq⟩ := zD (l := f) (i := i) (by omega)
  have hpE : ∀ h, x[i]'h = p := fun h => (gI.1 hp).2
  have hqE : ∀ h, f[i]'h = q := fun h => (gI.1 hq).2
  have hpv := hx p (List.mem_of_getElem? hp)
  have hqv := hfv q (List.mem_of_getElem? hq)
  have w2 : IntKind.i64.wrap ((i : Int) + 1) = ((i + 1 : Nat) : Int) := by rw [zj (by omega) (by omega)]; omega
  have hs : Zv h (zf x i) (zf f i) = Zv h p q := by simp [zf, hp, hq]
  have hnx : (List.range (i + 1)).map (fun i => Zv h (zf x i) (zf f i)) = (List.range i).map (fun i => Zv h (zf x i) (zf f i)) ++ [Zv h p q] := by rw [List.range_succ, List.map_append]; simp [hs]
  rcases hacc with ⟨h0, hv⟩ | ⟨kk, hv, hJk⟩
  ·have hi0 : i = 0 := by simpa using congrArg List.length h0
   subst hi0
   have wr1 : IntKind.i64.wrap 1 = 1 := zj (by decide) (by decide)
   simp [g1, g7, g9, g11, hv, bx, hp, hpE, hq, hqE, hJ1]
   refine zB (fun Hx => Z1 0 h Hx) ?_
   simp [g9, g11, bx, hq, hqE]
   refine zB (fun Hx => YE _ q hhv hqv Hx) ?_
   simp
   refine zB (fun Hx => V3 p _ hpv jU Hx) ?_
   simp
   refine bind_some (zcO (p := Zv h p q)) ?_
   simp
   refine zm [] (by rfl) (by simp [zl, zk, za.triv, za.wr, za.none, upTo, newAt]; omega) ?_
   simp [g11, wr1]
   exact ⟨1, by show x.length - 1 < x.length - 0; omega, by simp [g1, bx], by simp [g7], by simp [g9, bx], by simp, by omega, J ++ [.row true 2 [iv (Zv h p q)]], by simp, zi hJ0, zi hJ1, .inr ⟨J.length, by simp, by rw [hnx]; simp⟩, fun n e => by injection e with e1 e2; omega, fun n e => by injection e with e1 e2; omega⟩
  ·simp only [List.length_map, List.length_range] at hv
   have hkl := (gI.1 hJk).1
   have hkk0 : kk ≠ 0 := by intro e; subst e; exact hn0 i hv
   have hkk1 : kk ≠ 1 := by intro e; subst e; exact hn1 i hv
   simp [g1, g7, g9, g11, hv, bx, hp, hpE, hq, hqE, hJ1]
   refine zB (fun Hx => Z1 0 h Hx) ?_
   simp [g9, g11, bx, hq, hqE]
   refine zB (fun Hx => YE _ q hhv hqv Hx) ?_
   simp
   refine zB (fun Hx => V3 p _ hpv jU Hx) ?_
   simp
   refine bind_some (X8 (p := Zv h p q) (l := ((List.range i).map fun i => Zv h (zf x i) (zf f i)).map iv) (by simp) (by omega) (by simpa using hJk)) ?_
   simp
   refine zm [] (by rfl) (by simp [zl, zk, za.triv, za.wr, za.none, upTo, newAt]; omega) ?_
   simp [g11, w2]
   refine ⟨i + 1, by show x.length - (i + 1) < x.length - i; omega, by simp [g1, bx], by simp [g7], by simp [g9, bx], by simp, by omega, J.set kk (.row true 2 (((List.range (i + 1)).map fun i => Zv h (zf x i) (zf f i)).map iv)), by rw [hnx]; simp, ?_, ?_, .inr ⟨kk, by simp, Jh hJk⟩, fun n e => by injection e with e1 e2; omega, fun n e => by injection e with e1 e2; omega⟩
   ·rw [List.getElem?_set_ne hkk0]; exact hJ0
   ·rw [List.getElem?_set_ne hkk1]; exact hJ1
 ·have hi' : i = x.length := by have : ¬ i < x.length := by simpa using hc
                                omega
  subst hi'
  simp
  rw [List.map_map] at hacc
  exact ZO (t := 8) (v := fr 10) (by rfl) (by simp) hacc rfl (by have h9 := js ((List.range x.length).map fun i => Zv h (zf x i) (zf f i)) H.length; rw [List.map_map] at h9; exact h9)
def encA (r : Option (List I)) : AV := match r with
 | some d => .tuple [bx d, .bool true]
 | none => .tuple [.nilslice, .bool false]
def LEc (T : Tp) (x : List I) (t h : Int) (R : Option (List I)) (H : AH) (i : Nat) (fr : zx) (H' : AH) : Prop :=
 ∃ b, fr 1 = bx x ∧ fr 3 = .ptr H.length 1 0 0 ∧ fr 5 = .ptr (H.length + 1) 1 0 0 ∧ fr 8 = bx b ∧ fr 9 = .int .i64 i ∧ i ≤ 8 ∧ zq b ∧ b.length = x.length ∧ VF T x t h (8 - i) b = R ∧ H' = H ++ [.row true 3 [zr T], .row true 2 [.agg [.int .i64 t, .int .i64 h]]]
theorem r11Enclose (T : Tp) (x : List I) (t h : Int) (hT : z8 T) (hx : zq x) (hxn : x.length = T.n) (hh : 0 ≤ h ∧ h ≤ 1000000000) (ht : -1000000000 ≤ t ∧ t ≤ 1000000000) (H : AH) :
  zg E 101 [zr T, bx x, .agg [.int .i64 t, .int .i64 h]] H (.ret (encA (Qu T x t h))) H := by
 refine zt zn zo Tryz.func101 rfl (by rfl) Tryz.ntmps101 (by kernel_rfl) (by simp) ?_
 have hsm := hT.small
 have hI := fun b hb hbn Hx => r11Image T x b t h hT hx hb hxn hbn hh ht Hx
 simp [zr]
 refine zd (by simpa [zr] using hI x hx hxn _) ?_
 simp
 refine zd (r11Hull x _ (by rw [VE]; omega) (by omega) _) ?_
 simp
 have hnone : ∀ (fr : zx) (J : AH), Qu T x t h = none → fr 6 = .nilslice → fr 7 = .bool false → jd E Tryz.f101 H (.ret (encA (Qu T x t h))) H .ret fr (H ++ J) := by
  intro fr J he h6 h7
  rw [he]
  exact ⟨[.nilslice, .bool false], [.nilslice, .bool false], by simp [show (Tryz.f101).results.toList = [.tmp 6, .tmp 7] from rfl, ze, h6, h7], .drop (by simp [zh, noF]), rfl⟩
 refine zZ (LEc T x t h (Qu T x t h) H) (fun i => 8 - i) 0 ⟨jo x (zV T x x t h), by simp, by simp, by simp, by simp, by simp, by omega, V9 hx (Jn hx), Q7 _ _, rfl, by simp [zr]⟩ ?_
 rintro i fr H' ⟨b, g1, g3, g5, g8, g9, hi, hbv, hbl, hR, rfl⟩
 by_cases hi8 : i = 8
 ·subst hi8
  have hR' : Qu T x t h = none := hR.symm
  simp [g9]
  exact hnone _ _ hR' (by simp) (by simp)
 ·have hlt : (i : Int) < 8 := by omega
  have hm : 8 - i = (8 - (i + 1)) + 1 := by omega
  rw [hm, VF] at hR
  have w2 : IntKind.i64.wrap ((i : Int) + 1) = ((i + 1 : Nat) : Int) := by rw [zj (by omega) (by omega)]; omega
  have hib := zaI hbv
  have hil := zbF b
  have hdv := Jn (T := T) (x := x) (b := ju b) (t := t) (h := h) hx
  have hdl := VE (T := T) (x := x) (b := ju b) (t := t) (h := h)
  simp [g8, g9, hlt]
  refine zd (za9 b (by omega) _) ?_
  simp
  refine zL (fun m1 => ?_) (fun m1 => ?_)
  ·rw [if_neg (by simp [m1])] at hR
   simp [g8]
   refine zd (r11Inflate b hbv (by omega) _) ?_
   simp
   refine zd (za9 (ju b) (by omega) _) ?_
   simp
   refine zL (fun m2 => ?_) (fun m2 => ?_)
   ·rw [if_pos (by simpa using m2)] at hR
    simp
    exact hnone _ _ hR.symm (by simp) (by simp)
   ·rw [if_neg (by simpa using m2)] at hR
    simp [g1, g3, g5, zr]
    refine zd (by simpa [zr] using hI (ju b) hib (by omega) _) ?_
    simp
    generalize zV T x (ju b) t h = d at *
    refine zd (za9 d (by omega) _) ?_
    simp
    refine zL (fun m3 => ?_) (fun m3 => ?_)
    ·rw [if_pos (by simpa using m3)] at hR
     simp
     exact hnone _ _ hR.symm (by simp) (by simp)
    ·rw [if_neg (by simpa using m3)] at hR
     simp
     refine zd (r11Subset d (ju b) (by omega) (by omega) _) ?_
     simp
     refine zL (fun m4 => ?_) (fun m4 => ?_)
     ·rw [if_pos m4] at hR
      rw [← hR]
      simp
      exact ⟨[bx d, .bool true], [bx d, .bool true], by simp [show (Tryz.f101).results.toList = [.tmp 6, .tmp 7] from rfl, ze], .drop (by simp only [zh, noF, bx, js, Bool.and_self]), rfl⟩
     ·rw [if_neg (by simp [m4])] at hR
      simp
      refine zd (r11Hull (ju b) d (by omega) (by omega) _) ?_
      simp [g9, w2]
      exact ⟨i + 1, by show 8 - (i + 1) < 8 - i; omega, jo (ju b) d, by simp [g1], by simp [g3], by simp [g5], by simp, by simp, by omega, V9 hib hdv, by rw [Q7]; omega, hR, by simp [zr]⟩
  ·rw [if_pos m1] at hR
   simp
   exact hnone _ _ hR.symm (by simp) (by simp)
theorem neq_iv (H : AH) (a b x y : Int) (z : Bool) : qe zp H .neq 48 (.agg [.int .i64 a, .int .i64 b]) (.agg [.int .i64 x, .int .i64 y]) z = some (.bool (!(a == x && b == y)), H) := by
 by_cases h1 : a = x <;> by_cases h2 : b = y <;> simp [qe, qY, jF, Vd, nilI, h1, h2]
theorem r3Same (a b : List I) (ha : a.length ≤ 1000000) (hb : b.length ≤ 1000000) (H : AH) : zg E 20 [bx a, bx b] H (.ret (.bool (decide (a = b)))) H := by
 refine zt zn zo Tryz.func20 rfl (by rfl) Tryz.ntmps20 (by kernel_rfl) (by simp) ?_
 by_cases hab : a.length = b.length
 ·have hne : ((a.length : Int) == (b.length : Int)) = true := by simp [hab]
  simp [bx, hab]
  refine zZ (fun (i : Nat) fr H' => fr 0 = bx a ∧ fr 1 = bx b ∧ fr 5 = .int .i64 i ∧ i ≤ a.length ∧ H' = H ∧ a.take i = b.take i) (fun i => a.length - i) 0 ⟨by simp [bx], by simp [bx], by simp, by omega, rfl, by simp⟩ ?_
  rintro i fr H' ⟨g0, g1, g5, hi, rfl, hok⟩
  simp [g0, g5, bx]
  refine zL (fun hc => ?_) (fun hc => ?_)
  ·have hlt : i < a.length := by simpa using hc
   obtain ⟨p, hp⟩ := zD hlt
   obtain ⟨q, hq⟩ := zD (l := b) (i := i) (by omega)
   have hpE : ∀ h, a[i]'h = p := fun h => (gI.1 hp).2
   have hqE : ∀ h, b[i]'h = q := fun h => (gI.1 hq).2
   have w2 : IntKind.i64.wrap ((i : Int) + 1) = ((i + 1 : Nat) : Int) := by rw [zj (by omega) (by omega)]; omega
   simp [g0, g1, g5, bx, hp, hpE, hq, hqE, neq_iv]
   refine zm [] (by rfl) (by simp [zl, zk, za.triv, za.wr, za.none, upTo, newAt]) ?_
   simp
   refine zL (fun hb2 => ?_) (fun hb2 => ?_)
   ·have hne2 : a ≠ b := by
     intro e; subst e; rw [hp] at hq; cases hq; simp at hb2
    simp
    exact zY (rs := [.tmp 4]) (by rfl) (by simp [ze, hne2])
   ·have he : p = q := by simp at hb2; exact Prod.ext hb2.1 hb2.2
    simp [g5, w2]
    exact ⟨i + 1, by show a.length - (i + 1) < a.length - i; omega, by simp [g0, bx], by simp [g1, bx], by simp, by omega, rfl, by rw [List.take_add_one, List.take_add_one, hp, hq, hok, he]⟩
  ·have hi' : i = a.length := by have : ¬ i < a.length := by first | simpa using hc | (simp at hc; omega)
                                 omega
   subst hi'
   have he : a = b := by rw [List.take_length, hab, List.take_length] at hok; exact hok
   simp
   exact zY (rs := [.tmp 4]) (by rfl) (by simp [ze, he])
 ·have hne : a ≠ b := fun e => hab (by rw [e])
  have hne1 : ((a.length : Int) == (b.length : Int)) = false := by rw [beq_eq_false_iff_ne]; omega
  simp [bx]
  refine zL (fun h => ?_) (fun h => ?_)
  ·simp
   exact zY (rs := [.tmp 4]) (by rfl) (by simp [ze, hne])
  ·have h2 : (a.length : Int) = (b.length : Int) := by simpa using h
   exact absurd (by omega) hab
theorem bPairs (a b : List I) (H : AH) : zg E 109 [bx a, bx b] H (.ret (.func (.func 177) [] [.ptr H.length 1 0 0, .ptr (H.length + 1) 1 0 0])) (H ++ [.row true 1 [bx a], .row true 1 [bx b]]) := by
 refine zt zn zo Tryz.func109 rfl (by rfl) Tryz.ntmps109 (by kernel_rfl) (by simp) ?_
 simp [bx]
 exact Zx (rs := [.tmp 4]) (vs := [.func (.func 177) [] [.ptr H.length 1 0 0, .ptr (H.length + 1) 1 0 0]]) (by rfl) (by simp [ze]) rfl
end Go.Proofs.YtkghjlgpmeibhaaGreatDoor.Arm

namespace Go.Arm
def Xl (K : AH) (n : Nat) : List (Nat × zE) := (List.range n).map fun i => (i, (K[i]?).getD .dead)
theorem upAt_map (f : Nat → zE) : ∀ (l : List Nat) (b : Nat), Qy (l.map fun i => (i, f i)) b = if b ∈ l then some (f b) else none
 | [], b => by simp [Qy]
 | c :: r, b => by
  simp only [List.map_cons, Qy, upAt_map f r b, List.mem_cons]
  by_cases h : b ∈ r
  ·simp [h]
  ·by_cases e : c = b
   ·subst e; simp [h]
   ·have : ¬ b = c := fun h => e h.symm
    simp [h, e, this]
theorem zaf {H K X : AH} (hl : K.length = H.length) : Za (H ++ X) (Xl K H.length) = K ++ X := by
 apply List.ext_getElem?
 intro b
 by_cases hb : b < (H ++ X).length
 ·rw [Um _ _ _ hb]
  unfold Xl
  rw [upAt_map]
  by_cases h : b < H.length
  ·have hk : b < K.length := by omega
   simp [h, List.getElem?_append_left hk, hk]
  ·have h2 : K.length ≤ b := by omega
   simp only [List.length_append] at hb
   have h3 : b - H.length < X.length := by omega
   simp [h, List.getElem?_append_right h2, List.getElem?_append_right (show H.length ≤ b by omega), hl, h3]
 ·rw [List.getElem?_eq_none (by rw [JJ]; omega), List.getElem?_eq_none (by simp at hb ⊢; omega)]
theorem callD_yld {E : zW} {b : Nat} {args : List AV} {next : ZA} {H K : AH} {v : AV} (hl : K.length = H.length) (hY : ∀ X : AH, ZG E b args (H ++ X) v (K ++ X))
  (k : next .go v ⟨List.range H.length, Xl K H.length, none, true⟩ K) : ZP E (.yld b) args next H := by
 refine ⟨v, List.range H.length, Xl K H.length, ⟨fun c hc => List.mem_range.1 hc, fun p hp => ?_, fun Hx hx => ?_⟩, ?_⟩
 ·unfold Xl at hp
  obtain ⟨i, hi, rfl⟩ := List.mem_map.1 hp
  exact hi
 ·have hle : H.length ≤ Hx.length := by
   rcases Nat.lt_or_ge Hx.length H.length with h | h
   ·have := hx Hx.length (List.mem_range.2 h)
    rw [List.getElem?_eq_none (Nat.le_refl _)] at this
    rw [List.getElem?_eq_getElem h] at this
    cases this
   ·exact h
  have e : Hx = H ++ Hx.drop H.length := by
   apply List.ext_getElem?
   intro c
   by_cases hc : c < H.length
   ·rw [List.getElem?_append_left hc]; exact hx c (List.mem_range.2 hc)
   ·rw [List.getElem?_append_right (by omega), List.getElem?_drop]
    congr 1; omega
  rw [e, zaf hl]
  exact .inl (hY _)
 ·have := zaf (X := []) hl
  rw [List.append_nil, List.append_nil] at this
  rw [this]
  exact k
end Go.Arm

namespace Go.Arm
open Go.RowKit
def alters (H H' : AH) : Prop := H'.length = H.length ∧ ∀ c : Nat, H'[c]? = H[c]? ∨ (∃ k, H'[c]? = some k ∧ qh H.length k = true) ∨ ∃ k st st' frs, H[c]? = some (.loop k st frs) ∧ H'[c]? = some (.loop k st' frs)
theorem alters.refl (H : AH) : alters H H := ⟨rfl, fun _ => .inl rfl⟩
theorem alters.trans {H H1 H2 : AH} (h : alters H H1) (g : alters H1 H2) : alters H H2 := by
 refine ⟨g.1.trans h.1, fun c => ?_⟩
 rcases g.2 c with g1 | ⟨k, g1, g2⟩ | ⟨k, st, st', frs, g1, g2⟩
 ·rw [g1]; exact h.2 c
 ·exact .inr (.inl ⟨k, g1, by rw [← h.1]; exact g2⟩)
 ·rcases h.2 c with h1 | ⟨k', h1, h2⟩ | ⟨k', s1, s2, frs', h1, h2⟩
  ·exact .inr (.inr ⟨k, st, st', frs, by rw [← h1]; exact g1, g2⟩)
  ·rw [g1] at h1; cases h1
   exact .inr (.inl ⟨_, g2, h2⟩)
  ·rw [g1] at h2; cases h2
   exact .inr (.inr ⟨k, s1, st', frs, h1, g2⟩)
def WO (m : Nat) (k k' : zE) : Prop := k' = k ∨ qh m k' = true ∨ ∃ q st st' frs, k = .loop q st frs ∧ k' = .loop q st' frs
def Xk (m : Nat) : List zE → List zE → Prop
 | [], [] => True
 | a :: r, b :: s => WO m a b ∧ Xk m r s
 | _, _ => False
theorem Xk.len {m : Nat} : ∀ {K K' : List zE}, Xk m K K' → K'.length = K.length
 | [], [], _ => rfl
 | _ :: _, _ :: _, h => by simp [Xk.len h.2]
theorem Xk.get {m : Nat} : ∀ {K K' : List zE}, Xk m K K' → ∀ c : Nat, K'[c]? = K[c]? ∨ (∃ k, K'[c]? = some k ∧ qh m k = true) ∨ ∃ k st st' frs, K[c]? = some (.loop k st frs) ∧ K'[c]? = some (.loop k st' frs)
 | [], [], _, c => .inl rfl
 | a :: r, b :: s, h, 0 => by
  rcases h.1 with h1 | h1 | ⟨q, st, st', frs, h1, h2⟩
  ·exact .inl (by simp [h1])
  ·exact .inr (.inl ⟨b, rfl, h1⟩)
  ·exact .inr (.inr ⟨q, st, st', frs, by simp [h1], by simp [h2]⟩)
 | a :: r, b :: s, h, c + 1 => by simpa using Xk.get h.2 c
theorem alters_of {H K K' : AH} (h : Xk (H ++ K).length K K') : alters (H ++ K) (H ++ K') := by
 refine ⟨by simp [h.len], fun c => ?_⟩
 rcases Nat.lt_or_ge c H.length with h1 | h1
 ·left; rw [List.getElem?_append_left h1, List.getElem?_append_left h1]
 ·rw [List.getElem?_append_right h1, List.getElem?_append_right h1]; exact h.get _
theorem WO.same {m : Nat} (k : zE) : WO m k k := .inl rfl
theorem WO.loop {m : Nat} {q : LK} {st st' : Yf} {frs : List AV} : WO m (.loop q st frs) (.loop q st' frs) := .inr (.inr ⟨q, st, st', frs, rfl, rfl⟩)
inductive QS (E : zW) (b : Nat) (P : AH → Prop) : List (List AV) → AH → AH → Prop
 | nil (H : AH) : QS E b P [] H H
 | stop {a : List AV} {r : List (List AV)} {H H' : AH} (h1 : alters H H') (h2 : P H') (h3 : ∀ J : AH, ZG E b a (H ++ J) (.bool false) (H' ++ J)) : QS E b P (a :: r) H H'
 | go {a : List AV} {r : List (List AV)} {H H1 H' : AH} (h1 : alters H H1) (h2 : P H1) (h3 : ∀ J : AH, ZG E b a (H ++ J) (.bool true) (H1 ++ J)) (h4 : QS E b P r H1 H') : QS E b P (a :: r) H H'
theorem QS.alters {E : zW} {b : Nat} {P : AH → Prop} {L : List (List AV)} {H H' : AH} (h : QS E b P L H H') : Arm.alters H H' := by
 induction h with
 | nil H => exact .refl H
 | stop h1 _ _ => exact h1
 | go h1 _ _ _ ih => exact h1.trans ih
theorem QS.keep {E : zW} {b : Nat} {P : AH → Prop} {L : List (List AV)} {H H' : AH} (h : QS E b P L H H') (h0 : P H) : P H' := by
 induction h with
 | nil H => exact h0
 | stop _ h2 _ => exact h2
 | go _ h2 _ _ ih => exact ih h2
theorem QS.cases_cons {E : zW} {b : Nat} {P : AH → Prop} {a : List AV} {r : List (List AV)} {H H' : AH} (h : QS E b P (a :: r) H H') :
  ∃ (go : Bool) (H1 : AH), Arm.alters H H1 ∧ P H1 ∧ (∀ J : AH, ZG E b a (H ++ J) (.bool go) (H1 ++ J)) ∧ (go = false → H1 = H') ∧ (go = true → QS E b P r H1 H') := by
 cases h with
 | stop h1 h2 h3 => exact ⟨false, _, h1, h2, h3, fun _ => rfl, nofun⟩
 | go h1 h2 h3 h4 => exact ⟨true, _, h1, h2, h3, nofun, fun _ => h4⟩
theorem finY {E : zW} {fr : zx} {fn : Func} {H0 H1 J : AH} {e : jJ} (hr : fn.results.toList = []) (ha : alters H0 H1) (hx : e = .ret ∨ e = .normal := by simp) : jd E fn H0 (.ret (.tuple [])) H1 e fr (H1 ++ J) := by
 have hL : Leaves H0 [] (H1 ++ J) [] H1 := .cut H0.length (Nat.le_refl _) (by rw [← ha.1]; simp) (fun b _ => ha.2 b) (by simp [zh])
 rcases hx with rfl | rfl <;> exact ⟨[], [], by rw [hr]; rfl, hL, rfl⟩
theorem WM {b : Nat} {k : LK} {frs : List AV} {y : zx → AH → Prop} {fr : zx} {H1 : AH} : assignK b k frs y .normal fr H1 = (H1[b]? = some (.loop k .ready frs) ∧ y fr (H1.set b (.loop k .busy frs))) := rfl
theorem UG {b : Nat} {k : LK} {frs : List AV} {H0 H' H2 : AH} {v : AV} {fr : zx} : roundK b k frs H0 v H' .normal fr H2 = (H2[b]? = some (.loop k .busy frs) ∧ v = .bool true ∧ Leaves H0 [] (H2.set b (.loop k .ready frs)) [] H') := rfl
theorem Leaves.alters {H H1 J X : AH} (ha : Arm.alters H H1) : Leaves (H ++ J) [] (H1 ++ J ++ X) [] (H1 ++ J) := by
 have hl : (H ++ J).length = (H1 ++ J).length := by simp [ha.1]
 refine .cut (H ++ J).length (Nat.le_refl _) (by rw [hl, List.take_left]) (fun c hc => ?_) (by simp [zh])
 by_cases h : c < H.length
 ·have h1 : c < H1.length := by rw [ha.1]; exact h
  rw [List.getElem?_append_left h, List.getElem?_append_left h1]
  rcases ha.2 c with g | ⟨k, g1, g2⟩ | ⟨k, st, st', frs, g1, g2⟩
  ·exact .inl g
  ·refine .inr (.inl ⟨k, g1, ?_⟩)
   have hm : H.length ≤ (H ++ J).length := by simp
   cases k with
   | dead => rfl
   | row wr sz xs => simp only [qh] at g2 ⊢; rw [jL] at g2 ⊢; exact fun x hx => Q1 hm (g2 x hx)
   | map es =>
    simp only [qh, List.all_eq_true, Bool.and_eq_true] at g2 ⊢
    exact fun e hx => ⟨Q1 hm (g2 e hx).1, Q1 hm (g2 e hx).2⟩
   | loop k st frs => simp only [qh] at g2 ⊢; rw [jL] at g2 ⊢; exact fun x hx => Q1 hm (g2 x hx)
  ·exact .inr (.inr ⟨k, st, st', frs, g1, g2⟩)
 ·left
  have hh := ha.1
  rw [List.getElem?_append_right (by omega), List.getElem?_append_right (by omega), hh]
def ZM (G : Gh) (m : Nat) (σ : Nat → Option Nat) : Gh := (List.range m).map fun c => match σ c with
 | some k => ownr G k
 | none => ownr G c
theorem Vv {G : Gh} {m : Nat} {σ : Nat → Option Nat} {c : Nat} : ownr (ZM G m σ) c = if c < m then (match σ c with | some k => ownr G k | none => ownr G c) else none := by
 show ((ZM G m σ)[c]?).join = _
 unfold ZM
 rw [List.getElem?_map]
 by_cases h : c < m
 ·rw [List.getElem?_range h, if_pos h, Option.map_some]; cases h2 : σ c <;> simp [h2]
 ·rw [if_neg h, List.getElem?_eq_none (by simpa using h)]; rfl
section
variable {G : Gh} {w : World} {m : Nat} {σ : Nat → Option Nat}
theorem XI {c : Nat} {L : GL} (h : ownr (ZM G m σ) c = some L) : c < m ∧ ((∃ k, σ c = some k ∧ ownr G k = some L) ∨ (σ c = none ∧ ownr G c = some L)) := by
 rw [Vv] at h
 split at h
 ·rename_i hc
  refine ⟨hc, ?_⟩
  cases hs : σ c with
  | none => rw [hs] at h; exact .inr ⟨rfl, h⟩
  | some k => rw [hs] at h; exact .inl ⟨k, rfl, h⟩
 ·cases h
theorem VR.move (hd : ∀ c k, σ c = some k → ownr G c = none) {a : AV} {v : Value} (h : VR G w a v) : Arm.noF m a = true → VR (ZM G m σ) w a v := by
 have keep : ∀ {c : Nat} {L : GL}, ownr G c = some L → c < m → ownr (ZM G m σ) c = some L := fun {c L} h hc => by
  rw [Vv, if_pos hc]
  cases hs : σ c with
  | none => exact h
  | some k => rw [hd c k hs] at h; cases h
 have fitsT : ∀ {B e : Nat}, fits G B e → fits (ZM G m σ) B e := fun hl c L hc hB => by
  rcases (XI hc).2 with ⟨k, _, h⟩ | ⟨_, h⟩ <;> exact hl _ L h hB
 induction h with
 | junk v => intro _; exact .junk v
 | bool b => intro _; exact .bool b
 | int k n => intro _; exact .int k n
 | str s => intro _; exact .str s
 | nilptr => intro _; exact .nilptr
 | ptr h1 hg hs hv => intro hn; simp only [Arm.noF, decide_eq_true_eq] at hn; exact .ptr (keep h1 hn) hg hs hv
 | eptr vals hB hc hr hl ih => intro hn; simp only [Arm.noF] at hn; exact .eptr vals hB hc (fun j a hj => ih j a hj (qT hn hj)) (fitsT hl)
 | nilslice => intro _; exact .nilslice
 | slice0 hf => intro _; exact .slice0 hf
 | slice vals hB hs hc hr hl hcap hf ih =>
  intro hn
  simp only [Arm.noF] at hn
  exact .slice vals hB hs hc (fun i x j c hi hj => ih i x j c hi hj (qT (J5.2 (qT hn hi)) hj)) (fitsT hl) hcap hf
 | ref h1 hfx hg hs hv => intro hn; simp only [Arm.noF, decide_eq_true_eq] at hn; exact .ref (keep h1 hn) hfx hg hs hv
 | pre h1 hfx hs hv => intro hn; simp only [Arm.noF, decide_eq_true_eq] at hn; exact .pre (keep h1 hn) hfx hs hv
 | func h1 h2 _ _ ih1 ih2 =>
  intro hn
  simp only [Arm.noF, Bool.and_eq_true] at hn
  exact .func h1 h2 (fun i a v ha hv => ih1 i a v ha hv (qT hn.1 ha)) (fun i a v ha hv => ih2 i a v ha hv (qT hn.2 ha))
 | nilfunc => intro _; exact .nilfunc
 | iface _ ih => intro hn; simp only [Arm.noF] at hn; exact .iface (ih hn)
 | niliface => intro _; exact .niliface
 | agg h1 _ ih => intro hn; simp only [Arm.noF] at hn; exact .agg h1 fun i a v ha hv => ih i a v ha hv (qT hn ha)
 | tuple h1 _ ih => intro hn; simp only [Arm.noF] at hn; exact .tuple h1 fun i a v ha hv => ih i a v ha hv (qT hn ha)
 | nilmap => intro _; exact .nilmap
 | map h1 hfx => intro hn; simp only [Arm.noF, decide_eq_true_eq] at hn; exact .map (keep h1 hn) hfx
 | yld h1 hfx => intro hn; simp only [Arm.noF, decide_eq_true_eq] at hn; exact .yld (keep h1 hn) hfx
inductive Vk (m : Nat) (σ : Nat → Option Nat) : AV → AV → Prop
 | old {a : AV} (h : Arm.noF m a = true) : Vk m σ a a
 | ref {b k n : Nat} (h1 : σ b = some k) (h2 : b < m) : Vk m σ (.ref k n) (.ref b n)
 | ptr {b k g i off : Nat} (h1 : σ b = some k) (h2 : b < m) : Vk m σ (.ptr k g i off) (.ptr b g i off)
 | func {f : Fn} {first cap cap' : List AV} (hl : cap'.length = cap.length) (hf : zh m first = true) (h : ∀ (i : Nat) a a', cap[i]? = some a → cap'[i]? = some a' → Vk m σ a a') : Vk m σ (.func f first cap) (.func f first cap')
def Xo (m : Nat) (σ : Nat → Option Nat) (x x' : AV) : Prop := x.cells.length = x'.cells.length ∧ ∀ (j : Nat) a a', x.cells[j]? = some a → x'.cells[j]? = some a' → Vk m σ a a'
theorem Vk.vr (hd : ∀ c k, σ c = some k → ownr G c = none) {a a' : AV} (hr : Vk m σ a a') : ∀ {v : Value}, VR G w a v → VR (ZM G m σ) w a' v := by
 induction hr with
 | old h1 => intro v h; exact h.move hd h1
 | ref h1 h2 =>
  intro v h
  cases h with
  | ref g1 hfx hg hs hv => exact .ref (by rw [Vv, if_pos h2, h1]; exact g1) hfx hg hs hv
 | ptr h1 h2 =>
  intro v h
  cases h with
  | ptr g1 hg hs hv => exact .ptr (by rw [Vv, if_pos h2, h1]; exact g1) hg hs hv
 | func hl hf h ih =>
  rename_i f first cap cap'
  intro v hv
  cases hv with
  | func q1 q2 q3 q4 =>
   rename_i fv cv
   refine .func q1 (by rw [q2, hl]) (fun i a v ha hv => (q3 i a v ha hv).move hd (qT hf ha)) (fun i a' v ha hv => ?_)
   have hlt : i < cap.length := by rw [← hl]; exact (gI.1 ha).1
   exact ih i cap[i] a' (by simp) ha (q4 i cap[i] v (by simp) hv)
theorem jy.move (hd : ∀ c k, σ c = some k → ownr G c = none) {c : Nat} (hc : c < m) (hs : σ c = none) {x : zE} (h : jy G w c x) (hn : qh m x = true) : jy (ZM G m σ) w c x := by
 have ho : ownr (ZM G m σ) c = ownr G c := by rw [Vv, if_pos hc, hs]
 cases x with
 | dead => exact ho.trans h
 | row wr sz xs =>
  obtain ⟨L, h1, h2, h3, h4, h5, h6, h7, c', e, h8, h9, hv⟩ := h
  simp only [qh] at hn
  refine ⟨L, ho.trans h1, h2, h3, h4, h5, h6, h7, c', e, h8, h9, fun i x j a hi hj => ?_⟩
  obtain ⟨v, g1, g2⟩ := hv i x j a hi hj
  exact ⟨v, g1, g2.move hd (qT (J5.2 (qT hn hi)) hj)⟩
 | map es =>
  obtain ⟨L, h1, h2, ents, clock, h3, h4, h5⟩ := h
  simp only [qh, List.all_eq_true, Bool.and_eq_true] at hn
  refine ⟨L, ho.trans h1, h2, ents, clock, h3, h4, fun j e v hj hv => ?_⟩
  have := h5 j e v hj hv
  have h6 := hn e (List.mem_of_getElem? hj)
  exact ⟨this.1.move hd h6.1, this.2.move hd h6.2⟩
 | loop k st frs =>
  obtain ⟨L, h1, h2, r, h3, h4, h5, h6, h7, h8, h9⟩ := h
  simp only [qh] at hn
  exact ⟨L, ho.trans h1, h2, r, h3, h4, h5, h6, h7, h8, fun j a hj => (h9 j a hj).move hd (qT hn hj)⟩
theorem jy.moveRow (hd : ∀ c k, σ c = some k → ownr G c = none) {c k : Nat} (hc : c < m) (hs : σ c = some k) {wr : Bool} {sz : Nat} {xs xs' : List AV} (h : jy G w k (.row wr sz xs)) (hl : xs'.length = xs.length)
  (hx : ∀ (i : Nat) x x', xs[i]? = some x → xs'[i]? = some x' → Xo m σ x x') : jy (ZM G m σ) w c (.row wr sz xs') := by
 have ho : ownr (ZM G m σ) c = ownr G k := by rw [Vv, if_pos hc, hs]
 obtain ⟨L, h1, h2, h3, h4, h5, h6, h7, c', e, h8, h9, hv⟩ := h
 have hget : ∀ (i : Nat) x', xs'[i]? = some x' → ∃ x, xs[i]? = some x ∧ Xo m σ x x' := fun i x' hi => by
  have hlt := (gI.1 hi).1
  exact ⟨xs[i], by simp, hx i _ x' (by simp) hi⟩
 refine ⟨L, ho.trans h1, by rw [h2, hl], h3, fun x' hx' => ?_, by rw [hl]; exact h5, h6, by rw [hl]; exact h7, c', e, h8, h9, fun i x' j a' hi hj => ?_⟩
 ·obtain ⟨i, hi⟩ := List.mem_iff_getElem?.1 hx'
  obtain ⟨x, hx1, hx2⟩ := hget i x' hi
  rw [← hx2.1]; exact h4 x (List.mem_of_getElem? hx1)
 ·obtain ⟨x, hx1, hx2⟩ := hget i x' hi
  have hjl : j < x.cells.length := by rw [hx2.1]; exact (gI.1 hj).1
  obtain ⟨v, g1, g2⟩ := hv i x j x.cells[j] hx1 (by simp)
  exact ⟨v, g1, (hx2.2 j _ a' (by simp) hj).vr hd g2⟩
end
structure WS (H HJ H' : AH) (r r' : AV) (σ : Nat → Option Nat) : Prop where
 dead : ∀ c k, σ c = some k → c < H.length ∧ H[c]? = some .dead ∧ HJ[c]? = some .dead ∧ H.length ≤ k
 inj : ∀ c c' k, σ c = some k → σ c' = some k → c = c'
 len : H'.length = H.length
 keep : ∀ c, c < H.length → σ c = none → HJ[c]? = H[c]? ∧ H'[c]? = H[c]?
 fill : ∀ c k, σ c = some k → ∃ wr sz xs xs', HJ[k]? = some (.row wr sz xs) ∧ H'[c]? = some (.row wr sz xs') ∧ xs'.length = xs.length ∧ ∀ (i : Nat) x x', xs[i]? = some x → xs'[i]? = some x' → Xo H.length σ x x'
 res : Vk H.length σ r r'
theorem WS.ok {Γ : Nat → Option (List AV)} {G G' : Gh} {w w' : World} {H HJ H' : AH} {r r' : AV} {σ : Nat → Option Nat} (h : WS H HJ H' r r' σ) (hI : zw Γ G w H) (e : zA G w G' w') (i : zw Γ G' w' HJ) {u : Value} (hu : VR G' w' r u) :
  ∃ G'', zA G w G'' w' ∧ zw Γ G'' w' H' ∧ VR G'' w' r' u := by
 obtain ⟨hd, hi, hl, hk, hf, hr⟩ := h
 have hd' : ∀ c k, σ c = some k → ownr G' c = none := fun c k hs => i.blk c _ (hd c k hs).2.2.1
 have e1 : zA G w (ZM G' H.length σ) w' := by
  refine ⟨e.os, e.tape, e.output, e.size, e.keep, fun c L hc => ?_, fun c L' hc hlt => ?_⟩
  ·obtain ⟨L', h1, h2⟩ := e.own c L hc
   have hc0 := Zi hc
   rw [hI.len] at hc0
   cases hs : σ c with
   | some k => have := hI.blk c _ (hd c k hs).2.1; rw [show ownr G c = none from this] at hc; cases hc
   | none => exact ⟨L', by rw [Vv, if_pos hc0, hs]; exact h1, h2⟩
  ·rcases (XI hc).2 with ⟨k, hs, h1⟩ | ⟨_, h1⟩
   ·obtain ⟨L, h2, _⟩ := e.back k L' h1 hlt
    have := Zi h2
    rw [hI.len] at this
    have := (hd c k hs).2.2.2
    omega
   ·exact e.back c L' h1 hlt
 refine ⟨_, e1, ⟨by simp [ZM, hl], fun c x hx => ?_, ?_, fun g cs hg => (hI.glob g cs hg).mono e1⟩, hr.vr hd' hu⟩
 ·have hc : c < H.length := by rw [← hl]; exact (gI.1 hx).1
  cases hs : σ c with
  | none =>
   obtain ⟨h1, h2⟩ := hk c hc hs
   rw [h2] at hx
   have hn := (hI.blk c x hx).noF
   rw [hI.len] at hn
   exact (i.blk c x (h1.trans hx)).move hd' hc hs hn
  | some k =>
   obtain ⟨wr, sz, xs, xs', h1, h2, h3, h4⟩ := hf c k hs
   rw [h2] at hx; cases hx
   exact (i.blk k _ h1).moveRow hd' hc hs h3 h4
 ·intro c c' L L' h1 h2 h3
  obtain ⟨g0, g1⟩ := XI h1
  obtain ⟨q0, q1⟩ := XI h2
  rcases g1 with ⟨k, s1, g1⟩ | ⟨s1, g1⟩ <;> rcases q1 with ⟨k', s2, q1⟩ | ⟨s2, q1⟩
  ·have := i.inj k k' L L' g1 q1 h3; subst this; exact hi c c' k s1 s2
  ·have := i.inj k c' L L' g1 q1 h3; have := (hd c k s1).2.2.2; omega
  ·have := i.inj c k' L L' g1 q1 h3; have := (hd c' k' s2).2.2.2; omega
  ·exact i.inj c c' L L' g1 q1 h3
theorem zg.fills {E : zW} {f : FuncId} {args : List AV} {H HJ H' : AH} {r r' : AV} {σ : Nat → Option Nat} (h : zg E f args H (.ret r) HJ) (hs : WS H HJ H' r r' σ) : zg E f args H (.ret r') H' := by
 refine ⟨h.1, fun F n hF G w vs hI hv => (h.2 F n hF G w vs hI hv).mono ?_⟩
 rintro z w1 ⟨G', e, i, hz⟩
 cases z with
 | returned u =>
  obtain ⟨G'', e2, i2, r2⟩ := hs.ok hI e i hz
  exact ⟨G'', e2, i2, r2⟩
 | panicked ch => cases ch <;> exact hz.elim
 | outgrown => exact hz.elim
theorem YT {F : Fence} {n : Nat} {P : Program} {fn : Func} {tmps : Array Value} {R R' : Ending → World → Prop} (hR : ∀ e w, R e w → R' e w) : ∀ (ds : List Deferred) (u : FrameMode) (w : World), LeavesInM F n P fn tmps R ds u w → LeavesInM F n P fn tmps R' ds u w
 | [], u, w, h => by
  simp only [LeavesInM] at h ⊢
  cases u with
  | returning => simp only [LeavesIn] at h ⊢; obtain ⟨v, h1, h2⟩ := h; exact ⟨v, h1, hR _ _ h2⟩
  | panicking ch => simp only [LeavesIn] at h ⊢; exact hR _ _ h
  | run => simp only [LeavesIn] at h
 | d :: ds, u, w, h => by
  refine ⟨h.1, ?_⟩
  rcases h.2 with ⟨r, w', h1, h2, h3⟩ | ⟨h1, fv, cap, f, args, h2, h3, h4, h5⟩
  ·exact .inl ⟨r, w', h1, h2, YT hR ds u w' h3⟩
  ·refine .inr ⟨h1, fv, cap, f, args, h2, h3, h4, h5.mono fun e u' w' h => ?_⟩
   cases e with
   | returned v => exact YT hR ds _ w' h
   | panicked ch => exact YT hR ds _ w' h
   | outgrown => exact hR _ _ h
theorem bodyPostM_mono {F : Fence} {n : Nat} {P : Program} {fn : Func} {R R' : Ending → World → Prop} (hR : ∀ e w, R e w → R' e w) {x : Exit} {a : Act} {w : World} (h : bodyPostM F n P fn R x a w) : bodyPostM F n P fn R' x a w := by
 cases x with
 | normal => exact YT hR _ _ _ h
 | ret => exact YT hR _ _ _ h
 | panic ch => exact YT hR _ _ _ h
 | outgrown => exact hR _ _ h
 | exit id => exact h
 | goto l => exact h
def bodyX (E : zW) (fn : Func) (H : AH) (r' : AV) (H' : AH) : qz := fun x fr H1 => ∃ r HJ σ, WS H HJ H' r r' σ ∧ jd E fn H (.ret r) HJ x fr H1
theorem soundX_of_awp {E : zW} (hT : qf E.P E.T) (hm : E.P.follows .mixedOrders = true) {f : FuncId} {fn : Func} {c : Code} (hf : E.P.funcs[f]? = some fn) (hb : fn.body = some c)
  (hname : (fn.name == "runtime.NumGoroutine") = false) {N : Nat} (hN : fn.ntmps = N) (hok : j1 N c = true) {args : List AV} {H H' : AH} {r : AV} (hl : args.length ≤ N)
  (h : qD E c (bodyX E fn H r H') (QR args) H) : zg E f args H (.ret r) H' := by
 subst hN
 refine ⟨⟨fn, hf, by rw [hb]; rfl, hname⟩, fun F n hF G w vs hI hv => ?_⟩
 have hF' : Wd F.plain := hF
 have hvl : args.length = vs.size := by simpa using hv.1
 refine (callsIn_of_wp_marks (F := F.plain) (n := n) (P := E.P) (f := f) (fn := fn) (c := c) (args := vs) (w := w) hf hb (hF.2 f) ?_ rfl : CallsIn F.plain n E.P f vs w _)
 refine wpIn_mono (zaD hT hF' hm (N := fn.ntmps) (Dk := JO w []) ⟨hI.inj, hI.lt⟩ JO.mono c _ (QR args) H G _ w (.inr (zb4 rfl)) hok h (.refl _ _) hI (zcr hv _) (by simp; omega) ⟨[], rfl, by simp, by simp⟩) fun x a w' hp => ?_
 obtain ⟨e', fr, H1, G1, ⟨r0, HJ, σ, hs, hk⟩, hp⟩ := hp
 refine bodyPostM_mono ?_ (zaN hT hI (e := .ret r0) (H' := HJ) ⟨e', fr, H1, G1, hk, hp⟩)
 rintro z w1 ⟨G', e, i, hz⟩
 cases z with
 | returned u =>
  obtain ⟨G'', e2, i2, r2⟩ := hs.ok hI e i hz
  exact ⟨G'', e2, i2, r2⟩
 | panicked ch => cases ch <;> exact hz.elim
 | outgrown => exact hz.elim
theorem zg.after {E : zW} {f : FuncId} {args : List AV} {H HJ H' : AH} {r r' : AV} (h : zg E f args H (.ret r) HJ) (hl : Leaves H [r] HJ [r'] H') : zg E f args H (.ret r') H' := by
 refine ⟨h.1, fun F n hF G w vs hI hv => (h.2 F n hF G w vs hI hv).mono ?_⟩
 rintro z w' ⟨G', e, i, hz⟩
 cases z with
 | returned u =>
  obtain ⟨G'', e2, i2, r2⟩ := zaW hI hl e i (VL.nil.cons hz)
  exact ⟨G'', e2, i2, r2.2 0 _ _ rfl rfl⟩
 | panicked ch => cases ch <;> exact hz.elim
 | outgrown => exact hz.elim
end Go.Arm
