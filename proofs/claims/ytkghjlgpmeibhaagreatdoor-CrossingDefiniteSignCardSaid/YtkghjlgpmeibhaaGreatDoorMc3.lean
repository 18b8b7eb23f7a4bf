/- Part of a proof: what the functions of the program do to abstract states, step by step. -/
import Derived.Test.YtkghjlgpmeibhaaGreatDoorMc2
set_option linter.unusedVariables false
set_option linter.unusedSimpArgs false
namespace Go.Proofs.YtkghjlgpmeibhaaGreatDoor.Arm
open Go.Arm Go.Pl
theorem znI (x : Int) (H : AH) : zaf E 28 [.int .i64 x] H (.ret (.bool (numB x))) H := by
 refine zab zah zai Tryz.func28 rfl (by rfl) Tryz.ntmps28 (by kernel_rfl) (by simp) ?_
 by_cases h1 : -2147483648 < x
 ·simp [h1]
  exact fin0 (rs := [.tmp 2]) (by rfl) (by simp [resA, numB, h1])
 ·simp [h1]
  exact fin0 (rs := [.tmp 2]) (by rfl) (by simp [resA, numB, h1])
theorem zb3 (H : AH) : zaf E 125 [] H (.ret (iv ent)) H := by
 refine zab zah zai Tryz.func125 rfl (by rfl) Tryz.ntmps125 (by kernel_rfl) (by simp) ?_
 simp
 exact fin1 (rs := [.cell 0 48]) (by rfl) (by simp [resA, ent]) (by simp [noF, noFs])
theorem zbk (p : I) (H : AH) : zaf E 72 [iv p] H (.ret (.bool (entB p))) H := by
 refine zab zah zai Tryz.func72 rfl (by rfl) Tryz.ntmps72 (by kernel_rfl) (by simp) ?_
 by_cases h1 : p.1 = -2147483648
 ·simp [h1]
  exact fin1 (rs := [.tmp 2]) (by rfl) (by simp [resA, entB, h1]) (by simp [noF])
 ·have h2 : (p.1 == -2147483648) = false := by simp [h1]
  simp [h2]
  exact fin1 (rs := [.tmp 2]) (by rfl) (by simp [resA, entB, h2]) (by simp [noF])
theorem rNew (a b : Int) (H : AH) : zaf E 76 [.int .i64 a, .int .i64 b] H (.ret (iv (mk a b))) H := by
 refine zab zah zai Tryz.func76 rfl (by rfl) Tryz.ntmps76 (by kernel_rfl) (by simp) ?_
 simp
 refine zaa (znI _ _) ?_
 cases h1 : numB a with
 | false =>
  simp
  refine zaa (zb3 _) ?_
  simp
  exact fin1 (rs := [.cell 4 48]) (by rfl) (by simp [resA, mk, h1]) (by simp [noF, noFs])
 | true =>
 simp
 refine zaa (znI _ _) ?_
 cases h2 : numB b with
 | false =>
  simp
  refine zaa (zb3 _) ?_
  simp
  exact fin1 (rs := [.cell 4 48]) (by rfl) (by simp [resA, mk, h1, h2]) (by simp [noF, noFs])
 | true =>
 simp
 exact fin1 (rs := [.cell 4 48]) (by rfl) (by simp [resA, mk, h1, h2]) (by simp [noF, noFs])
theorem zeH (x : Int) (H : AH) : zaf E 34 [.int .i64 x] H (.ret (iv (pt x))) H := by
 refine zab zah zai Tryz.func34 rfl (by rfl) Tryz.ntmps34 (by kernel_rfl) (by simp) ?_
 simp
 refine zaa (rNew _ _ _) ?_
 simp
 exact fin1 (rs := [.cell 2 48]) (by rfl) (by simp [resA, pt]) (by simp [noF, noFs])
theorem fl_go {a b : Int} (hb : b ≠ 0) : fl a b = if a.tmod b ≠ 0 ∧ (decide (a < 0) != decide (b < 0)) = true then a.tdiv b - 1 else a.tdiv b := by
 have key : ∀ c : Int, 0 < c → a / c = if a.tmod c < 0 then a.tdiv c - 1 else a.tdiv c := fun c hc => zed a hc
 rcases Int.lt_or_gt_of_ne hb with h | h
 ·have h1 := zed (-a) (b := -b) (by omega)
  obtain ⟨h2, h3⟩ := zay (-a) (b := -b) (by omega)
  have e1 : (-a).tdiv (-b) = a.tdiv b := by rw [Int.neg_tdiv_neg]
  have e2 : (-a).tmod (-b) = -(a.tmod b) := by rw [Int.tmod_neg, Int.neg_tmod]
  unfold fl
  rw [if_pos h, h1, e1, e2]
  have h4 : decide (b < 0) = true := by simp [h]
  by_cases ha : a < 0
  ·have h5 : decide (a < 0) = true := by simp [ha]
   have := h2 (by omega)
   rw [h4, h5]
   rw [if_neg (by omega), if_neg (by simp)]
  ·have h5 : decide (a < 0) = false := by simp [ha]
   rw [h4, h5]
   by_cases ha0 : a = 0
   ·subst ha0; simp
   ·have := h3 (by omega)
    by_cases hm : a.tmod b = 0
    ·rw [if_neg (by omega), if_neg (by simp [hm])]
    ·rw [if_pos (by omega), if_pos (by simp [hm])]
 ·have h1 := zed a h
  obtain ⟨h2, h3⟩ := zay a h
  unfold fl
  rw [if_neg (by omega), h1]
  have h4 : decide (b < 0) = false := by simp; omega
  by_cases ha : a < 0
  ·have h5 : decide (a < 0) = true := by simp [ha]
   have := h3 ha
   rw [h4, h5]
   by_cases hm : a.tmod b = 0
   ·rw [if_neg (by omega), if_neg (by simp [hm])]
   ·rw [if_pos (by omega), if_pos (by simp [hm])]
  ·have h5 : decide (a < 0) = false := by simp [ha]
   have := h2 (by omega)
   rw [h4, h5]
   rw [if_neg (by omega), if_neg (by simp)]
theorem zgM (a b : Int) (ha : -9223372036854775807 ≤ a ∧ a ≤ 9223372036854775807) (hb : b ≠ 0) (H : AH) : zaf E 197 [.int .i64 a, .int .i64 b] H (.ret (.int .i64 (fl a b))) H := by
 refine zab zah zai Tryz.func197 rfl (by rfl) Tryz.ntmps197 (by kernel_rfl) (by simp) ?_
 have hq : -9223372036854775807 ≤ a.tdiv b ∧ a.tdiv b ≤ 9223372036854775807 := by
  have := Int.natAbs_tdiv_le_natAbs a b
  omega
 have w1 : IntKind.i64.wrap (a.tdiv b) = a.tdiv b := zae (by omega) (by omega)
 have w2 : IntKind.i64.wrap (a.tdiv b - 1) = a.tdiv b - 1 := zae (by omega) (by omega)
 rw [fl_go hb]
 simp
 refine zev hb ?_
 simp [w1]
 refine zev hb ?_
 by_cases hm : a.tmod b = 0
 ·simp [hm]
  exact fin0 (rs := [.tmp 4]) (by rfl) (by simp [resA, hm])
 ·have hm' : (a.tmod b != 0) = true := by simp [hm]
  simp [hm']
  refine zak (fun hc => ?_) (fun hc => ?_)
  ·simp [w2]
   exact fin0 (rs := [.tmp 4]) (by rfl) (by simp [resA, hm]; simp at hc; simp [hc])
  ·simp
   exact fin0 (rs := [.tmp 4]) (by rfl) (by simp [resA, hm]; simp at hc; simp [hc])
theorem fl_bound' {a b : Int} {M : Int} (hb : b ≠ 0) (ha : -M ≤ a ∧ a ≤ M) : -M ≤ fl a b ∧ fl a b ≤ M := by
 rcases Int.lt_or_gt_of_ne hb with h | h
 ·unfold fl
  rw [if_pos h]
  have h1 := zcN (x := -M) (y := -a) (b := -b) (by omega) (by omega)
  have h2 := zcN (x := -a) (y := M) (b := -b) (by omega) (by omega)
  have h3 : M / (-b) ≤ M := Int.ediv_le_self _ (by omega)
  have h4 : -M ≤ (-M) / (-b) := by
   refine Int.le_ediv_of_mul_le (by omega) ?_
   have : M * 1 ≤ M * (-b) := Int.mul_le_mul_of_nonneg_left (by omega) (by omega)
   rw [Int.neg_mul]; omega
  omega
 ·unfold fl
  rw [if_neg (by omega)]
  have h1 := zcN (x := -M) (y := a) (b := b) (by omega) (by omega)
  have h2 := zcN (x := a) (y := M) (b := b) (by omega) (by omega)
  have h3 : M / b ≤ M := Int.ediv_le_self _ (by omega)
  have h4 : -M ≤ (-M) / b := by
   refine Int.le_ediv_of_mul_le (by omega) ?_
   have : M * 1 ≤ M * b := Int.mul_le_mul_of_nonneg_left (by omega) (by omega)
   rw [Int.neg_mul]; omega
  omega
theorem zmI (a b : Int) (ha : -9223372036854775807 ≤ a ∧ a ≤ 9223372036854775807) (hb : b ≠ 0) (H : AH) : zaf E 198 [.int .i64 a, .int .i64 b] H (.ret (.int .i64 (ce a b))) H := by
 refine zab zah zai Tryz.func198 rfl (by rfl) Tryz.ntmps198 (by kernel_rfl) (by simp) ?_
 have w1 : IntKind.i64.wrap (-a) = -a := zae (by omega) (by omega)
 have hf := fl_bound' (M := 9223372036854775807) (a := -a) hb (by omega)
 have w2 : IntKind.i64.wrap (-fl (-a) b) = -fl (-a) b := zae (by omega) (by omega)
 simp [w1]
 refine zaa (zgM (-a) b (by omega) hb _) ?_
 simp [w2]
 exact fin0 (rs := [.tmp 4]) (by rfl) (by simp [resA, ce])
theorem rNeg (p : I) (h : vB p = true) (H : AH) : zaf E 190 [iv p] H (.ret (iv (neg p))) H := by
 refine zab zah zai Tryz.func190 rfl (by rfl) Tryz.ntmps190 (by kernel_rfl) (by simp) ?_
 have hb := zao h
 have w1 : IntKind.i64.wrap (-p.1) = -p.1 := zae (by omega) (by omega)
 have w2 : IntKind.i64.wrap (-p.2) = -p.2 := zae (by omega) (by omega)
 simp [w1, w2]
 exact fin1 (rs := [.cell 2 48]) (by rfl) (by simp [resA, neg]) (by simp [noF, noFs])
theorem rAdd (p q : I) (hp : vB p = true) (hq : vB q = true) (H : AH) : zaf E 95 [iv p, iv q] H (.ret (iv (add p q))) H := by
 refine zab zah zai Tryz.func95 rfl (by rfl) Tryz.ntmps95 (by kernel_rfl) (by simp) ?_
 have hb := zao hp
 have hc := zao hq
 have w1 : IntKind.i64.wrap (p.1 + q.1) = p.1 + q.1 := zae (by omega) (by omega)
 have w2 : IntKind.i64.wrap (p.2 + q.2) = p.2 + q.2 := zae (by omega) (by omega)
 simp
 refine zaa (zbk p _) ?_
 cases h1 : entB p with
 | true =>
  simp
  refine zaa (zb3 _) ?_
  simp
  exact fin1 (rs := [.cell 4 48]) (by rfl) (by simp [resA, add, h1]) (by simp [noF, noFs])
 | false =>
  simp
  refine zaa (zbk q _) ?_
  cases h2 : entB q with
  | true =>
   simp
   refine zaa (zb3 _) ?_
   simp
   exact fin1 (rs := [.cell 4 48]) (by rfl) (by simp [resA, add, h1, h2]) (by simp [noF, noFs])
  | false =>
   simp [w1, w2]
   refine zaa (rNew _ _ _) ?_
   simp
   exact fin1 (rs := [.cell 4 48]) (by rfl) (by simp [resA, add, h1, h2]) (by simp [noF, noFs])
theorem rSub (p q : I) (hp : vB p = true) (hq : vB q = true) (H : AH) : zaf E 193 [iv p, iv q] H (.ret (iv (sub p q))) H := by
 refine zab zah zai Tryz.func193 rfl (by rfl) Tryz.ntmps193 (by kernel_rfl) (by simp) ?_
 simp
 refine zac (fun Hx => rNeg q hq Hx) ?_
 simp
 refine zac (fun Hx => rAdd p (neg q) hp (zcc hq) Hx) ?_
 simp
 refine endD [] (by rfl) (by simp [okW, note, Eff.triv, Eff.wr, Eff.none, upTo, newAt]) ?_
 simp
 exact fin1 (rs := [.cell 4 48]) (by rfl) (by simp [resA, sub]) (by simp [noF, noFs])
theorem ztI (p q : I) (H : AH) : zaf E 111 [iv p, iv q] H (.ret (iv (hull p q))) H := by
 refine zab zah zai Tryz.func111 rfl (by rfl) Tryz.ntmps111 (by kernel_rfl) (by simp) ?_
 simp [zbI, zbo]
 exact fin1 (rs := [.cell 4 48]) (by rfl) (by simp [resA, hull]) (by simp [noF, noFs])
theorem zrS (p q : I) (H : AH) : zaf E 38 [iv p, iv q] H (.ret (.bool (subB p q))) H := by
 refine zab zah zai Tryz.func38 rfl (by rfl) Tryz.ntmps38 (by kernel_rfl) (by simp) ?_
 by_cases h1 : q.1 ≤ p.1
 ·simp [h1]
  exact fin1 (rs := [.tmp 4]) (by rfl) (by simp [resA, subB, h1]) (by simp [noF])
 ·simp [h1]
  exact fin1 (rs := [.tmp 4]) (by rfl) (by simp [resA, subB, h1]) (by simp [noF])
theorem znK (p : I) (x : Int) (H : AH) : zaf E 30 [iv p, .int .i64 x] H (.ret (.bool (conB p x))) H := by
 refine zab zah zai Tryz.func30 rfl (by rfl) Tryz.ntmps30 (by kernel_rfl) (by simp) ?_
 simp
 refine zaa (zbk p _) ?_
 cases h1 : entB p with
 | true =>
  simp
  exact fin1 (rs := [.tmp 4]) (by rfl) (by simp [resA, conB, h1]) (by simp [noF])
 | false =>
  by_cases h2 : p.1 ≤ x
  ·simp [h2]
   exact fin1 (rs := [.tmp 4]) (by rfl) (by simp [resA, conB, h1, h2]) (by simp [noF])
  ·simp [h2]
   exact fin1 (rs := [.tmp 4]) (by rfl) (by simp [resA, conB, h1, h2]) (by simp [noF])
theorem zmH (p q : I) (H : AH) : zaf E 201 [iv p, iv q] H (.ret (.tuple [iv (zeQ p q), .bool (za3 p q)])) H := by
 refine zab zah zai Tryz.func201 rfl (by rfl) Tryz.ntmps201 (by kernel_rfl) (by simp) ?_
 simp [zbI, zbo]
 refine zak (fun hc => ?_) (fun hc => ?_)
 ·have h0 : za3 p q = false := by simp at hc; simp only [za3, decide_eq_false_iff_not]; omega
  simp
  exact finC (rs := [.cell 4 48, .tmp 5]) (vs := [iv (zeQ p q), .bool (za3 p q)]) (vs' := [iv (zeQ p q), .bool (za3 p q)]) (by rfl) (by simp [resA, zeQ, h0]) (by simp; rfl) (by simp [noF, noFs]) rfl
 ·have h0 : za3 p q = true := by simp at hc; simp only [za3, decide_eq_true_eq]; omega
  simp
  exact finC (rs := [.cell 4 48, .tmp 5]) (vs := [iv (zeQ p q), .bool (za3 p q)]) (vs' := [iv (zeQ p q), .bool (za3 p q)]) (by rfl) (by simp [resA, zeQ, h0, meet]) (by simp; rfl) (by simp [noF, noFs]) rfl
def zdK (p : I) (w : Int) : I := (p.1.tmod 1048576, p.1.tmod 1048576 + (p.2.tmod w + w).tmod w)
theorem zjL (p : I) {w : Int} (hw : 1 ≤ w) : -1048576 < (zdK p w).1 ∧ (zdK p w).1 ≤ (zdK p w).2 ∧ (zdK p w).2 < 1048576 + w ∧ (w = 1 → (zdK p w).1 = (zdK p w).2) := by
 obtain ⟨h1, h2⟩ := zay p.1 (b := 1048576) (by omega)
 obtain ⟨h3, h4⟩ := zay p.2 (b := w) (by omega)
 obtain ⟨h5, h6⟩ := zay (p.2.tmod w + w) (b := w) (by omega)
 have h7 : 0 ≤ p.2.tmod w + w := by
  rcases Int.lt_or_le p.2 0 with h | h
  ·have := h4 h; omega
  ·have := h3 h; omega
 have := h5 h7
 unfold zdK
 simp only
 rcases Int.lt_or_le p.1 0 with h | h
 ·have := h2 h; omega
 ·have := h1 h; omega
theorem zpS (p : I) (w : Int) (hw : 1 ≤ w ∧ w ≤ 1000000) (H : AH) : zaf E 103 [iv p, .int .i64 w] H (.ret (iv (zdK p w))) H := by
 refine zab zah zai Tryz.func103 rfl (by rfl) Tryz.ntmps103 (by kernel_rfl) (by simp) ?_
 have hb := zjL p hw.1
 have hw0 : w ≠ 0 := by omega
 obtain ⟨h3, h4⟩ := zay p.2 (b := w) (by omega)
 have h7 : 0 ≤ p.2.tmod w + w ∧ p.2.tmod w + w < 2 * w := by
  rcases Int.lt_or_le p.2 0 with h | h
  ·have := h4 h; omega
  ·have := h3 h; omega
 have w1 : IntKind.i64.wrap (p.2.tmod w + w) = p.2.tmod w + w := zae (by omega) (by omega)
 have w2 : IntKind.i64.wrap (p.1.tmod 1048576 + (p.2.tmod w + w).tmod w) = p.1.tmod 1048576 + (p.2.tmod w + w).tmod w := zae (by have := hb; simp only [zdK] at this; omega) (by have := hb; simp only [zdK] at this; omega)
 simp [hw0, w1]
 refine endD [] (by rfl) (by simp [okW, note, Eff.triv, Eff.wr, Eff.none, upTo, newAt]) ?_
 simp [w2]
 exact fin1 (rs := [.cell 4 48]) (by rfl) (by simp [resA, zdK]) (by simp [noF, noFs])
def loT (l : List Int) (z : Int) (i : Nat) : Int := (l.take i).foldl min z
def hiT (l : List Int) (z : Int) (i : Nat) : Int := (l.take i).foldl max z
theorem zlT {l : List Int} {z x : Int} {i : Nat} (h : l[i]? = some x) : loT l z (i + 1) = min (loT l z i) x := by
 unfold loT; rw [List.take_add_one, h, List.foldl_append]; rfl
theorem zl1 {l : List Int} {z x : Int} {i : Nat} (h : l[i]? = some x) : hiT l z (i + 1) = max (hiT l z i) x := by
 unfold hiT; rw [List.take_add_one, h, List.foldl_append]; rfl
def LMul (l : List Int) (z : Int) (H : AH) (J : AH) (i : Nat) (fr : AFr) (H' : AH) : Prop :=
 fr 4 = .ptr (H.length + 2) 1 0 0 ∧ fr 5 = .slice (l.map (.int .i64)) true ∧ fr 6 = .int .i64 (loT l z i) ∧ fr 7 = .int .i64 (hiT l z i) ∧ fr 8 = .int .i64 i ∧ 1 ≤ i ∧ i ≤ l.length ∧ H' = H ++ J
theorem rMul (p q : I) (hp : vB p = true) (hq : vB q = true) (H : AH) : zaf E 124 [iv p, iv q] H (.ret (iv (mul p q))) H := by
 refine zab zah zai Tryz.func124 rfl (by rfl) Tryz.ntmps124 (by kernel_rfl) (by simp) ?_
 simp
 refine zaa (zbk p _) ?_
 cases h1 : entB p with
 | true =>
  simp
  refine zaa (zb3 _) ?_
  simp
  exact fin1 (rs := [.cell 4 48]) (by rfl) (by simp [resA, mul, h1]) (by simp [noF, noFs])
 | false =>
 simp
 refine zaa (zbk q _) ?_
 cases h2 : entB q with
 | true =>
  simp
  refine zaa (zb3 _) ?_
  simp
  exact fin1 (rs := [.cell 4 48]) (by rfl) (by simp [resA, mul, h1, h2]) (by simp [noF, noFs])
 | false =>
 have hb := zaw hp h1
 have hc := zaw hq h2
 have w11 := zaS (x := p.1) (y := q.1) (by omega) (by omega)
 have w12 := zaS (x := p.1) (y := q.2) (by omega) (by omega)
 have w21 := zaS (x := p.2) (y := q.1) (by omega) (by omega)
 have w22 := zaS (x := p.2) (y := q.2) (by omega) (by omega)
 have v11 : IntKind.i64.wrap (p.1 * q.1) = p.1 * q.1 := zae (by omega) (by omega)
 have v12 : IntKind.i64.wrap (p.1 * q.2) = p.1 * q.2 := zae (by omega) (by omega)
 have v21 : IntKind.i64.wrap (p.2 * q.1) = p.2 * q.1 := zae (by omega) (by omega)
 have v22 : IntKind.i64.wrap (p.2 * q.2) = p.2 * q.2 := zae (by omega) (by omega)
 have hm : mul p q = mk (fl (min4 (p.1 * q.1) (p.1 * q.2) (p.2 * q.1) (p.2 * q.2)) 65536) (ce (max4 (p.1 * q.1) (p.1 * q.2) (p.2 * q.1) (p.2 * q.2)) 65536) := by simp [mul, h1, h2]
 rw [hm]
 simp [v11, v12, v21, v22]
 generalize p.1 * q.1 = a at *
 generalize p.1 * q.2 = b at *
 generalize p.2 * q.1 = c at *
 generalize p.2 * q.2 = d at *
 refine endD [] (by rfl) (by simp [okW, note, Eff.triv, Eff.wr, Eff.none, upTo, newAt]) ?_
 obtain ⟨l, hl⟩ : ∃ l, l = [a, b, c, d] := ⟨_, rfl⟩
 simp
 refine zag (LMul l a H [.row true 2 [iv p], .row true 2 [iv q], .row true 2 [iv (0, 0)]]) (fun i => 4 - i) 1 ⟨by simp, by simp [hl], by simp [loT, hl], by simp [hiT, hl], by simp, by omega, by simp [hl], by simp⟩ ?_
 rintro i fr H' ⟨h4, h5, h6, h7, h8, i1, i4, rfl⟩
 have hl4 : l.length = 4 := by simp [hl]
 simp [h8]
 refine zak (fun hi => ?_) (fun hi => ?_)
 ·have hi' : i < l.length := by simp at hi; omega
  obtain ⟨x, hx⟩ := zaj hi'
  have wi : IntKind.i64.wrap ((i : Int) + 1) = ((i + 1 : Nat) : Int) := by rw [zae (by omega) (by omega)]; omega
  have hx' : ∀ h, l[i]'h = x := fun h => (gI.1 hx).2
  simp [h4, h5, h6, h7, h8, hx, zbI, zbo]
  exact ⟨i + 1, by show 4 - (i + 1) < 4 - i; omega, by simp [h4], by simp [h5], by simp [zlT hx], by simp [zl1 hx], by simp [wi], by omega, by omega, rfl⟩
 ·have hi' : i = 4 := by simp at hi; omega
  subst hi'
  have e1 : loT l a 4 = min4 a b c d := by simp [loT, hl, min4]
  have e2 : hiT l a 4 = max4 a b c d := by simp [hiT, hl, max4]
  simp [h4, h6, h7, e1, e2]
  refine zaa (zgM _ _ (by simp only [min4]; omega) (by omega) _) ?_
  simp [h4, h6, h7]
  refine zaa (zmI _ _ (by rw [e2]; simp only [max4]; omega) (by omega) _) ?_
  simp [h4, h6, h7, e2]
  refine zaa (rNew _ _ _) ?_
  simp [h4]
  exact fin1 (rs := [.cell 4 48]) (by rfl) (by simp [resA, h4]) (by simp [noF, noFs])
theorem zk1 (p : I) (hp : vB p = true) (H : AH) : zaf E 191 [iv p] H (.ret (iv (sq p))) H := by
 refine zab zah zai Tryz.func191 rfl (by rfl) Tryz.ntmps191 (by kernel_rfl) (by simp) ?_
 simp
 refine zaa (zbk p _) ?_
 cases h1 : entB p with
 | true =>
  simp
  refine zaa (zb3 _) ?_
  simp
  exact fin1 (rs := [.cell 2 48]) (by rfl) (by simp [resA, sq, h1]) (by simp [noF, noFs])
 | false =>
 have hb := zaw hp h1
 have w11 := zaS (x := p.1) (y := p.1) (by omega) (by omega)
 have w22 := zaS (x := p.2) (y := p.2) (by omega) (by omega)
 have v11 : IntKind.i64.wrap (p.1 * p.1) = p.1 * p.1 := zae (by omega) (by omega)
 have v22 : IntKind.i64.wrap (p.2 * p.2) = p.2 * p.2 := zae (by omega) (by omega)
 have hm : sq p = mk (fl (if p.1 ≤ 0 ∧ 0 ≤ p.2 then 0 else min (p.1 * p.1) (p.2 * p.2)) 65536) (ce (max (p.1 * p.1) (p.2 * p.2)) 65536) := by simp [sq, h1]
 rw [hm]
 simp [v11, v22, zbI, zbo]
 refine endD [] (by rfl) (by simp [okW, note, Eff.triv, Eff.wr, Eff.none, upTo, newAt]) ?_
 simp
 by_cases h2 : p.1 ≤ 0 ∧ 0 ≤ p.2
 ·simp [h2.1, h2.2]
  refine zaa (zgM _ _ (by omega) (by omega) _) ?_
  simp
  refine zaa (zmI _ _ (by omega) (by omega) _) ?_
  simp
  refine zaa (rNew _ _ _) ?_
  simp
  exact fin1 (rs := [.cell 2 48]) (by rfl) (by simp [resA, h2]) (by simp [noF, noFs])
 ·have h3 : (decide (p.1 ≤ 0) && decide (0 ≤ p.2)) = false := by simp; omega
  by_cases h4 : p.1 ≤ 0
  ·have h5 : ¬ 0 ≤ p.2 := by omega
   simp [h4, h5]
   refine zaa (zgM _ _ (by omega) (by omega) _) ?_
   simp
   refine zaa (zmI _ _ (by omega) (by omega) _) ?_
   simp
   refine zaa (rNew _ _ _) ?_
   simp
   exact fin1 (rs := [.cell 2 48]) (by rfl) (by simp [resA, h5]) (by simp [noF, noFs])
  ·simp [h4]
   refine zaa (zgM _ _ (by omega) (by omega) _) ?_
   simp
   refine zaa (zmI _ _ (by omega) (by omega) _) ?_
   simp
   refine zaa (rNew _ _ _) ?_
   simp
   exact fin1 (rs := [.cell 2 48]) (by rfl) (by simp [resA, h4]) (by simp [noF, noFs])
def LRt (n : Int) (H : AH) (k : Nat) (fr : AFr) (H' : AH) : Prop :=
 ∃ r : Int, fr 0 = .int .i64 n ∧ fr 3 = .int .i64 r ∧ fr 4 = .int .i64 (2 ^ k / 2) ∧ k ≤ 31 ∧ 0 ≤ r ∧ r + 2 ^ k ≤ 2147483648 ∧ r * r ≤ n ∧ n < (r + 2 ^ k) * (r + 2 ^ k) ∧ H' = H
theorem ztH (n : Int) (hn : 0 ≤ n ∧ n ≤ 140737488355328) (H : AH) : zaf E 244 [.int .i64 n] H (.ret (.int .i64 (root n))) H := by
 refine zab zah zai Tryz.func244 rfl (by rfl) Tryz.ntmps244 (by kernel_rfl) (by simp) ?_
 simp
 refine zag (LRt n H) (fun k => k) 31 ⟨0, by simp, by simp, by simp, by omega, by omega, by omega, by omega, by omega, rfl⟩ ?_
 rintro k fr H' ⟨r, h0, h3, h4, hk, r0, r1, r2, r3, rfl⟩
 cases k with
 | zero =>
  have e : root n = r := zkV r0 r2 (by simpa using r3)
  simp [h4]
  simp [h3]
  exact fin0 (rs := [.tmp 2]) (by rfl) (by simp [resA, h3, e])
 | succ k =>
  have hp : (0 : Int) < 2 ^ k := by
   have : 0 < (2 : Nat) ^ k := Nat.pow_pos (by omega)
   have h3 : (((2 : Nat) ^ k : Nat) : Int) = 2 ^ k := by simp
   omega
  have e2 : (2 : Int) ^ (k + 1) = 2 * 2 ^ k := by rw [Int.pow_succ]; omega
  have e3 : (2 : Int) ^ (k + 1) / 2 = 2 ^ k := by omega
  rw [e3] at h4
  rw [e2] at r1 r3
  generalize hP : (2 : Int) ^ k = P at *
  have wr : IntKind.i64.wrap (r + P) = r + P := zae (by omega) (by omega)
  have wb := zaS (x := r + P) (y := r + P) (by omega) (by omega)
  have wm : IntKind.i64.wrap ((r + P) * (r + P)) = (r + P) * (r + P) := zae (by omega) (by omega)
  have wq : IntKind.i64.wrap (P / 2) = P / 2 := zae (by omega) (by omega)
  have wt : P.tdiv 2 = P / 2 := Int.tdiv_eq_ediv_of_nonneg (by omega)
  simp [h4, hp]
  simp [h0, h3, h4, wr, wm]
  refine zak (fun hc => ?_) (fun hc => ?_)
  ·simp at hc
   simp [h0, h3, h4, wr, wq, wt]
   exact ⟨k, by show k < k + 1; omega, r + P, by simp [h0], by simp, by simp [hP], by omega, by omega, by rw [hP]; omega, hc, by rw [hP, show r + P + P = r + 2 * P by omega]; exact r3, rfl⟩
  ·simp at hc
   simp [h0, h3, h4, wq, wt]
   exact ⟨k, by show k < k + 1; omega, r, by simp [h0], by simp [h3], by simp [hP], by omega, by omega, by rw [hP]; omega, r2, by rw [hP]; omega, rfl⟩
theorem zrT (p : I) (hp : vB p = true) (h0 : 0 ≤ p.2) (H : AH) : zaf E 192 [iv p] H (.ret (.tuple [iv (sqrt p), .bool true])) H := by
 refine zab zah zai Tryz.func192 rfl (by rfl) Tryz.ntmps192 (by kernel_rfl) (by simp) ?_
 simp
 refine zaa (zbk p _) ?_
 cases h1 : entB p with
 | true =>
  simp
  exact finC (rs := [.cell 2 48, .tmp 3]) (vs := [iv (sqrt p), .bool true]) (vs' := [iv (sqrt p), .bool true]) (by rfl) (by have e : sqrt p = p := (by simp only [sqrt, h1, if_true]); rw [e]; simp [resA]) (by simp; rfl) (by simp [noF, noFs]) rfl
 | false =>
 have hb := zaw hp h1
 have hlt : ¬ p.2 < 0 := by omega
 have e : sqrt p = mk (root (max p.1 0 * 65536)) (zbv (p.2 * 65536)) := by simp only [sqrt, h1, hlt, if_false]; simp
 have w1 : IntKind.i64.wrap (max p.1 0 * 65536) = max p.1 0 * 65536 := zae (by omega) (by omega)
 have w2 : IntKind.i64.wrap (p.2 * 65536) = p.2 * 65536 := zae (by omega) (by omega)
 obtain ⟨g0, g1, g2⟩ := zbd (n := p.2 * 65536) (by omega)
 have hx1 : 0 ≤ root (p.2 * 65536) * root (p.2 * 65536) := Int.mul_nonneg g0 g0
 have w3 : IntKind.i64.wrap (root (p.2 * 65536) * root (p.2 * 65536)) = root (p.2 * 65536) * root (p.2 * 65536) := zae (by omega) (by omega)
 have hrb : root (p.2 * 65536) ≤ 140737488355328 := by
  rcases Int.lt_or_le 140737488355328 (root (p.2 * 65536)) with h | h
  ·have : 140737488355328 * 140737488355328 ≤ root (p.2 * 65536) * root (p.2 * 65536) := Int.mul_le_mul (by omega) (by omega) (by omega) (by omega)
   omega
  ·exact h
 have w4 : IntKind.i64.wrap (root (p.2 * 65536) + 1) = root (p.2 * 65536) + 1 := zae (by omega) (by omega)
 rw [e]
 simp [hlt, zbo, w1]
 refine zac (fun Hx => ztH _ (by omega) Hx) ?_
 simp [w2]
 refine zac (fun Hx => ztH _ (by omega) Hx) ?_
 simp
 refine endD [] (by rfl) (by simp [okW, note, Eff.triv, Eff.wr, Eff.none, upTo, newAt]) ?_
 simp [w3, w2]
 refine zak (fun hc => ?_) (fun hc => ?_)
 ·have hu : zbv (p.2 * 65536) = root (p.2 * 65536) + 1 := by simp at hc; unfold zbv; rw [if_pos hc]
  simp [w4]
  refine zaa (rNew _ _ _) ?_
  simp
  exact finC (rs := [.cell 2 48, .tmp 3]) (vs := [iv (mk (root (max p.1 0 * 65536)) (zbv (p.2 * 65536))), .bool true]) (vs' := [iv (mk (root (max p.1 0 * 65536)) (zbv (p.2 * 65536))), .bool true]) (by rfl) (by simp [resA, hu]) (by simp; rfl) (by simp [noF, noFs]) rfl
 ·have hu : zbv (p.2 * 65536) = root (p.2 * 65536) := by simp at hc; unfold zbv; rw [if_neg (by omega)]
  simp
  refine zaa (rNew _ _ _) ?_
  simp
  exact finC (rs := [.cell 2 48, .tmp 3]) (vs := [iv (mk (root (max p.1 0 * 65536)) (zbv (p.2 * 65536))), .bool true]) (vs' := [iv (mk (root (max p.1 0 * 65536)) (zbv (p.2 * 65536))), .bool true]) (by rfl) (by simp [resA, hu]) (by simp; rfl) (by simp [noF, noFs]) rfl
def LDv (p q : I) (fs cs : List Int) (z y : Int) (H J : AH) (i s : Nat) (fr : AFr) (H' : AH) : Prop :=
 fr 4 = .ptr (H.length + 2) 1 0 0 ∧ fr 5 = .slice [.int .i64 p.1, .int .i64 p.2] true ∧ fr 6 = .slice [.int .i64 q.1, .int .i64 q.2] true ∧ fr 7 = .int .i64 (loT fs z s) ∧ fr 8 = .int .i64 (hiT cs y s) ∧ fr 9 = .int .i64 i ∧ H' = H ++ J
theorem rDiv (p q : I) (hp : vB p = true) (hq : vB q = true) (H : AH) : zaf E 194 [iv p, iv q] H (.ret (iv (div p q))) H := by
 refine zab zah zai Tryz.func194 rfl (by rfl) Tryz.ntmps194 (by kernel_rfl) (by simp) ?_
 simp
 refine zaa (zbk p _) ?_
 cases h1 : entB p with
 | true =>
  simp
  refine zaa (zb3 _) ?_
  simp
  exact fin1 (rs := [.cell 4 48]) (by rfl) (by simp [resA, div, h1]) (by simp [noF, noFs])
 | false =>
 simp
 refine zaa (zbk q _) ?_
 cases h2 : entB q with
 | true =>
  simp
  refine zaa (zb3 _) ?_
  simp
  exact fin1 (rs := [.cell 4 48]) (by rfl) (by simp [resA, div, h1, h2]) (by simp [noF, noFs])
 | false =>
 by_cases h3 : q.1 ≤ 0 ∧ 0 ≤ q.2
 ·simp [h3.1, h3.2]
  refine zaa (zb3 _) ?_
  simp
  exact fin1 (rs := [.cell 4 48]) (by rfl) (by simp [resA, div, h1, h2, h3.1, h3.2]) (by simp [noF, noFs])
 have hb := zaw hp h1
 have hc := zaw hq h2
 have h4 : (decide (q.1 ≤ 0) && decide (0 ≤ q.2)) = false := by simp; omega
 have hm : div p q = mk (min4 (fl (p.1 * 65536) q.1) (fl (p.1 * 65536) q.2) (fl (p.2 * 65536) q.1) (fl (p.2 * 65536) q.2)) (max4 (ce (p.1 * 65536) q.1) (ce (p.1 * 65536) q.2) (ce (p.2 * 65536) q.1) (ce (p.2 * 65536) q.2)) := by simp [div, h1, h2, h4]
 rw [hm]
 have wp1 : IntKind.i64.wrap (p.1 * 65536) = p.1 * 65536 := zae (by omega) (by omega)
 have wp2 : IntKind.i64.wrap (p.2 * 65536) = p.2 * 65536 := zae (by omega) (by omega)
 have q1 : q.1 ≠ 0 := by omega
 have q2 : q.2 ≠ 0 := by omega
 have fF : ∀ x y, (x = p.1 ∨ x = p.2) → (y = q.1 ∨ y = q.2) → ∀ Hx, zaf E 197 [.int .i64 (x * 65536), .int .i64 y] Hx (.ret (.int .i64 (fl (x * 65536) y))) Hx := fun x y hx hy Hx =>
  zgM _ _ (by rcases hx with rfl | rfl <;> omega) (by rcases hy with rfl | rfl <;> assumption) Hx
 have cC : ∀ x y, (x = p.1 ∨ x = p.2) → (y = q.1 ∨ y = q.2) → ∀ Hx, zaf E 198 [.int .i64 (x * 65536), .int .i64 y] Hx (.ret (.int .i64 (ce (x * 65536) y))) Hx := fun x y hx hy Hx =>
  zmI _ _ (by rcases hx with rfl | rfl <;> omega) (by rcases hy with rfl | rfl <;> assumption) Hx
 obtain ⟨fs, hfs⟩ : ∃ l, l = [fl (p.1 * 65536) q.1, fl (p.1 * 65536) q.2, fl (p.2 * 65536) q.1, fl (p.2 * 65536) q.2] := ⟨_, rfl⟩
 obtain ⟨cs, hcs⟩ : ∃ l, l = [ce (p.1 * 65536) q.1, ce (p.1 * 65536) q.2, ce (p.2 * 65536) q.1, ce (p.2 * 65536) q.2] := ⟨_, rfl⟩
 obtain ⟨z, hz⟩ : ∃ z, z = fl (p.1 * 65536) q.1 := ⟨_, rfl⟩
 obtain ⟨y, hy⟩ : ∃ y, y = ce (p.1 * 65536) q.1 := ⟨_, rfl⟩
 have s1 : ∀ i k x1, (i : Nat) = 0 ∨ i = 1 → (k : Nat) = 0 ∨ k = 1 → x1 = 2 * i + k → loT fs z (x1 + 1) = min (loT fs z x1) (fl ((if i = 0 then p.1 else p.2) * 65536) (if k = 0 then q.1 else q.2)) := by
  rintro i k x1 (rfl | rfl) (rfl | rfl) rfl <;> exact zlT (by simp [hfs])
 have s2 : ∀ i k x1, (i : Nat) = 0 ∨ i = 1 → (k : Nat) = 0 ∨ k = 1 → x1 = 2 * i + k → hiT cs y (x1 + 1) = max (hiT cs y x1) (ce ((if i = 0 then p.1 else p.2) * 65536) (if k = 0 then q.1 else q.2)) := by
  rintro i k x1 (rfl | rfl) (rfl | rfl) rfl <;> exact zl1 (by simp [hcs])
 have e1 : loT fs z 4 = min4 (fl (p.1 * 65536) q.1) (fl (p.1 * 65536) q.2) (fl (p.2 * 65536) q.1) (fl (p.2 * 65536) q.2) := by simp [loT, hfs, hz, min4]
 have e2 : hiT cs y 4 = max4 (ce (p.1 * 65536) q.1) (ce (p.1 * 65536) q.2) (ce (p.2 * 65536) q.1) (ce (p.2 * 65536) q.2) := by simp [hiT, hcs, hy, max4]
 rw [← e1, ← e2]
 by_cases h6 : q.1 ≤ 0
 ·have h7 : ¬ 0 ≤ q.2 := by omega
  simp [h6, h7]
  refine endD [] (by rfl) (by simp [okW, note, Eff.triv, Eff.wr, Eff.none, upTo, newAt]) ?_
  simp [wp1]
  refine zac (fF p.1 q.1 (.inl rfl) (.inl rfl)) ?_
  simp [wp1]
  refine zac (cC p.1 q.1 (.inl rfl) (.inl rfl)) ?_
  simp
  refine endD [] (by rfl) (by simp [okW, note, Eff.triv, Eff.wr, Eff.none, upTo, newAt]) ?_
  simp
  refine zag (fun i fr H' => LDv p q fs cs z y H [.row true 2 [iv p], .row true 2 [iv q], .row true 2 [iv (0, 0)]] i (2 * i) fr H' ∧ i ≤ 2) (fun i => 2 - i) 0 ⟨⟨by simp, by simp, by simp, by simp [loT, hz], by simp [hiT, hy], by simp, by simp⟩, by omega⟩ ?_
  rintro i fr H' ⟨⟨g4, g5, g6, g7, g8, g9, rfl⟩, hi⟩
  simp [g9]
  refine zak (fun hc1 => ?_) (fun hc1 => ?_)
  ·have hi' : i = 0 ∨ i = 1 := by simp at hc1; omega
   simp
   refine zag (fun k fr H' => LDv p q fs cs z y H [.row true 2 [iv p], .row true 2 [iv q], .row true 2 [iv (0, 0)]] i (2 * i + k) fr H' ∧ fr 10 = .int .i64 k ∧ k ≤ 2) (fun k => 2 - k) 0 ⟨⟨by simp [g4], by simp [g5], by simp [g6], by simp [g7], by simp [g8], by simp [g9], rfl⟩, by simp, by omega⟩ ?_
   rintro k fr2 H2 ⟨⟨k4, k5, k6, k7, k8, k9, rfl⟩, k10, hk⟩
   simp [k10]
   refine zak (fun hc2 => ?_) (fun hc2 => ?_)
   ·have hk' : k = 0 ∨ k = 1 := by simp at hc2; omega
    rcases hi' with rfl | rfl <;> rcases hk' with rfl | rfl
    ·have t1 := s1 0 0 0 (by omega) (by omega) (by omega)
     have t2 := s2 0 0 0 (by omega) (by omega) (by omega)
     simp at t1 t2 k7 k8 k9 k10
     have w : IntKind.i64.wrap 1 = 1 := by decide
     simp [k5, k6, k7, k8, k9, k10, wp1]
     refine zac (fF p.1 q.1 (.inl rfl) (.inl rfl)) ?_
     simp [k5, k6, k7, k8, k9, k10]
     refine endD [] (by rfl) (by simp [okW, note, Eff.triv, Eff.wr, Eff.none, upTo, newAt]) ?_
     simp [k5, k6, k7, k8, k9, k10, wp1]
     refine zac (cC p.1 q.1 (.inl rfl) (.inl rfl)) ?_
     simp [k5, k6, k7, k8, k9, k10]
     refine endD [] (by rfl) (by simp [okW, note, Eff.triv, Eff.wr, Eff.none, upTo, newAt]) ?_
     simp [k5, k6, k7, k8, k9, k10, zbI, zbo]
     exact ⟨1, by decide, ⟨by simp [k4], by simp [k5], by simp [k6], by simp [t1], by simp [t2], by simp [k9], rfl⟩, by simp [k10, w], by omega⟩
    ·have t1 := s1 0 1 1 (by omega) (by omega) (by omega)
     have t2 := s2 0 1 1 (by omega) (by omega) (by omega)
     simp at t1 t2 k7 k8 k9 k10
     have w : IntKind.i64.wrap 2 = 2 := by decide
     simp [k5, k6, k7, k8, k9, k10, wp1]
     refine zac (fF p.1 q.2 (.inl rfl) (.inr rfl)) ?_
     simp [k5, k6, k7, k8, k9, k10]
     refine endD [] (by rfl) (by simp [okW, note, Eff.triv, Eff.wr, Eff.none, upTo, newAt]) ?_
     simp [k5, k6, k7, k8, k9, k10, wp1]
     refine zac (cC p.1 q.2 (.inl rfl) (.inr rfl)) ?_
     simp [k5, k6, k7, k8, k9, k10]
     refine endD [] (by rfl) (by simp [okW, note, Eff.triv, Eff.wr, Eff.none, upTo, newAt]) ?_
     simp [k5, k6, k7, k8, k9, k10, zbI, zbo]
     exact ⟨2, by decide, ⟨by simp [k4], by simp [k5], by simp [k6], by simp [t1], by simp [t2], by simp [k9], rfl⟩, by simp [k10, w], by omega⟩
    ·have t1 := s1 1 0 2 (by omega) (by omega) (by omega)
     have t2 := s2 1 0 2 (by omega) (by omega) (by omega)
     simp at t1 t2 k7 k8 k9 k10
     have w : IntKind.i64.wrap 1 = 1 := by decide
     simp [k5, k6, k7, k8, k9, k10, wp2]
     refine zac (fF p.2 q.1 (.inr rfl) (.inl rfl)) ?_
     simp [k5, k6, k7, k8, k9, k10]
     refine endD [] (by rfl) (by simp [okW, note, Eff.triv, Eff.wr, Eff.none, upTo, newAt]) ?_
     simp [k5, k6, k7, k8, k9, k10, wp2]
     refine zac (cC p.2 q.1 (.inr rfl) (.inl rfl)) ?_
     simp [k5, k6, k7, k8, k9, k10]
     refine endD [] (by rfl) (by simp [okW, note, Eff.triv, Eff.wr, Eff.none, upTo, newAt]) ?_
     simp [k5, k6, k7, k8, k9, k10, zbI, zbo]
     exact ⟨1, by decide, ⟨by simp [k4], by simp [k5], by simp [k6], by simp [t1], by simp [t2], by simp [k9], rfl⟩, by simp [k10, w], by omega⟩
    ·have t1 := s1 1 1 3 (by omega) (by omega) (by omega)
     have t2 := s2 1 1 3 (by omega) (by omega) (by omega)
     simp at t1 t2 k7 k8 k9 k10
     have w : IntKind.i64.wrap 2 = 2 := by decide
     simp [k5, k6, k7, k8, k9, k10, wp2]
     refine zac (fF p.2 q.2 (.inr rfl) (.inr rfl)) ?_
     simp [k5, k6, k7, k8, k9, k10]
     refine endD [] (by rfl) (by simp [okW, note, Eff.triv, Eff.wr, Eff.none, upTo, newAt]) ?_
     simp [k5, k6, k7, k8, k9, k10, wp2]
     refine zac (cC p.2 q.2 (.inr rfl) (.inr rfl)) ?_
     simp [k5, k6, k7, k8, k9, k10]
     refine endD [] (by rfl) (by simp [okW, note, Eff.triv, Eff.wr, Eff.none, upTo, newAt]) ?_
     simp [k5, k6, k7, k8, k9, k10, zbI, zbo]
     exact ⟨2, by decide, ⟨by simp [k4], by simp [k5], by simp [k6], by simp [t1], by simp [t2], by simp [k9], rfl⟩, by simp [k10, w], by omega⟩
   ·have hk' : k = 2 := by simp at hc2; omega
    subst hk'
    have wi : IntKind.i64.wrap ((i : Int) + 1) = ((i + 1 : Nat) : Int) := by rw [zae (by omega) (by omega)]; omega
    simp [k9]
    exact ⟨i + 1, by show 2 - (i + 1) < 2 - i; omega, ⟨by simp [k4], by simp [k5], by simp [k6], by simp [k7, show 2 * (i + 1) = 2 * i + 2 by omega], by simp [k8, show 2 * (i + 1) = 2 * i + 2 by omega], by simp [wi], rfl⟩, by omega⟩
  ·have hi' : i = 2 := by simp at hc1; omega
   subst hi'
   simp at g7 g8
   simp [g4, g7, g8]
   refine zaa (rNew _ _ _) ?_
   simp [g4]
   exact fin1 (rs := [.cell 4 48]) (by rfl) (by simp [resA, g4]) (by simp [noF, noFs])
 ·simp [h6]
  refine endD [] (by rfl) (by simp [okW, note, Eff.triv, Eff.wr, Eff.none, upTo, newAt]) ?_
  simp [wp1]
  refine zac (fF p.1 q.1 (.inl rfl) (.inl rfl)) ?_
  simp [wp1]
  refine zac (cC p.1 q.1 (.inl rfl) (.inl rfl)) ?_
  simp
  refine endD [] (by rfl) (by simp [okW, note, Eff.triv, Eff.wr, Eff.none, upTo, newAt]) ?_
  simp
  refine zag (fun i fr H' => LDv p q fs cs z y H [.row true 2 [iv p], .row true 2 [iv q], .row true 2 [iv (0, 0)]] i (2 * i) fr H' ∧ i ≤ 2) (fun i => 2 - i) 0 ⟨⟨by simp, by simp, by simp, by simp [loT, hz], by simp [hiT, hy], by simp, by simp⟩, by omega⟩ ?_
  rintro i fr H' ⟨⟨g4, g5, g6, g7, g8, g9, rfl⟩, hi⟩
  simp [g9]
  refine zak (fun hc1 => ?_) (fun hc1 => ?_)
  ·have hi' : i = 0 ∨ i = 1 := by simp at hc1; omega
   simp
   refine zag (fun k fr H' => LDv p q fs cs z y H [.row true 2 [iv p], .row true 2 [iv q], .row true 2 [iv (0, 0)]] i (2 * i + k) fr H' ∧ fr 10 = .int .i64 k ∧ k ≤ 2) (fun k => 2 - k) 0 ⟨⟨by simp [g4], by simp [g5], by simp [g6], by simp [g7], by simp [g8], by simp [g9], rfl⟩, by simp, by omega⟩ ?_
   rintro k fr2 H2 ⟨⟨k4, k5, k6, k7, k8, k9, rfl⟩, k10, hk⟩
   simp [k10]
   refine zak (fun hc2 => ?_) (fun hc2 => ?_)
   ·have hk' : k = 0 ∨ k = 1 := by simp at hc2; omega
    rcases hi' with rfl | rfl <;> rcases hk' with rfl | rfl
    ·have t1 := s1 0 0 0 (by omega) (by omega) (by omega)
     have t2 := s2 0 0 0 (by omega) (by omega) (by omega)
     simp at t1 t2 k7 k8 k9 k10
     have w : IntKind.i64.wrap 1 = 1 := by decide
     simp [k5, k6, k7, k8, k9, k10, wp1]
     refine zac (fF p.1 q.1 (.inl rfl) (.inl rfl)) ?_
     simp [k5, k6, k7, k8, k9, k10]
     refine endD [] (by rfl) (by simp [okW, note, Eff.triv, Eff.wr, Eff.none, upTo, newAt]) ?_
     simp [k5, k6, k7, k8, k9, k10, wp1]
     refine zac (cC p.1 q.1 (.inl rfl) (.inl rfl)) ?_
     simp [k5, k6, k7, k8, k9, k10]
     refine endD [] (by rfl) (by simp [okW, note, Eff.triv, Eff.wr, Eff.none, upTo, newAt]) ?_
     simp [k5, k6, k7, k8, k9, k10, zbI, zbo]
     exact ⟨1, by decide, ⟨by simp [k4], by simp [k5], by simp [k6], by simp [t1], by simp [t2], by simp [k9], rfl⟩, by simp [k10, w], by omega⟩
    ·have t1 := s1 0 1 1 (by omega) (by omega) (by omega)
     have t2 := s2 0 1 1 (by omega) (by omega) (by omega)
     simp at t1 t2 k7 k8 k9 k10
     have w : IntKind.i64.wrap 2 = 2 := by decide
     simp [k5, k6, k7, k8, k9, k10, wp1]
     refine zac (fF p.1 q.2 (.inl rfl) (.inr rfl)) ?_
     simp [k5, k6, k7, k8, k9, k10]
     refine endD [] (by rfl) (by simp [okW, note, Eff.triv, Eff.wr, Eff.none, upTo, newAt]) ?_
     simp [k5, k6, k7, k8, k9, k10, wp1]
     refine zac (cC p.1 q.2 (.inl rfl) (.inr rfl)) ?_
     simp [k5, k6, k7, k8, k9, k10]
     refine endD [] (by rfl) (by simp [okW, note, Eff.triv, Eff.wr, Eff.none, upTo, newAt]) ?_
     simp [k5, k6, k7, k8, k9, k10, zbI, zbo]
     exact ⟨2, by decide, ⟨by simp [k4], by simp [k5], by simp [k6], by simp [t1], by simp [t2], by simp [k9], rfl⟩, by simp [k10, w], by omega⟩
    ·have t1 := s1 1 0 2 (by omega) (by omega) (by omega)
     have t2 := s2 1 0 2 (by omega) (by omega) (by omega)
     simp at t1 t2 k7 k8 k9 k10
     have w : IntKind.i64.wrap 1 = 1 := by decide
     simp [k5, k6, k7, k8, k9, k10, wp2]
     refine zac (fF p.2 q.1 (.inr rfl) (.inl rfl)) ?_
     simp [k5, k6, k7, k8, k9, k10]
     refine endD [] (by rfl) (by simp [okW, note, Eff.triv, Eff.wr, Eff.none, upTo, newAt]) ?_
     simp [k5, k6, k7, k8, k9, k10, wp2]
     refine zac (cC p.2 q.1 (.inr rfl) (.inl rfl)) ?_
     simp [k5, k6, k7, k8, k9, k10]
     refine endD [] (by rfl) (by simp [okW, note, Eff.triv, Eff.wr, Eff.none, upTo, newAt]) ?_
     simp [k5, k6, k7, k8, k9, k10, zbI, zbo]
     exact ⟨1, by decide, ⟨by simp [k4], by simp [k5], by simp [k6], by simp [t1], by simp [t2], by simp [k9], rfl⟩, by simp [k10, w], by omega⟩
    ·have t1 := s1 1 1 3 (by omega) (by omega) (by omega)
     have t2 := s2 1 1 3 (by omega) (by omega) (by omega)
     simp at t1 t2 k7 k8 k9 k10
     have w : IntKind.i64.wrap 2 = 2 := by decide
     simp [k5, k6, k7, k8, k9, k10, wp2]
     refine zac (fF p.2 q.2 (.inr rfl) (.inr rfl)) ?_
     simp [k5, k6, k7, k8, k9, k10]
     refine endD [] (by rfl) (by simp [okW, note, Eff.triv, Eff.wr, Eff.none, upTo, newAt]) ?_
     simp [k5, k6, k7, k8, k9, k10, wp2]
     refine zac (cC p.2 q.2 (.inr rfl) (.inr rfl)) ?_
     simp [k5, k6, k7, k8, k9, k10]
     refine endD [] (by rfl) (by simp [okW, note, Eff.triv, Eff.wr, Eff.none, upTo, newAt]) ?_
     simp [k5, k6, k7, k8, k9, k10, zbI, zbo]
     exact ⟨2, by decide, ⟨by simp [k4], by simp [k5], by simp [k6], by simp [t1], by simp [t2], by simp [k9], rfl⟩, by simp [k10, w], by omega⟩
   ·have hk' : k = 2 := by simp at hc2; omega
    subst hk'
    have wi : IntKind.i64.wrap ((i : Int) + 1) = ((i + 1 : Nat) : Int) := by rw [zae (by omega) (by omega)]; omega
    simp [k9]
    exact ⟨i + 1, by show 2 - (i + 1) < 2 - i; omega, ⟨by simp [k4], by simp [k5], by simp [k6], by simp [k7, show 2 * (i + 1) = 2 * i + 2 by omega], by simp [k8, show 2 * (i + 1) = 2 * i + 2 by omega], by simp [wi], rfl⟩, by omega⟩
  ·have hi' : i = 2 := by simp at hc1; omega
   subst hi'
   simp at g7 g8
   simp [g4, g7, g8]
   refine zaa (rNew _ _ _) ?_
   simp [g4]
   exact fin1 (rs := [.cell 4 48]) (by rfl) (by simp [resA, g4]) (by simp [noF, noFs])
end Go.Proofs.YtkghjlgpmeibhaaGreatDoor.Arm

namespace Go.Pl
structure Nd where
 op : Int
 n : Int
 c : I
 deriving DecidableEq
inductive U where
 | neg | sqr | sqrt
 deriving DecidableEq
inductive B where
 | add | sub | mul | div
 deriving DecidableEq
def U.code : U → Int
 | .neg => 4
 | .sqr => 5
 | .sqrt => 6
def B.code : B → Int
 | .add => 7
 | .sub => 8
 | .mul => 9
 | .div => 10
inductive Ex where
 | num (c : I)
 | var (i : Nat)
 | time
 | un (o : U) (a : Ex)
 | bin (o : B) (a b : Ex)
 deriving DecidableEq
def zap (op n : Int) : Nd := ⟨op, n, (0, 0)⟩
def zan : Ex → Nd
 | .num c => ⟨1, 0, c⟩
 | .var i => zap 2 i
 | .time => zap 3 0
 | .un o _ => zap o.code 0
 | .bin o _ _ => zap o.code 0
def ser : Ex → List Nd
 | .num c => [⟨1, 0, c⟩]
 | .var i => [zap 2 i]
 | .time => [zap 3 0]
 | .un o a => zap o.code 0 :: ser a
 | .bin o a b => zap o.code 0 :: (ser a ++ ser b)
def kids : Ex → List Ex
 | .num _ | .var _ | .time => []
 | .un _ a => [a]
 | .bin _ a b => [a, b]
def sz (e : Ex) : Nat := (ser e).length
def serL (l : List Ex) : List Nd := l.flatMap ser
theorem zcl (e : Ex) : ser e = zan e :: serL (kids e) := by cases e <;> simp [ser, zan, serL, kids]
theorem zcE (e : Ex) : 0 < sz e := by rw [sz, zcl]; simp
theorem zdR (o : U) (a : Ex) : sz (.un o a) = sz a + 1 := by simp [sz, ser]
theorem zbG (o : B) (a b : Ex) : sz (.bin o a b) = sz a + sz b + 1 := by simp [sz, ser]
theorem zdE (c : I) : sz (.num c) = 1 := rfl
theorem zhC (i : Nat) : sz (.var i) = 1 := rfl
theorem zfB : sz .time = 1 := rfl
def zbq (op : Int) : Int := if 1 ≤ op ∧ op ≤ 3 then 0 else if 4 ≤ op ∧ op ≤ 6 then 1 else if 7 ≤ op ∧ op ≤ 10 then 2 else -1
theorem zdk (e : Ex) : zbq (zan e).op = (kids e).length := by
 cases e with
 | un o a => cases o <;> rfl
 | bin o a b => cases o <;> rfl
 | _ => rfl
def unV : U → I → I
 | .neg, v => neg v
 | .sqr, v => sq v
 | .sqrt, v => if v.1 < 0 then ent else sqrt v
def binV : B → I → I → I
 | .add => add
 | .sub => sub
 | .mul => mul
 | .div => div
def ev (x : List I) (t : I) : Ex → I
 | .num c => c
 | .var i => (x[i]?).getD (0, 0)
 | .time => t
 | .un o a => unV o (ev x t a)
 | .bin o a b => binV o (ev x t a) (ev x t b)
def wf (n : Nat) : Ex → Bool
 | .num c => vB c
 | .var i => decide (i < n)
 | .time => true
 | .un _ a => wf n a
 | .bin _ a b => wf n a && wf n b
theorem zjl {o : U} {v : I} (h : vB v = true) : vB (unV o v) = true := by
 cases o with
 | neg => exact zcc h
 | sqr => exact zgh h
 | sqrt =>
  simp only [unV]
  split
  ·decide
  ·exact zhK h
theorem zig {o : B} {v w : I} (h : vB v = true) (k : vB w = true) : vB (binV o v w) = true := by
 cases o with
 | add => exact zbB h k
 | sub => exact zcF h k
 | mul => exact zaz
 | div => exact zcO k
theorem zaT {x : List I} {t : I} (hx : ∀ a ∈ x, vB a = true) (ht : vB t = true) : ∀ (e : Ex), wf x.length e = true → vB (ev x t e) = true
 | .num c, h => h
 | .var i, h => by
  simp only [wf, decide_eq_true_eq] at h
  simp only [ev]
  rw [List.getElem?_eq_getElem h]
  exact hx _ (List.getElem_mem h)
 | .time, _ => ht
 | .un o a, h => zjl (zaT hx ht a h)
 | .bin o a b, h => by
  simp only [wf, Bool.and_eq_true] at h
  exact zig (zaT hx ht a h.1) (zaT hx ht b h.2)
def zbm (n : Int) : Ex := .num (pt (n * 65536))
def isK (e : Ex) (x : Int) : Bool := match e with
 | .num c => c.1 == x && c.2 == x
 | _ => false
def isPt : Ex → Option Int
 | .num c => if c.1 = c.2 then some c.1 else none
 | _ => none
def zcH (a : Ex) : Ex :=
 match isPt a with
 | some c => .num (pt (-c))
 | none => match a with
  | .un .neg b => b
  | _ => .un .neg a
def zfk (f : I → I → I) (a b : Ex) : Option Ex :=
 match a, b with
 | .num c, .num d => if c.1 = c.2 ∧ d.1 = d.2 ∧ (f c d).1 = (f c d).2 then some (.num (f c d)) else none
 | _, _ => none
def zeF (a b : Ex) : Ex :=
 if isK a 0 then b else if isK b 0 then a else (zfk add a b).getD (.bin .add a b)
def zeE (a b : Ex) : Ex :=
 if isK b 0 then a else if isK a 0 then zcH b else (zfk sub a b).getD (.bin .sub a b)
def zdF (a b : Ex) : Ex :=
 if isK a 0 || isK b 0 then zbm 0 else if isK a 65536 then b else if isK b 65536 then a else (zfk mul a b).getD (.bin .mul a b)
def smpU : U → Ex → Ex
 | .neg, a => zcH a
 | .sqr, a => if isK a 0 || isK a 65536 then a else .un .sqr a
 | .sqrt, a => if isK a 0 || isK a 65536 then a else .un .sqrt a
def smpB : B → Ex → Ex → Ex
 | .add, a, b => zeF a b
 | .sub, a, b => zeE a b
 | .mul, a, b => zdF a b
 | .div, a, b => if isK a 0 || isK b 65536 then a else .bin .div a b
def smp : Ex → Ex
 | .un o a => smpU o (smp a)
 | .bin o a b => smpB o (smp a) (smp b)
 | e => e
inductive Vr where
 | st (i : Int)
 | tm
 deriving DecidableEq
def isV : Vr → Ex → Bool
 | .st i, .var k => (k : Int) == i
 | .tm, .time => true
 | _, _ => false
def dif (v : Vr) : Ex → Ex
 | .un .neg a => .un .neg (dif v a)
 | .un .sqr a => .bin .mul (.bin .mul (zbm 2) a) (dif v a)
 | .un .sqrt a => .bin .div (dif v a) (.bin .mul (zbm 2) (.un .sqrt a))
 | .bin .add a b => .bin .add (dif v a) (dif v b)
 | .bin .sub a b => .bin .sub (dif v a) (dif v b)
 | .bin .mul a b => .bin .add (.bin .mul (dif v a) b) (.bin .mul a (dif v b))
 | .bin .div a b => .bin .div (.bin .sub (.bin .mul (dif v a) b) (.bin .mul a (dif v b))) (.un .sqr b)
 | e => if isV v e then zbm 1 else zbm 0
def der (v : Vr) (e : Ex) : Ex := smp (dif v e)
theorem zd1 (n : Int) : sz (zbm n) = 1 := rfl
theorem zjr (a : Ex) : sz (zcH a) ≤ sz a + 1 := by
 unfold zcH
 split
 ·rw [zdE]; omega
 ·split
  ·rw [zdR]; omega
  ·rw [zdR]; omega
theorem ziW {f : I → I → I} {a b : Ex} {o : B} : sz ((zfk f a b).getD (.bin o a b)) ≤ sz a + sz b + 1 := by
 unfold zfk
 split
 ·split
  ·simp only [Option.getD_some, zdE]; omega
  ·simp only [Option.getD_none, zbG]; omega
 ·simp only [Option.getD_none, zbG]; omega
theorem zrH (o : U) (a : Ex) : sz (smpU o a) ≤ sz a + 1 := by
 cases o with
 | neg => exact zjr a
 | sqr => simp only [smpU]; split <;> (try rw [zdR]) <;> omega
 | sqrt => simp only [smpU]; split <;> (try rw [zdR]) <;> omega
theorem zrJ (o : B) (a b : Ex) : sz (smpB o a b) ≤ sz a + sz b + 1 := by
 cases o with
 | add =>
  simp only [smpB, zeF]
  split
  ·omega
  ·split
   ·omega
   ·exact ziW
 | sub =>
  simp only [smpB, zeE]
  split
  ·omega
  ·split
   ·have := zjr b; omega
   ·exact ziW
 | mul =>
  simp only [smpB, zdF]
  split
  ·rw [zd1]; omega
  ·split
   ·omega
   ·split
    ·omega
    ·exact ziW
 | div => simp only [smpB]; split <;> (try rw [zbG]) <;> omega
theorem zfZ : ∀ e : Ex, sz (smp e) ≤ sz e
 | .num _ | .var _ | .time => Nat.le_refl _
 | .un o a => by
  have h1 := zfZ a
  have h2 := zrH o (smp a)
  rw [zdR]; simp only [smp]; omega
 | .bin o a b => by
  have h1 := zfZ a
  have h2 := zfZ b
  have h3 := zrJ o (smp a) (smp b)
  rw [zbG]; simp only [smp]; omega
theorem zlM (x : Int) : vB (pt x) = true := zbD (Int.le_refl _)
theorem number_wf' (n : Int) (k : Nat) : wf k (zbm n) = true := zlM _
theorem zjq {k : Nat} {a : Ex} (h : wf k a = true) : wf k (zcH a) = true := by
 unfold zcH
 split
 ·exact zlM _
 ·split
  ·exact h
  ·exact h
theorem ziV {k : Nat} {o : B} {a b : Ex} (ha : wf k a = true) (hb : wf k b = true) : wf k ((zfk (binV o) a b).getD (.bin o a b)) = true := by
 unfold zfk
 split
 ·split
  ·simp only [Option.getD_some, wf] at ha hb ⊢; exact zig ha hb
  ·simp only [Option.getD_none, wf, Bool.and_eq_true] at ha hb ⊢; exact ⟨ha, hb⟩
 ·simp only [Option.getD_none, wf, Bool.and_eq_true]; exact ⟨ha, hb⟩
theorem zrG {k : Nat} {o : U} {a : Ex} (h : wf k a = true) : wf k (smpU o a) = true := by
 cases o with
 | neg => exact zjq h
 | sqr => simp only [smpU]; split <;> exact h
 | sqrt => simp only [smpU]; split <;> exact h
theorem zrI {k : Nat} {o : B} {a b : Ex} (ha : wf k a = true) (hb : wf k b = true) : wf k (smpB o a b) = true := by
 cases o with
 | add =>
  simp only [smpB, zeF]
  split
  ·exact hb
  ·split
   ·exact ha
   ·exact ziV (o := .add) ha hb
 | sub =>
  simp only [smpB, zeE]
  split
  ·exact ha
  ·split
   ·exact zjq hb
   ·exact ziV (o := .sub) ha hb
 | mul =>
  simp only [smpB, zdF]
  split
  ·exact number_wf' _ _
  ·split
   ·exact hb
   ·split
    ·exact ha
    ·exact ziV (o := .mul) ha hb
 | div =>
  simp only [smpB]
  split
  ·exact ha
  ·simp only [wf, Bool.and_eq_true]; exact ⟨ha, hb⟩
theorem zgy {k : Nat} : ∀ e : Ex, wf k e = true → wf k (smp e) = true
 | .num _, h | .var _, h | .time, h => h
 | .un o a, h => zrG (zgy a h)
 | .bin o a b, h => by
  simp only [wf, Bool.and_eq_true] at h
  exact zrI (zgy a h.1) (zgy b h.2)
theorem zki {k : Nat} (v : Vr) : ∀ e : Ex, wf k e = true → wf k (dif v e) = true
 | .num _, h | .var _, h | .time, h => by unfold dif; split <;> exact number_wf' _ _
 | .un o a, h => by
  have := zki v a h
  have h2 := number_wf' 2 k
  simp only [wf] at h
  cases o <;> simp [dif, wf, h, this, h2]
 | .bin o a b, h => by
  simp only [wf, Bool.and_eq_true] at h
  have h1 := zki v a h.1
  have h2 := zki v b h.2
  cases o <;> simp [dif, wf, h, h1, h2]
theorem zmg {k : Nat} {v : Vr} {e : Ex} (h : wf k e = true) : wf k (der v e) = true := zgy _ (zki v e h)
end Go.Pl

namespace Go.Pl
def low (x m : Int) : Int := x % (m + 1)
def bOp (x : Nd) : Int := 1 + low x.op 255 % 10
def nearI' (p : I) (w : Int) : I := (p.1.tmod 1048576, p.1.tmod 1048576 + (p.2.tmod w + w).tmod w)
def bNum (x : Nd) : Ex := .num (nearI' x.c (1 + low x.n 255 * low x.n 1))
def uOf (o : Int) : U := if o = 4 then .neg else if o = 5 then .sqr else .sqrt
def bOf (o : Int) : B := if o = 7 then .add else if o = 8 then .sub else if o = 9 then .mul else .div
def bld (n : Nat) : Nat → List Nd → Ex × List Nd
 | _, [] => (zbm 1, [])
 | 0, x :: r => if bOp x = 2 then (.var (low x.n 255 % n).toNat, r) else if bOp x = 3 then (.time, r) else (bNum x, r)
 | d + 1, x :: r =>
  if bOp x = 1 then (bNum x, r)
  else if bOp x = 2 then (.var (low x.n 255 % n).toNat, r)
  else if bOp x = 3 then (.time, r)
  else if bOp x ≤ 6 then (.un (uOf (bOp x)) (bld n d r).1, (bld n d r).2)
  else (.bin (bOf (bOp x)) (bld n d r).1 (bld n d (bld n d r).2).1, (bld n d (bld n d r).2).2)
def mde (n : Nat) (raw : List Nd) (most : Nat) : Ex := (bld n 4 (raw.take most)).1
theorem zek (x : Int) {m : Int} (h : 0 ≤ m) : 0 ≤ low x m ∧ low x m ≤ m := by
 unfold low
 have h1 := Int.emod_nonneg x (b := m + 1) (by omega)
 have h2 := Int.emod_lt_of_pos x (b := m + 1) (by omega)
 omega
theorem znd (x : Nd) : 1 ≤ bOp x ∧ bOp x ≤ 10 := by unfold bOp; omega
theorem zlb (x : Int) {n : Nat} (h : 0 < n) : 0 ≤ low x 255 % n ∧ low x 255 % n < n := ⟨Int.emod_nonneg _ (by omega), Int.emod_lt_of_pos _ (by omega)⟩
theorem zhZ (p : I) {w : Int} (hw : 1 ≤ w ∧ w ≤ 1000000) : vB (nearI' p w) = true := by
 have h1 : -1048576 < p.1.tmod 1048576 ∧ p.1.tmod 1048576 < 1048576 := by
  obtain ⟨h1, h2⟩ := zay p.1 (b := 1048576) (by decide)
  by_cases h : 0 ≤ p.1
  ·have := h1 h; omega
  ·have := h2 (by omega); omega
 have h2 : 0 ≤ (p.2.tmod w + w).tmod w ∧ (p.2.tmod w + w).tmod w < w := by
  have h3 : -w < p.2.tmod w := by
   obtain ⟨h1, h2⟩ := zay p.2 (b := w) (by omega)
   by_cases h : 0 ≤ p.2
   ·have := h1 h; omega
   ·have := h2 (by omega); omega
  exact ⟨Int.tmod_nonneg _ (by omega), Int.tmod_lt_of_pos _ (by omega)⟩
 unfold vB nearI'
 rw [Bool.or_eq_true, Bool.and_eq_true, Bool.and_eq_true, zdr, zdr, decide_eq_true_iff]
 right; dsimp only; omega
theorem bW (x : Nd) : 1 ≤ 1 + low x.n 255 * low x.n 1 ∧ 1 + low x.n 255 * low x.n 1 ≤ 1000000 := by
 obtain ⟨a1, a2⟩ := zek x.n (m := 255) (by decide)
 obtain ⟨b1, b2⟩ := zek x.n (m := 1) (by decide)
 have h1 := Int.mul_nonneg a1 b1
 have h2 := Int.mul_le_mul a2 b2 b1 (by decide)
 omega
theorem zpa (x : Nd) (n : Nat) : wf n (bNum x) = true := zhZ _ (bW x)
theorem zmk {n : Nat} (hn : 0 < n) : ∀ (d : Nat) (l : List Nd), wf n (bld n d l).1 = true
 | 0, [] => number_wf' 1 n
 | d + 1, [] => number_wf' 1 n
 | 0, x :: r => by
  simp only [bld]
  split
  ·have := zlb x.n hn; simp only [wf, decide_eq_true_eq]; omega
  ·split
   ·rfl
   ·exact zpa x n
 | d + 1, x :: r => by
  simp only [bld]
  split
  ·exact zpa x n
  ·split
   ·have := zlb x.n hn; simp only [wf, decide_eq_true_eq]; omega
   ·split
    ·rfl
    ·split
     ·exact zmk hn d r
     ·simp only [wf, Bool.and_eq_true]; exact ⟨zmk hn d r, zmk hn d _⟩
theorem zkq (n : Nat) : ∀ (d : Nat) (l : List Nd), sz (bld n d l).1 ≤ 2 ^ (d + 1) - 1
 | 0, [] => by simp [bld, zbm, zdE]
 | d + 1, [] => by simp only [bld, zbm, zdE]; have := Nat.one_lt_two_pow_iff.2 (show d + 1 + 1 ≠ 0 by omega); omega
 | 0, x :: r => by
  simp only [bld]
  split
  ·simp [zhC]
  ·split
   ·simp [zfB]
   ·simp [bNum, zdE]
 | d + 1, x :: r => by
  have h1 := zkq n d r
  have h2 := zkq n d (bld n d r).2
  have h3 : 2 ^ (d + 1 + 1) = 2 * 2 ^ (d + 1) := by rw [Nat.pow_succ]; omega
  have h4 := Nat.one_lt_two_pow_iff.2 (show d + 1 ≠ 0 by omega)
  simp only [bld]
  split
  ·simp only [bNum, zdE]; omega
  ·split
   ·simp only [zhC]; omega
   ·split
    ·simp only [zfB]; omega
    ·split
     ·simp only [zdR]; omega
     ·simp only [zbG]; omega
theorem zq7 {n : Nat} (hn : 0 < n) (raw : List Nd) (most : Nat) : wf n (mde n raw most) = true := zmk hn 4 _
theorem zoa (n : Nat) (raw : List Nd) (most : Nat) : sz (mde n raw most) ≤ 31 := zkq n 4 _
theorem zlm (n : Nat) : ∀ (d : Nat) (l : List Nd), (bld n d l).2.length ≤ l.length ∧ sz (bld n d l).1 ≤ 2 * (l.length - (bld n d l).2.length) + 1
 | 0, [] => by simp [bld, zbm, zdE]
 | d + 1, [] => by simp [bld, zbm, zdE]
 | 0, x :: r => by
  simp only [bld]
  split
  ·simp [zhC]
  ·split
   ·simp [zfB]
   ·simp [bNum, zdE]
 | d + 1, x :: r => by
  have h1 := zlm n d r
  have h2 := zlm n d (bld n d r).2
  simp only [bld]
  split
  ·simp [bNum, zdE]
  ·split
   ·simp [zhC]
   ·split
    ·simp [zfB]
    ·split
     ·simp only [zdR, List.length_cons]; omega
     ·simp only [zbG, List.length_cons]; omega
end Go.Pl

namespace Go.Pl
def InI (a : I) (r : Rat) : Prop := a = ent ∨ ((a.1 : Rat) ≤ r * 65536 ∧ r * 65536 ≤ (a.2 : Rat))
theorem zmY {lo hi : Int} {r : Rat} (h1 : (lo : Rat) ≤ r * 65536) (h2 : r * 65536 ≤ (hi : Rat)) : InI (mk lo hi) r := by
 unfold mk
 split
 ·exact .inr ⟨h1, h2⟩
 ·exact .inl rfl
theorem ziG {a b : I} (h : ¬ (entB a || entB b) = true) : a ≠ ent ∧ b ≠ ent := by
 simp only [Bool.or_eq_true, zaA, not_or] at h
 exact h
theorem zj1 {a b : I} {x y : Rat} (ha : InI a x) (hb : InI b y) : InI (add a b) (x + y) := by
 unfold add
 split
 ·exact .inl rfl
 ·rename_i h
  obtain ⟨h1, h2⟩ := ziG h
  obtain ⟨a1, a2⟩ := ha.resolve_left h1
  obtain ⟨b1, b2⟩ := hb.resolve_left h2
  refine zmY ?_ ?_
  ·rw [Rat.intCast_add]; grind
  ·rw [Rat.intCast_add]; grind
theorem zrc {a : I} {x : Rat} (ha : InI a x) : InI (neg a) (-x) := by
 rcases ha with rfl | ⟨h1, h2⟩
 ·exact .inl rfl
 ·refine .inr ⟨?_, ?_⟩
  ·simp only [neg, Rat.intCast_neg]; grind
  ·simp only [neg, Rat.intCast_neg]; grind
theorem zor {a b : I} {x y : Rat} (ha : InI a x) (hb : InI b y) : InI (sub a b) (x - y) := by
 rw [Rat.sub_eq_add_neg]; exact zj1 ha (zrc hb)
theorem zgI {a b c : Rat} (h : 0 ≤ c) (k : a ≤ b) : c * a ≤ c * b := Rat.mul_le_mul_of_nonneg_left k h
theorem rmulL' {a b c : Rat} (h : c ≤ 0) (k : a ≤ b) : c * b ≤ c * a := by
 have := Rat.mul_le_mul_of_nonneg_left k (c := -c) (by grind)
 grind
theorem zhg {a1 a2 b1 b2 X Y : Rat} (h1 : a1 ≤ X) (h2 : X ≤ a2) (h3 : b1 ≤ Y) (h4 : Y ≤ b2) : X * Y ≤ a1 * b1 ∨ X * Y ≤ a1 * b2 ∨ X * Y ≤ a2 * b1 ∨ X * Y ≤ a2 * b2 := by
 rcases Rat.le_total (a := 0) (b := Y) with hy | hy
 ·have e1 := zgI hy h2
  rcases Rat.le_total (a := 0) (b := a2) with ha | ha
  ·have e2 := zgI ha h4
   right; right; right; grind
  ·have e2 := rmulL' ha h3
   right; right; left; grind
 ·have e1 := rmulL' hy h1
  rcases Rat.le_total (a := 0) (b := a1) with ha | ha
  ·have e2 := zgI ha h4
   right; left; grind
  ·have e2 := rmulL' ha h3
   left; grind
theorem zkj {a1 a2 b1 b2 X Y : Rat} (h1 : a1 ≤ X) (h2 : X ≤ a2) (h3 : b1 ≤ Y) (h4 : Y ≤ b2) : a1 * b1 ≤ X * Y ∨ a1 * b2 ≤ X * Y ∨ a2 * b1 ≤ X * Y ∨ a2 * b2 ≤ X * Y := by
 have := zhg (a1 := -a2) (a2 := -a1) (X := -X) (Y := Y) (b1 := b1) (b2 := b2) (by grind) (by grind) h3 h4
 grind
theorem znR {a1 a2 b1 b2 : Int} {X Y : Rat} (h1 : (a1 : Rat) ≤ X) (h2 : X ≤ (a2 : Rat)) (h3 : (b1 : Rat) ≤ Y) (h4 : Y ≤ (b2 : Rat)) :
  ((min4 (a1 * b1) (a1 * b2) (a2 * b1) (a2 * b2) : Int) : Rat) ≤ X * Y ∧ X * Y ≤ ((max4 (a1 * b1) (a1 * b2) (a2 * b1) (a2 * b2) : Int) : Rat) := by
 have key1 : ∀ z : Int, min4 (a1 * b1) (a1 * b2) (a2 * b1) (a2 * b2) ≤ z → (z : Rat) ≤ X * Y → ((min4 (a1 * b1) (a1 * b2) (a2 * b1) (a2 * b2) : Int) : Rat) ≤ X * Y := fun z h k => Rat.le_trans (Rat.intCast_le_intCast.2 h) k
 have key2 : ∀ z : Int, z ≤ max4 (a1 * b1) (a1 * b2) (a2 * b1) (a2 * b2) → X * Y ≤ (z : Rat) → X * Y ≤ ((max4 (a1 * b1) (a1 * b2) (a2 * b1) (a2 * b2) : Int) : Rat) := fun z h k => Rat.le_trans k (Rat.intCast_le_intCast.2 h)
 constructor
 ·rcases zkj h1 h2 h3 h4 with h | h | h | h
  ·exact key1 (a1 * b1) (by simp only [min4]; omega) (by rw [Rat.intCast_mul]; exact h)
  ·exact key1 (a1 * b2) (by simp only [min4]; omega) (by rw [Rat.intCast_mul]; exact h)
  ·exact key1 (a2 * b1) (by simp only [min4]; omega) (by rw [Rat.intCast_mul]; exact h)
  ·exact key1 (a2 * b2) (by simp only [min4]; omega) (by rw [Rat.intCast_mul]; exact h)
 ·rcases zhg h1 h2 h3 h4 with h | h | h | h
  ·exact key2 (a1 * b1) (by simp only [max4]; omega) (by rw [Rat.intCast_mul]; exact h)
  ·exact key2 (a1 * b2) (by simp only [max4]; omega) (by rw [Rat.intCast_mul]; exact h)
  ·exact key2 (a2 * b1) (by simp only [max4]; omega) (by rw [Rat.intCast_mul]; exact h)
  ·exact key2 (a2 * b2) (by simp only [max4]; omega) (by rw [Rat.intCast_mul]; exact h)
theorem zeM {x y b : Rat} (hb : 0 < b) (h : y * b ≤ x) : y ≤ x / b := Rat.not_lt.1 fun k => by
 have := (Rat.div_lt_iff hb).1 k
 exact absurd h (Rat.not_le.2 this)
theorem zdu {x y b : Rat} (hb : 0 < b) (h : x ≤ y * b) : x / b ≤ y := Rat.not_lt.1 fun k => by
 have := (Rat.lt_div_iff hb).1 k
 exact absurd h (Rat.not_le.2 this)
theorem zoK {x b : Int} (hb : 0 < b) : ((x / b : Int) : Rat) * (b : Rat) ≤ (x : Rat) ∧ (x : Rat) < (((x / b : Int) : Rat) + 1) * (b : Rat) := by
 constructor
 ·rw [← Rat.intCast_mul]; exact Rat.intCast_le_intCast.2 (Int.ediv_mul_le x (by omega))
 ·have e : (((x / b : Int) : Rat) + 1) * (b : Rat) = (((x / b + 1) * b : Int) : Rat) := by rw [Rat.intCast_mul, Rat.intCast_add]; rfl
  rw [e]; exact Rat.intCast_lt_intCast.2 (Int.lt_ediv_add_one_mul_self x hb)
theorem zpO (x b : Rat) : (-x) / (-b) = x / b := by
 by_cases h : b = 0
 ·subst h; grind
 ·grind
theorem rneg_div' (x b : Rat) : (-x) / b = -(x / b) := by grind
theorem zhw {x b : Int} (hb : b ≠ 0) : ((fl x b : Int) : Rat) ≤ (x : Rat) / (b : Rat) ∧ (x : Rat) / (b : Rat) < ((fl x b : Int) : Rat) + 1 := by
 have key : ∀ (y c : Int), 0 < c → ((y / c : Int) : Rat) ≤ (y : Rat) / (c : Rat) ∧ (y : Rat) / (c : Rat) < ((y / c : Int) : Rat) + 1 := fun y c hc => by
  obtain ⟨k1, k2⟩ := zoK (x := y) hc
  have hc' : (0 : Rat) < (c : Rat) := Rat.intCast_pos.2 hc
  exact ⟨zeM hc' k1, (Rat.div_lt_iff hc').2 k2⟩
 unfold fl
 split
 ·rename_i h
  have := key (-x) (-b) (by omega)
  rw [Rat.intCast_neg, Rat.intCast_neg, zpO] at this
  exact this
 ·exact key x b (by omega)
theorem ziL {x b : Int} (hb : b ≠ 0) : (x : Rat) / (b : Rat) ≤ ((ce x b : Int) : Rat) ∧ ((ce x b : Int) : Rat) - 1 < (x : Rat) / (b : Rat) := by
 obtain ⟨h1, h2⟩ := zhw (x := -x) hb
 unfold ce
 rw [Rat.intCast_neg, rneg_div'] at h1 h2
 rw [Rat.intCast_neg]
 constructor <;> grind
theorem zot {a b : I} {x y : Rat} (ha : InI a x) (hb : InI b y) : InI (mul a b) (x * y) := by
 unfold mul
 split
 ·exact .inl rfl
 ·rename_i h
  obtain ⟨h1, h2⟩ := ziG h
  obtain ⟨a1, a2⟩ := ha.resolve_left h1
  obtain ⟨b1, b2⟩ := hb.resolve_left h2
  obtain ⟨p1, p2⟩ := znR a1 a2 b1 b2
  generalize min4 _ _ _ _ = m at *
  generalize max4 _ _ _ _ = M at *
  obtain ⟨f1, _⟩ := zhw (x := m) (b := 65536) (by decide)
  obtain ⟨f2, _⟩ := ziL (x := M) (b := 65536) (by decide)
  have e : ((65536 : Int) : Rat) = 65536 := rfl
  rw [e] at f1 f2
  refine zmY ?_ ?_
  ·grind
  ·grind
theorem ze3 (x : Rat) : 0 ≤ x * x := by
 rcases Rat.le_total (a := 0) (b := x) with h | h
 ·exact Rat.mul_nonneg h h
 ·have := Rat.mul_nonneg (a := -x) (b := -x) (by grind) (by grind)
  grind
theorem in_sq {a : I} {x : Rat} (ha : InI a x) : InI (sq a) (x * x) := by
 unfold sq
 split
 ·exact .inl rfl
 ·rename_i h
  have h1 : a ≠ ent := fun k => h (zaA.2 k)
  obtain ⟨a1, a2⟩ := ha.resolve_left h1
  have p : (((if a.1 ≤ 0 ∧ 0 ≤ a.2 then 0 else min (a.1 * a.1) (a.2 * a.2) : Int)) : Rat) ≤ (x * 65536) * (x * 65536) := by
   split
   ·exact ze3 _
   ·rename_i hn
    rcases Int.lt_or_le 0 a.1 with hp | hp
    ·have hp' : (0 : Rat) ≤ (a.1 : Rat) := Rat.intCast_nonneg.2 (by omega)
     have k1 := zgI hp' a1
     have k2 := zgI (Rat.le_trans hp' a1) a1
     refine Rat.le_trans (b := ((a.1 * a.1 : Int) : Rat)) (Rat.intCast_le_intCast.2 (by omega)) ?_
     rw [Rat.intCast_mul]; grind
    ·have hp' : (a.2 : Rat) ≤ 0 := Rat.intCast_nonpos.2 (by omega)
     have k1 := rmulL' hp' a2
     have k2 := rmulL' (Rat.le_trans a2 hp') a2
     refine Rat.le_trans (b := ((a.2 * a.2 : Int) : Rat)) (Rat.intCast_le_intCast.2 (by omega)) ?_
     rw [Rat.intCast_mul]; grind
  have q : (x * 65536) * (x * 65536) ≤ ((max (a.1 * a.1) (a.2 * a.2) : Int) : Rat) := by
   have m1 : ((a.1 * a.1 : Int) : Rat) ≤ ((max (a.1 * a.1) (a.2 * a.2) : Int) : Rat) := Rat.intCast_le_intCast.2 (by omega)
   have m2 : ((a.2 * a.2 : Int) : Rat) ≤ ((max (a.1 * a.1) (a.2 * a.2) : Int) : Rat) := Rat.intCast_le_intCast.2 (by omega)
   rw [Rat.intCast_mul] at m1 m2
   rcases Rat.le_total (a := 0) (b := x * 65536) with hx | hx
   ·have k1 := zgI hx a2
    have k2 := zgI (Rat.le_trans hx a2) a2
    grind
   ·have k1 := rmulL' hx a1
    have k2 := rmulL' (Rat.le_trans a1 hx) a1
    grind
  generalize (if a.1 ≤ 0 ∧ 0 ≤ a.2 then 0 else min (a.1 * a.1) (a.2 * a.2) : Int) = m at *
  generalize (max (a.1 * a.1) (a.2 * a.2) : Int) = M at *
  obtain ⟨f1, _⟩ := zhw (x := m) (b := 65536) (by decide)
  obtain ⟨f2, _⟩ := ziL (x := M) (b := 65536) (by decide)
  have e : ((65536 : Int) : Rat) = 65536 := rfl
  rw [e] at f1 f2
  exact zmY (by grind) (by grind)
theorem ze9 {b y : Rat} (hb : 0 < b) (h : b ≤ y) : y⁻¹ ≤ b⁻¹ := by
 have hy : 0 < y := by grind
 have e1 := Rat.inv_mul_cancel y (by grind)
 have e2 := Rat.inv_mul_cancel b (by grind)
 have p1 := Rat.inv_pos.2 hy
 have p2 := Rat.inv_pos.2 hb
 have k1 := zgI (Rat.le_of_lt (Rat.mul_pos p1 p2)) h
 rw [Rat.mul_assoc, e2, Rat.mul_one, Rat.mul_comm y⁻¹, Rat.mul_assoc, e1, Rat.mul_one] at k1
 exact k1
theorem zlH (y : Rat) : (-y)⁻¹ = -(y⁻¹) := by grind
theorem zrR {b1 b2 Y : Rat} (h1 : b1 ≤ Y) (h2 : Y ≤ b2) (h : 0 < b1 ∨ b2 < 0) : b2⁻¹ ≤ Y⁻¹ ∧ Y⁻¹ ≤ b1⁻¹ := by
 rcases h with h | h
 ·exact ⟨ze9 (by grind) h2, ze9 h h1⟩
 ·have k1 := ze9 (b := -b2) (y := -Y) (by grind) (by grind)
  have k2 := ze9 (b := -Y) (y := -b1) (by grind) (by grind)
  rw [zlH, zlH] at k1 k2
  constructor <;> grind
theorem znQ {a1 a2 b1 b2 : Int} {X Y : Rat} (h1 : (a1 : Rat) ≤ X) (h2 : X ≤ (a2 : Rat)) (h3 : (b1 : Rat) ≤ Y) (h4 : Y ≤ (b2 : Rat)) (h : 0 < b1 ∨ b2 < 0) :
  ((min4 (fl (a1 * 65536) b1) (fl (a1 * 65536) b2) (fl (a2 * 65536) b1) (fl (a2 * 65536) b2) : Int) : Rat) ≤ X * 65536 / Y ∧ X * 65536 / Y ≤ ((max4 (ce (a1 * 65536) b1) (ce (a1 * 65536) b2) (ce (a2 * 65536) b1) (ce (a2 * 65536) b2) : Int) : Rat) := by
 have hb : b1 ≤ b2 := Rat.intCast_le_intCast.1 (Rat.le_trans h3 h4)
 have hh : 0 < (b1 : Rat) ∨ (b2 : Rat) < 0 := by
  rcases h with h | h
  ·exact .inl (Rat.intCast_pos.2 h)
  ·exact .inr (by have := Rat.intCast_lt_intCast.2 h; exact this)
 obtain ⟨i1, i2⟩ := zrR h3 h4 hh
 have n1 : b1 ≠ 0 := by omega
 have n2 : b2 ≠ 0 := by omega
 have e : X * 65536 / Y = (X * 65536) * Y⁻¹ := Rat.div_def _ _
 have x1 : ((a1 * 65536 : Int) : Rat) ≤ X * 65536 := by rw [Rat.intCast_mul]; have e : ((65536 : Int) : Rat) = 65536 := rfl; rw [e]; grind
 have x2 : X * 65536 ≤ ((a2 * 65536 : Int) : Rat) := by rw [Rat.intCast_mul]; have e : ((65536 : Int) : Rat) = 65536 := rfl; rw [e]; grind
 have l1 := (zhw (x := a1 * 65536) n1).1
 have l2 := (zhw (x := a1 * 65536) n2).1
 have l3 := (zhw (x := a2 * 65536) n1).1
 have l4 := (zhw (x := a2 * 65536) n2).1
 have u1 := (ziL (x := a1 * 65536) n1).1
 have u2 := (ziL (x := a1 * 65536) n2).1
 have u3 := (ziL (x := a2 * 65536) n1).1
 have u4 := (ziL (x := a2 * 65536) n2).1
 rw [Rat.div_def] at l1 l2 l3 l4 u1 u2 u3 u4
 rw [e]
 have key1 : ∀ z : Int, min4 (fl (a1 * 65536) b1) (fl (a1 * 65536) b2) (fl (a2 * 65536) b1) (fl (a2 * 65536) b2) ≤ z → (z : Rat) ≤ X * 65536 * Y⁻¹ → ((min4 (fl (a1 * 65536) b1) (fl (a1 * 65536) b2) (fl (a2 * 65536) b1) (fl (a2 * 65536) b2) : Int) : Rat) ≤ X * 65536 * Y⁻¹ := fun z h k => Rat.le_trans (Rat.intCast_le_intCast.2 h) k
 have key2 : ∀ z : Int, z ≤ max4 (ce (a1 * 65536) b1) (ce (a1 * 65536) b2) (ce (a2 * 65536) b1) (ce (a2 * 65536) b2) → X * 65536 * Y⁻¹ ≤ (z : Rat) → X * 65536 * Y⁻¹ ≤ ((max4 (ce (a1 * 65536) b1) (ce (a1 * 65536) b2) (ce (a2 * 65536) b1) (ce (a2 * 65536) b2) : Int) : Rat) := fun z h k => Rat.le_trans k (Rat.intCast_le_intCast.2 h)
 constructor
 ·rcases zkj x1 x2 i1 i2 with k | k | k | k
  ·exact key1 _ (by simp only [min4]; omega) (Rat.le_trans l2 k)
  ·exact key1 _ (by simp only [min4]; omega) (Rat.le_trans l1 k)
  ·exact key1 _ (by simp only [min4]; omega) (Rat.le_trans l4 k)
  ·exact key1 _ (by simp only [min4]; omega) (Rat.le_trans l3 k)
 ·rcases zhg x1 x2 i1 i2 with k | k | k | k
  ·exact key2 _ (by simp only [max4]; omega) (Rat.le_trans k u2)
  ·exact key2 _ (by simp only [max4]; omega) (Rat.le_trans k u1)
  ·exact key2 _ (by simp only [max4]; omega) (Rat.le_trans k u4)
  ·exact key2 _ (by simp only [max4]; omega) (Rat.le_trans k u3)
def defn (b : I) : Prop := b ≠ ent ∧ (0 < b.1 ∨ b.2 < 0)
theorem zkg {a b : I} (h : ¬ defn b) : div a b = ent := by
 unfold div
 rw [if_pos]
 by_cases hb : b = ent
 ·simp [zaA.2 hb]
 ·have : ¬ (0 < b.1 ∨ b.2 < 0) := fun k => h ⟨hb, k⟩
  have h1 : b.1 ≤ 0 ∧ 0 ≤ b.2 := by omega
  simp [h1.1, h1.2]
theorem zou {a b : I} {x y : Rat} (ha : InI a x) (hb : defn b → InI b y) : InI (div a b) (x / y) := by
 by_cases hd : defn b
 ·have hb := hb hd
  unfold div
  split
  ·exact .inl rfl
  ·rename_i h
   simp only [Bool.or_eq_true, zaA, not_or] at h
   obtain ⟨a1, a2⟩ := ha.resolve_left h.1.1
   obtain ⟨b1, b2⟩ := hb.resolve_left h.1.2
   obtain ⟨p1, p2⟩ := znQ a1 a2 b1 b2 hd.2
   have e : x * 65536 * 65536 / (y * 65536) = x / y * 65536 := by
    have hy : y ≠ 0 := by
     rintro rfl
     have z1 : ((b.1 : Int) : Rat) ≤ 0 := by grind
     have z2 : 0 ≤ ((b.2 : Int) : Rat) := by grind
     have := Rat.intCast_nonpos.1 z1
     have := Rat.intCast_nonneg.1 z2
     have := hd.2
     omega
    grind
   rw [e] at p1 p2
   exact zmY p1 p2
 ·rw [zkg hd]; exact .inl rfl
end Go.Pl

namespace Go.Pl
theorem zf1 {n r : Int} (hn : 0 ≤ n) (hr : 0 ≤ r) (h : r * r ≤ n) : r ≤ root n := by
 obtain ⟨g0, g1, g2⟩ := zbd hn
 rcases Int.lt_or_le (root n) r with k | k
 ·have : (root n + 1) * (root n + 1) ≤ r * r := Int.mul_le_mul (by omega) (by omega) (by omega) hr
  omega
 ·exact k
theorem zhT {n : Int} (hn : 0 ≤ n) : 0 ≤ zbv n ∧ n ≤ zbv n * zbv n := by
 obtain ⟨g0, g1, g2⟩ := zbd hn
 unfold zbv
 split
 ·exact ⟨by omega, by omega⟩
 ·exact ⟨g0, by omega⟩
def grid (k : Nat) : Int := 65536 * (k + 1)
theorem zl2 (k : Nat) : 0 < grid k := by unfold grid; omega
theorem zd7 (k : Nat) : (0 : Rat) < (grid k : Rat) := Rat.intCast_pos.2 (zl2 k)
def rt (k : Nat) (x : Rat) : Rat := (root ((x * (grid k : Rat) * (grid k : Rat)).floor) : Rat) / (grid k : Rat)
theorem ztA {a b : Rat} (ha : 0 ≤ a) (hb : 0 ≤ b) (h : a * a ≤ b * b) : a ≤ b := Rat.not_lt.1 fun k => by
 have h1 := Rat.mul_lt_mul_of_pos_left (c := a) k (by grind)
 have h2 := zgI hb (Rat.le_of_lt k)
 grind
theorem zkT (k : Nat) {x : Rat} (hx : 0 ≤ x) : 0 ≤ rt k x ∧ rt k x * rt k x ≤ x ∧ x < (rt k x + 1 / (grid k : Rat)) * (rt k x + 1 / (grid k : Rat)) := by
 have hN := zd7 k
 have hfx : 0 ≤ (x * (grid k : Rat) * (grid k : Rat)) := Rat.mul_nonneg (Rat.mul_nonneg hx (Rat.le_of_lt hN)) (Rat.le_of_lt hN)
 have hf : 0 ≤ (x * (grid k : Rat) * (grid k : Rat)).floor := Rat.le_floor_iff.2 hfx
 have f1 := Rat.floor_le (x * (grid k : Rat) * (grid k : Rat))
 have f2 := Rat.lt_floor_add_one (x * (grid k : Rat) * (grid k : Rat))
 obtain ⟨g0, g1, g2⟩ := zbd hf
 unfold rt
 generalize (x * (grid k : Rat) * (grid k : Rat)).floor = n at *
 generalize root n = r at *
 generalize (grid k : Rat) = N at *
 have r0 : (0 : Rat) ≤ (r : Rat) := Rat.intCast_nonneg.2 g0
 have r1 : (r : Rat) * (r : Rat) ≤ (n : Rat) := by rw [← Rat.intCast_mul]; exact Rat.intCast_le_intCast.2 g1
 have r2 : ((n + 1 : Int) : Rat) ≤ ((r : Rat) + 1) * ((r : Rat) + 1) := by
  have : ((n + 1 : Int) : Rat) ≤ (((r + 1) * (r + 1) : Int) : Rat) := Rat.intCast_le_intCast.2 (by omega)
  rw [Rat.intCast_mul, Rat.intCast_add r 1] at this; exact this
 refine ⟨zeM hN (by grind), ?_, ?_⟩
 ·have e : (r : Rat) / N * ((r : Rat) / N) = (r : Rat) * (r : Rat) / (N * N) := by grind
  rw [e]
  exact zdu (Rat.mul_pos hN hN) (by grind)
 ·have e : ((r : Rat) / N + 1 / N) * ((r : Rat) / N + 1 / N) = ((r : Rat) + 1) * ((r : Rat) + 1) / (N * N) := by grind
  rw [e]
  exact (Rat.lt_div_iff (Rat.mul_pos hN hN)).2 (by grind)
theorem rt_ge (k : Nat) {x : Rat} (hx : 0 ≤ x) {L : Int} (hL : 0 ≤ L) (h : (L : Rat) * (L : Rat) ≤ x * 65536 * 65536) : (L : Rat) ≤ rt k x * 65536 := by
 have hN := zd7 k
 have hfx : 0 ≤ (x * (grid k : Rat) * (grid k : Rat)) := Rat.mul_nonneg (Rat.mul_nonneg hx (Rat.le_of_lt hN)) (Rat.le_of_lt hN)
 have hf : 0 ≤ (x * (grid k : Rat) * (grid k : Rat)).floor := Rat.le_floor_iff.2 hfx
 have eg : (grid k : Rat) = 65536 * ((k + 1 : Nat) : Rat) := by
  unfold grid
  rw [Rat.intCast_mul]; rfl
 have hk : (0 : Rat) < ((k + 1 : Nat) : Rat) := Rat.natCast_pos.2 (by omega)
 have h1 : L * (k + 1 : Nat) ≤ root ((x * (grid k : Rat) * (grid k : Rat)).floor) := by
  refine zf1 hf (Int.mul_nonneg hL (by omega)) (Rat.le_floor_iff.2 ?_)
  rw [Rat.intCast_mul, Rat.intCast_mul, Rat.intCast_natCast, eg]
  generalize ((k + 1 : Nat) : Rat) = K at *
  have := zgI (Rat.le_of_lt (Rat.mul_pos hk hk)) h
  grind
 have h2 := Rat.intCast_le_intCast.2 h1
 rw [Rat.intCast_mul, Rat.intCast_natCast] at h2
 unfold rt
 generalize (root ((x * (grid k : Rat) * (grid k : Rat)).floor) : Rat) = R at *
 rw [eg]
 generalize ((k + 1 : Nat) : Rat) = K at *
 have e : R / (65536 * K) * 65536 = R / K := by grind
 rw [e]
 exact zeM hk h2
theorem rt_le (k : Nat) {x : Rat} (hx : 0 ≤ x) {U : Int} (hU : 0 ≤ U) (h : x * 65536 * 65536 ≤ (U : Rat) * (U : Rat)) : rt k x * 65536 ≤ (U : Rat) := by
 obtain ⟨g0, g1, _⟩ := zkT k hx
 refine ztA (by grind) (Rat.intCast_nonneg.2 hU) ?_
 grind
theorem in_rt (k : Nat) {a : I} {x : Rat} (ha : InI a x) : InI (unV .sqrt a) (rt k x) := by
 simp only [unV]
 split
 ·exact .inl rfl
 ·rename_i h0
  unfold sqrt
  have hne : a ≠ ent := by rintro rfl; exact h0 (by decide)
  obtain ⟨a1, a2⟩ := ha.resolve_left hne
  have hx : 0 ≤ x := by
   have : (0 : Rat) ≤ (a.1 : Rat) := Rat.intCast_nonneg.2 (by omega)
   grind
  have h2 : 0 ≤ a.2 := by
   have : (0 : Rat) ≤ (a.2 : Rat) := by grind
   exact Rat.intCast_nonneg.1 this
  rw [if_neg (by rw [zaA]; exact hne), if_neg (by omega)]
  have hm : max a.1 0 = a.1 := by omega
  rw [hm]
  have e : ((65536 : Int) : Rat) = 65536 := rfl
  refine zmY ?_ ?_
  ·obtain ⟨g0, g1, _⟩ := zbd (n := a.1 * 65536) (by omega)
   refine rt_ge k hx g0 ?_
   have := Rat.intCast_le_intCast.2 g1
   rw [Rat.intCast_mul, Rat.intCast_mul, e] at this
   grind
  ·obtain ⟨g0, g1⟩ := zhT (n := a.2 * 65536) (by omega)
   refine rt_le k hx g0 ?_
   have := Rat.intCast_le_intCast.2 g1
   rw [Rat.intCast_mul, Rat.intCast_mul, e] at this
   grind
end Go.Pl

namespace Go.Pl
def Sb (a b : I) : Prop := b.1 ≤ a.1 ∧ a.2 ≤ b.2
theorem Sb.refl (a : I) : Sb a a := ⟨Int.le_refl _, Int.le_refl _⟩
theorem Sb.trans {a b c : I} (h : Sb a b) (k : Sb b c) : Sb a c := ⟨Int.le_trans k.1 h.1, Int.le_trans h.2 k.2⟩
theorem Sb.to {a b : I} (h : Sb a b) : subB a b = true := by simp [subB, h.1, h.2]
theorem Sb.ent {a : I} (h : vB a = true) : Sb a ent := by
 have := zao h
 exact ⟨this.1, this.2.2⟩
theorem Sb.bounded {a b : I} (h : Sb a b) (hb : vB b = true) (hne : b ≠ Pl.ent) : a ≠ Pl.ent := by
 rintro rfl
 have h1 := zaw hb (by rw [Bool.eq_false_iff, Ne, zaA]; exact hne)
 have h2 := h.1
 simp only [Pl.ent] at h2
 omega
theorem vB_mk {lo hi : Int} (h : lo ≤ hi) : vB (mk lo hi) = true := zbD h
theorem zgX {lo hi lo' hi' : Int} (h1 : lo' ≤ lo) (h : lo ≤ hi) (h2 : hi ≤ hi') : Sb (mk lo hi) (mk lo' hi') := by
 by_cases hb : (numB lo' && numB hi') = true
 ·have e : mk lo' hi' = (lo', hi') := by unfold mk; rw [if_pos hb]
  rw [Bool.and_eq_true, zdr, zdr] at hb
  have e2 : mk lo hi = (lo, hi) := by unfold mk; rw [if_pos (by rw [Bool.and_eq_true, zdr, zdr]; omega)]
  rw [e, e2]; exact ⟨h1, h2⟩
 ·have e : mk lo' hi' = ent := by unfold mk; rw [if_neg hb]
  rw [e]; exact Sb.ent (vB_mk h)
section
variable {a b a' b' : I}
theorem ent2 (h : ¬ (entB a' || entB b') = true) (ha' : vB a' = true) (hb' : vB b' = true) (ha : Sb a a') (hb : Sb b b') : ¬ (entB a || entB b) = true := by
 obtain ⟨h1, h2⟩ := ziG h
 have := ha.bounded ha' h1
 have := hb.bounded hb' h2
 simp [zaA, *]
theorem ziH (h : Sb a a') : Sb (neg a) (neg a') := ⟨by simp only [neg]; have := h.2; omega, by simp only [neg]; have := h.1; omega⟩
theorem zdD (va : vB a = true) (vb : vB b = true) (va' : vB a' = true) (vb' : vB b' = true) (ha : Sb a a') (hb : Sb b b') : Sb (add a b) (add a' b') := by
 by_cases h : (entB a' || entB b') = true
 ·have e : add a' b' = ent := by unfold add; rw [if_pos h]
  rw [e]; exact Sb.ent (zbB va vb)
 ·have h' := ent2 h va' vb' ha hb
  have e : add a' b' = mk (a'.1 + b'.1) (a'.2 + b'.2) := by unfold add; rw [if_neg h]
  have e2 : add a b = mk (a.1 + b.1) (a.2 + b.2) := by unfold add; rw [if_neg h']
  have h1 := zao va
  have h2 := zao vb
  have h3 := ha.1; have h4 := ha.2; have h5 := hb.1; have h6 := hb.2
  rw [e, e2]; exact zgX (by omega) (by omega) (by omega)
theorem zlC (va : vB a = true) (vb : vB b = true) (va' : vB a' = true) (vb' : vB b' = true) (ha : Sb a a') (hb : Sb b b') : Sb (sub a b) (sub a' b') := zdD va (zcc vb) va' (zcc vb') ha (ziH hb)
theorem ic {x y : Int} : (x : Rat) ≤ (y : Rat) ↔ x ≤ y := Rat.intCast_le_intCast
theorem zfo (ha : Sb a a') (hb : Sb b b') {x y : Int} (hx : x = a.1 ∨ x = a.2) (hy : y = b.1 ∨ y = b.2) (la : a.1 ≤ a.2) (lb : b.1 ≤ b.2) :
  min4 (a'.1 * b'.1) (a'.1 * b'.2) (a'.2 * b'.1) (a'.2 * b'.2) ≤ x * y ∧ x * y ≤ max4 (a'.1 * b'.1) (a'.1 * b'.2) (a'.2 * b'.1) (a'.2 * b'.2) := by
 have h3 := ha.1; have h4 := ha.2; have h5 := hb.1; have h6 := hb.2
 have := znR (a1 := a'.1) (a2 := a'.2) (b1 := b'.1) (b2 := b'.2) (X := (x : Rat)) (Y := (y : Rat)) (ic.2 (by omega)) (ic.2 (by omega)) (ic.2 (by omega)) (ic.2 (by omega))
 rw [← Rat.intCast_mul, ic, ic] at this
 exact this
theorem zo5 {x y b : Int} (hb : 0 < b) (h : x ≤ y) : ce x b ≤ ce y b := (zaG x y b b).1 hb h
theorem zi0 {x y b : Int} (hb : 0 < b) (h : x ≤ y) : fl x b ≤ fl y b := (zaC x y b b).1 hb h
theorem fl_le_ce' {x b : Int} (hb : b ≠ 0) : fl x b ≤ ce x b := by
 have h1 := (zhw (x := x) hb).1
 have h2 := (ziL (x := x) hb).1
 exact ic.1 (Rat.le_trans h1 h2)
theorem sqle {x y : Int} (h1 : -y ≤ x) (h2 : x ≤ y) : x * x ≤ y * y := by
 have := Int.mul_nonneg (show 0 ≤ y - x by omega) (show 0 ≤ y + x by omega)
 grind
theorem sqle' {x y : Int} (h1 : y ≤ x) (h2 : x ≤ -y) : x * x ≤ y * y := by
 have := sqle (x := x) (y := -y) (by omega) h2
 rwa [Int.neg_mul_neg] at this
theorem sqnn (x : Int) : 0 ≤ x * x := by
 by_cases h : 0 ≤ x
 ·exact Int.mul_nonneg h h
 ·have := Int.mul_nonneg (show 0 ≤ -x by omega) (show 0 ≤ -x by omega)
  rwa [Int.neg_mul_neg] at this
theorem zej (va : vB a = true) (vb : vB b = true) (va' : vB a' = true) (vb' : vB b' = true) (ha : Sb a a') (hb : Sb b b') : Sb (mul a b) (mul a' b') := by
 by_cases h : (entB a' || entB b') = true
 ·have e : mul a' b' = ent := by unfold mul; rw [if_pos h]
  rw [e]; exact Sb.ent zaz
 ·have h' := ent2 h va' vb' ha hb
  have h1 := zao va
  have h2 := zao vb
  have c1 := zfo ha hb (x := a.1) (y := b.1) (.inl rfl) (.inl rfl) h1.2.1 h2.2.1
  have c2 := zfo ha hb (x := a.1) (y := b.2) (.inl rfl) (.inr rfl) h1.2.1 h2.2.1
  have c3 := zfo ha hb (x := a.2) (y := b.1) (.inr rfl) (.inl rfl) h1.2.1 h2.2.1
  have c4 := zfo ha hb (x := a.2) (y := b.2) (.inr rfl) (.inr rfl) h1.2.1 h2.2.1
  unfold mul
  rw [if_neg h, if_neg h']
  generalize min4 (a'.1 * b'.1) (a'.1 * b'.2) (a'.2 * b'.1) (a'.2 * b'.2) = m at *
  generalize max4 (a'.1 * b'.1) (a'.1 * b'.2) (a'.2 * b'.1) (a'.2 * b'.2) = M at *
  have d1 : m ≤ min4 (a.1 * b.1) (a.1 * b.2) (a.2 * b.1) (a.2 * b.2) := by simp only [min4]; omega
  have d2 : max4 (a.1 * b.1) (a.1 * b.2) (a.2 * b.1) (a.2 * b.2) ≤ M := by simp only [max4]; omega
  have d3 : min4 (a.1 * b.1) (a.1 * b.2) (a.2 * b.1) (a.2 * b.2) ≤ max4 (a.1 * b.1) (a.1 * b.2) (a.2 * b.1) (a.2 * b.2) := by simp only [min4, max4]; omega
  exact zgX (zi0 (by decide) d1) (Int.le_trans (zi0 (by decide) d3) (fl_le_ce' (by decide))) (zo5 (by decide) d2)
theorem znq (va : vB a = true) (va' : vB a' = true) (ha : Sb a a') : Sb (sq a) (sq a') := by
 by_cases h : entB a' = true
 ·have e : sq a' = ent := by unfold sq; rw [if_pos h]
  rw [e]; exact Sb.ent (zgh va)
 ·have h' : ¬ entB a = true := by rw [zaA]; exact ha.bounded va' (fun k => h (zaA.2 k))
  have h1 := zao va
  have h3 := ha.1; have h4 := ha.2
  unfold sq
  rw [if_neg h, if_neg h']
  have s1 := sqnn a.1
  have s2 := sqnn a.2
  have m1 : a.1 * a.1 ≤ max (a'.1 * a'.1) (a'.2 * a'.2) := by
   by_cases q : 0 ≤ a.1
   ·have := sqle (x := a.1) (y := a'.2) (by omega) (by omega)
    omega
   ·have := sqle' (x := a.1) (y := a'.1) (by omega) (by omega)
    omega
  have m2 : a.2 * a.2 ≤ max (a'.1 * a'.1) (a'.2 * a'.2) := by
   by_cases q : 0 ≤ a.2
   ·have := sqle (x := a.2) (y := a'.2) (by omega) (by omega)
    omega
   ·have := sqle' (x := a.2) (y := a'.1) (by omega) (by omega)
    omega
  have n1 : (if a'.1 ≤ 0 ∧ 0 ≤ a'.2 then 0 else min (a'.1 * a'.1) (a'.2 * a'.2)) ≤ (if a.1 ≤ 0 ∧ 0 ≤ a.2 then 0 else min (a.1 * a.1) (a.2 * a.2)) := by
   by_cases hz : a'.1 ≤ 0 ∧ 0 ≤ a'.2
   ·rw [if_pos hz]; split <;> omega
   ·rw [if_neg hz, if_neg (by omega)]
    by_cases k : 0 < a'.1
    ·have e1 := sqle (x := a'.1) (y := a.1) (by omega) (by omega)
     have e2 := sqle (x := a'.1) (y := a.2) (by omega) (by omega)
     omega
    ·have e1 := sqle' (x := a'.2) (y := a.1) (by omega) (by omega)
     have e2 := sqle' (x := a'.2) (y := a.2) (by omega) (by omega)
     omega
  have n2 : (if a.1 ≤ 0 ∧ 0 ≤ a.2 then 0 else min (a.1 * a.1) (a.2 * a.2)) ≤ max (a.1 * a.1) (a.2 * a.2) := by split <;> omega
  generalize (if a'.1 ≤ 0 ∧ 0 ≤ a'.2 then 0 else min (a'.1 * a'.1) (a'.2 * a'.2)) = m at *
  generalize (if a.1 ≤ 0 ∧ 0 ≤ a.2 then 0 else min (a.1 * a.1) (a.2 * a.2)) = m' at *
  exact zgX (zi0 (by decide) n1) (Int.le_trans (zi0 (by decide) n2) (fl_le_ce' (by decide))) (zo5 (by decide) (by omega))
theorem zoX (vb' : vB b' = true) (hb : Sb b b') (h : defn b') (lb : b.1 ≤ b.2) : defn b := by
 have h3 := hb.1; have h4 := hb.2
 refine ⟨hb.bounded vb' h.1, ?_⟩
 rcases h.2 with h | h <;> omega
theorem zeh (ha : Sb a a') (hb : Sb b b') (hd : defn b') {x y : Int} (hx : x = a.1 ∨ x = a.2) (hy : y = b.1 ∨ y = b.2) (la : a.1 ≤ a.2) (lb : b.1 ≤ b.2) :
  min4 (fl (a'.1 * 65536) b'.1) (fl (a'.1 * 65536) b'.2) (fl (a'.2 * 65536) b'.1) (fl (a'.2 * 65536) b'.2) ≤ fl (x * 65536) y ∧ ce (x * 65536) y ≤ max4 (ce (a'.1 * 65536) b'.1) (ce (a'.1 * 65536) b'.2) (ce (a'.2 * 65536) b'.1) (ce (a'.2 * 65536) b'.2) := by
 have h3 := ha.1; have h4 := ha.2; have h5 := hb.1; have h6 := hb.2
 have hy0 : y ≠ 0 := by rcases hd.2 with h | h <;> omega
 obtain ⟨k1, k2⟩ := znQ (a1 := a'.1) (a2 := a'.2) (b1 := b'.1) (b2 := b'.2) (X := (x : Rat)) (Y := (y : Rat)) (ic.2 (by omega)) (ic.2 (by omega)) (ic.2 (by omega)) (ic.2 (by omega)) hd.2
 have e : (x : Rat) * 65536 = ((x * 65536 : Int) : Rat) := by rw [Rat.intCast_mul]; rfl
 rw [e] at k1 k2
 have f1 := (zhw (x := x * 65536) hy0).2
 have f2 := (ziL (x := x * 65536) hy0).2
 generalize ((x * 65536 : Int) : Rat) / (y : Rat) = q at *
 generalize min4 (fl (a'.1 * 65536) b'.1) (fl (a'.1 * 65536) b'.2) (fl (a'.2 * 65536) b'.1) (fl (a'.2 * 65536) b'.2) = m at *
 generalize max4 (ce (a'.1 * 65536) b'.1) (ce (a'.1 * 65536) b'.2) (ce (a'.2 * 65536) b'.1) (ce (a'.2 * 65536) b'.2) = M at *
 have g1 : (m : Rat) < ((fl (x * 65536) y + 1 : Int) : Rat) := by
  rw [Rat.intCast_add (fl (x * 65536) y) 1]; have e : ((1 : Int) : Rat) = 1 := rfl; rw [e]; grind
 have g2 : ((ce (x * 65536) y - 1 : Int) : Rat) < (M : Rat) := by
  rw [Rat.intCast_sub (ce (x * 65536) y) 1]; have e : ((1 : Int) : Rat) = 1 := rfl; rw [e]; grind
 have g1 := Rat.intCast_lt_intCast.1 g1
 have g2 := Rat.intCast_lt_intCast.1 g2
 omega
theorem zmf (va : vB a = true) (vb : vB b = true) (va' : vB a' = true) (vb' : vB b' = true) (ha : Sb a a') (hb : Sb b b') : Sb (div a b) (div a' b') := by
 by_cases hd : defn b'
 ·by_cases hea : a' = ent
  ·have e : div a' b' = ent := by unfold div; rw [if_pos (by simp [zaA.2 hea])]
   rw [e]; exact Sb.ent (zcO vb)
  have h1 := zao va
  have h2 := zao vb
  have hd2 := zoX vb' hb hd h2.2.1
  have hea2 := ha.bounded va' hea
  have z1 : ¬ (entB a' || entB b' || (decide (b'.1 ≤ 0) && decide (0 ≤ b'.2))) = true := by
   have := hd.1
   simp [zaA, *]
   rcases hd.2 with h | h <;> omega
  have z2 : ¬ (entB a || entB b || (decide (b.1 ≤ 0) && decide (0 ≤ b.2))) = true := by
   have := hd2.1
   simp [zaA, *]
   rcases hd2.2 with h | h <;> omega
  have c1 := zeh ha hb hd (x := a.1) (y := b.1) (.inl rfl) (.inl rfl) h1.2.1 h2.2.1
  have c2 := zeh ha hb hd (x := a.1) (y := b.2) (.inl rfl) (.inr rfl) h1.2.1 h2.2.1
  have c3 := zeh ha hb hd (x := a.2) (y := b.1) (.inr rfl) (.inl rfl) h1.2.1 h2.2.1
  have c4 := zeh ha hb hd (x := a.2) (y := b.2) (.inr rfl) (.inr rfl) h1.2.1 h2.2.1
  have c5 : fl (a.1 * 65536) b.1 ≤ ce (a.1 * 65536) b.1 := fl_le_ce' (by rcases hd2.2 with h | h <;> omega)
  unfold div
  rw [if_neg z1, if_neg z2]
  generalize min4 (fl (a'.1 * 65536) b'.1) (fl (a'.1 * 65536) b'.2) (fl (a'.2 * 65536) b'.1) (fl (a'.2 * 65536) b'.2) = m at *
  generalize max4 (ce (a'.1 * 65536) b'.1) (ce (a'.1 * 65536) b'.2) (ce (a'.2 * 65536) b'.1) (ce (a'.2 * 65536) b'.2) = M at *
  refine zgX ?_ ?_ ?_ <;> simp only [min4, max4] <;> omega
 ·rw [zkg hd]; exact Sb.ent (zcO vb)
theorem zkW {m n : Int} (hm : 0 ≤ m) (h : m ≤ n) : root m ≤ root n := by
 obtain ⟨g0, g1, g2⟩ := zbd hm
 exact zf1 (by omega) g0 (by omega)
theorem zmD {m n : Int} (hm : 0 ≤ m) (h : m ≤ n) : zbv m ≤ zbv n := by
 obtain ⟨g0, g1, g2⟩ := zbd hm
 obtain ⟨h0, h1⟩ := zhT (n := n) (by omega)
 unfold zbv
 split
 ·rename_i hlt
  have h3 : root m < zbv n := by
   rcases Int.lt_or_le (root m) (zbv n) with k | k
   ·exact k
   ·have := Int.mul_le_mul k k h0 g0
    omega
  unfold zbv at h3
  omega
 ·have := zkW hm h
  unfold zbv at h0
  split <;> omega
theorem zjo (va : vB a = true) (va' : vB a' = true) (ha : Sb a a') : Sb (unV .sqrt a) (unV .sqrt a') := by
 simp only [unV]
 by_cases h0 : a'.1 < 0
 ·rw [if_pos h0]; exact Sb.ent (zjl (o := .sqrt) va)
 ·have h1 := zao va
  have h3 := ha.1; have h4 := ha.2
  have hne' : ¬ entB a' = true := by rw [zaA]; rintro rfl; exact h0 (by decide)
  have hne : ¬ entB a = true := by rw [zaA]; exact ha.bounded va' (fun k => hne' (zaA.2 k))
  rw [if_neg h0, if_neg (by omega)]
  unfold sqrt
  rw [if_neg hne', if_neg hne, if_neg (by omega), if_neg (by omega)]
  have e1 : max a.1 0 = a.1 := by omega
  have e2 : max a'.1 0 = a'.1 := by omega
  rw [e1, e2]
  refine zgX (zkW (by omega) (by omega)) ?_ (zmD (by omega) (by omega))
  have := zkW (m := a.1 * 65536) (n := a.2 * 65536) (by omega) (by omega)
  unfold zbv
  split <;> omega
theorem zrt {o : U} (va : vB a = true) (va' : vB a' = true) (ha : Sb a a') : Sb (unV o a) (unV o a') := by
 cases o with
 | neg => exact ziH ha
 | sqr => exact znq va va' ha
 | sqrt => exact zjo va va' ha
theorem zqD {o : B} (va : vB a = true) (vb : vB b = true) (va' : vB a' = true) (vb' : vB b' = true) (ha : Sb a a') (hb : Sb b b') : Sb (binV o a b) (binV o a' b') := by
 cases o with
 | add => exact zdD va vb va' vb' ha hb
 | sub => exact zlC va vb va' vb' ha hb
 | mul => exact zej va vb va' vb' ha hb
 | div => exact zmf va vb va' vb' ha hb
end
end Go.Pl

namespace Go.Pl
structure Ins where
 op : Int
 a : Int
 b : Int
 c : I
 deriving DecidableEq
structure Tp where
 n : Nat
 L : List Ins
 out : List Nat
def zop (n i : Nat) (x : Ins) : Prop :=
 (x.op = 1 ∧ vB x.c = true) ∨ (x.op = 2 ∧ 0 ≤ x.a ∧ x.a < n) ∨ x.op = 3 ∨ (4 ≤ x.op ∧ x.op ≤ 6 ∧ 0 ≤ x.a ∧ x.a < i ∧ x.b = 0) ∨ (7 ≤ x.op ∧ x.op ≤ 10 ∧ 0 ≤ x.a ∧ x.a < i ∧ 0 ≤ x.b ∧ x.b < i)
structure tpOk (t : Tp) : Prop where
 ins : ∀ i x, t.L[i]? = some x → zop t.n i x
 len : t.out.length = t.n
 out : ∀ k ∈ t.out, k < t.L.length
 small : t.n ≤ 1000 ∧ t.L.length ≤ 100000
def at0 (l : List I) (k : Int) : I := (l[k.toNat]?).getD (0, 0)
def zcQ (p : I) : I := if p.1 < 0 then ent else sqrt p
def opI (o : Int) (p q : I) : I :=
 if o = 4 then neg p else if o = 5 then sq p else if o = 6 then zcQ p else if o = 7 then add p q else if o = 8 then sub p q else if o = 9 then mul p q else div p q
def insV (y : Ins) (l x : List I) (t : I) : I :=
 if y.op = 1 then y.c else if y.op = 2 then at0 x y.a else if y.op = 3 then t else opI y.op (at0 l y.a) (at0 l y.b)
def zbb (L : List Ins) (x : List I) (t : I) : List I := L.foldl (fun l y => l ++ [insV y l x t]) []
def zcS (T : Tp) (x : List I) (t : I) : List I := T.out.map fun k : Nat => at0 (zbb T.L x t) (k : Int)
theorem zcw (L : List Ins) (y : Ins) (x : List I) (t : I) : zbb (L ++ [y]) x t = zbb L x t ++ [insV y (zbb L x t) x t] := by simp [zbb]
theorem zgi {α : Type} {P : List α → Prop} (h0 : P []) (h1 : ∀ l a, P l → P (l ++ [a])) (l : List α) : P l := by
 have : ∀ r : List α, P r.reverse := by
  intro r
  induction r with
  | nil => exact h0
  | cons a r ih => rw [List.reverse_cons]; exact h1 _ _ ih
 have := this l.reverse
 rwa [List.reverse_reverse] at this
theorem zcD (x : List I) (t : I) : ∀ L : List Ins, (zbb L x t).length = L.length := by
 intro L
 refine zgi (P := fun L => (zbb L x t).length = L.length) rfl (fun L y ih => ?_) L
 rw [zcw]; simp [ih]
def allV (l : List I) : Prop := ∀ p ∈ l, vB p = true
theorem zcg {l : List I} (h : allV l) (k : Int) : vB (at0 l k) = true := by
 unfold at0
 cases hk : l[k.toNat]? with
 | none => decide
 | some p => exact h p (List.mem_of_getElem? hk)
theorem zgH {p : I} (h : vB p = true) : vB (zcQ p) = true := by
 unfold zcQ; split
 ·exact zhb
 ·exact zhK h
theorem znW {o : Int} {p q : I} (hp : vB p = true) (hq : vB q = true) : vB (opI o p q) = true := by
 unfold opI
 split
 ·exact zcc hp
 split
 ·exact zgh hp
 split
 ·exact zgH hp
 split
 ·exact zbB hp hq
 split
 ·exact zcF hp hq
 split
 ·exact zaz
 ·exact zcO hq
theorem zmX {y : Ins} {l x : List I} {t : I} (hc : y.op = 1 → vB y.c = true) (hl : allV l) (hx : allV x) (ht : vB t = true) : vB (insV y l x t) = true := by
 unfold insV
 split
 ·exact hc ‹_›
 split
 ·exact zcg hx _
 split
 ·exact ht
 ·exact znW (zcg hl _) (zcg hl _)
theorem zfy {l : List I} {p : I} (h : allV l) (hp : vB p = true) : allV (l ++ [p]) := by
 intro q hq
 rcases List.mem_append.1 hq with hq | hq
 ·exact h q hq
 ·simp at hq; subst hq; exact hp
theorem zcC {x : List I} {t : I} (hx : allV x) (ht : vB t = true) : ∀ {L : List Ins}, (∀ y ∈ L, y.op = 1 → vB y.c = true) → allV (zbb L x t) := by
 intro L
 refine zgi (P := fun L => (∀ y ∈ L, y.op = 1 → vB y.c = true) → allV (zbb L x t)) (fun _ p hp => by simp [zbb] at hp) (fun L y ih => ?_) L
 intro h
 rw [zcw]
 have := ih fun z hz => h z (by simp [hz])
 exact zfy this (zmX (h y (by simp)) this hx ht)
theorem tpOk.num {T : Tp} (h : tpOk T) : ∀ y ∈ T.L, y.op = 1 → vB y.c = true := by
 intro y hy ho
 obtain ⟨i, hi⟩ := List.mem_iff_getElem?.1 hy
 rcases h.ins i y hi with h | h | h | h | h
 ·exact h.2
 all_goals omega
theorem zcM {T : Tp} (h : tpOk T) {x : List I} {t : I} (hx : allV x) (ht : vB t = true) : allV (zcS T x t) := by
 intro p hp
 obtain ⟨k, _, rfl⟩ := List.mem_map.1 hp
 exact zcg (zcC hx ht h.num) _
theorem zoO {T : Tp} (h : tpOk T) {x : List I} {t : I} : (zcS T x t).length = T.n := by simp [zcS, h.len]
def zbr (l : List Ins) (x : Ins) : List Ins × Nat := match l.findIdx? (fun y => decide (y = x)) with
 | some i => (l, i)
 | none => (l ++ [x], l.length)
def cmpS : Ex → List Ins → List Ins × Nat
 | .num c, l => zbr l ⟨1, 0, 0, c⟩
 | .var i, l => zbr l ⟨2, i, 0, (0, 0)⟩
 | .time, l => zbr l ⟨3, 0, 0, (0, 0)⟩
 | .un o a, l => zbr (cmpS a l).1 ⟨o.code, ((cmpS a l).2 : Int), 0, (0, 0)⟩
 | .bin o a b, l => zbr (cmpS b (cmpS a l).1).1 ⟨o.code, ((cmpS a l).2 : Int), ((cmpS b (cmpS a l).1).2 : Int), (0, 0)⟩
def za0 : List Ex → List Ins × List Nat → List Ins × List Nat
 | [], s => s
 | e :: r, s => za0 r ((cmpS e s.1).1, s.2 ++ [(cmpS e s.1).2])
def cmpT (F : List Ex) : Tp := ⟨F.length, (za0 F ([], [])).1, (za0 F ([], [])).2⟩
def zh4 (n : Nat) (l : List Ins) : Prop := ∀ i x, l[i]? = some x → zop n i x
theorem zfn {n : Nat} {l : List Ins} {x : Ins} (h : zh4 n l) (hx : zop n l.length x) : zh4 n (zbr l x).1 ∧ (zbr l x).2 < (zbr l x).1.length ∧ l.length ≤ (zbr l x).1.length ∧ (zbr l x).1.length ≤ l.length + 1 := by
 unfold zbr
 cases hf : l.findIdx? (fun y => decide (y = x)) with
 | some i =>
  refine ⟨h, ?_, by simp, by simp⟩
  rw [List.findIdx?_eq_some_iff_getElem] at hf
  exact hf.1
 | none =>
  refine ⟨fun i y hi => ?_, by simp, by simp, by simp⟩
  simp only at hi
  rcases Nat.lt_or_ge i l.length with hlt | hge
  ·rw [List.getElem?_append_left hlt] at hi; exact h i y hi
  ·have : i = l.length := by have := (gJ.1 hi).1; simp at this; omega
   subst this
   simp at hi; subst hi; exact hx
theorem zrp (o : U) : 4 ≤ o.code ∧ o.code ≤ 6 := by cases o <;> decide
theorem zrq (o : B) : 7 ≤ o.code ∧ o.code ≤ 10 := by cases o <;> decide
theorem zi7 {n : Nat} : ∀ {e : Ex} {l : List Ins}, wf n e = true → zh4 n l → zh4 n (cmpS e l).1 ∧ (cmpS e l).2 < (cmpS e l).1.length ∧ l.length ≤ (cmpS e l).1.length ∧ (cmpS e l).1.length ≤ l.length + sz e
 | .num c, l, he, h => by
  have := zfn (x := ⟨1, 0, 0, c⟩) h (.inl ⟨rfl, he⟩)
  rw [zdE]; exact this
 | .var i, l, he, h => by
  simp only [wf, decide_eq_true_eq] at he
  have := zfn (x := ⟨2, (i : Int), 0, (0, 0)⟩) h (.inr (.inl ⟨rfl, by simp, by simpa using he⟩))
  rw [zhC]; exact this
 | .time, l, he, h => by
  have := zfn (x := ⟨3, 0, 0, (0, 0)⟩) h (.inr (.inr (.inl rfl)))
  rw [zfB]; exact this
 | .un o a, l, he, h => by
  obtain ⟨h1, h2, h3, h4⟩ := zi7 (e := a) he h
  have := zfn (x := ⟨o.code, ((cmpS a l).2 : Int), 0, (0, 0)⟩) h1 (.inr (.inr (.inr (.inl ⟨(zrp o).1, (zrp o).2, by simp, by simpa using h2, rfl⟩))))
  rw [zdR]
  exact ⟨this.1, this.2.1, by show _ ≤ (zbr _ _).1.length; omega, by show (zbr _ _).1.length ≤ _; omega⟩
 | .bin o a b, l, he, h => by
  simp only [wf, Bool.and_eq_true] at he
  obtain ⟨h1, h2, h3, h4⟩ := zi7 (e := a) he.1 h
  obtain ⟨g1, g2, g3, g4⟩ := zi7 (e := b) he.2 h1
  have := zfn (x := ⟨o.code, ((cmpS a l).2 : Int), ((cmpS b (cmpS a l).1).2 : Int), (0, 0)⟩) g1 (.inr (.inr (.inr (.inr ⟨(zrq o).1, (zrq o).2, by simp, by simp; omega, by simp, by simpa using g2⟩))))
  rw [zbG]
  exact ⟨this.1, this.2.1, by show _ ≤ (zbr _ _).1.length; omega, by show (zbr _ _).1.length ≤ _; omega⟩
theorem zkm {n : Nat} : ∀ {F : List Ex} {s : List Ins × List Nat}, (∀ e ∈ F, wf n e = true) → zh4 n s.1 → (∀ k ∈ s.2, k < s.1.length) →
  zh4 n (za0 F s).1 ∧ (∀ k ∈ (za0 F s).2, k < (za0 F s).1.length) ∧ (za0 F s).2.length = s.2.length + F.length ∧ (za0 F s).1.length ≤ s.1.length + (F.map sz).sum
 | [], s, _, h, hk => ⟨h, hk, by simp [za0], by simp [za0]⟩
 | e :: r, s, he, h, hk => by
  obtain ⟨h1, h2, h3, h4⟩ := zi7 (he e (by simp)) h
  have := zkm (F := r) (s := ((cmpS e s.1).1, s.2 ++ [(cmpS e s.1).2])) (fun e' h' => he e' (by simp [h'])) h1 (fun k hk' => by
   rcases List.mem_append.1 hk' with hk' | hk'
   ·exact Nat.lt_of_lt_of_le (hk k hk') h3
   ·simp at hk'; subst hk'; exact h2)
  refine ⟨this.1, this.2.1, ?_, ?_⟩
  ·have := this.2.2.1; simp only [za0] at this ⊢; rw [this]; simp; omega
  ·have := this.2.2.2; simp only [za0, List.map_cons, List.sum_cons] at this ⊢; omega
def cmpK : List Ex → List Ins → List Ins × List Nat
 | [], l => (l, [])
 | e :: r, l => ((cmpK r (cmpS e l).1).1, (cmpS e l).2 :: (cmpK r (cmpS e l).1).2)
theorem zkl : ∀ (r : List Ex) (e : Ex) (l : List Ins), cmpK (r ++ [e]) l = ((cmpS e (cmpK r l).1).1, (cmpK r l).2 ++ [(cmpS e (cmpK r l).1).2])
 | [], e, l => rfl
 | a :: r, e, l => by simp only [List.cons_append, cmpK, zkl r e]
def zeB (e : Ex) (ks : List Nat) : Ins := ⟨(zan e).op, if (zan e).op = 2 then (zan e).n else ((ks[0]?).getD 0 : Nat), ((ks[1]?).getD 0 : Nat), if (zan e).op = 1 then (zan e).c else (0, 0)⟩
theorem zll (e : Ex) (l : List Ins) : cmpS e l = zbr (cmpK (kids e) l).1 (zeB e (cmpK (kids e) l).2) := by
 cases e with
 | num c => rfl
 | var i => rfl
 | time => rfl
 | un o a => cases o <;> rfl
 | bin o a b => cases o <;> rfl
theorem zd9 (l : List Ins) (x : Ins) : (zbr l x).1.length ≤ l.length + 1 ∧ l.length ≤ (zbr l x).1.length := by
 unfold zbr; split <;> simp
theorem zi3 (l : List Ins) (x : Ins) : (zbr l x).1 ≠ [] := by
 unfold zbr
 split
 ·rename_i i h
  rw [List.findIdx?_eq_some_iff_getElem] at h
  obtain ⟨h1, _⟩ := h
  intro e
  simp only at e
  rw [e] at h1; simp at h1
 ·simp
theorem zfs : ∀ (e : Ex) (l : List Ins), (cmpS e l).1.length ≤ l.length + sz e ∧ l.length ≤ (cmpS e l).1.length
 | .num c, l => zd9 _ _
 | .var i, l => zd9 _ _
 | .time, l => zd9 _ _
 | .un o a, l => by
  have h1 := zfs a l
  have h2 := zd9 (cmpS a l).1 ⟨o.code, ((cmpS a l).2 : Int), 0, (0, 0)⟩
  rw [zdR]; simp only [cmpS]; omega
 | .bin o a b, l => by
  have h1 := zfs a l
  have h2 := zfs b (cmpS a l).1
  have h3 := zd9 (cmpS b (cmpS a l).1).1 ⟨o.code, ((cmpS a l).2 : Int), ((cmpS b (cmpS a l).1).2 : Int), (0, 0)⟩
  rw [zbG]; simp only [cmpS]; omega
theorem zi8 : ∀ (r : List Ex) (l : List Ins), (cmpK r l).1.length ≤ l.length + (serL r).length ∧ (cmpK r l).2.length = r.length
 | [], l => by simp [cmpK, serL]
 | e :: r, l => by
  have h1 := zfs e l
  have h2 := zi8 r (cmpS e l).1
  simp only [cmpK, serL, List.flatMap_cons, List.length_append, List.length_cons] at h2 ⊢
  have : sz e = (ser e).length := rfl
  omega
end Go.Pl

namespace Go.Pl
def mulr (p : I) (n d : Int) : I := if entB p then p else mk (fl (p.1 * n) d) (ce (p.2 * n) d)
theorem zei {p : I} {n d : Int} (h : vB p = true) (hn : 0 ≤ n) (hd : 0 < d) : vB (mulr p n d) = true := by
 unfold mulr
 cases he : entB p with
 | true => simpa using h
 | false =>
  simp only [Bool.false_eq_true, if_false]
  have := zaw h he
  exact zbD (zfl hd (Int.mul_le_mul_of_nonneg_right this.2.1 hn))
def atN (l : List I) (k : Nat) : I := (l[k]?).getD (0, 0)
theorem zam {l : List I} (h : allV l) (k : Nat) : vB (atN l k) = true := by
 unfold atN
 cases hk : l[k]? with
 | none => decide
 | some p => exact h p (List.mem_of_getElem? hk)
def sumF (f : Nat → I) : Nat → I
 | 0 => (0, 0)
 | 1 => f 0
 | m + 2 => add (sumF f (m + 1)) (f (m + 1))
theorem zhE {f : Nat → I} (h : ∀ i, vB (f i) = true) : ∀ m, vB (sumF f m) = true
 | 0 => (by decide : vB (0, 0) = true)
 | 1 => h 0
 | m + 2 => zbB (zhE h (m + 1)) (h _)
def zbh (a b : List I) (frm m k : Nat) : I := sumF (fun i => mul (atN a (frm + i)) (atN b (k - (frm + i)))) m
theorem zbg (a b : List I) (frm m k : Nat) : vB (zbh a b frm m k) = true := zhE (fun _ => zaz) m
def zdf (a b q : List I) : I :=
 if q.length = 0 then div (atN a 0) (atN b 0) else div (sub (atN a q.length) (zbh b q 1 q.length q.length)) (atN b 0)
def zc4 (a q : List I) : I :=
 if q.length = 0 then zcQ (atN a 0) else div (sub (atN a q.length) (zbh q q 1 (q.length - 1) q.length)) (mulr (atN q 0) 2 1)
theorem zk7 {a b : List I} (ha : allV a) (hb : allV b) (q : List I) : vB (zdf a b q) = true := by
 unfold zdf; split
 ·exact zcO (zam hb _)
 ·exact zcO (zam hb _)
theorem zk6 {a q : List I} (ha : allV a) (hq : allV q) : vB (zc4 a q) = true := by
 unfold zc4; split
 ·exact zgH (zam ha _)
 ·exact zcO (zei (zam hq _) (by decide) (by decide))
def rowN (l : List (List I)) (i : Int) : List I := (l[i.toNat]?).getD []
def za1 (x : Ins) (l : List (List I)) (own : List I) (t : I) : I :=
 let k := own.length
 if x.op = 4 then neg (atN (rowN l x.a) k)
 else if x.op = 7 then add (atN (rowN l x.a) k) (atN (rowN l x.b) k)
 else if x.op = 8 then sub (atN (rowN l x.a) k) (atN (rowN l x.b) k)
 else if x.op = 9 then zbh (rowN l x.a) (rowN l x.b) 0 (k + 1) k
 else if x.op = 5 then (if k = 0 then sq (atN (rowN l x.a) 0) else zbh (rowN l x.a) (rowN l x.a) 0 (k + 1) k)
 else if x.op = 10 then zdf (rowN l x.a) (rowN l x.b) own
 else if x.op = 6 then zc4 (rowN l x.a) own
 else if x.op = 1 then (if k = 0 then x.c else (0, 0))
 else if x.op = 3 then (if k = 0 then t else if k = 1 then (65536, 65536) else (0, 0))
 else (0, 0)
def zaV : List I → I → I
 | [], _ => (0, 0)
 | [a], _ => a
 | a :: r, h => add (mul (zaV r h) h) a
def zdA (l : List (List I)) (h : I) : List I := l.map fun s => zaV s h
def zcb (L : List Ins) (out : List (List I)) (t : I) (k : Nat) (l : List (List I)) : Nat → List (List I)
 | 0 => l
 | i + 1 =>
  let l' := zcb L out t k l i
  match L[i]? with
  | some x => l'.set i (rowN l' i ++ [if x.op = 2 then atN (rowN out x.a) k else za1 x l' (rowN l' i) t])
  | none => l'
def zcG (T : Tp) (l : List (List I)) (k : Nat) (out : List (List I)) : Nat → List (List I)
 | 0 => out
 | i + 1 =>
  let o' := zcG T l k out i
  match T.out[i]? with
  | some at' => o'.set i (rowN o' i ++ [mulr (atN (rowN l (at' : Int)) k) 1 (k + 1)])
  | none => o'
def expS (T : Tp) (x : List I) (t : I) : Nat → List (List I) × List (List I)
 | 0 => (List.replicate T.L.length [], (List.range T.n).map fun i => [atN x i])
 | k + 1 =>
  let q := expS T x t k
  let l := zcb T.L q.2 t k q.1 T.L.length
  (l, zcG T l k q.2 T.out.length)
def za6 (T : Tp) (x : List I) (t : I) (order : Nat) : List (List I) := (expS T x t order).2
end Go.Pl

namespace Go.Proofs.YtkghjlgpmeibhaaGreatDoor.Arm
open Go.Arm Go.Pl
theorem zsw (p q : I) (H : AH) : zaf E 64 [iv p, iv q] H (.ret (iv (hull p q))) H := by
 refine zab zah zai Tryz.func64 rfl (by rfl) Tryz.ntmps64 (by kernel_rfl) (by simp) ?_
 simp [zbI, zbo]
 exact fin1 (rs := [.cell 4 48]) (by rfl) (by simp [resA, hull]) (by simp [noFs, noF])
theorem zuD (b : Bool) (p q : I) (H : AH) : zaf E 268 [.bool b, iv p, iv q] H (.ret (iv (if b then p else q))) H := by
 refine zab zah zai Tryz.func268 rfl (by rfl) Tryz.ntmps268 (by kernel_rfl) (by simp) ?_
 cases b with
 | true =>
  simp
  exact fin1 (rs := [.cell 6 48]) (by rfl) (by simp [resA]) (by simp [noFs, noF])
 | false =>
  simp
  exact fin1 (rs := [.cell 6 48]) (by rfl) (by simp [resA]) (by simp [noFs, noF])
theorem zoB (b : Bool) (x y : Int) (H : AH) : zaf E 301 [.bool b, .int .i64 x, .int .i64 y] H (.ret (.int .i64 (if b then x else y))) H := by
 refine zab zah zai Tryz.func301 rfl (by rfl) Tryz.ntmps301 (by kernel_rfl) (by simp) ?_
 cases b with
 | true =>
  simp
  exact fin0 (rs := [.tmp 6]) (by rfl) (by simp [resA])
 | false =>
  simp
  exact fin0 (rs := [.tmp 6]) (by rfl) (by simp [resA])
theorem zm0 (p q : I) (H : AH) : zaf E 231 [iv p, iv q] H (.ret (.tuple [iv (zeQ p q), .bool (za3 p q)])) H := by
 refine zab zah zai Tryz.func231 rfl (by rfl) Tryz.ntmps231 (by kernel_rfl) (by simp) ?_
 simp [zbI, zbo]
 refine zaa (zuD (za3 p q) (meet p q) (0, 0) _) ?_
 simp
 exact finC (rs := [.cell 4 48, .tmp 5]) (vs := [iv (zeQ p q), .bool (za3 p q)]) (vs' := [iv (zeQ p q), .bool (za3 p q)]) (by rfl) (by simp [resA, zeQ, za3]) (by simp; rfl) (by simp [noF, noFs]) rfl
theorem zkb (a n d : Int) (ha : -2147483648 ≤ a ∧ a ≤ 2147483648) (hn : 0 ≤ n ∧ n ≤ 1073741824) (hd : 1 ≤ d ∧ d ≤ 1073741824) (H : AH) :
  zaf E 300 [.int .i64 a, .int .i64 n, .int .i64 d] H (.ret (.tuple [.int .i64 (fl (a * n) d), .int .i64 (ce (a * n) d), .int .i64 0])) H := by
 refine zab zah zai Tryz.func300 rfl (by rfl) Tryz.ntmps300 (by kernel_rfl) (by simp) ?_
 have hb : -2305843009213693952 ≤ a * n ∧ a * n ≤ 2305843009213693952 := by
  have h1 := Int.mul_le_mul_of_nonneg_right ha.2 hn.1
  have h2 := Int.mul_le_mul_of_nonneg_right ha.1 hn.1
  omega
 have w1 : IntKind.i64.wrap (a * n) = a * n := zae (by omega) (by omega)
 have c1 : ¬ n < -1073741824 := by omega
 have c2 : ¬ 1073741824 < n := by omega
 have c3 : ¬ d < 1 := by omega
 have c4 : ¬ 1073741824 < d := by omega
 simp [c1, c2, c3, c4, w1]
 refine zaa (zli (a * n) d (by omega) (by omega) _) ?_
 simp
 exact finK (rs := [.tmp 6, .tmp 7, .tmp 8]) (vs := [.int .i64 (fl (a * n) d), .int .i64 (ce (a * n) d), .int .i64 0]) (by rfl) (by simp [resA]) rfl
theorem zj3 (p : I) (n d : Int) (hp : vB p = true) (hn : 0 ≤ n ∧ n ≤ 1073741824) (hd : 1 ≤ d ∧ d ≤ 1073741824) (H : AH) : zaf E 266 [iv p, .int .i64 n, .int .i64 d] H (.ret (iv (mulr p n d))) H := by
 refine zab zah zai Tryz.func266 rfl (by rfl) Tryz.ntmps266 (by kernel_rfl) (by simp) ?_
 simp
 refine zaa (zbx p _) ?_
 have hb := zao hp
 simp
 refine zak (fun he => ?_) (fun he => ?_)
 ·simp
  exact fin1 (rs := [.cell 6 48]) (by rfl) (by simp [resA, mulr, he]) (by simp [noFs, noF])
 ·have c1 : ¬ n < 0 := by omega
  simp
  refine zaa (zoB (decide (n < 0)) p.2 p.1 _) ?_
  simp [c1]
  refine zaa (zkb p.1 n d (by omega) hn hd _) ?_
  simp
  refine zaa (zoB (decide (n < 0)) p.1 p.2 _) ?_
  simp [c1]
  refine zaa (zkb p.2 n d (by omega) hn hd _) ?_
  simp
  refine zaa (iNew _ _ _) ?_
  simp
  exact fin1 (rs := [.cell 6 48]) (by rfl) (by simp [resA, mulr, he]) (by simp [noFs, noF])
theorem zqS (p : I) (h : vB p = true) (H : AH) : zaf E 221 [iv p] H (.ret (.int .i64 (p.2 - p.1))) H := by
 refine zab zah zai Tryz.func221 rfl (by rfl) Tryz.ntmps221 (by kernel_rfl) (by simp) ?_
 have hb := zao h
 have w1 : IntKind.i64.wrap (p.2 - p.1) = p.2 - p.1 := zae (by omega) (by omega)
 simp [w1]
 exact fin1 (rs := [.tmp 2]) (by rfl) (by simp [resA]) (by simp [noFs, noF])
theorem ztG (p q : I) (H : AH) : zaf E 222 [iv p, iv q] H (.ret (.bool (p == q))) H := by
 refine zab zah zai Tryz.func222 rfl (by rfl) Tryz.ntmps222 (by kernel_rfl) (by simp) ?_
 have e : (p == q) = (p.1 == q.1 && p.2 == q.2) := rfl
 simp
 refine zqk (fun h1 => ?_) (fun h1 => ?_)
 ·simp [h1]
  exact fin1 (rs := [.tmp 4]) (by rfl) (by simp [resA, e, h1]) (by simp [noFs, noF])
 ·simp [h1]
  exact fin1 (rs := [.tmp 4]) (by rfl) (by simp [resA, e, h1]) (by simp [noFs, noF])
theorem zgK (p : I) (n d : Int) (hp : vB p = true) (hn : 0 ≤ n ∧ n ≤ 1073741824) (hd : 1 ≤ d ∧ d ≤ 1073741824) (H : AH) : zaf E 200 [iv p, .int .i64 n, .int .i64 d] H (.ret (iv (mulr p n d))) H := by
 refine zab zah zai Tryz.func200 rfl (by rfl) Tryz.ntmps200 (by kernel_rfl) (by simp) ?_
 simp
 refine zaa (zbk p _) ?_
 have hb := zao hp
 simp
 refine zak (fun he => ?_) (fun he => ?_)
 ·simp
  exact fin1 (rs := [.cell 6 48]) (by rfl) (by simp [resA, mulr, he]) (by simp [noFs, noF])
 ·have b1 : -2305843009213693952 ≤ p.1 * n ∧ p.1 * n ≤ p.2 * n ∧ p.2 * n ≤ 2305843009213693952 := by
   have h1 := Int.mul_le_mul_of_nonneg_right hb.2.2 hn.1
   have h2 := Int.mul_le_mul_of_nonneg_right hb.1 hn.1
   have h3 := Int.mul_le_mul_of_nonneg_right hb.2.1 hn.1
   omega
  have w1 : IntKind.i64.wrap (p.1 * n) = p.1 * n := zae (by omega) (by omega)
  have w2 : IntKind.i64.wrap (p.2 * n) = p.2 * n := zae (by omega) (by omega)
  have m1 : min (p.1 * n) (p.2 * n) = p.1 * n := by omega
  have m2 : max (p.1 * n) (p.2 * n) = p.2 * n := by omega
  simp [w1, w2, zbI, zbo, m1, m2]
  refine endD [] (by rfl) (by simp [okW, note, Eff.triv, Eff.wr, Eff.none, upTo, newAt]) ?_
  simp
  refine zaa (zgM (p.1 * n) d (by omega) (by omega) _) ?_
  simp
  refine zaa (zmI (p.2 * n) d (by omega) (by omega) _) ?_
  simp
  refine zaa (rNew _ _ _) ?_
  simp
  exact fin1 (rs := [.cell 6 48]) (by rfl) (by simp [resA, mulr, he]) (by simp [noFs, noF])
def bx (l : List I) : AV := .slice (l.map iv) false
theorem zpn {H A J : AH} {v v0 : AV} {sz : Nat} {l : List AV} (h : Acc (H ++ A) J v sz l v0) : Acc H (A ++ J) v sz l v0 := by
 rcases h with h | ⟨k, h1, h2⟩
 ·exact .inl h
 ·exact .inr ⟨A.length + k, by rw [h1, List.length_append, Nat.add_assoc], by rw [List.getElem?_append_right (by omega), Nat.add_sub_cancel_left]; exact h2⟩
theorem zaJ (l : List I) (n : Nat) : noFs n (l.map iv) = true := zaE.2 fun x hx => by obtain ⟨y, _, rfl⟩ := List.mem_map.1 hx; simp [noF, noFs]
theorem zb2 {H J : AH} {b : Nat} {x y : ABlk} (h : b < H.length) : (H.set b x ++ J).set b y = H.set b y ++ J := by
 rw [List.set_append_left _ _ (by simpa using h), List.set_set]
theorem zlL {H J : AH} {v v0 : AV} {l : List I} {p : I} (hacc : Acc H J v 2 (l.map iv) v0) (h0 : zf9 v0 = true) (hl : l.length ≤ 1000000000) :
  ∃ v' J', zar tab (H ++ J) 23 v (.slice [iv p] true) = some (v', H ++ J') ∧ Acc H J' v' 2 ((l ++ [p]).map iv) v0 ∧ (∀ j y, J[j]? = some y → (∀ n, v ≠ .ref (H.length + j) n) → J'[j]? = some y) ∧ J.length ≤ J'.length := by
 obtain ⟨v', J', hap, hacc', hk, hle, _⟩ := Acc.push (T := tab) (t := 23) (e := 48) (x := .slice [iv p] true) (ys := [iv p]) hacc tab23 rfl tab48 h0 rfl (by simp [okc]) ⟨by decide, by simp⟩ (by simp; omega) (by simp; omega)
 exact ⟨v', J', hap, by simpa using hacc', hk, hle⟩
theorem zpi {m : Nat} (hm : m ≤ 16) (x : Int) : andA .i64 x ((2 ^ m - 1 : Nat) : Int) = low x ((2 ^ m - 1 : Nat) : Int) := by
 have h0 : (2 : Nat) ^ m ≤ 65536 := Nat.pow_le_pow_right (n := 2) (by decide) hm
 have h00 : 0 < (2 : Nat) ^ m := Nat.pow_pos (by decide)
 unfold andA low
 have e1 : (BitVec.ofInt 64 ((2 ^ m - 1 : Nat) : Int)).toNat = 2 ^ m - 1 := by
  rw [BitVec.toNat_ofInt]; omega
 have e2 : ((BitVec.ofInt 64 x &&& BitVec.ofInt 64 ((2 ^ m - 1 : Nat) : Int)).toNat : Int) = x % ((2 ^ m : Nat) : Int) := by
  rw [BitVec.toNat_and, e1, Nat.and_two_pow_sub_one_eq_mod, BitVec.toNat_ofInt]
  rw [Int.natCast_emod, Int.toNat_of_nonneg (Int.emod_nonneg _ (by decide))]
  rw [Int.emod_emod_of_dvd]
  have : ((2 : Nat) ^ 64 : Int) = ((2 ^ m : Nat) : Int) * ((2 ^ (64 - m) : Nat) : Int) := by
   rw [← Int.natCast_mul, ← Nat.pow_add, show m + (64 - m) = 64 by omega]; rfl
  exact ⟨_, this⟩
 have e3 : IntKind.i64.bits = 64 := rfl
 rw [e3, e2]
 have e4 : ((2 ^ m - 1 : Nat) : Int) + 1 = ((2 ^ m : Nat) : Int) := by omega
 rw [e4]
 have h1 := Int.emod_nonneg x (b := ((2 ^ m : Nat) : Int)) (by omega)
 have h2 := Int.emod_lt_of_pos x (b := ((2 ^ m : Nat) : Int)) (by omega)
 exact zae (by omega) (by omega)
theorem zpk (x : Int) : andA .i64 x 255 = low x 255 := zpi (m := 8) (by decide) x
theorem and1' (x : Int) : andA .i64 x 1 = low x 1 := zpi (m := 1) (by decide) x
def insA (x : Ins) : AV := .agg [.int .i64 x.op, .int .i64 x.a, .int .i64 x.b, .int .i64 x.c.1, .int .i64 x.c.2]
def outA (l : List Nat) : AV := .slice (l.map fun k : Nat => .int .i64 (k : Int)) false
def tpA (t : Tp) : AV := .agg [.int .i64 (t.n : Int), .slice (t.L.map insA) false, outA t.out]
theorem r8Op (o : Int) (p q : I) (hp : vB p = true) (hq : vB q = true) (H : AH) : zaf E 261 [.int .i64 o, iv p, iv q] H (.ret (iv (opI o p q))) H := by
 refine zab zah zai Tryz.func261 rfl (by rfl) Tryz.ntmps261 (by kernel_rfl) (by simp) ?_
 simp
 refine zak (fun hc => ?_) (fun hc => ?_)
 ·have h4 : o = 4 := by simpa using hc
  simp
  refine zaa (rNeg p hp _) ?_
  simp
  exact fin1 (rs := [.cell 6 48]) (by rfl) (by simp [resA, opI, h4]) (by simp [noFs, noF])
 have h4 : ¬ o = 4 := by simpa using hc
 simp
 refine zak (fun hc => ?_) (fun hc => ?_)
 ·have h5 : o = 5 := by simpa using hc
  simp
  refine zaa (zk1 p hp _) ?_
  simp
  exact fin1 (rs := [.cell 6 48]) (by rfl) (by simp [resA, opI, h5]) (by simp [noFs, noF])
 have h5 : ¬ o = 5 := by simpa using hc
 simp
 refine zak (fun hc => ?_) (fun hc => ?_)
 ·have h6 : o = 6 := by simpa using hc
  simp
  refine zak (fun hc => ?_) (fun hc => ?_)
  ·have h0 : p.1 < 0 := by simpa using hc
   simp
   refine zaa (zb3 _) ?_
   simp
   exact fin1 (rs := [.cell 6 48]) (by rfl) (by simp [resA, opI, h6, zcQ, h0]) (by simp [noFs, noF])
  ·have h0 : ¬ p.1 < 0 := by simpa using hc
   have hb := zao hp
   simp
   refine zaa (zrT p hp (by omega) _) ?_
   simp
   exact fin1 (rs := [.cell 6 48]) (by rfl) (by simp [resA, opI, h6, zcQ, h0]) (by simp [noFs, noF])
 have h6 : ¬ o = 6 := by simpa using hc
 simp
 refine zak (fun hc => ?_) (fun hc => ?_)
 ·have h7 : o = 7 := by simpa using hc
  simp
  refine zaa (rAdd p q hp hq _) ?_
  simp
  exact fin1 (rs := [.cell 6 48]) (by rfl) (by simp [resA, opI, h7]) (by simp [noFs, noF])
 have h7 : ¬ o = 7 := by simpa using hc
 simp
 refine zak (fun hc => ?_) (fun hc => ?_)
 ·have h8 : o = 8 := by simpa using hc
  simp
  refine zaa (rSub p q hp hq _) ?_
  simp
  exact fin1 (rs := [.cell 6 48]) (by rfl) (by simp [resA, opI, h8]) (by simp [noFs, noF])
 have h8 : ¬ o = 8 := by simpa using hc
 simp
 refine zak (fun hc => ?_) (fun hc => ?_)
 ·have h9 : o = 9 := by simpa using hc
  simp
  refine zaa (rMul p q hp hq _) ?_
  simp
  exact fin1 (rs := [.cell 6 48]) (by rfl) (by simp [resA, opI, h9]) (by simp [noFs, noF])
 have h9 : ¬ o = 9 := by simpa using hc
 simp
 refine zaa (rDiv p q hp hq _) ?_
 simp
 exact fin1 (rs := [.cell 6 48]) (by rfl) (by simp [resA, opI, h4, h5, h6, h7, h8, h9]) (by simp [noFs, noF])
@[simp] theorem bin_one (g : Nat) (H : AH) (z : Bool) : zav tab H .neq 139 (.func (.func g) [] []) .nilfunc z = some (.bool true, H) := by simp [zav, binA, eqA, nilI]
@[simp] theorem bin_two (H : AH) (z : Bool) : zav tab H .neq 139 .nilfunc .nilfunc z = some (.bool false, H) := by simp [zav, binA, eqA, nilI]
def padI (l : List I) (n : Nat) : List AV := (l ++ List.replicate (n - l.length) (0, 0)).map iv
theorem ziD {l : List I} {n : Nat} (h : l.length ≤ n) : (padI l n).length = n := by simp [padI]; omega
theorem ziB {l : List I} {n : Nat} {p : I} (h : l.length < n) : (padI l n).set l.length (iv p) = padI (l ++ [p]) n := by
 unfold padI
 have e : List.replicate (n - l.length) ((0, 0) : I) = (0, 0) :: List.replicate (n - (l ++ [p]).length) (0, 0) := by
  rw [show n - l.length = (n - (l ++ [p]).length) + 1 by simp; omega, List.replicate_succ]
 rw [e]
 simp
theorem zgS {l : List I} {n k : Nat} (h : l.length ≤ k) (hk : k < n) : (padI l n)[k]? = some (iv (0, 0)) := by
 unfold padI
 rw [List.getElem?_map, List.getElem?_append_right h, List.getElem?_replicate, if_pos (by omega)]; rfl
theorem ziE {l : List I} {n : Nat} (h : l.length = n) : padI l n = l.map iv := by simp [padI, h]
theorem ziC (n : Nat) : padI [] n = List.replicate n (iv (0, 0)) := by simp [padI]
theorem zsZ {H : AH} {t e : TypeId} {i ie : TI} {x : AV} {l : List AV} {b n sz : Nat} {f : Bool} (hi : tab t = some i) (hd : i.d = .slice e) (he : tab e = some ie) (h1 : ie.size = sz) (h0 : 0 < sz) (hx : ([x].all fun y => y.cells.length == sz && y.cells.all okc) = true) (hz : (zaF ie.zero).map List.length = some sz) (hb : ie.bytes ≤ 1000) (hn : l.length = n) (hnb : n ≤ 1000000000) (hH : H[b]? = some (.row true sz l)) :
  zar tab H t (.ref b n) (.slice [x] f) = some (.ref b (n + 1), H.set b (.row true sz (l ++ [x]))) := by
 subst hn
 have h2 : zar tab H t (.ref b l.length) (.slice [x] f) = zb7 ie H (.ref b l.length) [x] := by
  simp only [zar, hi, hd, he, els]
  rw [if_neg (by simp), if_pos ⟨by omega, by rw [h1]; exact hz, by rw [h1]; exact hx⟩]
 have hk : (l.length + 1) * ie.bytes ≤ 1000000001 * 1000 := Nat.mul_le_mul (by omega) hb
 rw [h2]
 simp only [zb7, hH]
 rw [if_pos (by simp [h1]; omega)]
 simp [h1]
theorem zhj {H : AH} {p : I} {l : List AV} {b n : Nat} {f : Bool} (hn : l.length = n) (hnb : n ≤ 1000000000) (hH : H[b]? = some (.row true 2 l)) :
  zar tab H 23 (.ref b n) (.slice [iv p] f) = some (.ref b (n + 1), H.set b (.row true 2 (l ++ [iv p]))) :=
 zsZ tab23 rfl tab48 rfl (by decide) (by simp [okc]) (by simp) (by decide) hn hnb hH
def LRe (T : Tp) (x : List I) (t : I) (H : AH) (i : Nat) (fr : AFr) (H' : AH) : Prop :=
 fr 1 = bx x ∧ fr 3 = .ptr H.length 1 0 0 ∧ fr 5 = .ptr (H.length + 1) 1 0 0 ∧ fr 8 = .slice [] true ∧ fr 9 = .int .i64 i ∧ i ≤ T.L.length ∧
 ∃ J, H' = H ++ J ∧ J[0]? = some (.row true 3 [tpA T]) ∧ J[1]? = some (.row true 2 [iv t]) ∧ Acc H J (fr 7) 2 ((zbb (T.L.take i) x t).map iv) (.slice [] true) ∧ (∀ n, fr 7 ≠ .ref (H.length + 0) n) ∧ (∀ n, fr 7 ≠ .ref (H.length + 1) n)
def LRo (T : Tp) (l : List I) (H : AH) (i : Nat) (fr : AFr) (H' : AH) : Prop :=
 fr 3 = .ptr H.length 1 0 0 ∧ fr 11 = .int .i64 i ∧ i ≤ T.out.length ∧
 ∃ J, H' = H ++ J ∧ J[0]? = some (.row true 3 [tpA T]) ∧ Acc H J (fr 8) 2 ((T.out.take i).map fun k : Nat => iv (at0 l k)) (.slice [] true) ∧ (∀ n, fr 8 ≠ .ref (H.length + 0) n) ∧
  (T.out ≠ [] → ∃ kk, fr 7 = .ref (H.length + kk) l.length ∧ J[kk]? = some (.row true 2 (l.map iv)) ∧ ∀ n, fr 8 ≠ .ref (H.length + kk) n)
theorem ztO (T : Tp) (x : List I) (t : I) (hT : tpOk T) (hx : allV x) (hxn : x.length = T.n) (ht : vB t = true) (H : AH) : zaf E 220 [tpA T, bx x, iv t] H (.ret (bx (zcS T x t))) H := by
 refine zab zah zai Tryz.func220 rfl (by rfl) Tryz.ntmps220 (by kernel_rfl) (by simp) ?_
 have hsm := hT.small
 simp [tpA]
 refine zag (LRe T x t H) (fun i => T.L.length - i) 0 ⟨by simp, by simp, by simp, by simp, by simp, by omega, _, rfl, by simp [tpA], by simp, .inl ⟨by simp [zbb], by simp⟩, by simp, by simp⟩ ?_
 rintro i fr H' ⟨g1, g3, g5, g8, g9, hi, J, rfl, hJ0, hJ1, hacc, hn0, hn1⟩
 have hJl : 1 < J.length := (gI.1 hJ1).1
 simp [g3, g9, hJ0, tpA]
 refine zak (fun hc => ?_) (fun hc => ?_)
 ·have hlt : i < T.L.length := by simpa using hc
  obtain ⟨y, hy⟩ := zaj hlt
  have hins := hT.ins i y hy
  have hnext : zbb (T.L.take (i + 1)) x t = zbb (T.L.take i) x t ++ [insV y (zbb (T.L.take i) x t) x t] := by rw [List.take_add_one, hy]; exact zcw _ _ _ _
  have hlen : (zbb (T.L.take i) x t).length = i := by rw [zcD]; simp; omega
  have hval : allV (zbb (T.L.take i) x t) := zcC hx ht fun z hz => hT.num z (List.mem_of_mem_take hz)
  have w2 : IntKind.i64.wrap ((i : Int) + 1) = ((i + 1 : Nat) : Int) := by rw [zae (by omega) (by omega)]; omega
  have hyE : ∀ h, T.L[i]'h = y := fun h => (gI.1 hy).2
  have hpush : ∀ (L : AH) (p : I), insV y (zbb (T.L.take i) x t) x t = p → ∃ v' J', zar tab (H ++ (J ++ L)) 23 (fr 7) (.slice [iv p] true) = some (v', H ++ J') ∧
    (∃ J2, H ++ J' = H ++ J2 ∧ J2[0]? = some (.row true 3 [tpA T]) ∧ J2[1]? = some (.row true 2 [iv t]) ∧ Acc H J2 v' 2 ((zbb (T.L.take (i + 1)) x t).map iv) (.slice [] true) ∧ (∀ n, v' ≠ .ref (H.length + 0) n) ∧ (∀ n, v' ≠ .ref (H.length + 1) n)) := by
   intro L p hp
   obtain ⟨v', J', hap, hacc', hk, hle, hnew⟩ := Acc.push (T := tab) (t := 23) (e := 48) (x := .slice [iv p] true) (ys := [iv p]) (hacc.len (L := L)) tab23 rfl tab48 rfl rfl (by simp [okc]) ⟨by decide, by simp⟩ (by rw [List.length_map, hlen]; dsimp only [List.length_cons, List.length_nil]; omega) (by rw [List.length_map, hlen]; dsimp only [List.length_cons, List.length_nil]; omega)
   have hnv : ∀ c, c < 2 → (∀ n, fr 7 ≠ .ref (H.length + c) n) → ∀ n, v' ≠ .ref (H.length + c) n := by
    intro c hc2 hf n hv
    rcases hnew c n hv with ⟨m, hm⟩ | hm
    ·exact hf m hm
    ·simp at hm; omega
   refine ⟨v', J', hap, J', rfl, hk 0 _ (zad hJ0) hn0, hk 1 _ (zad hJ1) hn1, ?_, hnv 0 (by omega) hn0, hnv 1 (by omega) hn1⟩
   rw [hnext, hp]
   simpa using hacc'
  obtain ⟨o, a, b, c⟩ := y
  rcases hins with ⟨h1, h2⟩ | ⟨h1, h2⟩ | h1 | h1 | h1
  ·simp only at h1
   subst h1
   obtain ⟨v', J', hap, hfin⟩ := hpush [.row true 5 [insA ⟨1, a, b, c⟩]] c (by simp [insV])
   simp [g1, g3, g5, g9, hy, hyE, insA, ↓old hJ0, hJ0, tpA]
   refine bind_some (by simpa [insA] using hap) ?_
   simp [g9, w2]
   exact ⟨i + 1, by show T.L.length - (i + 1) < T.L.length - i; omega, by simp [g1], by simp [g3], by simp [g5], by simp [g8], by simp, by omega, hfin⟩
  ·simp only at h1 h2
   subst h1
   obtain ⟨k, rfl⟩ : ∃ k : Nat, a = k := ⟨a.toNat, by omega⟩
   obtain ⟨p, hp⟩ := zaj (l := x) (i := k) (by omega)
   have hpE : ∀ h, x[k]'h = p := fun h => (gI.1 hp).2
   obtain ⟨v', J', hap, hfin⟩ := hpush [.row true 5 [insA ⟨2, k, b, c⟩]] p (by simp [insV, at0, hp])
   simp [g1, g3, g5, g9, hy, hyE, insA, ↓old hJ0, hJ0, tpA, bx, hp, hpE]
   refine bind_some (by simpa [insA] using hap) ?_
   simp [g9, w2]
   exact ⟨i + 1, by show T.L.length - (i + 1) < T.L.length - i; omega, by simp [g1, bx], by simp [g3], by simp [g5], by simp [g8], by simp, by omega, hfin⟩
  ·simp only at h1
   subst h1
   obtain ⟨v', J', hap, hfin⟩ := hpush [.row true 5 [insA ⟨3, a, b, c⟩]] t (by simp [insV])
   simp [g1, g3, g5, g9, hy, hyE, insA, ↓old hJ0, ↓old hJ1, hJ0, tpA]
   refine bind_some (by simpa [insA] using hap) ?_
   simp [g9, w2]
   exact ⟨i + 1, by show T.L.length - (i + 1) < T.L.length - i; omega, by simp [g1], by simp [g3], by simp [g5], by simp [g8], by simp, by omega, hfin⟩
  all_goals
   have h1' : 4 ≤ o ∧ o ≤ 10 ∧ 0 ≤ a ∧ a < i ∧ 0 ≤ b ∧ b < i := by simp only at h1; omega
   clear h1
   obtain ⟨h1, h2, h3, h4, h5, h6⟩ := h1'
   obtain ⟨k, rfl⟩ : ∃ k : Nat, a = k := ⟨a.toNat, by omega⟩
   obtain ⟨m, rfl⟩ : ∃ m : Nat, b = m := ⟨b.toNat, by omega⟩
   obtain ⟨p, hp⟩ := zaj (l := zbb (T.L.take i) x t) (i := k) (by omega)
   obtain ⟨q, hq⟩ := zaj (l := zbb (T.L.take i) x t) (i := m) (by omega)
   have hpE : ∀ h, (zbb (T.L.take i) x t)[k]'h = p := fun h => (gI.1 hp).2
   have hqE : ∀ h, (zbb (T.L.take i) x t)[m]'h = q := fun h => (gI.1 hq).2
   have hpv := hval p (List.mem_of_getElem? hp)
   have hqv := hval q (List.mem_of_getElem? hq)
   have e1 : (o == 1) = false := by simp; omega
   have e2 : (o == 2) = false := by simp; omega
   have e3 : (o == 3) = false := by simp; omega
   have hins : insV ⟨o, k, m, c⟩ (zbb (T.L.take i) x t) x t = opI o p q := by
    have n1 : ¬ o = 1 := by omega
    have n2 : ¬ o = 2 := by omega
    have n3 : ¬ o = 3 := by omega
    simp [insV, n1, n2, n3, at0, hp, hq]
   rcases hacc with ⟨h0, _⟩ | ⟨kk, hv, hJk⟩
   ·have : (zbb (T.L.take i) x t).length = 0 := by simpa using congrArg List.length h0
    omega
   rw [List.length_map, hlen] at hv
   have hkk0 : kk ≠ 0 := by intro e; subst e; exact hn0 i hv
   have hkk1 : kk ≠ 1 := by intro e; subst e; exact hn1 i hv
   have hkl : kk < J.length := (gI.1 hJk).1
   have hki : k < i := by omega
   have hmi : m < i := by omega
   simp [g1, g3, g5, g9, hv, hy, hyE, insA, ↓old hJ0, ↓old hJ1, hJ0, tpA, e1, e2, e3, ↓old hJk, hJk, hlen, hp, hpE, hq, hqE, hki, hmi]
   refine zac (fun Hx => r8Op o p q hpv hqv Hx) ?_
   simp
   refine bind_some (zhj (p := opI o p q) (l := (zbb (T.L.take i) x t).map iv) (by simp [hlen]) (by omega) (by simp [old hJk])) ?_
   simp [olds hJk]
   refine endD [(6, 15), (7, 15), (11, 15), (12, 15)] (by rfl) (by simp [okW, note, Eff.triv, Eff.wr, Eff.none, upTo, newAt]; omega) ?_
   simp [g9, w2]
   refine ⟨i + 1, by show T.L.length - (i + 1) < T.L.length - i; omega, by simp [g1], by simp [g3], by simp [g5], by simp [g8], by simp, by omega, _, rfl, zad ?_, zad ?_, ?_, ?_, ?_⟩
   ·rw [List.getElem?_set_ne hkk0]; exact hJ0
   ·rw [List.getElem?_set_ne hkk1]; exact hJ1
   ·rw [hnext, hins]
    exact .inr ⟨kk, by simp [hlen], by simpa using set_get' hJk⟩
   ·intro n; simp; omega
   ·intro n; simp; omega
 ·have hi' : i = T.L.length := by have : ¬ i < T.L.length := by simpa using hc
                                  omega
  subst hi'
  rw [List.take_length] at hacc
  have hol : T.out.length ≤ 1000 := by rw [hT.len]; exact hsm.1
  have hlen := zcD x t T.L
  have hval : allV (zbb T.L x t) := zcC hx ht hT.num
  have hev : zcS T x t = T.out.map fun k : Nat => at0 (zbb T.L x t) (k : Int) := rfl
  rw [hev]
  generalize zbb T.L x t = l at *
  simp
  refine zag (LRo T l H) (fun i => T.out.length - i) 0 ⟨by simp [g3], by simp, by omega, J, rfl, hJ0, .inl ⟨by simp, by simp [g8]⟩, by simp [g8], ?_⟩ ?_
  ·intro hne
   rcases hacc with ⟨h0, _⟩ | ⟨kk, hv, hJk⟩
   ·exfalso
    have h0' : l = [] := by simpa using h0
    obtain ⟨o, r, ho⟩ := List.exists_cons_of_ne_nil hne
    have := hT.out o (by rw [ho]; simp)
    rw [h0'] at hlen; simp at hlen; omega
   ·exact ⟨kk, by simpa using hv, hJk, by simp [g8]⟩
  clear hJ0 hJ1 hJl g1 g3 g5 g8 g9 hi hc hacc hn0 hn1 hev
  rintro i fr H' ⟨g3, g11, hi, J', rfl, hJ0, hacc, hn0, hrd⟩
  have hJl : 0 < J'.length := (gI.1 hJ0).1
  simp [g3, g11, hJ0, tpA, outA]
  refine zak (fun hc => ?_) (fun hc => ?_)
  ·have hlt : i < T.out.length := by simpa using hc
   obtain ⟨o, ho⟩ := zaj hlt
   have hoE : ∀ h, T.out[i]'h = o := fun h => (gI.1 ho).2
   have hol2 : o < l.length := by rw [hlen]; exact hT.out o (List.mem_of_getElem? ho)
   obtain ⟨p, hp⟩ := zaj (l := l) (i := o) hol2
   have hpE : ∀ h, l[o]'h = p := fun h => (gI.1 hp).2
   have w2 : IntKind.i64.wrap ((i : Int) + 1) = ((i + 1 : Nat) : Int) := by rw [zae (by omega) (by omega)]; omega
   obtain ⟨kk, hv, hJk, hne⟩ := hrd (by intro e; rw [e] at hlt; simp at hlt)
   obtain ⟨v', J2, hap, hacc', hk, hle, hnew⟩ := Acc.push (T := tab) (t := 23) (e := 48) (x := .slice [iv p] true) (ys := [iv p]) hacc tab23 rfl tab48 rfl rfl (by simp [okc]) ⟨by decide, by simp⟩ (by rw [List.length_map, List.length_take]; dsimp only [List.length_cons, List.length_nil]; omega) (by rw [List.length_map, List.length_take]; dsimp only [List.length_cons, List.length_nil]; omega)
   have hnv : ∀ c, c < J'.length → (∀ n, fr 8 ≠ .ref (H.length + c) n) → ∀ n, v' ≠ .ref (H.length + c) n := by
    intro c hc2 hf n hv
    rcases hnew c n hv with ⟨m, hm⟩ | hm
    ·exact hf m hm
    ·omega
   have hft : T.out.take (i + 1) = T.out.take i ++ [o] := by rw [List.take_add_one, ho]; rfl
   simp [g3, g11, hv, hJ0, tpA, outA, ho, hoE, hol2, hJk, hp, hpE]
   refine bind_some (by simpa using hap) ?_
   simp [g11, w2]
   refine ⟨i + 1, by show T.out.length - (i + 1) < T.out.length - i; omega, by simp [g3], by simp, by omega, J2, rfl, hk 0 _ hJ0 hn0, ?_, hnv 0 hJl hn0, fun _ => ⟨kk, by simp [hv], hk kk _ hJk hne, hnv kk (gI.1 hJk).1 hne⟩⟩
   rw [hft]
   simpa [at0, hp] using hacc'
  ·have hi' : i = T.out.length := by have : ¬ i < T.out.length := by simpa using hc
                                     omega
   subst hi'
   rw [List.take_length] at hacc
   simp
   have e : (T.out.map fun k : Nat => iv (at0 l k)) = (T.out.map fun k : Nat => at0 l k).map iv := by simp
   rw [e] at hacc
   exact finS (t := 6) (by rfl) (by simp) hacc rfl (zaJ _ _)
theorem zrW (op : Int) (H : AH) : zaf E 104 [.int .i64 op] H (.ret (.int .i64 (zbq op))) H := by
 refine zab zah zai Tryz.func104 rfl (by rfl) Tryz.ntmps104 (by kernel_rfl) (by simp) ?_
 by_cases h1 : 1 ≤ op
 ·by_cases h3 : op ≤ 3
  ·have e : zbq op = 0 := by unfold zbq; rw [if_pos (by omega)]
   simp [h1, h3]
   exact fin0 (rs := [.tmp 2]) (by rfl) (by simp [resA, e])
  ·by_cases h4 : op ≤ 6
   ·have e : zbq op = 1 := by unfold zbq; rw [if_neg (by omega), if_pos (by omega)]
    have h5 : 4 ≤ op := by omega
    simp [h1, h3, h4, h5]
    exact fin0 (rs := [.tmp 2]) (by rfl) (by simp [resA, e])
   ·by_cases h6 : op ≤ 10
    ·have e : zbq op = 2 := by unfold zbq; rw [if_neg (by omega), if_neg (by omega), if_pos (by omega)]
     have h5 : 4 ≤ op := by omega
     have h7 : 7 ≤ op := by omega
     simp [h1, h3, h4, h5, h6, h7]
     exact fin0 (rs := [.tmp 2]) (by rfl) (by simp [resA, e])
    ·have e : zbq op = -1 := by unfold zbq; rw [if_neg (by omega), if_neg (by omega), if_neg (by omega)]
     have h5 : 4 ≤ op := by omega
     have h7 : 7 ≤ op := by omega
     simp [h1, h3, h4, h5, h6, h7]
     exact fin0 (rs := [.tmp 2]) (by rfl) (by simp [resA, e])
 ·have e : zbq op = -1 := by unfold zbq; rw [if_neg (by omega), if_neg (by omega), if_neg (by omega)]
  have h5 : ¬ 4 ≤ op := by omega
  have h7 : ¬ 7 ≤ op := by omega
  simp [h1, h5, h7]
  exact fin0 (rs := [.tmp 2]) (by rfl) (by simp [resA, e])
theorem ztN (x y : Ins) (H : AH) : zaf E 161 [insA x, insA y] H (.ret (.bool (decide (x = y)))) H := by
 refine zab zah zai Tryz.func161 rfl (by rfl) Tryz.ntmps161 (by kernel_rfl) (by simp) ?_
 have e : decide (x = y) = ((x.op == y.op && x.a == y.a) && x.b == y.b && x.c == y.c) := by
  rw [Bool.eq_iff_iff]; cases x; cases y; simp [and_assoc]
 rw [e]
 simp [insA]
 refine zqk (fun h1 => ?_) (fun h1 => ?_)
 ·simp [h1]
  refine zqk (fun h2 => ?_) (fun h2 => ?_)
  ·simp [h2]
   refine zqk (fun h3 => ?_) (fun h3 => ?_)
   ·simp [h3]
    refine zaa (ztG x.c y.c _) ?_
    simp
    exact fin1 (rs := [.tmp 4]) (by rfl) (by simp [resA, h1, h2, h3]) (by simp [noFs, noF])
   ·simp [h3]
    exact fin1 (rs := [.tmp 4]) (by rfl) (by simp [resA, h1, h2, h3]) (by simp [noFs, noF])
  ·simp [h2]
   exact fin1 (rs := [.tmp 4]) (by rfl) (by simp [resA, h1, h2]) (by simp [noFs, noF])
 ·simp [h1]
  exact fin1 (rs := [.tmp 4]) (by rfl) (by simp [resA, h1]) (by simp [noFs, noF])
def lA (l : List Ins) : AV := if l = [] then .nilslice else .slice (l.map insA) false
theorem zgm (l : List Ins) (n : Nat) : noFs n (l.map insA) = true := zaE.2 fun x hx => by obtain ⟨y, _, rfl⟩ := List.mem_map.1 hx; simp [insA, noF, noFs]
def LEm (l : List Ins) (x : Ins) (v : AV) (H : AH) (i : Nat) (fr : AFr) (H' : AH) : Prop :=
 fr 0 = v ∧ fr 3 = .ptr H.length 1 0 0 ∧ fr 6 = .int .i64 i ∧ i ≤ l.length ∧ (∀ j y, j < i → l[j]? = some y → y ≠ x) ∧ H' = H ++ [.row true 5 [insA x]]
theorem ztP (l : List Ins) (x : Ins) (hl : l.length ≤ 100000) (H : AH) : zaf E 105 [lA l, insA x] H (.ret (.tuple [lA (zbr l x).1, .int .i64 (zbr l x).2])) H := by
 refine zab zah zai Tryz.func105 rfl (by rfl) Tryz.ntmps105 (by kernel_rfl) (by simp) ?_
 simp
 refine zag (LEm l x (lA l) H) (fun i => l.length - i) 0 ⟨by simp, by simp, by simp, by omega, by intro j y hj; omega, by simp [insA]⟩ ?_
 rintro i fr H' ⟨g0, g3, g6, hi, hno, rfl⟩
 have hend : ∀ (fr : AFr), fr 0 = lA l → fr 3 = .ptr H.length 1 0 0 → fr 6 = .int .i64 l.length → (∀ j y, j < l.length → l[j]? = some y → y ≠ x) → ∀ J0 : AH, J0 = [.row true 5 [insA x]] →
   ∃ v' J', (∃ v1 J1, zar tab (H ++ J0) 42 (.slice [] true) (lA l) = some (v1, H ++ J1) ∧ J1[0]? = some (.row true 5 [insA x]) ∧ zar tab (H ++ J1) 42 v1 (.slice [insA x] true) = some (v', H ++ J')) ∧
    Acc H J' v' 5 ((l ++ [x]).map insA) (.slice [] true) := by
  intro fr g0 g3 g6 hno J0 hJ0
  subst hJ0
  have hels : els (H ++ [.row true 5 [insA x]]) (lA l) = some (l.map insA) := by
   unfold lA; split
   ·rename_i h; subst h; rfl
   ·rfl
  obtain ⟨v1, J1, hap, hacc, hk, _, hnew⟩ := Acc.push (T := tab) (t := 42) (e := 165) (H := H) (J := [.row true 5 [insA x]]) (v := .slice [] true) (v0 := .slice [] true) (xs := []) (.inl ⟨rfl, rfl⟩) tab42 rfl tab165 rfl hels (by rw [List.all_eq_true]; intro z hz; obtain ⟨y, _, rfl⟩ := List.mem_map.1 hz; simp [insA, okc]) ⟨by decide, by simp⟩ (by simp; omega) (by simp; omega)
  have hJ10 : J1[0]? = some (.row true 5 [insA x]) := hk 0 _ rfl (by simp)
  obtain ⟨v2, J2, hap2, hacc2, _⟩ := Acc.push (T := tab) (t := 42) (e := 165) (x := .slice [insA x] true) (ys := [insA x]) hacc tab42 rfl tab165 rfl rfl (by simp [insA, okc]) ⟨by decide, by simp⟩ (by simp; omega) (by simp; omega)
  exact ⟨v2, J2, ⟨v1, J1, hap, hJ10, hap2⟩, by simpa using hacc2⟩
 by_cases hl0 : l = []
 ·subst hl0
  have hi0 : i = 0 := by simpa using hi
  subst hi0
  have hlA : lA [] = .nilslice := rfl
  have he : zbr [] x = ([x], 0) := rfl
  obtain ⟨v', J', ⟨v1, J1, ha1, hld, ha2⟩, hacc⟩ := hend fr g0 g3 g6 (by simp) _ rfl
  have hJ1l : 0 < J1.length := (gI.1 hld).1
  rw [he]
  simp [g0, g3, g6, hlA]
  refine bind_some (by simpa [insA, hlA] using ha1) ?_
  simp [g3, hld, insA]
  refine bind_some (by simpa [insA] using ha2) ?_
  simp [g0, hlA]
  rcases hacc with ⟨h0, _⟩ | ⟨kk, hv, hJk⟩
  ·simp at h0
  subst hv
  have hnl : lA [x] = .slice ([x].map insA) false := by unfold lA; rw [if_neg (by simp)]
  rw [hnl]
  exact finC (J := J') (J' := J'.set kk (.row false 5 ([x].map insA))) (rs := [.tmp 4, .tmp 5]) (vs := [.ref (H.length + kk) ([x].map insA).length, .int .i64 0]) (vs' := [.slice ([x].map insA) false, .int .i64 0]) (by rfl) (by simp [resA]) (by simp [hJk] <;> simpa using hJk) (by simp [noFs, noF, insA]) rfl
 have hlA : lA l = .slice (l.map insA) false := by unfold lA; rw [if_neg hl0]
 simp [g0, g3, g6, hlA]
 refine zak (fun hc => ?_) (fun hc => ?_)
 ·have hlt : i < l.length := by simpa using hc
  obtain ⟨y, hy⟩ := zaj hlt
  have hyE : ∀ h, l[i]'h = y := fun h => (gI.1 hy).2
  have w2 : IntKind.i64.wrap ((i : Int) + 1) = ((i + 1 : Nat) : Int) := by rw [zae (by omega) (by omega)]; omega
  simp [g0, g3, g6, hlA, hy, hyE, insA]
  refine zac (fun Hx => ztN y x Hx) ?_
  simp
  refine endD [] (by rfl) (by simp [okW, note, Eff.triv, Eff.wr, Eff.none, upTo, newAt]) ?_
  simp
  refine zak (fun hq => ?_) (fun hq => ?_)
  ·have hq' : y = x := by simpa using hq
   subst hq'
   have he : zbr l y = (l, i) := by
    unfold zbr
    rw [show l.findIdx? (fun z => decide (z = y)) = some i from by
     rw [List.findIdx?_eq_some_iff_getElem]
     refine ⟨hlt, by simp [hyE], fun j hj => ?_⟩
     simpa using hno j _ hj (List.getElem?_eq_getElem (by omega))]
   rw [he]
   simp [g0, g6, hlA]
   exact finC (J := [.row true 5 [insA y]]) (rs := [.tmp 4, .tmp 5]) (vs := [.slice (l.map insA) false, .int .i64 i]) (vs' := [.slice (l.map insA) false, .int .i64 i]) (by rfl) (by simp [resA, g0, g6, hlA]) (by simp; rfl) (by simp [noFs, noF, zgm]) rfl
  ·have hq' : ¬ y = x := by simpa using hq
   simp [g6, w2]
   refine ⟨i + 1, by show l.length - (i + 1) < l.length - i; omega, by simp [g0, hlA], by simp [g3], by simp, by omega, fun j z hj hz => ?_, by simp [insA]⟩
   by_cases hji : j = i
   ·subst hji; rw [hy] at hz; cases hz; exact hq'
   ·exact hno j z (by omega) hz
 ·have hi' : i = l.length := by have : ¬ i < l.length := by simpa using hc
                                omega
  subst hi'
  have he : zbr l x = (l ++ [x], l.length) := by
   unfold zbr
   rw [show l.findIdx? (fun z => decide (z = x)) = none from by
    rw [List.findIdx?_eq_none_iff]
    intro z hz
    obtain ⟨j, hj⟩ := List.mem_iff_getElem?.1 hz
    simpa using hno j z (gI.1 hj).1 hj]
  rw [he]
  obtain ⟨v', J', ⟨v1, J1, ha1, hld, ha2⟩, hacc⟩ := hend fr g0 g3 g6 hno _ rfl
  simp [g0, g3, g6, hlA]
  refine bind_some (by simpa [insA, hlA] using ha1) ?_
  have hJ1l : 0 < J1.length := (gI.1 hld).1
  simp [g3, hld, insA]
  refine bind_some (by simpa [insA] using ha2) ?_
  simp [g0, hlA]
  rcases hacc with ⟨h0, _⟩ | ⟨kk, hv, hJk⟩
  ·simp at h0
  subst hv
  have hnl : lA (l ++ [x]) = .slice ((l ++ [x]).map insA) false := by unfold lA; rw [if_neg (by simp)]
  rw [hnl]
  exact finC (J := J') (J' := J'.set kk (.row false 5 ((l ++ [x]).map insA))) (rs := [.tmp 4, .tmp 5]) (vs := [.ref (H.length + kk) ((l ++ [x]).map insA).length, .int .i64 l.length]) (vs' := [.slice ((l ++ [x]).map insA) false, .int .i64 l.length]) (by rfl) (by simp [resA]) (by simp [hJk]) (by simp only [noFs, noF, zgm, Bool.and_self]) rfl
def nrb (l : List I) (w : Int) (n : Nat) : List I := (List.range n).map fun k => zdK ((l[k]?).getD (0, 0)) w
theorem zlP (l : List I) (w : Int) (n : Nat) : nrb l w (n + 1) = nrb l w n ++ [zdK ((l[n]?).getD (0, 0)) w] := by simp [nrb, List.range_succ]
theorem zk5 (l : List I) (w : Int) (n : Nat) : (nrb l w n).length = n := by simp [nrb]
theorem zla (p : I) {w : Int} (hw : 1 ≤ w ∧ w ≤ 1000000) : vB (zdK p w) = true := zhZ p hw
theorem zn2 (l : List I) {w : Int} (hw : 1 ≤ w ∧ w ≤ 1000000) (n : Nat) : allV (nrb l w n) := fun p hp => by
 obtain ⟨k, _, rfl⟩ := List.mem_map.1 hp; exact zla _ hw
def LBo (l : List I) (w : Int) (n : Nat) (H : AH) (i : Nat) (fr : AFr) (H' : AH) : Prop :=
 fr 0 = bx l ∧ fr 1 = .int .i64 n ∧ fr 2 = .int .i64 w ∧ fr 8 = .int .i64 i ∧ i ≤ n ∧ ∃ J, H' = H ++ J ∧ Acc H J (fr 7) 2 ((nrb l w i).map iv) (.slice [] true)
theorem zrV (l : List I) (n : Nat) (w : Int) (hn : n ≤ 1000000) (hw : 1 ≤ w ∧ w ≤ 1000000) (hl : l.length ≤ 200000000000000) (H : AH) : zaf E 58 [bx l, .int .i64 n, .int .i64 w] H (.ret (bx (nrb l w n))) H := by
 refine zab zah zai Tryz.func58 rfl (by rfl) Tryz.ntmps58 (by kernel_rfl) (by simp) ?_
 simp [bx]
 refine zag (LBo l w n H) (fun i => n - i) 0 ⟨by simp [bx], by simp, by simp, by simp, by omega, [], by simp, .inl ⟨by simp [nrb], by simp⟩⟩ ?_
 rintro i fr H' ⟨g0, g1, g2, g8, hi, J, rfl, hacc⟩
 simp [g1, g8]
 refine zak (fun hc => ?_) (fun hc => ?_)
 ·have hlt : i < n := by simpa using hc
  have w2 : IntKind.i64.wrap ((i : Int) + 1) = ((i + 1 : Nat) : Int) := by rw [zae (by omega) (by omega)]; omega
  simp [g0, g8, bx]
  refine zak (fun hc2 => ?_) (fun hc2 => ?_)
  ·have hlt2 : i < l.length := by simpa using hc2
   obtain ⟨p, hp⟩ := zaj hlt2
   have hpE : ∀ h, l[i]'h = p := fun h => (gI.1 hp).2
   simp [g0, g2, g8, bx, hp, hpE]
   refine zaa (zpS p w hw _) ?_
   simp
   obtain ⟨v', J', hap, hacc', _⟩ := zlL (p := zdK p w) (hacc.len (L := [.row true 2 [iv p]])) rfl (by rw [zk5]; omega)
   refine bind_some (by simpa [iv] using hap) ?_
   simp [g8, w2]
   exact ⟨i + 1, by show n - (i + 1) < n - i; omega, by simp [g0, bx], by simp [g1], by simp [g2], by simp, by omega, J', rfl, by rw [zlP]; simpa [hp] using hacc'⟩
  ·have hlt2 : l[i]? = none := by
    have : ¬ i < l.length := by simpa using hc2
    rw [List.getElem?_eq_none_iff]; omega
   simp [g2]
   refine zaa (zpS (0, 0) w hw _) ?_
   simp
   obtain ⟨v', J', hap, hacc', _⟩ := zlL (p := zdK (0, 0) w) (hacc.len (L := [.row true 2 [iv (0, 0)]])) rfl (by rw [zk5]; omega)
   refine bind_some (by simpa [iv] using hap) ?_
   simp [g8, w2]
   exact ⟨i + 1, by show n - (i + 1) < n - i; omega, by simp [g0, bx], by simp [g1], by simp [g2], by simp, by omega, J', rfl, by rw [zlP]; simpa [hlt2] using hacc'⟩
 ·have hi' : i = n := by have : ¬ i < n := by simpa using hc
                         omega
  subst hi'
  simp
  exact finS (t := 6) (by rfl) (by simp) hacc rfl (zaJ _ _)
theorem zuA (p : I) (h0 : p.2 < 0) (H : AH) : zaf E 182 [iv p] H (.ret (.tuple [iv (0, 0), .bool false])) H := by
 refine zab zah zai Tryz.func182 rfl (by rfl) Tryz.ntmps182 (by kernel_rfl) (by simp) ?_
 have h1 : entB p = false := by
  cases h : entB p with
  | false => rfl
  | true => rw [zaA] at h; subst h; simp [ent] at h0
 simp
 refine zaa (zbx p _) ?_
 simp [h1, h0]
 exact finC (rs := [.cell 2 48, .tmp 3]) (vs := [iv (0, 0), .bool false]) (vs' := [iv (0, 0), .bool false]) (by rfl) (by simp [resA]) (by simp; rfl) (by simp [noF, noFs]) rfl
theorem ztE (p : I) (h0 : p.2 < 0) (H : AH) : zaf E 192 [iv p] H (.ret (.tuple [iv (0, 0), .bool false])) H := by
 refine zab zah zai Tryz.func192 rfl (by rfl) Tryz.ntmps192 (by kernel_rfl) (by simp) ?_
 have h1 : entB p = false := by
  cases h : entB p with
  | false => rfl
  | true => rw [zaA] at h; subst h; simp [ent] at h0
 simp
 refine zaa (zbk p _) ?_
 simp [h1, h0]
 exact finC (rs := [.cell 2 48, .tmp 3]) (vs := [iv (0, 0), .bool false]) (vs' := [iv (0, 0), .bool false]) (by rfl) (by simp [resA]) (by simp; rfl) (by simp [noF, noFs]) rfl
def zgc (p : I) : I := if p.2 < 0 then (0, 0) else sqrt p
theorem zoA (p : I) (hp : vB p = true) (H : AH) : zaf E 182 [iv p] H (.ret (.tuple [iv (zgc p), .bool (decide (0 ≤ p.2))])) H := by
 by_cases h : p.2 < 0
 ·have e : zgc p = (0, 0) := by simp [zgc, h]
  have e2 : decide (0 ≤ p.2) = false := by simp; omega
  rw [e, e2]; exact zuA p h H
 ·have e : zgc p = sqrt p := by simp [zgc, h]
  have e2 : decide (0 ≤ p.2) = true := by simp; omega
  rw [e, e2]; exact zuB p hp (by omega) H
theorem ztF (p : I) (hp : vB p = true) (H : AH) : zaf E 192 [iv p] H (.ret (.tuple [iv (zgc p), .bool (decide (0 ≤ p.2))])) H := by
 by_cases h : p.2 < 0
 ·have e : zgc p = (0, 0) := by simp [zgc, h]
  have e2 : decide (0 ≤ p.2) = false := by simp; omega
  rw [e, e2]; exact ztE p h H
 ·have e : zgc p = sqrt p := by simp [zgc, h]
  have e2 : decide (0 ≤ p.2) = true := by simp; omega
  rw [e, e2]; exact zrT p hp (by omega) H
theorem zcV {p : I} (hp : vB p = true) (h : 0 ≤ p.1) : zgc p = zcQ p := by
 have := zao hp
 have h1 : ¬ p.2 < 0 := by omega
 have h2 : ¬ p.1 < 0 := by omega
 simp [zgc, zcQ, h1, h2]
theorem sUnit (H : AH) : zaf E 302 [] H (.ret (iv (65536, 65536))) H := by
 refine zab zah zai Tryz.func302 rfl (by rfl) Tryz.ntmps302 (by kernel_rfl) (by simp) ?_
 simp
 refine zaa (zlZ _ _) ?_
 simp
 exact fin1 (rs := [.cell 0 48]) (by rfl) (by simp [resA, pt, mk, numB]) (by simp [noFs, noF])
theorem sNum (p : I) (H : AH) : zaf E 262 [iv p] H (.ret (iv p)) H := by
 refine zab zah zai Tryz.func262 rfl (by rfl) Tryz.ntmps262 (by kernel_rfl) (by simp) ?_
 simp
 exact fin1 (rs := [.cell 2 48]) (by rfl) (by simp [resA]) (by simp [noFs, noF])
theorem zny (p : I) (k : Int) (hp : vB p = true) (hk : 1 ≤ k ∧ k ≤ 1000000) (H : AH) : zaf E 265 [iv p, .int .i64 k] H (.ret (iv (mulr p 1 k))) H := by
 refine zab zah zai Tryz.func265 rfl (by rfl) Tryz.ntmps265 (by kernel_rfl) (by simp) ?_
 have w1 : IntKind.i64.wrap k = k := zae (by omega) (by omega)
 simp [w1]
 refine zaa (zj3 p 1 k hp (by omega) (by omega) _) ?_
 simp
 exact fin1 (rs := [.cell 4 48]) (by rfl) (by simp [resA]) (by simp [noFs, noF])
def algA : AV := .agg [fnA 262, fnA 180, fnA 91, fnA 234, fnA 118, fnA 181, fnA 263, fnA 264, fnA 265]
theorem zhP (H : AH) : zaf E 226 [] H (.ret algA) H := by
 refine zab zah zai Tryz.func226 rfl (by rfl) Tryz.ntmps226 (by kernel_rfl) (by simp) ?_
 simp
 exact fin1 (rs := [.cell 0 276]) (by rfl) (by simp [resA, algA, fnA]) (by simp [noFs, noF, algA, fnA])
theorem zlK (H : AH) : zaf E 248 [] H (.ret (iv (0, 0))) H := by
 refine zab zah zai Tryz.func248 rfl (by rfl) Tryz.ntmps248 (by kernel_rfl) (by simp) ?_
 simp
 exact fin1 (rs := [.cell 0 48]) (by rfl) (by simp [resA]) (by simp [noFs, noF])
theorem r9One (H : AH) : zaf E 249 [] H (.ret (iv (65536, 65536))) H := by
 refine zab zah zai Tryz.func249 rfl (by rfl) Tryz.ntmps249 (by kernel_rfl) (by simp) ?_
 simp
 refine zaa (zeH _ _) ?_
 simp
 exact fin1 (rs := [.cell 0 48]) (by rfl) (by simp [resA, pt, mk, numB]) (by simp [noFs, noF])
theorem znL (p : I) (hp : vB p = true) (H : AH) : zaf E 288 [iv p] H (.ret (iv (zcQ p))) H := by
 refine zab zah zai Tryz.func288 rfl (by rfl) Tryz.ntmps288 (by kernel_rfl) (by simp) ?_
 simp
 refine zaa (ztF p hp _) ?_
 simp
 refine zak (fun hc => ?_) (fun hc => ?_)
 ·have h0 : p.1 < 0 := by simpa using hc
  simp
  refine zaa (zb3 _) ?_
  simp
  exact fin1 (rs := [.cell 2 48]) (by rfl) (by simp [resA, zcQ, h0]) (by simp [noFs, noF])
 ·have h0 : ¬ p.1 < 0 := by simpa using hc
  simp
  exact fin1 (rs := [.cell 2 48]) (by rfl) (by simp [resA, zcV hp (by omega)]) (by simp [noFs, noF])
theorem zie (a b : List I) (frm k : Nat) : zbh a b frm 0 k = (0, 0) := rfl
theorem zfq (a b : List I) (frm k : Nat) : zbh a b frm 1 k = mul (atN a frm) (atN b (k - frm)) := rfl
theorem zer (a b : List I) (frm m k : Nat) (hm : 0 < m) : zbh a b frm (m + 1) k = add (zbh a b frm m k) (mul (atN a (frm + m)) (atN b (k - (frm + m)))) := by
 cases m with
 | zero => omega
 | succ m => rfl
def LCv (a b : List I) (b1 b2 frm tt k : Nat) (H : AH) (i : Nat) (fr : AFr) (H' : AH) : Prop :=
 fr 1 = .ref b1 a.length ∧ fr 2 = .ref b2 b.length ∧ fr 3 = .int .i64 frm ∧ fr 4 = .int .i64 ((tt : Int) - 1) ∧ fr 5 = .int .i64 k ∧ fr 6 = .ptr H.length 1 0 0 ∧ fr 12 = .ptr (H.length + 1) 1 0 0 ∧ fr 13 = .ptr (H.length + 2) 1 0 0 ∧ fr 14 = .int .i64 i ∧ frm ≤ i ∧ i ≤ tt ∧
 ∃ J, H' = H ++ J ∧ J[0]? = some (.row true 9 [algA]) ∧ J[1]? = some (.row true 2 [iv (0, 0)]) ∧ J[2]? = some (.row true 2 [iv (zbh a b frm (i - frm) k)])
theorem zjt (a b : List I) (b1 b2 frm tt k : Nat) (w1 w2 : Bool) (ha : allV a) (hb : allV b) (hft : frm ≤ tt) (hta : tt ≤ a.length) (htk : tt ≤ k + 1) (hkb : tt = frm ∨ k - frm < b.length) (hk : k ≤ 1000000) (H : AH) (hb1 : H[b1]? = some (.row w1 2 (a.map iv))) (hb2 : H[b2]? = some (.row w2 2 (b.map iv))) :
  zaf E 299 [algA, .ref b1 a.length, .ref b2 b.length, .int .i64 frm, .int .i64 ((tt : Int) - 1), .int .i64 k] H (.ret (iv (zbh a b frm (tt - frm) k))) H := by
 refine zab zah zai Tryz.func299 rfl (by rfl) Tryz.ntmps299 (by kernel_rfl) (by simp) ?_
 have hl1 := (gI.1 hb1).1
 have hl2 := (gI.1 hb2).1
 simp [algA, fnA]
 refine zaa (sNum (0, 0) _) ?_
 simp
 refine zag (LCv a b b1 b2 frm tt k H) (fun i => tt - i) frm ⟨by simp, by simp, by simp, by simp, by simp, by simp, by simp, by simp, by simp, by omega, hft, _, rfl, by simp [algA, fnA], by simp, by simp [zie]⟩ ?_
 rintro i fr H' ⟨g1, g2, g3, g4, g5, g6, g12, g13, g14, hfi, hi, J, rfl, hJ0, hJ1, hJ2⟩
 have hJl : 2 < J.length := (gI.1 hJ2).1
 simp [g4, g14]
 refine zak (fun hc => ?_) (fun hc => ?_)
 ·have hlt : i < tt := by simp at hc; omega
  obtain ⟨p, hp⟩ := zaj (l := a) (i := i) (by omega)
  obtain ⟨q, hq⟩ := zaj (l := b) (i := k - i) (by omega)
  have hpE : ∀ h, a[i]'h = p := fun h => (gI.1 hp).2
  have hqE : ∀ h, b[k - i]'h = q := fun h => (gI.1 hq).2
  have hpv := ha p (List.mem_of_getElem? hp)
  have hqv := hb q (List.mem_of_getElem? hq)
  have wk : IntKind.i64.wrap ((k : Int) - (i : Int)) = ((k - i : Nat) : Int) := by rw [zae (by omega) (by omega)]; omega
  have wi : IntKind.i64.wrap ((i : Int) + 1) = ((i + 1 : Nat) : Int) := by rw [zae (by omega) (by omega)]; omega
  have hia : i < a.length := by omega
  have hkb2 : k - i < b.length := by omega
  simp [g1, g2, g3, g5, g6, g14, ↓old hJ0, hJ0, algA, fnA, hb1, hb2, zad hb1, zad hb2, hp, hpE, hq, hqE, wk, hia, hkb2]
  refine zac (fun Hx => iMul p q hpv hqv Hx) ?_
  simp
  refine endD [(13, 14)] (by rfl) (by simp [okW, note, Eff.triv, Eff.wr, Eff.none, upTo, newAt]; exact ⟨fun h => by rw [h] at hJl; simp at hJl, by omega, by omega⟩) ?_
  simp [g3, g14]
  have hm : mul p q = mul (atN a i) (atN b (k - i)) := by simp [atN, hp, hq]
  have fin : ∀ (r : I) (K : AH), r = zbh a b frm (i + 1 - frm) k → ∃ J2, H ++ ((J.set 2 (.row true 2 [iv r])) ++ K) = H ++ J2 ∧ J2[0]? = some (.row true 9 [algA]) ∧ J2[1]? = some (.row true 2 [iv (0, 0)]) ∧ J2[2]? = some (.row true 2 [iv (zbh a b frm (i + 1 - frm) k)]) := by
   intro r K hr
   refine ⟨_, rfl, zad ?_, zad ?_, ?_⟩
   ·rw [List.getElem?_set_ne (by omega)]; exact hJ0
   ·rw [List.getElem?_set_ne (by omega)]; exact hJ1
   ·rw [hr]; exact set_get' hJ2
  refine zak (fun hq2 => ?_) (fun hq2 => ?_)
  ·have hgt : frm < i := by simp at hq2; omega
   have hcs : add (zbh a b frm (i - frm) k) (mul p q) = zbh a b frm (i + 1 - frm) k := by
    rw [show i + 1 - frm = (i - frm) + 1 by omega, zer _ _ _ _ _ (by omega), show frm + (i - frm) = i by omega, hm]
   have hcv := zbg a b frm (i - frm) k
   simp [g6, g13, ↓old hJ0, algA, fnA, ↓old hJ2, olds hJ2]
   refine zaa (iAdd _ _ hcv zaz _) ?_
   simp [g13, g14, wi, ↓old hJ2, olds hJ2]
   exact ⟨i + 1, by show tt - (i + 1) < tt - i; omega, by simp [g1], by simp [g2], by simp [g3], by simp [g4], by simp [g5], by simp [g6], by simp [g12], by simp [g13], by simp, by omega, by omega, fin _ _ hcs⟩
  ·have heq : i = frm := by simp at hq2; omega
   subst heq
   have hcs : mul p q = zbh a b i (i + 1 - i) k := by
    rw [show i + 1 - i = 1 by omega, zfq, hm]
   simp [g13, g14, wi, ↓old hJ2, olds hJ2]
   exact ⟨i + 1, by show tt - (i + 1) < tt - i; omega, by simp [g1], by simp [g2], by simp [g3], by simp [g4], by simp [g5], by simp [g6], by simp [g12], by simp [g13], by simp, by omega, by omega, fin _ _ hcs⟩
 ·have hi' : i = tt := by simp at hc; omega
  subst hi'
  simp [g12, g13, hJ1, hJ2]
  exact fin1 (rs := [.cell 12 48]) (by rfl) (by simp [resA, g12, zch hJ1]) (by simp [noFs, noF])
def Own (H : AH) (v : AV) (q : List I) : Prop := (q = [] ∧ (v = .nilslice ∨ v = .slice [] true)) ∨ ∃ b w, v = .ref b q.length ∧ H[b]? = some (.row w 2 (q.map iv))
def LNq (a b q : List I) (ba bb bq : Nat) (H : AH) (i : Nat) (fr : AFr) (H' : AH) : Prop :=
 fr 0 = .ref ba a.length ∧ fr 1 = .ref bb b.length ∧ fr 2 = .ref bq q.length ∧ fr 6 = .ptr H.length 1 0 0 ∧ fr 7 = .int .i64 q.length ∧ fr 8 = .ptr (H.length + 1) 1 0 0 ∧ fr 9 = .int .i64 i ∧ 1 ≤ i ∧ i ≤ q.length + 1 ∧
 ∃ J, H' = H ++ J ∧ J[0]? = some (.row true 2 [iv (0, 0)]) ∧ J[1]? = some (.row true 2 [iv (zbh b q 1 (i - 1) q.length)])
theorem zir (a b q : List I) (ba bb : Nat) (w1 w2 : Bool) (v : AV) (ha : allV a) (hb : allV b) (hq : allV q) (hal : q.length < a.length) (hbl : q.length < b.length) (hk : q.length ≤ 1000000) (H : AH) (hba : H[ba]? = some (.row w1 2 (a.map iv))) (hbb : H[bb]? = some (.row w2 2 (b.map iv))) (hv : Own H v q) :
  zaf E 263 [.ref ba a.length, .ref bb b.length, v] H (.ret (iv (zdf a b q))) H := by
 refine zab zah zai Tryz.func263 rfl (by rfl) Tryz.ntmps263 (by kernel_rfl) (by simp) ?_
 have hl1 := (gI.1 hba).1
 have hl2 := (gI.1 hbb).1
 obtain ⟨a0, ha0⟩ := zaj (l := a) (i := 0) (by omega)
 obtain ⟨b0, hb0⟩ := zaj (l := b) (i := 0) (by omega)
 have ha0E : ∀ h, a[0]'h = a0 := fun h => (gI.1 ha0).2
 have hb0E : ∀ h, b[0]'h = b0 := fun h => (gI.1 hb0).2
 have ha0v := ha a0 (List.mem_of_getElem? ha0)
 have hb0v := hb b0 (List.mem_of_getElem? hb0)
 have hap : 0 < a.length := by omega
 have hbp : 0 < b.length := by omega
 rcases hv with ⟨rfl, rfl | rfl⟩ | ⟨bq, w, rfl, hbq⟩
 ·simp [hba, hbb, zad hba, zad hbb, ha0, ha0E, hb0, hb0E, hap, hbp]
  refine zac (fun Hx => iDiv a0 b0 ha0v hb0v Hx) ?_
  simp
  refine endD [] (by rfl) (by simp [okW, note, Eff.triv, Eff.wr, Eff.none, upTo, newAt]; omega) ?_
  simp
  exact fin1 (rs := [.cell 6 48]) (by rfl) (by simp [resA, zdf, atN, ha0, hb0]) (by simp [noFs, noF])
 ·simp [hba, hbb, zad hba, zad hbb, ha0, ha0E, hb0, hb0E, hap, hbp]
  refine zac (fun Hx => iDiv a0 b0 ha0v hb0v Hx) ?_
  simp
  refine endD [] (by rfl) (by simp [okW, note, Eff.triv, Eff.wr, Eff.none, upTo, newAt]; omega) ?_
  simp
  exact fin1 (rs := [.cell 6 48]) (by rfl) (by simp [resA, zdf, atN, ha0, hb0]) (by simp [noFs, noF])
 by_cases hq0 : q = []
 ·subst hq0
  simp [hba, hbb, zad hba, zad hbb, ha0, ha0E, hb0, hb0E, hap, hbp, hbq, zad hbq]
  refine zac (fun Hx => iDiv a0 b0 ha0v hb0v Hx) ?_
  simp
  refine endD [] (by rfl) (by simp [okW, note, Eff.triv, Eff.wr, Eff.none, upTo, newAt]; omega) ?_
  simp
  exact fin1 (rs := [.cell 6 48]) (by rfl) (by simp [resA, zdf, atN, ha0, hb0]) (by simp [noFs, noF])
 have hql : 0 < q.length := List.length_pos_iff.2 hq0
 have hl3 := (gI.1 hbq).1
 have hne : ((q.length : Int) == 0) = false := by rw [beq_eq_false_iff_ne]; omega
 simp [hbq, zad hbq, hne]
 refine zag (LNq a b q ba bb bq H) (fun i => q.length + 1 - i) 1 ⟨by simp, by simp, by simp, by simp, by simp, by simp, by simp, by omega, by omega, _, rfl, by simp, by simp [zbh, sumF]⟩ ?_
 rintro i fr H' ⟨g0, g1, g2, g6, g7, g8, g9, h1i, hi, J, rfl, hJ0, hJ1⟩
 have hJl : 1 < J.length := (gI.1 hJ1).1
 simp [g7, g9]
 refine zak (fun hc => ?_) (fun hc => ?_)
 ·have hlt : i ≤ q.length := by simp at hc; omega
  obtain ⟨p, hp⟩ := zaj (l := b) (i := i) (by omega)
  obtain ⟨r, hr⟩ := zaj (l := q) (i := q.length - i) (by omega)
  have hpE : ∀ h, b[i]'h = p := fun h => (gI.1 hp).2
  have hrE : ∀ h, q[q.length - i]'h = r := fun h => (gI.1 hr).2
  have hpv := hb p (List.mem_of_getElem? hp)
  have hrv := hq r (List.mem_of_getElem? hr)
  have wk : IntKind.i64.wrap ((q.length : Int) - (i : Int)) = ((q.length - i : Nat) : Int) := by rw [zae (by omega) (by omega)]; omega
  have wi : IntKind.i64.wrap ((i : Int) + 1) = ((i + 1 : Nat) : Int) := by rw [zae (by omega) (by omega)]; omega
  have hia : i < b.length := by omega
  have hkb2 : q.length - i < q.length := by omega
  simp [g0, g1, g2, g7, g9, hbb, hbq, zad hbb, zad hbq, hp, hpE, hr, hrE, wk, hia, hkb2]
  refine zac (fun Hx => iMul p r hpv hrv Hx) ?_
  simp
  refine endD [(11, 12)] (by rfl) (by simp [okW, note, Eff.triv, Eff.wr, Eff.none, upTo, newAt]; omega) ?_
  simp [g9]
  have hm : mul p r = mul (atN b i) (atN q (q.length - i)) := by simp [atN, hp, hr]
  have fin : ∀ (z : I) (K : AH), z = zbh b q 1 i q.length → ∃ J2, H ++ ((J.set 1 (.row true 2 [iv z])) ++ K) = H ++ J2 ∧ J2[0]? = some (.row true 2 [iv (0, 0)]) ∧ J2[1]? = some (.row true 2 [iv (zbh b q 1 (i + 1 - 1) q.length)]) := by
   intro z K hz
   refine ⟨_, rfl, zad ?_, ?_⟩
   ·rw [List.getElem?_set_ne (by omega)]; exact hJ0
   ·rw [hz]; exact set_get' hJ1
  refine zak (fun hq2 => ?_) (fun hq2 => ?_)
  ·have hgt : 1 < i := by simp at hq2; omega
   have hcs : add (zbh b q 1 (i - 1) q.length) (mul p r) = zbh b q 1 i q.length := by
    have := zer b q 1 (i - 1) q.length (by omega)
    rw [show i - 1 + 1 = i by omega, show 1 + (i - 1) = i by omega] at this
    rw [this, hm]
   have hcv := zbg b q 1 (i - 1) q.length
   simp [g8, ↓old hJ1, olds hJ1]
   refine zaa (iAdd _ _ hcv zaz _) ?_
   simp [g8, g9, wi, ↓old hJ1, olds hJ1]
   exact ⟨i + 1, by show q.length + 1 - (i + 1) < q.length + 1 - i; omega, by simp [g0], by simp [g1], by simp [g2], by simp [g6], by simp [g7], by simp [g8], by simp, by omega, by omega, fin _ _ hcs⟩
  ·have heq : i = 1 := by simp at hq2; omega
   subst heq
   have hcs : mul p r = zbh b q 1 1 q.length := by rw [zfq, hm]
   have wr2 : IntKind.i64.wrap 2 = 2 := zae (by decide) (by decide)
   simp [g8, g9, wr2, ↓old hJ1, olds hJ1]
   exact ⟨2, by show q.length + 1 - 2 < q.length + 1 - 1; omega, by simp [g0], by simp [g1], by simp [g2], by simp [g6], by simp [g7], by simp [g8], by simp, by omega, by omega, fin _ _ hcs⟩
 ·have hi' : i = q.length + 1 := by simp at hc; omega
  subst hi'
  rw [show q.length + 1 - 1 = q.length by omega] at hJ1
  obtain ⟨p, hp⟩ := zaj hal
  have hpE : ∀ h, a[q.length]'h = p := fun h => (gI.1 hp).2
  have hpv := ha p (List.mem_of_getElem? hp)
  have hcv := zbg b q 1 q.length q.length
  simp [g0, g1, g6, g7, g8, hba, hbb, zad hba, zad hbb, hp, hpE, hb0, hb0E, hal, hbp, hJ1]
  refine zac (fun Hx => iSub p _ hpv hcv Hx) ?_
  simp [g1, hbb, zad hbb, hb0, hb0E, hbp]
  refine zac (fun Hx => iDiv _ b0 (zcF hpv hcv) hb0v Hx) ?_
  simp [g6, hJ0]
  refine endD [] (by rfl) (by simp [okW, note, Eff.triv, Eff.wr, Eff.none, upTo, newAt]; omega) ?_
  simp [g6]
  exact fin1 (rs := [.cell 6 48]) (by rfl) (by simp [resA, g6, zch hJ0, zdf, hq0, atN, hp, hb0]) (by simp [noFs, noF])
theorem zhs (a b q : List I) (ba bb : Nat) (w1 w2 : Bool) (v : AV) (ha : allV a) (hb : allV b) (hq : allV q) (hal : q.length < a.length) (hbl : q.length < b.length) (hk : q.length ≤ 1000000) (H : AH) (hba : H[ba]? = some (.row w1 2 (a.map iv))) (hbb : H[bb]? = some (.row w2 2 (b.map iv))) (hv : Own H v q) :
  zaf E 251 [.ref ba a.length, .ref bb b.length, v] H (.ret (iv (zdf a b q))) H := by
 refine zab zah zai Tryz.func251 rfl (by rfl) Tryz.ntmps251 (by kernel_rfl) (by simp) ?_
 have hl1 := (gI.1 hba).1
 have hl2 := (gI.1 hbb).1
 obtain ⟨a0, ha0⟩ := zaj (l := a) (i := 0) (by omega)
 obtain ⟨b0, hb0⟩ := zaj (l := b) (i := 0) (by omega)
 have ha0E : ∀ h, a[0]'h = a0 := fun h => (gI.1 ha0).2
 have hb0E : ∀ h, b[0]'h = b0 := fun h => (gI.1 hb0).2
 have ha0v := ha a0 (List.mem_of_getElem? ha0)
 have hb0v := hb b0 (List.mem_of_getElem? hb0)
 have hap : 0 < a.length := by omega
 have hbp : 0 < b.length := by omega
 rcases hv with ⟨rfl, rfl | rfl⟩ | ⟨bq, w, rfl, hbq⟩
 ·simp [hba, hbb, zad hba, zad hbb, ha0, ha0E, hb0, hb0E, hap, hbp]
  refine zac (fun Hx => rDiv a0 b0 ha0v hb0v Hx) ?_
  simp
  refine endD [] (by rfl) (by simp [okW, note, Eff.triv, Eff.wr, Eff.none, upTo, newAt]; omega) ?_
  simp
  exact fin1 (rs := [.cell 6 48]) (by rfl) (by simp [resA, zdf, atN, ha0, hb0]) (by simp [noFs, noF])
 ·simp [hba, hbb, zad hba, zad hbb, ha0, ha0E, hb0, hb0E, hap, hbp]
  refine zac (fun Hx => rDiv a0 b0 ha0v hb0v Hx) ?_
  simp
  refine endD [] (by rfl) (by simp [okW, note, Eff.triv, Eff.wr, Eff.none, upTo, newAt]; omega) ?_
  simp
  exact fin1 (rs := [.cell 6 48]) (by rfl) (by simp [resA, zdf, atN, ha0, hb0]) (by simp [noFs, noF])
 by_cases hq0 : q = []
 ·subst hq0
  simp [hba, hbb, zad hba, zad hbb, ha0, ha0E, hb0, hb0E, hap, hbp, hbq, zad hbq]
  refine zac (fun Hx => rDiv a0 b0 ha0v hb0v Hx) ?_
  simp
  refine endD [] (by rfl) (by simp [okW, note, Eff.triv, Eff.wr, Eff.none, upTo, newAt]; omega) ?_
  simp
  exact fin1 (rs := [.cell 6 48]) (by rfl) (by simp [resA, zdf, atN, ha0, hb0]) (by simp [noFs, noF])
 have hql : 0 < q.length := List.length_pos_iff.2 hq0
 have hl3 := (gI.1 hbq).1
 have hne : ((q.length : Int) == 0) = false := by rw [beq_eq_false_iff_ne]; omega
 simp [hbq, zad hbq, hne]
 refine zaa (zlK _) ?_
 simp
 refine zag (LNq a b q ba bb bq H) (fun i => q.length + 1 - i) 1 ⟨by simp, by simp, by simp, by simp, by simp, by simp, by simp, by omega, by omega, _, rfl, by simp, by simp [zbh, sumF]⟩ ?_
 rintro i fr H' ⟨g0, g1, g2, g6, g7, g8, g9, h1i, hi, J, rfl, hJ0, hJ1⟩
 have hJl : 1 < J.length := (gI.1 hJ1).1
 simp [g7, g9]
 refine zak (fun hc => ?_) (fun hc => ?_)
 ·have hlt : i ≤ q.length := by simp at hc; omega
  obtain ⟨p, hp⟩ := zaj (l := b) (i := i) (by omega)
  obtain ⟨r, hr⟩ := zaj (l := q) (i := q.length - i) (by omega)
  have hpE : ∀ h, b[i]'h = p := fun h => (gI.1 hp).2
  have hrE : ∀ h, q[q.length - i]'h = r := fun h => (gI.1 hr).2
  have hpv := hb p (List.mem_of_getElem? hp)
  have hrv := hq r (List.mem_of_getElem? hr)
  have wk : IntKind.i64.wrap ((q.length : Int) - (i : Int)) = ((q.length - i : Nat) : Int) := by rw [zae (by omega) (by omega)]; omega
  have wi : IntKind.i64.wrap ((i : Int) + 1) = ((i + 1 : Nat) : Int) := by rw [zae (by omega) (by omega)]; omega
  have hia : i < b.length := by omega
  have hkb2 : q.length - i < q.length := by omega
  simp [g0, g1, g2, g7, g9, hbb, hbq, zad hbb, zad hbq, hp, hpE, hr, hrE, wk, hia, hkb2]
  refine zac (fun Hx => rMul p r hpv hrv Hx) ?_
  simp
  refine endD [(11, 12)] (by rfl) (by simp [okW, note, Eff.triv, Eff.wr, Eff.none, upTo, newAt]; omega) ?_
  simp [g9]
  have hm : mul p r = mul (atN b i) (atN q (q.length - i)) := by simp [atN, hp, hr]
  have fin : ∀ (z : I) (K : AH), z = zbh b q 1 i q.length → ∃ J2, H ++ ((J.set 1 (.row true 2 [iv z])) ++ K) = H ++ J2 ∧ J2[0]? = some (.row true 2 [iv (0, 0)]) ∧ J2[1]? = some (.row true 2 [iv (zbh b q 1 (i + 1 - 1) q.length)]) := by
   intro z K hz
   refine ⟨_, rfl, zad ?_, ?_⟩
   ·rw [List.getElem?_set_ne (by omega)]; exact hJ0
   ·rw [hz]; exact set_get' hJ1
  refine zak (fun hq2 => ?_) (fun hq2 => ?_)
  ·have heq : i = 1 := by simp at hq2; omega
   subst heq
   have hcs : mul p r = zbh b q 1 1 q.length := by rw [zfq, hm]
   have wr2 : IntKind.i64.wrap 2 = 2 := zae (by decide) (by decide)
   simp [g8, g9, wr2, ↓old hJ1, olds hJ1]
   exact ⟨2, by show q.length + 1 - 2 < q.length + 1 - 1; omega, by simp [g0], by simp [g1], by simp [g2], by simp [g6], by simp [g7], by simp [g8], by simp, by omega, by omega, fin _ _ hcs⟩
  ·have hgt : 1 < i := by simp at hq2; omega
   have hcs : add (zbh b q 1 (i - 1) q.length) (mul p r) = zbh b q 1 i q.length := by
    have := zer b q 1 (i - 1) q.length (by omega)
    rw [show i - 1 + 1 = i by omega, show 1 + (i - 1) = i by omega] at this
    rw [this, hm]
   have hcv := zbg b q 1 (i - 1) q.length
   simp [g8, ↓old hJ1, olds hJ1]
   refine zaa (rAdd _ _ hcv zaz _) ?_
   simp [g8, g9, wi, ↓old hJ1, olds hJ1]
   exact ⟨i + 1, by show q.length + 1 - (i + 1) < q.length + 1 - i; omega, by simp [g0], by simp [g1], by simp [g2], by simp [g6], by simp [g7], by simp [g8], by simp, by omega, by omega, fin _ _ hcs⟩
 ·have hi' : i = q.length + 1 := by simp at hc; omega
  subst hi'
  rw [show q.length + 1 - 1 = q.length by omega] at hJ1
  obtain ⟨p, hp⟩ := zaj hal
  have hpE : ∀ h, a[q.length]'h = p := fun h => (gI.1 hp).2
  have hpv := ha p (List.mem_of_getElem? hp)
  have hcv := zbg b q 1 q.length q.length
  simp [g0, g1, g6, g7, g8, hba, hbb, zad hba, zad hbb, hp, hpE, hb0, hb0E, hal, hbp, hJ1]
  refine zac (fun Hx => rSub p _ hpv hcv Hx) ?_
  simp [g1, hbb, zad hbb, hb0, hb0E, hbp]
  refine zac (fun Hx => rDiv _ b0 (zcF hpv hcv) hb0v Hx) ?_
  simp [g6, hJ0]
  refine endD [] (by rfl) (by simp [okW, note, Eff.triv, Eff.wr, Eff.none, upTo, newAt]; omega) ?_
  simp [g6]
  exact fin1 (rs := [.cell 6 48]) (by rfl) (by simp [resA, g6, zch hJ0, zdf, hq0, atN, hp, hb0]) (by simp [noFs, noF])
def lim3 (frm tt k : Nat) : AV := .agg [.int .i64 frm, .int .i64 ((tt : Int) - 1), .int .i64 k]
def LCw (a b : List I) (b1 b2 frm tt k : Nat) (H : AH) (i : Nat) (fr : AFr) (H' : AH) : Prop :=
 fr 0 = .ref b1 a.length ∧ fr 1 = .ref b2 b.length ∧ fr 5 = .ptr H.length 1 0 0 ∧ fr 6 = .ptr (H.length + 1) 1 0 0 ∧ fr 7 = .ptr (H.length + 2) 1 0 0 ∧ fr 8 = .int .i64 i ∧ frm ≤ i ∧ i ≤ tt ∧
 ∃ J, H' = H ++ J ∧ J[0]? = some (.row true 3 [lim3 frm tt k]) ∧ J[1]? = some (.row true 2 [iv (0, 0)]) ∧ J[2]? = some (.row true 2 [iv (zbh a b frm (i - frm) k)])
theorem zgN (a b : List I) (b1 b2 frm tt k : Nat) (w1 w2 : Bool) (ha : allV a) (hb : allV b) (hft : frm ≤ tt) (hta : tt ≤ a.length) (htk : tt ≤ k + 1) (hkb : tt = frm ∨ k - frm < b.length) (hk : k ≤ 1000000) (H : AH) (hb1 : H[b1]? = some (.row w1 2 (a.map iv))) (hb2 : H[b2]? = some (.row w2 2 (b.map iv))) :
  zaf E 250 [.ref b1 a.length, .ref b2 b.length, lim3 frm tt k] H (.ret (iv (zbh a b frm (tt - frm) k))) H := by
 refine zab zah zai Tryz.func250 rfl (by rfl) Tryz.ntmps250 (by kernel_rfl) (by simp) ?_
 have hl1 := (gI.1 hb1).1
 have hl2 := (gI.1 hb2).1
 simp [lim3]
 refine zaa (zlK _) ?_
 simp
 refine zag (LCw a b b1 b2 frm tt k H) (fun i => tt - i) frm ⟨by simp, by simp, by simp, by simp, by simp, by simp, by omega, hft, _, rfl, by simp [lim3], by simp, by simp [zie]⟩ ?_
 rintro i fr H' ⟨g0, g1, g5, g6, g7, g8, hfi, hi, J, rfl, hJ0, hJ1, hJ2⟩
 have hJl : 2 < J.length := (gI.1 hJ2).1
 simp [g5, g8, hJ0, lim3]
 refine zak (fun hc => ?_) (fun hc => ?_)
 ·have hlt : i < tt := by simp at hc; omega
  obtain ⟨p, hp⟩ := zaj (l := a) (i := i) (by omega)
  obtain ⟨q, hq⟩ := zaj (l := b) (i := k - i) (by omega)
  have hpE : ∀ h, a[i]'h = p := fun h => (gI.1 hp).2
  have hqE : ∀ h, b[k - i]'h = q := fun h => (gI.1 hq).2
  have hpv := ha p (List.mem_of_getElem? hp)
  have hqv := hb q (List.mem_of_getElem? hq)
  have wk : IntKind.i64.wrap ((k : Int) - (i : Int)) = ((k - i : Nat) : Int) := by rw [zae (by omega) (by omega)]; omega
  have wi : IntKind.i64.wrap ((i : Int) + 1) = ((i + 1 : Nat) : Int) := by rw [zae (by omega) (by omega)]; omega
  have hia : i < a.length := by omega
  have hkb2 : k - i < b.length := by omega
  simp [g0, g1, g5, g8, hJ0, lim3, hb1, hb2, zad hb1, zad hb2, hp, hpE, hq, hqE, wk, hia, hkb2]
  refine zac (fun Hx => rMul p q hpv hqv Hx) ?_
  simp
  refine endD [(12, 13)] (by rfl) (by simp [okW, note, Eff.triv, Eff.wr, Eff.none, upTo, newAt]; exact ⟨by omega, fun h => by rw [h] at hJl; simp at hJl, by omega⟩) ?_
  simp [g5, g8, ↓old hJ0, hJ0, lim3]
  have hm : mul p q = mul (atN a i) (atN b (k - i)) := by simp [atN, hp, hq]
  have fin : ∀ (r : I) (K : AH), r = zbh a b frm (i + 1 - frm) k → ∃ J2, H ++ ((J.set 2 (.row true 2 [iv r])) ++ K) = H ++ J2 ∧ J2[0]? = some (.row true 3 [lim3 frm tt k]) ∧ J2[1]? = some (.row true 2 [iv (0, 0)]) ∧ J2[2]? = some (.row true 2 [iv (zbh a b frm (i + 1 - frm) k)]) := by
   intro r K hr
   refine ⟨_, rfl, zad ?_, zad ?_, ?_⟩
   ·rw [List.getElem?_set_ne (by omega)]; exact hJ0
   ·rw [List.getElem?_set_ne (by omega)]; exact hJ1
   ·rw [hr]; exact set_get' hJ2
  refine zak (fun hq2 => ?_) (fun hq2 => ?_)
  ·have heq : i = frm := by simp at hq2; omega
   subst heq
   have hcs : mul p q = zbh a b i (i + 1 - i) k := by
    rw [show i + 1 - i = 1 by omega, zfq, hm]
   simp [g7, g8, wi, ↓old hJ2, olds hJ2]
   exact ⟨i + 1, by show tt - (i + 1) < tt - i; omega, by simp [g0], by simp [g1], by simp [g5], by simp [g6], by simp [g7], by simp, by omega, by omega, fin _ _ hcs⟩
  ·have hgt : frm < i := by simp at hq2; omega
   have hcs : add (zbh a b frm (i - frm) k) (mul p q) = zbh a b frm (i + 1 - frm) k := by
    rw [show i + 1 - frm = (i - frm) + 1 by omega, zer _ _ _ _ _ (by omega), show frm + (i - frm) = i by omega, hm]
   have hcv := zbg a b frm (i - frm) k
   simp [g7, ↓old hJ2, olds hJ2]
   refine zaa (rAdd _ _ hcv zaz _) ?_
   simp [g7, g8, wi, ↓old hJ2, olds hJ2]
   exact ⟨i + 1, by show tt - (i + 1) < tt - i; omega, by simp [g0], by simp [g1], by simp [g5], by simp [g6], by simp [g7], by simp, by omega, by omega, fin _ _ hcs⟩
 ·have hi' : i = tt := by simp at hc; omega
  subst hi'
  simp [g6, g7, hJ1, hJ2]
  exact fin1 (rs := [.cell 6 48]) (by rfl) (by simp [resA, g6, zch hJ1]) (by simp [noFs, noF])
theorem znw (a q : List I) (ba : Nat) (w1 : Bool) (v : AV) (ha : allV a) (hq : allV q) (hal : q.length < a.length) (hk : q.length ≤ 1000000) (H : AH) (hba : H[ba]? = some (.row w1 2 (a.map iv))) (hv : Own H v q) :
  zaf E 264 [.ref ba a.length, v] H (.ret (iv (zc4 a q))) H := by
 refine zab zah zai Tryz.func264 rfl (by rfl) Tryz.ntmps264 (by kernel_rfl) (by simp) ?_
 have hl1 := (gI.1 hba).1
 obtain ⟨a0, ha0⟩ := zaj (l := a) (i := 0) (by omega)
 have ha0E : ∀ h, a[0]'h = a0 := fun h => (gI.1 ha0).2
 have ha0v := ha a0 (List.mem_of_getElem? ha0)
 have hap : 0 < a.length := by omega
 rcases hv with ⟨rfl, rfl | rfl⟩ | ⟨bq, w, rfl, hbq⟩
 ·simp [hba, zad hba, ha0, ha0E, hap]
  refine zaa (zoA a0 ha0v _) ?_
  simp [hba, zad hba, ha0, ha0E, hap]
  refine zak (fun hc => ?_) (fun hc => ?_)
  ·have h0 : 0 ≤ a0.1 := by simpa using hc
   simp
   exact fin1 (rs := [.cell 4 48]) (by rfl) (by simp [resA, zc4, atN, ha0, zcV ha0v h0]) (by simp [noFs, noF])
  ·have h0 : a0.1 < 0 := by have : ¬ 0 ≤ a0.1 := by simpa using hc
                            omega
   simp
   refine zaa (zbJ _) ?_
   simp
   exact fin1 (rs := [.cell 4 48]) (by rfl) (by simp [resA, zc4, atN, ha0, zcQ, h0]) (by simp [noFs, noF])
 ·simp [hba, zad hba, ha0, ha0E, hap]
  refine zaa (zoA a0 ha0v _) ?_
  simp [hba, zad hba, ha0, ha0E, hap]
  refine zak (fun hc => ?_) (fun hc => ?_)
  ·have h0 : 0 ≤ a0.1 := by simpa using hc
   simp
   exact fin1 (rs := [.cell 4 48]) (by rfl) (by simp [resA, zc4, atN, ha0, zcV ha0v h0]) (by simp [noFs, noF])
  ·have h0 : a0.1 < 0 := by have : ¬ 0 ≤ a0.1 := by simpa using hc
                            omega
   simp
   refine zaa (zbJ _) ?_
   simp
   exact fin1 (rs := [.cell 4 48]) (by rfl) (by simp [resA, zc4, atN, ha0, zcQ, h0]) (by simp [noFs, noF])
 by_cases hq0 : q = []
 ·subst hq0
  simp [hba, zad hba, hbq, zad hbq, ha0, ha0E, hap]
  refine zaa (zoA a0 ha0v _) ?_
  simp [hba, zad hba, ha0, ha0E, hap]
  refine zak (fun hc => ?_) (fun hc => ?_)
  ·have h0 : 0 ≤ a0.1 := by simpa using hc
   simp
   exact fin1 (rs := [.cell 4 48]) (by rfl) (by simp [resA, zc4, atN, ha0, zcV ha0v h0]) (by simp [noFs, noF])
  ·have h0 : a0.1 < 0 := by have : ¬ 0 ≤ a0.1 := by simpa using hc
                            omega
   simp
   refine zaa (zbJ _) ?_
   simp
   exact fin1 (rs := [.cell 4 48]) (by rfl) (by simp [resA, zc4, atN, ha0, zcQ, h0]) (by simp [noFs, noF])
 have hql : 0 < q.length := List.length_pos_iff.2 hq0
 have hl3 := (gI.1 hbq).1
 have hne : ((q.length : Int) == 0) = false := by rw [beq_eq_false_iff_ne]; omega
 have wk : IntKind.i64.wrap ((q.length : Int) - 1) = (q.length : Int) - 1 := zae (by omega) (by omega)
 obtain ⟨q0, hq0'⟩ := zaj (l := q) (i := 0) hql
 have hq0E : ∀ h, q[0]'h = q0 := fun h => (gI.1 hq0').2
 have hq0v := hq q0 (List.mem_of_getElem? hq0')
 obtain ⟨p, hp⟩ := zaj hal
 have hpE : ∀ h, a[q.length]'h = p := fun h => (gI.1 hp).2
 have hpv := ha p (List.mem_of_getElem? hp)
 have hcv := zbg q q 1 (q.length - 1) q.length
 simp [hbq, zad hbq, hne]
 refine zaa (zhP _) ?_
 simp [wk]
 refine zaa (zjt q q bq bq 1 q.length q.length w w hq hq (by omega) (by omega) (by omega) (by omega) (by omega) _ (zad hbq) (zad hbq)) ?_
 simp [hba, hbq, zad hba, zad hbq, hp, hpE, hal]
 refine zac (fun Hx => iSub p _ hpv hcv Hx) ?_
 simp [hba, hbq, zad hba, zad hbq, hq0', hq0E, hql]
 refine zac (fun Hx => zj3 q0 2 1 hq0v (by omega) (by omega) Hx) ?_
 simp
 refine zac (fun Hx => iDiv _ _ (zcF hpv hcv) (zei hq0v (by decide) (by decide)) Hx) ?_
 simp
 refine endD [] (by rfl) (by simp [okW, note, Eff.triv, Eff.wr, Eff.none, upTo, newAt]; omega) ?_
 simp
 exact fin1 (rs := [.cell 4 48]) (by rfl) (by simp [resA, zc4, hq0, atN, hp, hq0']) (by simp [noFs, noF])
theorem zmJ (a q : List I) (ba : Nat) (w1 : Bool) (v : AV) (ha : allV a) (hq : allV q) (hal : q.length < a.length) (hk : q.length ≤ 1000000) (H : AH) (hba : H[ba]? = some (.row w1 2 (a.map iv))) (hv : Own H v q) :
  zaf E 252 [.ref ba a.length, v] H (.ret (iv (zc4 a q))) H := by
 refine zab zah zai Tryz.func252 rfl (by rfl) Tryz.ntmps252 (by kernel_rfl) (by simp) ?_
 have hl1 := (gI.1 hba).1
 obtain ⟨a0, ha0⟩ := zaj (l := a) (i := 0) (by omega)
 have ha0E : ∀ h, a[0]'h = a0 := fun h => (gI.1 ha0).2
 have ha0v := ha a0 (List.mem_of_getElem? ha0)
 have hap : 0 < a.length := by omega
 rcases hv with ⟨rfl, rfl | rfl⟩ | ⟨bq, w, rfl, hbq⟩
 ·simp [hba, zad hba, ha0, ha0E, hap]
  refine zaa (znL a0 ha0v _) ?_
  simp
  exact fin1 (rs := [.cell 4 48]) (by rfl) (by simp [resA, zc4, atN, ha0]) (by simp [noFs, noF])
 ·simp [hba, zad hba, ha0, ha0E, hap]
  refine zaa (znL a0 ha0v _) ?_
  simp
  exact fin1 (rs := [.cell 4 48]) (by rfl) (by simp [resA, zc4, atN, ha0]) (by simp [noFs, noF])
 by_cases hq0 : q = []
 ·subst hq0
  simp [hba, zad hba, hbq, zad hbq, ha0, ha0E, hap]
  refine zaa (znL a0 ha0v _) ?_
  simp
  exact fin1 (rs := [.cell 4 48]) (by rfl) (by simp [resA, zc4, atN, ha0]) (by simp [noFs, noF])
 have hql : 0 < q.length := List.length_pos_iff.2 hq0
 have hl3 := (gI.1 hbq).1
 have hne : ((q.length : Int) == 0) = false := by rw [beq_eq_false_iff_ne]; omega
 have wk : IntKind.i64.wrap ((q.length : Int) - 1) = (q.length : Int) - 1 := zae (by omega) (by omega)
 obtain ⟨q0, hq0'⟩ := zaj (l := q) (i := 0) hql
 have hq0E : ∀ h, q[0]'h = q0 := fun h => (gI.1 hq0').2
 have hq0v := hq q0 (List.mem_of_getElem? hq0')
 obtain ⟨p, hp⟩ := zaj hal
 have hpE : ∀ h, a[q.length]'h = p := fun h => (gI.1 hp).2
 have hpv := ha p (List.mem_of_getElem? hp)
 have hcv := zbg q q 1 (q.length - 1) q.length
 simp [hbq, zad hbq, hne, wk]
 refine zaa (zgN q q bq bq 1 q.length q.length w w hq hq (by omega) (by omega) (by omega) (by omega) (by omega) _ (zad hbq) (zad hbq)) ?_
 simp [hba, hbq, zad hba, zad hbq, hp, hpE, hal]
 refine zac (fun Hx => rSub p _ hpv hcv Hx) ?_
 simp [hba, hbq, zad hba, zad hbq, hq0', hq0E, hql]
 refine zac (fun Hx => zgK q0 2 1 hq0v (by omega) (by omega) Hx) ?_
 simp
 refine zac (fun Hx => rDiv _ _ (zcF hpv hcv) (zei hq0v (by decide) (by decide)) Hx) ?_
 simp
 refine endD [] (by rfl) (by simp [okW, note, Eff.triv, Eff.wr, Eff.none, upTo, newAt]; omega) ?_
 simp
 exact fin1 (rs := [.cell 4 48]) (by rfl) (by simp [resA, zc4, hq0, atN, hp, hq0']) (by simp [noFs, noF])
theorem zbF {g : FuncId} {args : List AV} {next : NxD} {H : AH} {r : AV} (rds : List Nat) (hb : ∀ b ∈ rds, b < H.length) (h : ∀ Hx : AH, (∀ b ∈ rds, Hx[b]? = H[b]?) → zaf E g args Hx (.ret r) Hx)
  (kk : next .go r ⟨rds, [], none, true⟩ H) : zdN E (.func (.func g) [] []) args next H :=
 ⟨r, rds, [], ⟨hb, fun p hp => by simp at hp, fun Hx hx => .inl (by rw [List.nil_append, List.append_nil]; exact h Hx hx)⟩, kk⟩
def zkD (H : AH) (L : Nat) (cells : List AV) (l : List (List I)) : Prop := H[L]? = some (.row true 1 cells) ∧ cells.length = l.length ∧ ∀ (j : Nat) v q, cells[j]? = some v → l[j]? = some q → Own H v q
theorem zkD.get {H : AH} {L : Nat} {cells : List AV} {l : List (List I)} (h : zkD H L cells l) {j : Nat} (hj : (rowN l j).length ≠ 0) : ∃ b w, cells[j]? = some (.ref b (rowN l j).length) ∧ H[b]? = some (.row w 2 ((rowN l j).map iv)) ∧ j < l.length := by
 cases hl : l[j]? with
 | none => exfalso; apply hj; simp [rowN, hl]
 | some q =>
  have e : rowN l j = q := by simp [rowN, hl]
  have hlt := (gI.1 hl).1
  obtain ⟨v, hv⟩ := zaj (l := cells) (i := j) (by rw [h.2.1]; exact hlt)
  rcases h.2.2 j v q hv hl with ⟨h0, _⟩ | ⟨b, w, rfl, hb⟩
  ·exfalso; apply hj; rw [e, h0]; rfl
  ·rw [e]; exact ⟨b, w, hv, hb, hlt⟩
def zlR (x : Ins) (l : List (List I)) (k : Nat) : Prop :=
 (x.op = 1 ∧ vB x.c = true) ∨ x.op = 3 ∨ (4 ≤ x.op ∧ x.op ≤ 6 ∧ 0 ≤ x.a ∧ (rowN l x.a).length = k + 1) ∨ (7 ≤ x.op ∧ x.op ≤ 10 ∧ 0 ≤ x.a ∧ 0 ≤ x.b ∧ (rowN l x.a).length = k + 1 ∧ (rowN l x.b).length = k + 1)
theorem zqO (a b : List I) (b1 b2 k : Nat) (w1 w2 : Bool) (ha : allV a) (hb : allV b) (hal : a.length = k + 1) (hbl : b.length = k + 1) (hk : k ≤ 100000) (H : AH) (hb1 : H[b1]? = some (.row w1 2 (a.map iv))) (hb2 : H[b2]? = some (.row w2 2 (b.map iv))) :
  zaf E 299 [algA, .ref b1 (k + 1), .ref b2 (k + 1), .int .i64 0, .int .i64 k, .int .i64 k] H (.ret (iv (zbh a b 0 (k + 1) k))) H := by
 have := zjt a b b1 b2 0 (k + 1) k w1 w2 ha hb (by omega) (by omega) (by omega) (by omega) (by omega) H hb1 hb2
 rw [hal, hbl, show ((k + 1 : Nat) : Int) - 1 = k by omega] at this
 exact this
theorem sNext (x : Ins) (L : Nat) (cells : List AV) (l : List (List I)) (own : List I) (v : AV) (t : I) (hx : zlR x l own.length) (hL : ∀ q ∈ l, allV q) (ho : allV own) (ht : vB t = true) (hk : own.length ≤ 100000) (H : AH) (hR : zkD H L cells l) (hv : Own H v own) :
  zaf E 267 [algA, insA x, .ref L l.length, v, iv t] H (.ret (iv (za1 x l own t))) H := by
 refine zab zah zai Tryz.func267 rfl (by rfl) Tryz.ntmps267 (by kernel_rfl) (by simp) ?_
 have hH := hR.1
 have hcl := hR.2.1
 have hLl := (gI.1 hH).1
 have hr : ∀ i, allV (rowN l i) := by
  intro i
  unfold rowN
  cases h : l[i.toNat]? with
  | none => intro p hp; simp at hp
  | some q => exact hL q (List.mem_of_getElem? h)
 have hlen : ∀ K : AH, lenA tab (H ++ K) 23 v = some (.int .i64 own.length) := by
  intro K
  rcases hv with ⟨rfl, rfl | rfl⟩ | ⟨bq, w, rfl, hbq⟩
  ·simp [lenA]
  ·simp [lenA]
  ·simp [lenA, zad hbq]
 have wz : IntKind.i64.wrap 0 = 0 := zae (by decide) (by decide)
 obtain ⟨o, a, b, c⟩ := x
 have hfin : ∀ (fr : AFr) (J : AH) (p : I), za1 ⟨o, a, b, c⟩ l own t = p → fr 10 = .ptr (H.length + 3) 1 0 0 → J[3]? = some (.row true 2 [iv p]) → zbN E Tryz.f267 H (.ret (iv (za1 ⟨o, a, b, c⟩ l own t))) H .ret fr (H ++ J) := by
  intro fr J p hp h10 hJ
  rw [hp]
  exact fin1 (rs := [.cell 10 48]) (by rfl) (by simp [resA, h10, hJ]) (by simp [noFs, noF])
 rcases hx with ⟨h1, h2⟩ | h1 | ⟨h1, h2, h3, h4⟩ | ⟨h1, h2, h3, h4, h5, h6⟩
 ·simp only at h1 h2
  subst h1
  by_cases k0 : own.length = 0
  ·simp only [k0] at hlen
   simp [-lenA, hlen, algA, fnA, insA]
   refine zaa (sNum c _) ?_
   simp
   exact hfin _ _ c (by simp [za1, k0]) (by simp) (by simp)
  ·have hne : ((own.length : Int) == 0) = false := by rw [beq_eq_false_iff_ne]; omega
   simp [-lenA, hlen, algA, fnA, insA, hne]
   refine zaa (sNum (0, 0) _) ?_
   simp
   exact hfin _ _ (0, 0) (by simp [za1, k0]) (by simp) (by simp)
 ·simp only at h1
  subst h1
  by_cases k0 : own.length = 0
  ·simp only [k0] at hlen
   simp [-lenA, hlen, algA, fnA, insA]
   refine zaa (sNum t _) ?_
   simp
   exact hfin _ _ t (by simp [za1, k0]) (by simp) (by simp)
  ·by_cases k1 : own.length = 1
   ·simp only [k1] at hlen
    simp [-lenA, hlen, algA, fnA, insA]
    refine zaa (sUnit _) ?_
    simp
    refine zaa (sNum (65536, 65536) _) ?_
    simp
    exact hfin _ _ (65536, 65536) (by simp [za1, k1]) (by simp) (by simp)
   ·have hne : ((own.length : Int) == 0) = false := by rw [beq_eq_false_iff_ne]; omega
    have hne1 : ((own.length : Int) == 1) = false := by rw [beq_eq_false_iff_ne]; omega
    simp [-lenA, hlen, algA, fnA, insA, hne, hne1]
    refine zaa (sNum (0, 0) _) ?_
    simp
    exact hfin _ _ (0, 0) (by simp [za1, k0, k1]) (by simp) (by simp)
 ·simp only at h1 h2 h3 h4
  obtain ⟨ka, rfl⟩ : ∃ k : Nat, a = k := ⟨a.toNat, by omega⟩
  obtain ⟨bA, wA, hcA, hbA, hka⟩ := hR.get (j := ka) (by omega)
  rw [h4] at hcA
  have hcAE : ∀ h, cells[ka]'h = .ref bA (own.length + 1) := fun h => (gI.1 hcA).2
  have hAl := (gI.1 hbA).1
  have hva := hr ka
  obtain ⟨p, hp⟩ := zaj (l := rowN l ka) (i := own.length) (by omega)
  have hpE : ∀ h, (rowN l ka)[own.length]'h = p := fun h => (gI.1 hp).2
  have hpv := hva p (List.mem_of_getElem? hp)
  have ho3 : o = 4 ∨ o = 5 ∨ o = 6 := by omega
  have hkk : (own.length : Int) < (own.length : Int) + 1 := by omega
  have hb2 : own.length < own.length + 1 := by omega
  rcases ho3 with rfl | rfl | rfl
  ·simp [-lenA, hlen, algA, fnA, insA, hH, zad hH, hcA, hcAE, hbA, zad hbA, hp, hpE, hka, h4, hcl, hkk]
   refine zac (fun Hx => iNeg p hpv Hx) ?_
   simp
   refine endD [] (by rfl) (by simp [okW, note, Eff.triv, Eff.wr, Eff.none, upTo, newAt]; omega) ?_
   simp
   exact hfin _ _ (neg p) (by simp [za1, atN, hp]) (by simp) (by simp)
  ·by_cases k0 : own.length = 0
   ·rw [k0] at h4 hp hcA
    simp only [k0] at hpE hcAE hlen
    simp [-lenA, hlen, algA, fnA, insA, hH, zad hH, hcA, hcAE, hbA, zad hbA, hp, hpE, hka, h4, hcl]
    refine zac (fun Hx => zoz p hpv Hx) ?_
    simp
    refine endD [] (by rfl) (by simp [okW, note, Eff.triv, Eff.wr, Eff.none, upTo, newAt]; omega) ?_
    simp
    exact hfin _ _ (sq p) (by simp [za1, atN, hp, k0]) (by simp) (by simp)
   ·have hne : ((own.length : Int) == 0) = false := by rw [beq_eq_false_iff_ne]; omega
    simp [-lenA, hlen, algA, fnA, insA, hH, zad hH, hcA, hcAE, hbA, zad hbA, hp, hpE, hka, h4, hcl, hkk, hne]
    refine zbF [bA] (by simp; omega) (fun Hx hx => by
     have e : Hx[bA]? = some (.row wA 2 ((rowN l ka).map iv)) := by rw [hx bA (by simp)]; exact zad hbA
     simpa [algA, fnA] using zqO _ _ bA bA own.length wA wA hva hva h4 h4 (by omega) Hx e e) ?_
    simp
    refine endD [] (by rfl) (by simp [okW, note, Eff.triv, Eff.wr, Eff.none, upTo, newAt]; omega) ?_
    simp
    exact hfin _ _ (zbh (rowN l ka) (rowN l ka) 0 (own.length + 1) own.length) (by simp [za1, k0]) (by simp) (by simp)
  ·simp [-lenA, hlen, algA, fnA, insA, hH, zad hH, hcA, hcAE, hbA, zad hbA, hp, hpE, hka, h4, hcl, hkk]
   have hS := fun Hx e hv' => znw (rowN l ka) own bA wA v hva ho (by omega) (by omega) Hx e hv'
   rw [h4] at hS
   rcases hv with ⟨rfl, rfl | rfl⟩ | ⟨bq, w, rfl, hbq⟩
   ·refine zbF [bA] (by simp; omega) (fun Hx hx => hS Hx (by rw [hx bA (by simp)]; exact zad hbA) (.inl ⟨rfl, .inl rfl⟩)) ?_
    simp
    refine endD [] (by rfl) (by simp [okW, note, Eff.triv, Eff.wr, Eff.none, upTo, newAt]; omega) ?_
    simp
    exact hfin _ _ (zc4 (rowN l ka) []) (by simp [za1]) (by simp) (by simp)
   ·refine zbF [bA] (by simp; omega) (fun Hx hx => hS Hx (by rw [hx bA (by simp)]; exact zad hbA) (.inl ⟨rfl, .inr rfl⟩)) ?_
    simp
    refine endD [] (by rfl) (by simp [okW, note, Eff.triv, Eff.wr, Eff.none, upTo, newAt]; omega) ?_
    simp
    exact hfin _ _ (zc4 (rowN l ka) []) (by simp [za1]) (by simp) (by simp)
   ·have hql := (gI.1 hbq).1
    refine zbF [bA, bq] (by simp; omega) (fun Hx hx => hS Hx (by rw [hx bA (by simp)]; exact zad hbA) (.inr ⟨bq, w, rfl, by rw [hx bq (by simp)]; exact zad hbq⟩)) ?_
    simp
    refine endD [] (by rfl) (by simp [okW, note, Eff.triv, Eff.wr, Eff.none, upTo, newAt]; omega) ?_
    simp
    exact hfin _ _ (zc4 (rowN l ka) own) (by simp [za1]) (by simp) (by simp)
 ·simp only at h1 h2 h3 h4 h5 h6
  obtain ⟨ka, rfl⟩ : ∃ k : Nat, a = k := ⟨a.toNat, by omega⟩
  obtain ⟨kb, rfl⟩ : ∃ k : Nat, b = k := ⟨b.toNat, by omega⟩
  obtain ⟨bA, wA, hcA, hbA, hka⟩ := hR.get (j := ka) (by omega)
  obtain ⟨bB, wB, hcB, hbB, hkb⟩ := hR.get (j := kb) (by omega)
  rw [h5] at hcA
  rw [h6] at hcB
  have hcAE : ∀ h, cells[ka]'h = .ref bA (own.length + 1) := fun h => (gI.1 hcA).2
  have hcBE : ∀ h, cells[kb]'h = .ref bB (own.length + 1) := fun h => (gI.1 hcB).2
  have hAl := (gI.1 hbA).1
  have hBl := (gI.1 hbB).1
  have hva := hr ka
  have hvb := hr kb
  obtain ⟨p, hp⟩ := zaj (l := rowN l ka) (i := own.length) (by omega)
  have hpE : ∀ h, (rowN l ka)[own.length]'h = p := fun h => (gI.1 hp).2
  have hpv := hva p (List.mem_of_getElem? hp)
  obtain ⟨q, hq⟩ := zaj (l := rowN l kb) (i := own.length) (by omega)
  have hqE : ∀ h, (rowN l kb)[own.length]'h = q := fun h => (gI.1 hq).2
  have hqv := hvb q (List.mem_of_getElem? hq)
  have hkk : (own.length : Int) < (own.length : Int) + 1 := by omega
  have ho4 : o = 7 ∨ o = 8 ∨ o = 9 ∨ o = 10 := by omega
  rcases ho4 with rfl | rfl | rfl | rfl
  ·simp [-lenA, hlen, algA, fnA, insA, hH, zad hH, hcA, hcAE, hbA, zad hbA, hp, hpE, hka, h5, hcB, hcBE, hbB, zad hbB, hq, hqE, hkb, h6, hcl, hkk]
   refine zac (fun Hx => iAdd p q hpv hqv Hx) ?_
   simp
   refine endD [] (by rfl) (by simp [okW, note, Eff.triv, Eff.wr, Eff.none, upTo, newAt]; omega) ?_
   simp
   exact hfin _ _ (add p q) (by simp [za1, atN, hp, hq]) (by simp) (by simp)
  ·simp [-lenA, hlen, algA, fnA, insA, hH, zad hH, hcA, hcAE, hbA, zad hbA, hp, hpE, hka, h5, hcB, hcBE, hbB, zad hbB, hq, hqE, hkb, h6, hcl, hkk]
   refine zac (fun Hx => iSub p q hpv hqv Hx) ?_
   simp
   refine endD [] (by rfl) (by simp [okW, note, Eff.triv, Eff.wr, Eff.none, upTo, newAt]; omega) ?_
   simp
   exact hfin _ _ (sub p q) (by simp [za1, atN, hp, hq]) (by simp) (by simp)
  ·simp [-lenA, hlen, algA, fnA, insA, hH, zad hH, hcA, hcAE, hbA, zad hbA, hp, hpE, hka, h5, hcB, hcBE, hbB, zad hbB, hq, hqE, hkb, h6, hcl, hkk]
   refine zbF [bA, bB] (by simp; omega) (fun Hx hx => by
    have e1 : Hx[bA]? = some (.row wA 2 ((rowN l ka).map iv)) := by rw [hx bA (by simp)]; exact zad hbA
    have e2 : Hx[bB]? = some (.row wB 2 ((rowN l kb).map iv)) := by rw [hx bB (by simp)]; exact zad hbB
    simpa [algA, fnA] using zqO _ _ bA bB own.length wA wB hva hvb h5 h6 (by omega) Hx e1 e2) ?_
   simp
   refine endD [] (by rfl) (by simp [okW, note, Eff.triv, Eff.wr, Eff.none, upTo, newAt]; omega) ?_
   simp
   exact hfin _ _ (zbh (rowN l ka) (rowN l kb) 0 (own.length + 1) own.length) (by simp [za1]) (by simp) (by simp)
  ·simp [-lenA, hlen, algA, fnA, insA, hH, zad hH, hcA, hcAE, hbA, zad hbA, hp, hpE, hka, h5, hcB, hcBE, hbB, zad hbB, hq, hqE, hkb, h6, hcl, hkk]
   have hS := fun Hx e e2 hv' => zir (rowN l ka) (rowN l kb) own bA bB wA wB v hva hvb ho (by omega) (by omega) (by omega) Hx e e2 hv'
   rw [h5, h6] at hS
   rcases hv with ⟨rfl, rfl | rfl⟩ | ⟨bq, w, rfl, hbq⟩
   ·refine zbF [bA, bB] (by simp; omega) (fun Hx hx => hS Hx (by rw [hx bA (by simp)]; exact zad hbA) (by rw [hx bB (by simp)]; exact zad hbB) (.inl ⟨rfl, .inl rfl⟩)) ?_
    simp
    refine endD [] (by rfl) (by simp [okW, note, Eff.triv, Eff.wr, Eff.none, upTo, newAt]; omega) ?_
    simp
    exact hfin _ _ (zdf (rowN l ka) (rowN l kb) []) (by simp [za1]) (by simp) (by simp)
   ·refine zbF [bA, bB] (by simp; omega) (fun Hx hx => hS Hx (by rw [hx bA (by simp)]; exact zad hbA) (by rw [hx bB (by simp)]; exact zad hbB) (.inl ⟨rfl, .inr rfl⟩)) ?_
    simp
    refine endD [] (by rfl) (by simp [okW, note, Eff.triv, Eff.wr, Eff.none, upTo, newAt]; omega) ?_
    simp
    exact hfin _ _ (zdf (rowN l ka) (rowN l kb) []) (by simp [za1]) (by simp) (by simp)
   ·have hql := (gI.1 hbq).1
    refine zbF [bA, bB, bq] (by simp; omega) (fun Hx hx => hS Hx (by rw [hx bA (by simp)]; exact zad hbA) (by rw [hx bB (by simp)]; exact zad hbB) (.inr ⟨bq, w, rfl, by rw [hx bq (by simp)]; exact zad hbq⟩)) ?_
    simp
    refine endD [] (by rfl) (by simp [okW, note, Eff.triv, Eff.wr, Eff.none, upTo, newAt]; omega) ?_
    simp
    exact hfin _ _ (zdf (rowN l ka) (rowN l kb) own) (by simp [za1]) (by simp) (by simp)
theorem znN (a b : List I) (b1 b2 k : Nat) (w1 w2 : Bool) (ha : allV a) (hb : allV b) (hal : a.length = k + 1) (hbl : b.length = k + 1) (hk : k ≤ 100000) (H : AH) (hb1 : H[b1]? = some (.row w1 2 (a.map iv))) (hb2 : H[b2]? = some (.row w2 2 (b.map iv))) :
  zaf E 250 [.ref b1 (k + 1), .ref b2 (k + 1), .agg [.int .i64 0, .int .i64 k, .int .i64 k]] H (.ret (iv (zbh a b 0 (k + 1) k))) H := by
 have := zgN a b b1 b2 0 (k + 1) k w1 w2 ha hb (by omega) (by omega) (by omega) (by omega) (by omega) H hb1 hb2
 unfold lim3 at this
 rw [hal, hbl, show ((k + 1 : Nat) : Int) - 1 = k by omega] at this
 exact this
theorem ztK (x : Ins) (L : Nat) (cells : List AV) (l : List (List I)) (own : List I) (v : AV) (t : I) (hx : zlR x l own.length) (hL : ∀ q ∈ l, allV q) (ho : allV own) (ht : vB t = true) (hk : own.length ≤ 100000) (H : AH) (hR : zkD H L cells l) (hv : Own H v own) :
  zaf E 199 [insA x, .ref L l.length, v, iv t] H (.ret (iv (za1 x l own t))) H := by
 refine zab zah zai Tryz.func199 rfl (by rfl) Tryz.ntmps199 (by kernel_rfl) (by simp) ?_
 have hH := hR.1
 have hcl := hR.2.1
 have hLl := (gI.1 hH).1
 have hr : ∀ i, allV (rowN l i) := by
  intro i
  unfold rowN
  cases h : l[i.toNat]? with
  | none => intro p hp; simp at hp
  | some q => exact hL q (List.mem_of_getElem? h)
 have hlen : ∀ K : AH, lenA tab (H ++ K) 23 v = some (.int .i64 own.length) := by
  intro K
  rcases hv with ⟨rfl, rfl | rfl⟩ | ⟨bq, w, rfl, hbq⟩
  ·simp [lenA]
  ·simp [lenA]
  ·simp [lenA, zad hbq]
 have wz : IntKind.i64.wrap 0 = 0 := zae (by decide) (by decide)
 obtain ⟨o, a, b, c⟩ := x
 have hfin : ∀ (fr : AFr) (J : AH) (p : I), za1 ⟨o, a, b, c⟩ l own t = p → fr 8 = .ptr (H.length + 2) 1 0 0 → J[2]? = some (.row true 2 [iv p]) → zbN E Tryz.f199 H (.ret (iv (za1 ⟨o, a, b, c⟩ l own t))) H .ret fr (H ++ J) := by
  intro fr J p hp h10 hJ
  rw [hp]
  exact fin1 (rs := [.cell 8 48]) (by rfl) (by simp [resA, h10, hJ]) (by simp [noFs, noF])
 rcases hx with ⟨h1, h2⟩ | h1 | ⟨h1, h2, h3, h4⟩ | ⟨h1, h2, h3, h4, h5, h6⟩
 ·simp only at h1 h2
  subst h1
  by_cases k0 : own.length = 0
  ·simp only [k0] at hlen
   simp [-lenA, hlen, insA]
   exact hfin _ _ c (by simp [za1, k0]) (by simp) (by simp)
  ·have hne : ((own.length : Int) == 0) = false := by rw [beq_eq_false_iff_ne]; omega
   simp [-lenA, hlen, insA, hne]
   refine zaa (zlK _) ?_
   simp
   exact hfin _ _ (0, 0) (by simp [za1, k0]) (by simp) (by simp)
 ·simp only at h1
  subst h1
  by_cases k0 : own.length = 0
  ·simp only [k0] at hlen
   simp [-lenA, hlen, insA]
   exact hfin _ _ t (by simp [za1, k0]) (by simp) (by simp)
  ·by_cases k1 : own.length = 1
   ·simp only [k1] at hlen
    simp [-lenA, hlen, insA]
    refine zaa (r9One _) ?_
    simp
    exact hfin _ _ (65536, 65536) (by simp [za1, k1]) (by simp) (by simp)
   ·have hne : ((own.length : Int) == 0) = false := by rw [beq_eq_false_iff_ne]; omega
    have hne1 : ((own.length : Int) == 1) = false := by rw [beq_eq_false_iff_ne]; omega
    simp [-lenA, hlen, insA, hne, hne1]
    refine zaa (zlK _) ?_
    simp
    exact hfin _ _ (0, 0) (by simp [za1, k0, k1]) (by simp) (by simp)
 ·simp only at h1 h2 h3 h4
  obtain ⟨ka, rfl⟩ : ∃ k : Nat, a = k := ⟨a.toNat, by omega⟩
  obtain ⟨bA, wA, hcA, hbA, hka⟩ := hR.get (j := ka) (by omega)
  rw [h4] at hcA
  have hcAE : ∀ h, cells[ka]'h = .ref bA (own.length + 1) := fun h => (gI.1 hcA).2
  have hAl := (gI.1 hbA).1
  have hva := hr ka
  obtain ⟨p, hp⟩ := zaj (l := rowN l ka) (i := own.length) (by omega)
  have hpE : ∀ h, (rowN l ka)[own.length]'h = p := fun h => (gI.1 hp).2
  have hpv := hva p (List.mem_of_getElem? hp)
  have ho3 : o = 4 ∨ o = 5 ∨ o = 6 := by omega
  have hkk : (own.length : Int) < (own.length : Int) + 1 := by omega
  have hb2 : own.length < own.length + 1 := by omega
  rcases ho3 with rfl | rfl | rfl
  ·simp [-lenA, hlen, insA, hH, zad hH, hcA, hcAE, hbA, zad hbA, hp, hpE, hka, h4, hcl, hkk]
   refine zaa (rNeg p hpv _) ?_
   simp
   exact hfin _ _ (neg p) (by simp [za1, atN, hp]) (by simp) (by simp)
  ·by_cases k0 : own.length = 0
   ·rw [k0] at h4 hp hcA
    simp only [k0] at hpE hcAE hlen
    simp [-lenA, hlen, insA, hH, zad hH, hcA, hcAE, hbA, zad hbA, hp, hpE, hka, h4, hcl]
    refine zaa (zk1 p hpv _) ?_
    simp
    exact hfin _ _ (sq p) (by simp [za1, atN, hp, k0]) (by simp) (by simp)
   ·have hne : ((own.length : Int) == 0) = false := by rw [beq_eq_false_iff_ne]; omega
    simp [-lenA, hlen, insA, hH, zad hH, hcA, hcAE, hbA, zad hbA, hp, hpE, hka, h4, hcl, hkk, hne]
    refine zbF [bA] (by simp; omega) (fun Hx hx => by
     have e : Hx[bA]? = some (.row wA 2 ((rowN l ka).map iv)) := by rw [hx bA (by simp)]; exact zad hbA
     simpa using znN _ _ bA bA own.length wA wA hva hva h4 h4 (by omega) Hx e e) ?_
    simp
    refine endD [] (by rfl) (by simp [okW, note, Eff.triv, Eff.wr, Eff.none, upTo, newAt]; omega) ?_
    simp
    exact hfin _ _ (zbh (rowN l ka) (rowN l ka) 0 (own.length + 1) own.length) (by simp [za1, k0]) (by simp) (by simp)
  ·simp [-lenA, hlen, insA, hH, zad hH, hcA, hcAE, hbA, zad hbA, hp, hpE, hka, h4, hcl, hkk]
   have hS := fun Hx e hv' => zmJ (rowN l ka) own bA wA v hva ho (by omega) (by omega) Hx e hv'
   rw [h4] at hS
   have hvK : ∀ K : AH, Own (H ++ K) v own := by
    intro K
    rcases hv with h | ⟨bq, w, h, hbq⟩
    ·exact .inl h
    ·exact .inr ⟨bq, w, h, zad hbq⟩
   refine zaa (hS _ (zad hbA) (hvK _)) ?_
   simp
   exact hfin _ _ (zc4 (rowN l ka) own) (by simp [za1]) (by simp) (by simp)
 ·simp only at h1 h2 h3 h4 h5 h6
  obtain ⟨ka, rfl⟩ : ∃ k : Nat, a = k := ⟨a.toNat, by omega⟩
  obtain ⟨kb, rfl⟩ : ∃ k : Nat, b = k := ⟨b.toNat, by omega⟩
  obtain ⟨bA, wA, hcA, hbA, hka⟩ := hR.get (j := ka) (by omega)
  obtain ⟨bB, wB, hcB, hbB, hkb⟩ := hR.get (j := kb) (by omega)
  rw [h5] at hcA
  rw [h6] at hcB
  have hcAE : ∀ h, cells[ka]'h = .ref bA (own.length + 1) := fun h => (gI.1 hcA).2
  have hcBE : ∀ h, cells[kb]'h = .ref bB (own.length + 1) := fun h => (gI.1 hcB).2
  have hAl := (gI.1 hbA).1
  have hBl := (gI.1 hbB).1
  have hva := hr ka
  have hvb := hr kb
  obtain ⟨p, hp⟩ := zaj (l := rowN l ka) (i := own.length) (by omega)
  have hpE : ∀ h, (rowN l ka)[own.length]'h = p := fun h => (gI.1 hp).2
  have hpv := hva p (List.mem_of_getElem? hp)
  obtain ⟨q, hq⟩ := zaj (l := rowN l kb) (i := own.length) (by omega)
  have hqE : ∀ h, (rowN l kb)[own.length]'h = q := fun h => (gI.1 hq).2
  have hqv := hvb q (List.mem_of_getElem? hq)
  have hkk : (own.length : Int) < (own.length : Int) + 1 := by omega
  have ho4 : o = 7 ∨ o = 8 ∨ o = 9 ∨ o = 10 := by omega
  rcases ho4 with rfl | rfl | rfl | rfl
  ·simp [-lenA, hlen, insA, hH, zad hH, hcA, hcAE, hbA, zad hbA, hp, hpE, hka, h5, hcB, hcBE, hbB, zad hbB, hq, hqE, hkb, h6, hcl, hkk]
   refine zac (fun Hx => rAdd p q hpv hqv Hx) ?_
   simp
   refine endD [] (by rfl) (by simp [okW, note, Eff.triv, Eff.wr, Eff.none, upTo, newAt]; omega) ?_
   simp
   exact hfin _ _ (add p q) (by simp [za1, atN, hp, hq]) (by simp) (by simp)
  ·simp [-lenA, hlen, insA, hH, zad hH, hcA, hcAE, hbA, zad hbA, hp, hpE, hka, h5, hcB, hcBE, hbB, zad hbB, hq, hqE, hkb, h6, hcl, hkk]
   refine zac (fun Hx => rSub p q hpv hqv Hx) ?_
   simp
   refine endD [] (by rfl) (by simp [okW, note, Eff.triv, Eff.wr, Eff.none, upTo, newAt]; omega) ?_
   simp
   exact hfin _ _ (sub p q) (by simp [za1, atN, hp, hq]) (by simp) (by simp)
  ·simp [-lenA, hlen, insA, hH, zad hH, hcA, hcAE, hbA, zad hbA, hp, hpE, hka, h5, hcB, hcBE, hbB, zad hbB, hq, hqE, hkb, h6, hcl, hkk]
   refine zbF [bA, bB] (by simp; omega) (fun Hx hx => by
    have e1 : Hx[bA]? = some (.row wA 2 ((rowN l ka).map iv)) := by rw [hx bA (by simp)]; exact zad hbA
    have e2 : Hx[bB]? = some (.row wB 2 ((rowN l kb).map iv)) := by rw [hx bB (by simp)]; exact zad hbB
    simpa using znN _ _ bA bB own.length wA wB hva hvb h5 h6 (by omega) Hx e1 e2) ?_
   simp
   refine endD [] (by rfl) (by simp [okW, note, Eff.triv, Eff.wr, Eff.none, upTo, newAt]; omega) ?_
   simp
   exact hfin _ _ (zbh (rowN l ka) (rowN l kb) 0 (own.length + 1) own.length) (by simp [za1]) (by simp) (by simp)
  ·simp [-lenA, hlen, insA, hH, zad hH, hcA, hcAE, hbA, zad hbA, hp, hpE, hka, h5, hcB, hcBE, hbB, zad hbB, hq, hqE, hkb, h6, hcl, hkk]
   have hS := fun Hx e e2 hv' => zhs (rowN l ka) (rowN l kb) own bA bB wA wB v hva hvb ho (by omega) (by omega) (by omega) Hx e e2 hv'
   rw [h5, h6] at hS
   rcases hv with ⟨rfl, rfl | rfl⟩ | ⟨bq, w, rfl, hbq⟩
   ·refine zbF [bA, bB] (by simp; omega) (fun Hx hx => hS Hx (by rw [hx bA (by simp)]; exact zad hbA) (by rw [hx bB (by simp)]; exact zad hbB) (.inl ⟨rfl, .inl rfl⟩)) ?_
    simp
    refine endD [] (by rfl) (by simp [okW, note, Eff.triv, Eff.wr, Eff.none, upTo, newAt]; omega) ?_
    simp
    exact hfin _ _ (zdf (rowN l ka) (rowN l kb) []) (by simp [za1]) (by simp) (by simp)
   ·refine zbF [bA, bB] (by simp; omega) (fun Hx hx => hS Hx (by rw [hx bA (by simp)]; exact zad hbA) (by rw [hx bB (by simp)]; exact zad hbB) (.inl ⟨rfl, .inr rfl⟩)) ?_
    simp
    refine endD [] (by rfl) (by simp [okW, note, Eff.triv, Eff.wr, Eff.none, upTo, newAt]; omega) ?_
    simp
    exact hfin _ _ (zdf (rowN l ka) (rowN l kb) []) (by simp [za1]) (by simp) (by simp)
   ·have hql := (gI.1 hbq).1
    refine zbF [bA, bB, bq] (by simp; omega) (fun Hx hx => hS Hx (by rw [hx bA (by simp)]; exact zad hbA) (by rw [hx bB (by simp)]; exact zad hbB) (.inr ⟨bq, w, rfl, by rw [hx bq (by simp)]; exact zad hbq⟩)) ?_
    simp
    refine endD [] (by rfl) (by simp [okW, note, Eff.triv, Eff.wr, Eff.none, upTo, newAt]; omega) ?_
    simp
    exact hfin _ _ (zdf (rowN l ka) (rowN l kb) own) (by simp [za1]) (by simp) (by simp)
def bxs (l : List (List I)) : AV := .slice (l.map bx) false
theorem zfS (a : I) (r : List I) (h : I) (hr : r ≠ []) : zaV (a :: r) h = add (mul (zaV r h) h) a := by
 cases r with
 | nil => exact absurd rfl hr
 | cons b r => rfl
theorem zeT {h : I} : ∀ {s : List I}, allV s → vB (zaV s h) = true
 | [], _ => (by decide : vB (0, 0) = true)
 | [a], hs => hs a (by simp)
 | a :: b :: r, hs => by rw [zfS _ _ _ (by simp)]; exact zbB zaz (hs a (by simp))
theorem zty (p h : I) (b : Nat) (w : Bool) (hp : vB p = true) (hh : vB h = true) (H : AH) (hb : H[b]? = some (.row w 2 [iv h])) : zaf E 233 [iv p, .ptr b 1 0 0] H (.ret (iv (mul p h))) H := by
 refine zab zah zai Tryz.func233 rfl (by rfl) Tryz.ntmps233 (by kernel_rfl) (by simp) ?_
 have hl := (gI.1 hb).1
 simp [hb, zad hb]
 refine zaa (iMul p h hp hh _) ?_
 simp
 exact fin1 (rs := [.cell 3 48]) (by rfl) (by simp [resA]) (by simp [noFs, noF])
theorem zhi {g : FuncId} {captured args : List AV} {next : NxD} {H : AH} {r : AV} (rds : List Nat) (hb : ∀ b ∈ rds, b < H.length) (h : ∀ Hx : AH, (∀ b ∈ rds, Hx[b]? = H[b]?) → zaf E g (args ++ captured) Hx (.ret r) Hx)
  (kk : next .go r ⟨rds, [], none, true⟩ H) : zdN E (.func (.func g) [] captured) args next H :=
 ⟨r, rds, [], ⟨hb, fun p hp => by simp at hp, fun Hx hx => .inl (by rw [List.nil_append]; exact h Hx hx)⟩, kk⟩
def mulF (b : Nat) : AV := .func (.func 233) [] [.ptr b 1 0 0]
def LHo (l : List (List I)) (h : I) (b : Nat) (H : AH) (i : Nat) (fr : AFr) (H' : AH) : Prop :=
 fr 1 = mulF b ∧ fr 2 = fnA 91 ∧ fr 7 = .ref H.length l.length ∧ fr 15 = bxs l ∧ fr 16 = .int .i64 l.length ∧ fr 17 = .int .i64 i ∧ i ≤ l.length ∧ ∃ J, H' = H ++ J ∧ J[0]? = some (.row true 2 (padI ((l.take i).map fun s => zaV s h) l.length))
def LHi (l : List (List I)) (s : List I) (h : I) (b : Nat) (H : AH) (i : Nat) (m : Nat) (fr : AFr) (H' : AH) : Prop :=
 fr 1 = mulF b ∧ fr 2 = fnA 91 ∧ fr 7 = .ref H.length l.length ∧ fr 15 = bxs l ∧ fr 16 = .int .i64 l.length ∧ fr 17 = .int .i64 i ∧ fr 8 = .int .i64 i ∧ fr 9 = bx s ∧ fr 11 = .int .i64 ((m : Int) - 1) ∧ m < s.length ∧
 ∃ J k, H' = H ++ J ∧ J[0]? = some (.row true 2 (padI ((l.take i).map fun s => zaV s h) l.length)) ∧ 0 < k ∧ fr 10 = .ptr (H.length + k) 1 0 0 ∧ J[k]? = some (.row true 2 [iv (zaV (s.drop m) h)])
theorem zrN (l : List (List I)) (h : I) (b : Nat) (w : Bool) (hl : ∀ s ∈ l, allV s ∧ s ≠ [] ∧ s.length ≤ 100000) (hn : l.length ≤ 1000) (hh : vB h = true) (H : AH) (hb : H[b]? = some (.row w 2 [iv h])) :
  zaf E 232 [bxs l, mulF b, fnA 91] H (.ret (bx (zdA l h))) H := by
 refine zab zah zai Tryz.func232 rfl (by rfl) Tryz.ntmps232 (by kernel_rfl) (by simp) ?_
 have hbl := (gI.1 hb).1
 simp [bxs]
 refine zaY (by omega) ?_
 simp
 refine zag (LHo l h b H) (fun i => l.length - i) 0 ⟨by simp, by simp, by simp, by simp [bxs], by simp, by simp, by omega, _, rfl, by simp [ziC]⟩ ?_
 rintro i fr H' ⟨g1, g2, g7, g15, g16, g17, hi, J, rfl, hJ0⟩
 have hJl : 0 < J.length := (gI.1 hJ0).1
 simp [g16, g17]
 refine zak (fun hc => ?_) (fun hc => ?_)
 ·have hlt : i < l.length := by simpa using hc
  obtain ⟨s, hs⟩ := zaj hlt
  have hsE : ∀ h, l[i]'h = s := fun h => (gI.1 hs).2
  obtain ⟨hsv, hsn, hsl⟩ := hl s (List.mem_of_getElem? hs)
  have hpos : 0 < s.length := List.length_pos_iff.2 hsn
  obtain ⟨p, hp⟩ := zaj (l := s) (i := s.length - 1) (by omega)
  have hpE : ∀ h, s[s.length - 1]'h = p := fun h => (gI.1 hp).2
  have w1 : IntKind.i64.wrap ((s.length : Int) - 1) = ((s.length - 1 : Nat) : Int) := by rw [zae (by omega) (by omega)]; omega
  have w2 : IntKind.i64.wrap ((s.length : Int) - 2) = ((s.length - 1 : Nat) : Int) - 1 := by rw [zae (by omega) (by omega)]; omega
  have wi : IntKind.i64.wrap ((i : Int) + 1) = ((i + 1 : Nat) : Int) := by rw [zae (by omega) (by omega)]; omega
  have hdl : zaV (s.drop (s.length - 1)) h = p := by
   have : s.drop (s.length - 1) = [p] := by
    rw [List.drop_eq_getElem_cons (by omega), hpE, show s.length - 1 + 1 = s.length by omega, List.drop_length]
   rw [this]; rfl
  simp [g15, g17, bxs, bx, hs, hsE, hp, hpE, w1, w2]
  refine zag (LHi l s h b H i) (fun m => m) (s.length - 1) ⟨by simp [g1], by simp [g2], by simp [g7], by simp [g15], by simp [g16], by simp [g17], by simp, by simp [bx], by simp, by omega, _, J.length, rfl, zad hJ0, hJl, by simp, by simp [hdl]⟩ ?_
  clear hJ0 hJl g1 g2 g7 g15 g16 g17
  rintro m fr H' ⟨g1, g2, g7, g15, g16, g17, g8, g9, g11, hm, J', k, rfl, hJ0, hk0, g10, hJk⟩
  simp [g11]
  refine zak (fun hc2 => ?_) (fun hc2 => ?_)
  ·have hm1 : 1 ≤ m := by simp at hc2; omega
   have g11' : fr 11 = .int .i64 ((m - 1 : Nat) : Int) := by rw [g11]; congr 1; omega
   obtain ⟨a, ha⟩ := zaj (l := s) (i := m - 1) (by omega)
   have haE : ∀ h, s[m - 1]'h = a := fun h => (gI.1 ha).2
   have hav := hsv a (List.mem_of_getElem? ha)
   have hdv : vB (zaV (s.drop m) h) = true := zeT fun p hp => hsv p (List.mem_of_mem_drop hp)
   have hstep : add (mul (zaV (s.drop m) h) h) a = zaV (s.drop (m - 1)) h := by
    have : s.drop (m - 1) = a :: s.drop m := by
     rw [List.drop_eq_getElem_cons (by omega), haE, show m - 1 + 1 = m by omega]
    rw [this, zfS]
    intro h0
    have := congrArg List.length h0
    simp at this; omega
   have hkl := (gI.1 hJk).1
   have hml : m - 1 < s.length := by omega
   have wm : IntKind.i64.wrap (((m - 1 : Nat) : Int) - 1) = ((m - 1 : Nat) : Int) - 1 := zae (by omega) (by omega)
   simp [g1, g2, g9, g10, g11', mulF, fnA, hJk, ha, haE, bx]
   refine zhi [b] (by simp; omega) (fun Hx hx => zty _ h b w hdv hh Hx (by rw [hx b (by simp)]; exact zad hb)) ?_
   simp [g2, g9, g11', fnA, bx, ha, haE]
   refine zac (fun Hx => iAdd _ a zaz hav Hx) ?_
   simp [g10, hJk]
   refine endD [(2, 9)] (by rfl) (by simp [okW, note, Eff.triv, Eff.wr, Eff.none, upTo, newAt]; omega) ?_
   simp [g11', wm]
   refine ⟨m - 1, by show m - 1 < m; omega, by simp [g1, mulF], by simp [g2, fnA], by simp [g7], by simp [g15], by simp [g16], by simp [g17], by simp [g8], by simp [g9, bx], by simp, by omega, _, k, rfl, ?_, hk0, by simp [g10], ?_⟩
   ·rw [List.getElem?_set_ne (by omega)]; exact hJ0
   ·rw [← hstep]; exact zch hJk
  ·have hm0 : m = 0 := by simp at hc2; omega
   subst hm0
   have hW0 : (padI ((l.take i).map fun s => zaV s h) l.length)[i]? = some (iv (0, 0)) := zgS (by simp <;> omega) hlt
   have hW0E : ∀ h', (padI ((l.take i).map fun s => zaV s h) l.length)[i]'h' = iv (0, 0) := fun h' => (gI.1 hW0).2
   have hWl : (padI ((l.take i).map fun s => zaV s h) l.length).length = l.length := ziD (by simp <;> omega)
   have hWset : (padI ((l.take i).map fun s => zaV s h) l.length).set i (iv (zaV s h)) = padI ((l.take (i + 1)).map fun s => zaV s h) l.length := by
    have := ziB (l := (l.take i).map fun s => zaV s h) (n := l.length) (p := zaV s h) (by simp <;> omega)
    rw [show ((l.take i).map fun s => zaV s h).length = i by (simp <;> omega)] at this
    rw [this, List.take_add_one, hs]
    simp
   generalize padI ((l.take i).map fun s => zaV s h) l.length = W at *
   have hJl2 := (gI.1 hJ0).1
   rw [List.drop_zero] at hJk
   simp [g7, g8, g10, g17, hJ0, hJk, hWl, hlt, hW0, hW0E, wi]
   refine ⟨i + 1, by show l.length - (i + 1) < l.length - i; omega, by simp [g1], by simp [g2], by simp [g7], by simp [g15], by simp [g16], by simp, by omega, _, rfl, ?_⟩
   rw [← hWset]; exact zch hJ0
 ·have hi' : i = l.length := by have : ¬ i < l.length := by simpa using hc
                                omega
  subst hi'
  rw [List.take_length, ziE (by simp)] at hJ0
  simp
  exact finS (t := 6) (v := .ref (H.length + 0) l.length) (v0 := .nilslice) (sz := 2) (xs := (zdA l h).map iv) (by rfl) (by simp [g7]) (.inr ⟨0, by simp [zdA], hJ0⟩) rfl (zaJ _ _)
theorem sEval (l : List (List I)) (h : I) (hl : ∀ s ∈ l, allV s ∧ s ≠ [] ∧ s.length ≤ 100000) (hn : l.length ≤ 1000) (hh : vB h = true) (H : AH) : zaf E 176 [bxs l, iv h] H (.ret (bx (zdA l h))) H := by
 refine zab zah zai Tryz.func176 rfl (by rfl) Tryz.ntmps176 (by kernel_rfl) (by simp) ?_
 simp
 refine zaa (zrN l h H.length true hl hn hh _ (by simp)) ?_
 simp
 exact fin1 (rs := [.tmp 4]) (by rfl) (by simp [resA]) (by simp only [bx, noF, zaJ])
def LE9 (l : List (List I)) (h : I) (H : AH) (i : Nat) (fr : AFr) (H' : AH) : Prop :=
 fr 0 = bxs l ∧ fr 3 = .ptr H.length 1 0 0 ∧ fr 6 = .int .i64 i ∧ i ≤ l.length ∧ ∃ J, H' = H ++ J ∧ J[0]? = some (.row true 2 [iv h]) ∧ Acc H J (fr 5) 2 (((l.take i).map fun s => zaV s h).map iv) (.slice [] true) ∧ (∀ n, fr 5 ≠ .ref (H.length + 0) n)
def LE9u (l : List (List I)) (s : List I) (h : I) (H : AH) (i : Nat) (m : Nat) (fr : AFr) (H' : AH) : Prop :=
 fr 0 = bxs l ∧ fr 3 = .ptr H.length 1 0 0 ∧ fr 6 = .int .i64 i ∧ fr 8 = .int .i64 ((m : Int) - 1) ∧ m < s.length ∧
 ∃ J k, H' = H ++ J ∧ J[0]? = some (.row true 2 [iv h]) ∧ Acc H J (fr 5) 2 (((l.take i).map fun s => zaV s h).map iv) (.slice [] true) ∧ (∀ n, fr 5 ≠ .ref (H.length + 0) n) ∧ 0 < k ∧ fr 7 = .ptr (H.length + k) 1 0 0 ∧ J[k]? = some (.row true 2 [iv (zaV (s.drop m) h)]) ∧ (∀ n, fr 5 ≠ .ref (H.length + k) n)
theorem ztL (l : List (List I)) (h : I) (hl : ∀ s ∈ l, allV s ∧ s ≠ [] ∧ s.length ≤ 100000) (hn : l.length ≤ 1000) (hh : vB h = true) (H : AH) : zaf E 129 [bxs l, iv h] H (.ret (bx (zdA l h))) H := by
 refine zab zah zai Tryz.func129 rfl (by rfl) Tryz.ntmps129 (by kernel_rfl) (by simp) ?_
 simp
 refine zag (LE9 l h H) (fun i => l.length - i) 0 ⟨by simp, by simp, by simp, by omega, _, rfl, by simp, .inl ⟨by simp, by simp⟩, by simp⟩ ?_
 rintro i fr H' ⟨g0, g3, g6, hi, J, rfl, hJ0, hacc, hn0⟩
 have hJl : 0 < J.length := (gI.1 hJ0).1
 simp [g0, g6, bxs]
 refine zak (fun hc => ?_) (fun hc => ?_)
 ·have hlt : i < l.length := by simpa using hc
  obtain ⟨s, hs⟩ := zaj hlt
  have hsE : ∀ h, l[i]'h = s := fun h => (gI.1 hs).2
  obtain ⟨hsv, hsn, hsl⟩ := hl s (List.mem_of_getElem? hs)
  have hpos : 0 < s.length := List.length_pos_iff.2 hsn
  obtain ⟨p, hp⟩ := zaj (l := s) (i := s.length - 1) (by omega)
  have hpE : ∀ h, s[s.length - 1]'h = p := fun h => (gI.1 hp).2
  have w1 : IntKind.i64.wrap ((s.length : Int) - 1) = ((s.length - 1 : Nat) : Int) := by rw [zae (by omega) (by omega)]; omega
  have w2 : IntKind.i64.wrap ((s.length : Int) - 2) = ((s.length - 1 : Nat) : Int) - 1 := by rw [zae (by omega) (by omega)]; omega
  have wi : IntKind.i64.wrap ((i : Int) + 1) = ((i + 1 : Nat) : Int) := by rw [zae (by omega) (by omega)]; omega
  have hdl : zaV (s.drop (s.length - 1)) h = p := by
   have : s.drop (s.length - 1) = [p] := by
    rw [List.drop_eq_getElem_cons (by omega), hpE, show s.length - 1 + 1 = s.length by omega, List.drop_length]
   rw [this]; rfl
  have hnJ : ∀ n, fr 5 ≠ .ref (H.length + J.length) n := by
   intro n hv
   rcases hacc with ⟨_, h0⟩ | ⟨kk, h0, hk⟩
   ·rw [h0] at hv; cases hv
   ·rw [h0] at hv
    have := (gI.1 hk).1
    simp at hv; omega
  simp [g0, g6, bxs, bx, hs, hsE, hp, hpE, w1]
  refine endD [(12, 13)] (by rfl) (by simp [okW, note, Eff.triv, Eff.wr, Eff.none, upTo, newAt]) ?_
  simp [g0, g6, bxs, bx, hs, hsE, w2]
  refine zag (LE9u l s h H i) (fun m => m) (s.length - 1) ⟨by simp [g0, bxs], by simp [g3], by simp [g6], by simp, by omega, _, J.length, rfl, zad hJ0, by simpa using hacc.len, by simpa using hn0, hJl, by simp, by simp [hdl], by simpa using hnJ⟩ ?_
  clear hJ0 hJl hacc hn0 hnJ g0 g3 g6
  rintro m fr H' ⟨g0, g3, g6, g8, hm, J', k, rfl, hJ0, hacc, hn0, hk0, g7, hJk, hnk⟩
  simp [g8]
  refine zak (fun hc2 => ?_) (fun hc2 => ?_)
  ·have hm1 : 1 ≤ m := by simp at hc2; omega
   have g8' : fr 8 = .int .i64 ((m - 1 : Nat) : Int) := by rw [g8]; congr 1; omega
   obtain ⟨a, ha⟩ := zaj (l := s) (i := m - 1) (by omega)
   have haE : ∀ h, s[m - 1]'h = a := fun h => (gI.1 ha).2
   have hav := hsv a (List.mem_of_getElem? ha)
   have hdv : vB (zaV (s.drop m) h) = true := zeT fun p hp => hsv p (List.mem_of_mem_drop hp)
   have hstep : add (mul (zaV (s.drop m) h) h) a = zaV (s.drop (m - 1)) h := by
    have : s.drop (m - 1) = a :: s.drop m := by
     rw [List.drop_eq_getElem_cons (by omega), haE, show m - 1 + 1 = m by omega]
    rw [this, zfS]
    intro h0
    have := congrArg List.length h0
    simp at this; omega
   have hkl := (gI.1 hJk).1
   have wm : IntKind.i64.wrap (((m - 1 : Nat) : Int) - 1) = ((m - 1 : Nat) : Int) - 1 := zae (by omega) (by omega)
   simp [g0, g3, g6, g7, g8', hJ0, hJk, bxs, bx, hs, hsE, ha, haE]
   refine zac (fun Hx => rMul _ h hdv hh Hx) ?_
   simp [g0, g6, g8', bxs, bx, hs, hsE, ha, haE]
   refine zac (fun Hx => rAdd _ a zaz hav Hx) ?_
   simp [g7, hJk]
   refine endD [(0, 11)] (by rfl) (by simp [okW, note, Eff.triv, Eff.wr, Eff.none, upTo, newAt]; omega) ?_
   simp [g8', wm]
   refine ⟨m - 1, by show m - 1 < m; omega, by simp [g0, bxs], by simp [g3], by simp [g6], by simp, by omega, _, k, rfl, ?_, by simpa using hacc.set hnk, by simpa using hn0, hk0, by simp [g7], ?_, by simpa using hnk⟩
   ·rw [List.getElem?_set_ne (by omega)]; exact hJ0
   ·rw [← hstep]; exact zch hJk
  ·have hm0 : m = 0 := by simp at hc2; omega
   subst hm0
   rw [List.drop_zero] at hJk
   have hft : (l.take (i + 1)).map (fun s => zaV s h) = (l.take i).map (fun s => zaV s h) ++ [zaV s h] := by rw [List.take_add_one, hs]; simp
   obtain ⟨v', J2, hap, hacc', hk', hle, hnew⟩ := Acc.push (T := tab) (t := 23) (e := 48) (x := .slice [iv (zaV s h)] true) (ys := [iv (zaV s h)]) hacc tab23 rfl tab48 rfl rfl (by simp [okc]) ⟨by decide, by simp⟩ (by simp; omega) (by simp; omega)
   have hJl2 : 0 < J'.length := (gI.1 hJ0).1
   simp [g6, g7, hJk]
   refine bind_some (by simpa using hap) ?_
   simp [g6, wi]
   refine ⟨i + 1, by show l.length - (i + 1) < l.length - i; omega, by simp [g0], by simp [g3], by simp, by omega, J2, rfl, hk' 0 _ hJ0 hn0, by rw [hft]; simpa using hacc', ?_⟩
   intro n hv
   rcases hnew 0 n (by simpa using hv) with ⟨m, hm⟩ | hm
   ·exact hn0 m hm
   ·omega
 ·have hi' : i = l.length := by have : ¬ i < l.length := by simpa using hc
                                omega
  subst hi'
  rw [List.take_length] at hacc
  simp
  exact finS (t := 4) (by rfl) (by simp) hacc rfl (zaJ _ _)
end Go.Proofs.YtkghjlgpmeibhaaGreatDoor.Arm

namespace Go.Pl
structure Ct where
 order : Int
 first : Int
 least : Int
 most : Int
 wide : Int
 deriving DecidableEq
def magn (x n : Int) : Int := max (x.tmod n) (-(x.tmod n))
theorem zgY (x : Int) {n : Int} (hn : 0 < n) : 0 ≤ magn x n ∧ magn x n < n := by
 obtain ⟨h1, h2⟩ := zay x hn
 unfold magn
 by_cases h : 0 ≤ x
 ·have := h1 h; omega
 ·have := h2 (by omega); omega
end Go.Pl

namespace Go.Pl
def zaP (b : List I) : Bool := b.all fun p => !entB p
def subI (a b : List I) : Bool := (List.range a.length).all fun i => subB (atN a i) (atN b i)
structure Sg where
 t : Int
 h : Int
 frm : List I
 pre : List I
 tube : List I
 to : List I
def zdM (a b : List I) : List I := (List.range a.length).map fun i => hull (atN a i) (atN b i)
def zfQ (p : I) : I := mk (p.1 - ((p.2 - p.1) / 16 + 1)) (p.2 + ((p.2 - p.1) / 16 + 1))
def zbZ (a : List I) : List I := (List.range a.length).map fun i => zfQ (atN a i)
theorem zlg {p : I} (h : vB p = true) : vB (zfQ p) = true := by
 have := zao h
 exact zbD (by omega)
def zbj (p q : I) : I := if za3 p q then meet p q else q
theorem zf3 {p q : I} (hp : vB p = true) (hq : vB q = true) : vB (zbj p q) = true := by
 unfold zbj
 split
 ·rename_i h
  have h1 := zao hp
  have h2 := zao hq
  simp only [za3, decide_eq_true_eq] at h
  by_cases e1 : p = ent
  ·have e : meet p q = q := by subst e1; exact Prod.ext (by show max (-2147483648) q.1 = q.1; omega) (by show min 2147483648 q.2 = q.2; omega)
   rw [e]; exact hq
  ·by_cases e2 : q = ent
   ·have e : meet p q = p := by subst e2; exact Prod.ext (by show max p.1 (-2147483648) = p.1; omega) (by show min p.2 2147483648 = p.2; omega)
    rw [e]; exact hp
   ·have a1 : entB p = false := by cases hh : entB p with
     | false => rfl
     | true => exact absurd (zaA.1 hh) e1
    have a2 : entB q = false := by cases hh : entB q with
     | false => rfl
     | true => exact absurd (zaA.1 hh) e2
    have b1 := zaw hp a1
    have b2 := zaw hq a2
    exact zas (by omega) h (by omega)
 ·exact hq
def zdH (a b : List I) : List I := (List.range a.length).map fun i => zbj (atN a i) (atN b i)
def imgI (h : Int) (p q : I) : I := add p (mul (mk 0 h) q)
def zaq (T : Tp) (x b : List I) (t h : Int) : List I := (List.range x.length).map fun i => imgI h (atN x i) (atN (zcS T b (mk t (t + h))) i)
theorem zmZ {h : Int} {p q : I} (hp : vB p = true) : vB (imgI h p q) = true := zbB hp zaz
theorem zjx {n : Nat} {f : Nat → I} (h : ∀ i, vB (f i) = true) : allV ((List.range n).map f) := fun p hp => by
 obtain ⟨k, _, rfl⟩ := List.mem_map.1 hp; exact h k
theorem zaN {T : Tp} {x b : List I} {t h : Int} (hx : allV x) : allV (zaq T x b t h) := zjx fun i => zmZ (zam hx i)
theorem zbE {T : Tp} {x b : List I} {t h : Int} : (zaq T x b t h).length = x.length := by simp [zaq]
def zhz (T : Tp) (x b : List I) (t h : Int) : Bool := zaP (zaq T x b t h) && subI (zaq T x b t h) b
theorem zeR {b : List I} (h : allV b) : allV (zbZ b) := zjx fun i => zlg (zam h i)
theorem zg4 (b : List I) : (zbZ b).length = b.length := by simp [zbZ]
theorem zm1 {p q : I} (hp : vB p = true) (hq : vB q = true) : vB (hull p q) = true := by
 have h1 := zao hp
 have h2 := zao hq
 cases a1 : entB p with
 | true =>
  rw [zaA] at a1; subst a1
  have e : hull ent q = ent := Prod.ext (by show min (-2147483648) q.1 = -2147483648; omega) (by show max 2147483648 q.2 = 2147483648; omega)
  rw [e]; exact zhb
 | false =>
  cases a2 : entB q with
  | true =>
   rw [zaA] at a2; subst a2
   have e : hull p ent = ent := Prod.ext (by show min p.1 (-2147483648) = -2147483648; omega) (by show max p.2 2147483648 = 2147483648; omega)
   rw [e]; exact zhb
  | false =>
   have b1 := zaw hp a1
   have b2 := zaw hq a2
   exact zas (by omega) (by omega) (by omega)
theorem zby {a b : List I} (ha : allV a) (hb : allV b) : allV (zdM a b) := zjx fun i => zm1 (zam ha i) (zam hb i)
theorem zbV (a b : List I) : (zdM a b).length = a.length := by simp [zdM]
def encS (T : Tp) (x : List I) (t h : Int) : Nat → List I → Option (List I)
 | 0, _ => none
 | k + 1, b =>
  if zaP b = false then none
  else if zaP (zbZ b) = false then none
  else if zaP (zaq T x (zbZ b) t h) = false then none
  else if subI (zaq T x (zbZ b) t h) (zbZ b) = true then some (zaq T x (zbZ b) t h)
  else encS T x t h k (zdM (zbZ b) (zaq T x (zbZ b) t h))
def zeU (T : Tp) (x : List I) (t h : Int) : Option (List I) := encS T x t h 8 (zdM x (zaq T x x t h))
def zkn (T : Tp) (x : List I) (t h : Int) : Nat → List I → List (List I × List I)
 | 0, _ => []
 | k + 1, b =>
  if zaP b = false then []
  else if zaP (zbZ b) = false then []
  else if zaP (zaq T x (zbZ b) t h) = false then []
  else (zbZ b, zaq T x (zbZ b) t h) :: zkn T x t h k (zdM (zbZ b) (zaq T x (zbZ b) t h))
def hitP (p : List I × List I) : Option (List I) := if subI p.2 p.1 = true then some p.2 else none
theorem zhd (T : Tp) (x : List I) (t h : Int) : ∀ (n : Nat) (b : List I), encS T x t h n b = (zkn T x t h n b).findSome? hitP
 | 0, _ => rfl
 | n + 1, b => by
  simp only [encS, zkn]
  split
  ·rfl
  split
  ·rfl
  split
  ·rfl
  rw [List.findSome?_cons]
  simp only [hitP]
  split
  ·rfl
  ·exact zhd T x t h n _
theorem zi9 {T : Tp} {x : List I} {t h : Int} (hx : allV x) : ∀ (n : Nat) (b : List I), allV b → b.length = x.length → ∀ p ∈ zkn T x t h n b, allV p.1 ∧ p.1.length = x.length ∧ allV p.2 ∧ p.2.length = x.length
 | 0, _, _, _, p, hp => by simp [zkn] at hp
 | n + 1, b, hb, hl, p, hp => by
  simp only [zkn] at hp
  split at hp
  ·cases hp
  split at hp
  ·cases hp
  split at hp
  ·cases hp
  have h1 := zeR hb
  have h2 : (zbZ b).length = x.length := by rw [zg4, hl]
  rcases List.mem_cons.1 hp with rfl | hp
  ·exact ⟨h1, h2, zaN hx, zbE⟩
  ·exact zi9 hx n _ (zby h1 (zaN hx)) (by rw [zbV, h2]) p hp
theorem zbc {l : List (List I)} {j : Nat} {q : List I} (h : l[j]? = some q) : rowN l j = q := by simp [rowN, h]
theorem zcp {l : List (List I)} {j : Nat} {q : List I} (h : j < l.length) : rowN (l.set j q) j = q := by simp [rowN, h]
theorem zgF {l : List (List I)} {j k : Nat} {q : List I} (h : j ≠ k) : rowN (l.set j q) k = rowN l k := by simp [rowN, List.getElem?_set_ne h]
theorem za9 {l : List (List I)} (h : ∀ q ∈ l, allV q) (j : Int) : allV (rowN l j) := by
 unfold rowN
 cases hl : l[j.toNat]? with
 | none => intro p hp; simp at hp
 | some q => exact h q (List.mem_of_getElem? hl)
theorem vite {c : Prop} [Decidable c] {p q : I} (hp : c → vB p = true) (hq : vB q = true) : vB (if c then p else q) = true := by
 split
 ·exact hp ‹_›
 ·exact hq
theorem zk8 {x : Ins} {l : List (List I)} {own : List I} {t : I} (hc : x.op = 1 → vB x.c = true) (hl : ∀ q ∈ l, allV q) (ho : allV own) (ht : vB t = true) : vB (za1 x l own t) = true := by
 have h0 : vB (0, 0) = true := zas (by omega) (by omega) (by omega)
 have h1 : vB (65536, 65536) = true := zas (by omega) (by omega) (by omega)
 have hr : ∀ j, allV (rowN l j) := fun j => za9 hl j
 exact vite (fun _ => zcc (zam (hr _) _)) (vite (fun _ => zbB (zam (hr _) _) (zam (hr _) _)) (vite (fun _ => zcF (zam (hr _) _) (zam (hr _) _)) (vite (fun _ => zbg _ _ _ _ _)
  (vite (fun _ => vite (fun _ => zgh (zam (hr _) _)) (zbg _ _ _ _ _)) (vite (fun _ => zk7 (hr _) (hr _) _) (vite (fun _ => zk6 (hr _) ho) (vite (fun h => vite (fun _ => hc h) h0) (vite (fun _ => vite (fun _ => ht) (vite (fun _ => h1) h0)) h0))))))))
structure zdG (m k i : Nat) (l : List (List I)) : Prop where
 len : l.length = m
 row : ∀ j, j < m → (rowN l j).length = if j < i then k + 1 else k
 val : ∀ q ∈ l, allV q
theorem znt {l : List (List I)} {j : Nat} {q : List I} (h : ∀ q ∈ l, allV q) (hq : allV q) : ∀ p ∈ l.set j q, allV p := fun p hp => by
 rcases List.mem_or_eq_of_mem_set hp with hp | rfl
 ·exact h p hp
 ·exact hq
theorem zdG.push {m k i : Nat} {l : List (List I)} (h : zdG m k i l) (hi : i < m) {p : I} (hp : vB p = true) : zdG m k (i + 1) (l.set i (rowN l i ++ [p])) := by
 refine ⟨by simp [h.len], fun j hj => ?_, znt h.val (zfy (za9 h.val i) hp)⟩
 by_cases hji : i = j
 ·subst hji
  rw [zcp (by rw [h.len]; exact hi)]
  have := h.row i hi
  rw [if_neg (by omega)] at this
  simp [this]
 ·rw [zgF hji, h.row j hj]
  by_cases h1 : j < i
  ·rw [if_pos h1, if_pos (by omega)]
  ·rw [if_neg h1, if_neg (by omega)]
theorem zdG.next {m k : Nat} {l : List (List I)} (h : zdG m k m l) : zdG m (k + 1) 0 l := ⟨h.len, fun j hj => by rw [h.row j hj, if_pos hj, if_neg (by omega)], h.val⟩
def zfr (x : Ins) (out l : List (List I)) (t : I) (k i : Nat) : I := if x.op = 2 then atN (rowN out x.a) k else za1 x l (rowN l i) t
theorem zcy {L : List Ins} {out l : List (List I)} {t : I} {k i : Nat} {x : Ins} (hx : L[i]? = some x) :
  zcb L out t k l (i + 1) = (zcb L out t k l i).set i (rowN (zcb L out t k l i) i ++ [zfr x out (zcb L out t k l i) t k i]) := by
 simp only [zcb, hx, zfr]
theorem zcx {T : Tp} {l out : List (List I)} {k i o : Nat} (ho : T.out[i]? = some o) :
  zcG T l k out (i + 1) = (zcG T l k out i).set i (rowN (zcG T l k out i) i ++ [mulr (atN (rowN l (o : Int)) k) 1 (k + 1)]) := by
 simp only [zcG, ho]
section
variable {T : Tp} {x : List I} {t : I} (hT : tpOk T) (hx : allV x) (ht : vB t = true)
include hT ht in
theorem zee {out l : List (List I)} {k : Nat} (hl : zdG T.L.length k 0 l) (ho : ∀ q ∈ out, allV q) : ∀ i, i ≤ T.L.length → zdG T.L.length k i (zcb T.L out t k l i)
 | 0, _ => hl
 | i + 1, hi => by
  have ih := zee hl ho i (by omega)
  have hlt : i < T.L.length := by omega
  rw [zcy (List.getElem?_eq_getElem hlt)]
  refine ih.push hlt ?_
  unfold zfr
  split
  ·exact zam (za9 ho _) _
  ·exact zk8 (hT.num _ (List.getElem_mem hlt)) ih.val (za9 ih.val _) ht
include hT in
theorem ze2 {l out : List (List I)} {k : Nat} (hl : ∀ q ∈ l, allV q) (ho : zdG T.n (k + 1) 0 out) : ∀ i, i ≤ T.n → zdG T.n (k + 1) i (zcG T l k out i)
 | 0, _ => ho
 | i + 1, hi => by
  have ih := ze2 hl ho i (by omega)
  have hlt : i < T.out.length := by rw [hT.len]; omega
  rw [zcx (List.getElem?_eq_getElem hlt)]
  exact ih.push (by omega) (zei (zam (za9 hl _) _) (by decide) (by omega))
include hT hx ht in
theorem zaX : ∀ k, zdG T.L.length k 0 (expS T x t k).1 ∧ zdG T.n (k + 1) 0 (expS T x t k).2
 | 0 => by
  refine ⟨⟨by simp [expS], fun j hj => by rw [if_neg (by omega)]; simp [expS, rowN, hj], fun q hq => ?_⟩, ⟨by simp [expS], fun j hj => by rw [if_neg (by omega)]; simp [expS, rowN, hj], fun q hq => ?_⟩⟩
  ·have : q = [] := by simp only [expS] at hq; exact List.eq_of_mem_replicate hq
   subst this; intro p hp; simp at hp
  ·simp only [expS, List.mem_map, List.mem_range] at hq
   obtain ⟨j, _, rfl⟩ := hq
   intro p hp
   simp at hp; subst hp
   exact zam hx j
 | k + 1 => by
  obtain ⟨h1, h2⟩ := zaX k
  have h3 := zee hT ht h1 h2.val T.L.length (Nat.le_refl _)
  have h4 := ze2 hT h3.val h2 T.n (Nat.le_refl _)
  simp only [expS]
  rw [hT.len]
  exact ⟨h3.next, h4.next⟩
end
def remS (T : Tp) (b : List I) (t h : Int) (order : Nat) : List I := (za6 T b (t, t + h) (order + 1)).map fun s => atN s (order + 1)
def zaB (l : List (List I)) (r : List I) : List (List I) := (List.range l.length).map fun i : Nat => rowN l (i : Int) ++ [atN r i]
def zaH (T : Tp) (x b : List I) (t h : Int) (part : I) (order : Nat) : List I := zdH (zdA (zaB (za6 T x (t, t) order) (remS T b t h order)) part) b
def zcW (T : Tp) (x : List I) (t h : Int) (order : Nat) : Option Sg := match zeU T x t h with
 | none => none
 | some b => if zaP (zaH T x b t h (0, h) order) && zaP (zaH T x b t h (h, h) order) then some ⟨t, h, x, b, zaH T x b t h (0, h) order, zaH T x b t h (h, h) order⟩ else none
end Go.Pl

namespace Go.Proofs.YtkghjlgpmeibhaaGreatDoor.Arm
open Go.Arm Go.Pl
theorem zkx {α : Type} {P : α → Bool} {l : List α} {i : Nat} {p : α} (h : l[i]? = some p) (hp : P p = false) : l.all P = false := by
 rw [List.all_eq_false]
 exact ⟨p, List.mem_of_getElem? h, by simp [hp]⟩
def okTo (P : I → Bool) (b : List I) (i : Nat) : Prop := ∀ j p, j < i → b[j]? = some p → P p = true
theorem zjF (P : I → Bool) (b : List I) : okTo P b 0 := fun j p hj => by omega
theorem zjG {P : I → Bool} {b : List I} {i : Nat} {p : I} (h : okTo P b i) (hp : b[i]? = some p) (hP : P p = true) : okTo P b (i + 1) := by
 intro j q hj hq
 by_cases hji : j = i
 ·subst hji; rw [hp] at hq; cases hq; exact hP
 ·exact h j q (by omega) hq
theorem zlO {P : I → Bool} {b : List I} (h : okTo P b b.length) : b.all P = true := by
 rw [List.all_eq_true]
 intro p hp
 obtain ⟨j, hj⟩ := List.mem_iff_getElem?.1 hp
 exact h j p (gI.1 hj).1 hj
def LBd (b : List I) (d ix : Nat) (w : Option Int) (H : AH) (i : Nat) (fr : AFr) (H' : AH) : Prop :=
 fr 0 = bx b ∧ (∀ x, w = some x → fr 1 = .int .i64 x) ∧ fr ix = .int .i64 i ∧ i ≤ b.length ∧ H' = H
theorem zfI (b : List I) (hl : b.length ≤ 1000000) (H : AH) : zaf E 158 [bx b] H (.ret (.bool (zaP b))) H := by
 refine zab zah zai Tryz.func158 rfl (by rfl) Tryz.ntmps158 (by kernel_rfl) (by simp) ?_
 simp [bx]
 refine zag (fun i fr H' => LBd b 0 3 none H i fr H' ∧ okTo (fun p => !entB p) b i) (fun i => b.length - i) 0 ⟨⟨by simp [bx], by simp, by simp, by omega, rfl⟩, zjF _ _⟩ ?_
 rintro i fr H' ⟨⟨g0, g1, gi, hi, rfl⟩, hok⟩
 clear g1
 simp [g0, gi, bx]
 refine zak (fun hc => ?_) (fun hc => ?_)
 ·have hlt : i < b.length := by simpa using hc
  obtain ⟨p, hp⟩ := zaj hlt
  have hpE : ∀ h, b[i]'h = p := fun h => (gI.1 hp).2
  have w2 : IntKind.i64.wrap ((i : Int) + 1) = ((i + 1 : Nat) : Int) := by rw [zae (by omega) (by omega)]; omega
  simp [g0, gi, bx, hp, hpE]
  refine zaa (zbk p _) ?_
  simp
  refine zak (fun hq => ?_) (fun hq => ?_)
  ·have hP : (fun p => !entB p : I → Bool) p = false := by simpa using hq
   have hall : b.all (fun p => !entB p) = false := zkx hp hP
   simp
   exact fin0 (rs := [.tmp 2]) (by rfl) (by simp [resA, zaP, hall])
  ·have hP : (fun p => !entB p : I → Bool) p = true := by simpa using hq
   simp [gi, w2]
   refine ⟨i + 1, by show b.length - (i + 1) < b.length - i; omega, ⟨by simp [g0, bx], by simp, by simp, by omega, rfl⟩, zjG hok hp hP⟩
 ·have hi' : i = b.length := by have : ¬ i < b.length := by simpa using hc
                                omega
  subst hi'
  have hall : b.all (fun p => !entB p) = true := zlO hok
  simp
  exact fin0 (rs := [.tmp 2]) (by rfl) (by simp [resA, zaP, hall])
theorem zf4 (b : List I) (hl : b.length ≤ 1000000) (H : AH) : zaf E 102 [bx b] H (.ret (.bool (!zaP b))) H := by
 refine zab zah zai Tryz.func102 rfl (by rfl) Tryz.ntmps102 (by kernel_rfl) (by simp) ?_
 simp [bx]
 refine zag (fun i fr H' => LBd b 0 3 none H i fr H' ∧ okTo (fun p => !entB p) b i) (fun i => b.length - i) 0 ⟨⟨by simp [bx], by simp, by simp, by omega, rfl⟩, zjF _ _⟩ ?_
 rintro i fr H' ⟨⟨g0, g1, gi, hi, rfl⟩, hok⟩
 clear g1
 simp [g0, gi, bx]
 refine zak (fun hc => ?_) (fun hc => ?_)
 ·have hlt : i < b.length := by simpa using hc
  obtain ⟨p, hp⟩ := zaj hlt
  have hpE : ∀ h, b[i]'h = p := fun h => (gI.1 hp).2
  have w2 : IntKind.i64.wrap ((i : Int) + 1) = ((i + 1 : Nat) : Int) := by rw [zae (by omega) (by omega)]; omega
  simp [g0, gi, bx, hp, hpE]
  refine zaa (zbk p _) ?_
  simp
  refine zak (fun hq => ?_) (fun hq => ?_)
  ·have hP : (fun p => !entB p : I → Bool) p = false := by simpa using hq
   have hall : b.all (fun p => !entB p) = false := zkx hp hP
   simp
   exact fin0 (rs := [.tmp 2]) (by rfl) (by simp [resA, zaP, hall])
  ·have hP : (fun p => !entB p : I → Bool) p = true := by simpa using hq
   simp [gi, w2]
   refine ⟨i + 1, by show b.length - (i + 1) < b.length - i; omega, ⟨by simp [g0, bx], by simp, by simp, by omega, rfl⟩, zjG hok hp hP⟩
 ·have hi' : i = b.length := by have : ¬ i < b.length := by simpa using hc
                                omega
  subst hi'
  have hall : b.all (fun p => !entB p) = true := zlO hok
  simp
  exact fin0 (rs := [.tmp 2]) (by rfl) (by simp [resA, zaP, hall])
def okN (P : Nat → Bool) (i : Nat) : Prop := ∀ j, j < i → P j = true
theorem zp2 {P : Nat → Bool} {i : Nat} (h : okN P i) (hP : P i = true) : okN P (i + 1) := by
 intro j hj
 by_cases hji : j = i
 ·subst hji; exact hP
 ·exact h j (by omega)
theorem zsg {P : Nat → Bool} {n : Nat} (h : okN P n) : (List.range n).all P = true := by
 rw [List.all_eq_true]; intro j hj; exact h j (List.mem_range.1 hj)
theorem zn1 {P : Nat → Bool} {n i : Nat} (hi : i < n) (hP : P i = false) : (List.range n).all P = false := by
 rw [List.all_eq_false]; exact ⟨i, List.mem_range.2 hi, by simp [hP]⟩
def LSu (a b : List I) (H : AH) (i : Nat) (fr : AFr) (H' : AH) : Prop :=
 fr 0 = bx a ∧ fr 1 = bx b ∧ fr 5 = .int .i64 i ∧ i ≤ a.length ∧ H' = H ∧ okN (fun k => subB (atN a k) (atN b k)) i
theorem znO (a b : List I) (hab : a.length ≤ b.length) (hl : a.length ≤ 1000000) (H : AH) : zaf E 160 [bx a, bx b] H (.ret (.bool (subI a b))) H := by
 refine zab zah zai Tryz.func160 rfl (by rfl) Tryz.ntmps160 (by kernel_rfl) (by simp) ?_
 simp [bx]
 refine zag (LSu a b H) (fun i => a.length - i) 0 ⟨by simp [bx], by simp [bx], by simp, by omega, rfl, fun j hj => by omega⟩ ?_
 rintro i fr H' ⟨g0, g1, g5, hi, rfl, hok⟩
 simp [g0, g5, bx]
 refine zak (fun hc => ?_) (fun hc => ?_)
 ·have hlt : i < a.length := by simpa using hc
  obtain ⟨p, hp⟩ := zaj hlt
  obtain ⟨q, hq⟩ := zaj (l := b) (i := i) (by omega)
  have hpE : ∀ h, a[i]'h = p := fun h => (gI.1 hp).2
  have hqE : ∀ h, b[i]'h = q := fun h => (gI.1 hq).2
  have w2 : IntKind.i64.wrap ((i : Int) + 1) = ((i + 1 : Nat) : Int) := by rw [zae (by omega) (by omega)]; omega
  have hs : subB (atN a i) (atN b i) = subB p q := by simp [atN, hp, hq]
  simp [g0, g1, g5, bx, hp, hpE, hq, hqE]
  refine zac (fun Hx => zrS p q Hx) ?_
  simp
  refine endD [] (by rfl) (by simp [okW, note, Eff.triv, Eff.wr, Eff.none, upTo, newAt]) ?_
  simp
  refine zak (fun hb => ?_) (fun hb => ?_)
  ·have hP : subB p q = false := by simpa using hb
   have hall : subI a b = false := zn1 hlt (by rw [hs]; exact hP)
   simp
   exact fin0 (rs := [.tmp 4]) (by rfl) (by simp [resA, hall])
  ·have hP : subB p q = true := by simpa using hb
   simp [g5, w2]
   exact ⟨i + 1, by show a.length - (i + 1) < a.length - i; omega, by simp [g0, bx], by simp [g1, bx], by simp, by omega, rfl, zp2 hok (by rw [hs]; exact hP)⟩
 ·have hi' : i = a.length := by have : ¬ i < a.length := by simpa using hc
                                omega
  subst hi'
  have hall : subI a b = true := zsg hok
  simp
  exact fin0 (rs := [.tmp 4]) (by rfl) (by simp [resA, hall])
def sgA (s : Sg) : AV := .agg [.int .i64 s.t, .int .i64 s.h, bx s.frm, bx s.pre, bx s.tube, bx s.to]
theorem zlp {H : AH} {p : I} {f : Bool} : zar tab H 23 (.slice [] true) (.slice [iv p] f) = some (.ref H.length 1, H ++ [.row true 2 [iv p]]) := by
 have h2 : zar tab H 23 (.slice [] true) (.slice [iv p] f) = zb7 i48 H (.slice [] true) [iv p] := by
  simp only [zar, tab23, tab48, els]
  rfl
 rw [h2]
 rfl
def LHu (a b : List I) (H : AH) (i : Nat) (fr : AFr) (H' : AH) : Prop :=
 fr 0 = bx a ∧ fr 1 = bx b ∧ fr 6 = .int .i64 i ∧ i ≤ a.length ∧ ∃ J, H' = H ++ J ∧ Acc H J (fr 5) 2 (((List.range i).map fun i => hull (atN a i) (atN b i)).map iv) (.slice [] true)
theorem znP (a b : List I) (hab : a.length ≤ b.length) (hl : a.length ≤ 1000000) (H : AH) : zaf E 156 [bx a, bx b] H (.ret (bx (zdM a b))) H := by
 refine zab zah zai Tryz.func156 rfl (by rfl) Tryz.ntmps156 (by kernel_rfl) (by simp) ?_
 simp [bx]
 refine zag (LHu a b H) (fun i => a.length - i) 0 ⟨by simp [bx], by simp [bx], by simp, by omega, [], by simp, .inl ⟨by simp, by simp⟩⟩ ?_
 rintro i fr H' ⟨g0, g1, g6, hi, J, rfl, hacc⟩
 simp [g0, g6, bx]
 refine zak (fun hc => ?_) (fun hc => ?_)
 ·have hlt : i < a.length := by simpa using hc
  obtain ⟨p, hp⟩ := zaj hlt
  obtain ⟨q, hq⟩ := zaj (l := b) (i := i) (by omega)
  have hpE : ∀ h, a[i]'h = p := fun h => (gI.1 hp).2
  have hqE : ∀ h, b[i]'h = q := fun h => (gI.1 hq).2
  have w2 : IntKind.i64.wrap ((i : Int) + 1) = ((i + 1 : Nat) : Int) := by rw [zae (by omega) (by omega)]; omega
  have hs : hull (atN a i) (atN b i) = hull p q := by simp [atN, hp, hq]
  have hnx : (List.range (i + 1)).map (fun i => hull (atN a i) (atN b i)) = (List.range i).map (fun i => hull (atN a i) (atN b i)) ++ [hull p q] := by rw [List.range_succ, List.map_append]; simp [hs]
  rcases hacc with ⟨h0, hv⟩ | ⟨kk, hv, hJk⟩
  ·have hi0 : i = 0 := by simpa using congrArg List.length h0
   subst hi0
   have wr1 : IntKind.i64.wrap 1 = 1 := zae (by decide) (by decide)
   simp [g0, g1, g6, hv, bx, hp, hpE, hq, hqE]
   refine zac (fun Hx => ztI p q Hx) ?_
   simp
   refine bind_some (zlp (p := hull p q)) ?_
   simp
   refine endD [] (by rfl) (by simp [okW, note, Eff.triv, Eff.wr, Eff.none, upTo, newAt]) ?_
   simp [g6, wr1]
   exact ⟨1, by show a.length - 1 < a.length - 0; omega, by simp [g0, bx], by simp [g1, bx], by simp, by omega, J ++ [.row true 2 [iv (hull p q)]], by simp, .inr ⟨J.length, by simp, by rw [hnx]; simp⟩⟩
  ·simp only [List.length_map, List.length_range] at hv
   have hkl := (gI.1 hJk).1
   simp [g0, g1, g6, hv, bx, hp, hpE, hq, hqE]
   refine zac (fun Hx => ztI p q Hx) ?_
   simp
   refine bind_some (zhj (p := hull p q) (l := ((List.range i).map fun i => hull (atN a i) (atN b i)).map iv) (by simp) (by omega) (by simpa using hJk)) ?_
   simp
   refine endD [] (by rfl) (by simp [okW, note, Eff.triv, Eff.wr, Eff.none, upTo, newAt]) ?_
   simp [g6, w2]
   exact ⟨i + 1, by show a.length - (i + 1) < a.length - i; omega, by simp [g0, bx], by simp [g1, bx], by simp, by omega, J.set kk (.row true 2 (((List.range (i + 1)).map fun i => hull (atN a i) (atN b i)).map iv)), by rw [hnx]; simp, .inr ⟨kk, by simp, zch hJk⟩⟩
 ·have hi' : i = a.length := by have : ¬ i < a.length := by simpa using hc
                                omega
  subst hi'
  simp
  exact finS (t := 4) (by rfl) (by simp) hacc rfl (zaJ _ _)
def LIn (a : List I) (H : AH) (i : Nat) (fr : AFr) (H' : AH) : Prop :=
 fr 0 = bx a ∧ fr 4 = .int .i64 i ∧ i ≤ a.length ∧ ∃ J, H' = H ++ J ∧ Acc H J (fr 3) 2 (((List.range i).map fun i => zfQ (atN a i)).map iv) (.slice [] true)
theorem zmL (a : List I) (ha : allV a) (hl : a.length ≤ 1000000) (H : AH) : zaf E 159 [bx a] H (.ret (bx (zbZ a))) H := by
 refine zab zah zai Tryz.func159 rfl (by rfl) Tryz.ntmps159 (by kernel_rfl) (by simp) ?_
 simp [bx]
 refine zag (LIn a H) (fun i => a.length - i) 0 ⟨by simp [bx], by simp, by omega, [], by simp, .inl ⟨by simp, by simp⟩⟩ ?_
 rintro i fr H' ⟨g0, g6, hi, J, rfl, hacc⟩
 simp [g0, g6, bx]
 refine zak (fun hc => ?_) (fun hc => ?_)
 ·have hlt : i < a.length := by simpa using hc
  obtain ⟨p, hp⟩ := zaj hlt
  have hpv := ha p (List.mem_of_getElem? hp)
  have hb := zao hpv
  have wt : (p.2 - p.1).tdiv 16 = (p.2 - p.1) / 16 := Int.tdiv_eq_ediv_of_nonneg (by omega)
  have v0 : IntKind.i64.wrap ((p.2 - p.1) / 16) = (p.2 - p.1) / 16 := zae (by omega) (by omega)
  have v1 : IntKind.i64.wrap ((p.2 - p.1) / 16 + 1) = (p.2 - p.1) / 16 + 1 := zae (by omega) (by omega)
  have v2 : IntKind.i64.wrap (p.1 - ((p.2 - p.1) / 16 + 1)) = p.1 - ((p.2 - p.1) / 16 + 1) := zae (by omega) (by omega)
  have v3 : IntKind.i64.wrap (p.2 + ((p.2 - p.1) / 16 + 1)) = p.2 + ((p.2 - p.1) / 16 + 1) := zae (by omega) (by omega)
  have hpE : ∀ h, a[i]'h = p := fun h => (gI.1 hp).2
  have w2 : IntKind.i64.wrap ((i : Int) + 1) = ((i + 1 : Nat) : Int) := by rw [zae (by omega) (by omega)]; omega
  have hs : zfQ (atN a i) = zfQ p := by simp [atN, hp]
  have hnx : (List.range (i + 1)).map (fun i => zfQ (atN a i)) = (List.range i).map (fun i => zfQ (atN a i)) ++ [zfQ p] := by rw [List.range_succ, List.map_append]; simp [hs]
  rcases hacc with ⟨h0, hv⟩ | ⟨kk, hv, hJk⟩
  ·have hi0 : i = 0 := by simpa using congrArg List.length h0
   subst hi0
   have wr1 : IntKind.i64.wrap 1 = 1 := zae (by decide) (by decide)
   simp [g0, g6, bx, hp, hpE]
   refine zaa (zqS p hpv _) ?_
   simp [g0, g6, hv, bx, hp, hpE, wt, v0, v1, v2, v3]
   refine zac (fun Hx => rNew _ _ Hx) ?_
   simp
   refine bind_some (zlp (p := zfQ p)) ?_
   simp
   refine endD [] (by rfl) (by simp [okW, note, Eff.triv, Eff.wr, Eff.none, upTo, newAt]) ?_
   simp [g6, wr1]
   exact ⟨1, by show a.length - 1 < a.length - 0; omega, by simp [g0, bx], by simp, by omega, J ++ [.row true 2 [iv (zfQ p)]], by simp, .inr ⟨J.length, by simp, by rw [hnx]; simp⟩⟩
  ·simp only [List.length_map, List.length_range] at hv
   have hkl := (gI.1 hJk).1
   simp [g0, g6, bx, hp, hpE]
   refine zaa (zqS p hpv _) ?_
   simp [g0, g6, hv, bx, hp, hpE, wt, v0, v1, v2, v3]
   refine zac (fun Hx => rNew _ _ Hx) ?_
   simp
   refine bind_some (zhj (p := zfQ p) (l := ((List.range i).map fun i => zfQ (atN a i)).map iv) (by simp) (by omega) (by simpa using hJk)) ?_
   simp
   refine endD [] (by rfl) (by simp [okW, note, Eff.triv, Eff.wr, Eff.none, upTo, newAt]) ?_
   simp [g6, w2]
   exact ⟨i + 1, by show a.length - (i + 1) < a.length - i; omega, by simp [g0, bx], by simp, by omega, J.set kk (.row true 2 (((List.range (i + 1)).map fun i => zfQ (atN a i)).map iv)), by rw [hnx]; simp, .inr ⟨kk, by simp, zch hJk⟩⟩
 ·have hi' : i = a.length := by have : ¬ i < a.length := by simpa using hc
                                omega
  subst hi'
  simp
  exact finS (t := 2) (by rfl) (by simp) hacc rfl (zaJ _ _)
def LRs (a b : List I) (H : AH) (i : Nat) (fr : AFr) (H' : AH) : Prop :=
 fr 0 = bx a ∧ fr 1 = bx b ∧ fr 6 = .int .i64 i ∧ i ≤ a.length ∧ ∃ J, H' = H ++ J ∧ Acc H J (fr 5) 2 (((List.range i).map fun i => zbj (atN a i) (atN b i)).map iv) (.slice [] true)
theorem ziy (a b : List I) (hab : a.length ≤ b.length) (hl : a.length ≤ 1000000) (H : AH) : zaf E 128 [bx a, bx b] H (.ret (bx (zdH a b))) H := by
 refine zab zah zai Tryz.func128 rfl (by rfl) Tryz.ntmps128 (by kernel_rfl) (by simp) ?_
 simp [bx]
 refine zag (LRs a b H) (fun i => a.length - i) 0 ⟨by simp [bx], by simp [bx], by simp, by omega, [], by simp, .inl ⟨by simp, by simp⟩⟩ ?_
 rintro i fr H' ⟨g0, g1, g6, hi, J, rfl, hacc⟩
 simp [g0, g6, bx]
 refine zak (fun hc => ?_) (fun hc => ?_)
 ·have hlt : i < a.length := by simpa using hc
  obtain ⟨p, hp⟩ := zaj hlt
  obtain ⟨q, hq⟩ := zaj (l := b) (i := i) (by omega)
  have hpE : ∀ h, a[i]'h = p := fun h => (gI.1 hp).2
  have hqE : ∀ h, b[i]'h = q := fun h => (gI.1 hq).2
  have w2 : IntKind.i64.wrap ((i : Int) + 1) = ((i + 1 : Nat) : Int) := by rw [zae (by omega) (by omega)]; omega
  have hs : zbj (atN a i) (atN b i) = zbj p q := by simp [atN, hp, hq]
  have hnx : (List.range (i + 1)).map (fun i => zbj (atN a i) (atN b i)) = (List.range i).map (fun i => zbj (atN a i) (atN b i)) ++ [zbj p q] := by rw [List.range_succ, List.map_append]; simp [hs]
  simp [g0, g1, g6, bx, hp, hpE, hq, hqE]
  refine zac (fun Hx => zmH p q Hx) ?_
  simp
  refine endD [(12, 13)] (by rfl) (by simp [okW, note, Eff.triv, Eff.wr, Eff.none, upTo, newAt]) ?_
  simp
  have hpush := zlL (p := zbj p q) (hacc.len (L := [.row true 2 [iv (zbj p q)]])) rfl (by simp; omega)
  obtain ⟨v', J', hap, hacc', _⟩ := hpush
  refine zak (fun hb => ?_) (fun hb => ?_)
  ·have hr : zbj p q = q := by have : za3 p q = false := by simpa using hb
                               simp [zbj, this]
   rw [hr] at hap
   simp [g1, g6, bx, hq, hqE]
   refine bind_some (by simpa [iv] using hap) ?_
   simp [g6, w2]
   exact ⟨i + 1, by show a.length - (i + 1) < a.length - i; omega, by simp [g0, bx], by simp [g1, bx], by simp, by omega, J', rfl, by rw [hnx]; exact hacc'⟩
  ·have hb' : za3 p q = true := by simpa using hb
   have hr : zbj p q = zeQ p q := by simp [zbj, zeQ, hb']
   rw [hr] at hap
   simp [g6]
   refine bind_some (by simpa [iv] using hap) ?_
   simp [g6, w2]
   exact ⟨i + 1, by show a.length - (i + 1) < a.length - i; omega, by simp [g0, bx], by simp [g1, bx], by simp, by omega, J', rfl, by rw [hnx]; exact hacc'⟩
 ·have hi' : i = a.length := by have : ¬ i < a.length := by simpa using hc
                                omega
  subst hi'
  simp
  exact finS (t := 4) (by rfl) (by simp) hacc rfl (zaJ _ _)
def LIm (x f : List I) (t h : Int) (A : ABlk) (H : AH) (i : Nat) (fr : AFr) (H' : AH) : Prop :=
 fr 1 = bx x ∧ fr 7 = .ptr (H.length + 1) 1 0 0 ∧ fr 9 = bx f ∧ fr 11 = .int .i64 i ∧ i ≤ x.length ∧ ∃ J, H' = H ++ J ∧ J[0]? = some A ∧ J[1]? = some (.row true 2 [.agg [.int .i64 t, .int .i64 h]]) ∧ Acc H J (fr 10) 2 (((List.range i).map fun i => imgI h (atN x i) (atN f i)).map iv) (.slice [] true) ∧ (∀ n, fr 10 ≠ .ref (H.length + 0) n) ∧ (∀ n, fr 10 ≠ .ref (H.length + 1) n)
theorem zpU (T : Tp) (x b : List I) (t h : Int) (hT : tpOk T) (hx : allV x) (hb : allV b) (hxn : x.length = T.n) (hbn : b.length = T.n) (hh : 0 ≤ h ∧ h ≤ 1000000000) (ht : -1000000000 ≤ t ∧ t ≤ 1000000000) (H : AH) :
  zaf E 157 [tpA T, bx x, bx b, .agg [.int .i64 t, .int .i64 h]] H (.ret (bx (zaq T x b t h))) H := by
 refine zab zah zai Tryz.func157 rfl (by rfl) Tryz.ntmps157 (by kernel_rfl) (by simp) ?_
 have w1 : IntKind.i64.wrap (t + h) = t + h := zae (by omega) (by omega)
 have hsm := hT.small
 have htv : vB (mk t (t + h)) = true := zbD (by omega)
 have hhv : vB (mk 0 h) = true := zbD (by omega)
 simp [tpA, w1]
 refine zac (fun Hx => rNew t (t + h) Hx) ?_
 simp
 refine zac (fun Hx => by simpa [tpA] using ztO T b (mk t (t + h)) hT hb hbn htv Hx) ?_
 simp
 refine endD [] (by rfl) (by simp [okW, note, Eff.triv, Eff.wr, Eff.none, upTo, newAt]) ?_
 have hfv := zcM hT hb htv
 have hfl := zoO hT (x := b) (t := mk t (t + h))
 unfold zaq
 generalize zcS T b (mk t (t + h)) = f at *
 simp
 refine zag (LIm x f t h (.row true 3 [tpA T]) H) (fun i => x.length - i) 0 ⟨by simp, by simp, by simp, by simp, by omega, _, rfl, by simp [tpA], by simp, .inl ⟨by simp, by simp⟩, by simp, by simp⟩ ?_
 rintro i fr H' ⟨g1, g7, g9, g11, hi, J, rfl, hJ0, hJ1, hacc, hn0, hn1⟩
 have hJl : 1 < J.length := (gI.1 hJ1).1
 simp [g1, g11, bx]
 refine zak (fun hc => ?_) (fun hc => ?_)
 ·have hlt : i < x.length := by simpa using hc
  obtain ⟨p, hp⟩ := zaj hlt
  obtain ⟨q, hq⟩ := zaj (l := f) (i := i) (by omega)
  have hpE : ∀ h, x[i]'h = p := fun h => (gI.1 hp).2
  have hqE : ∀ h, f[i]'h = q := fun h => (gI.1 hq).2
  have hpv := hx p (List.mem_of_getElem? hp)
  have hqv := hfv q (List.mem_of_getElem? hq)
  have w2 : IntKind.i64.wrap ((i : Int) + 1) = ((i + 1 : Nat) : Int) := by rw [zae (by omega) (by omega)]; omega
  have hs : imgI h (atN x i) (atN f i) = imgI h p q := by simp [atN, hp, hq]
  have hnx : (List.range (i + 1)).map (fun i => imgI h (atN x i) (atN f i)) = (List.range i).map (fun i => imgI h (atN x i) (atN f i)) ++ [imgI h p q] := by rw [List.range_succ, List.map_append]; simp [hs]
  rcases hacc with ⟨h0, hv⟩ | ⟨kk, hv, hJk⟩
  ·have hi0 : i = 0 := by simpa using congrArg List.length h0
   subst hi0
   have wr1 : IntKind.i64.wrap 1 = 1 := zae (by decide) (by decide)
   simp [g1, g7, g9, g11, hv, bx, hp, hpE, hq, hqE, hJ1]
   refine zac (fun Hx => rNew 0 h Hx) ?_
   simp [g9, g11, bx, hq, hqE]
   refine zac (fun Hx => rMul _ q hhv hqv Hx) ?_
   simp
   refine zac (fun Hx => rAdd p _ hpv zaz Hx) ?_
   simp
   refine bind_some (zlp (p := imgI h p q)) ?_
   simp
   refine endD [] (by rfl) (by simp [okW, note, Eff.triv, Eff.wr, Eff.none, upTo, newAt]; omega) ?_
   simp [g11, wr1]
   exact ⟨1, by show x.length - 1 < x.length - 0; omega, by simp [g1, bx], by simp [g7], by simp [g9, bx], by simp, by omega, J ++ [.row true 2 [iv (imgI h p q)]], by simp, zad hJ0, zad hJ1, .inr ⟨J.length, by simp, by rw [hnx]; simp⟩, fun n e => by injection e with e1 e2; omega, fun n e => by injection e with e1 e2; omega⟩
  ·simp only [List.length_map, List.length_range] at hv
   have hkl := (gI.1 hJk).1
   have hkk0 : kk ≠ 0 := by intro e; subst e; exact hn0 i hv
   have hkk1 : kk ≠ 1 := by intro e; subst e; exact hn1 i hv
   simp [g1, g7, g9, g11, hv, bx, hp, hpE, hq, hqE, hJ1]
   refine zac (fun Hx => rNew 0 h Hx) ?_
   simp [g9, g11, bx, hq, hqE]
   refine zac (fun Hx => rMul _ q hhv hqv Hx) ?_
   simp
   refine zac (fun Hx => rAdd p _ hpv zaz Hx) ?_
   simp
   refine bind_some (zhj (p := imgI h p q) (l := ((List.range i).map fun i => imgI h (atN x i) (atN f i)).map iv) (by simp) (by omega) (by simpa using hJk)) ?_
   simp
   refine endD [] (by rfl) (by simp [okW, note, Eff.triv, Eff.wr, Eff.none, upTo, newAt]; omega) ?_
   simp [g11, w2]
   refine ⟨i + 1, by show x.length - (i + 1) < x.length - i; omega, by simp [g1, bx], by simp [g7], by simp [g9, bx], by simp, by omega, J.set kk (.row true 2 (((List.range (i + 1)).map fun i => imgI h (atN x i) (atN f i)).map iv)), by rw [hnx]; simp, ?_, ?_, .inr ⟨kk, by simp, zch hJk⟩, fun n e => by injection e with e1 e2; omega, fun n e => by injection e with e1 e2; omega⟩
   ·rw [List.getElem?_set_ne hkk0]; exact hJ0
   ·rw [List.getElem?_set_ne hkk1]; exact hJ1
 ·have hi' : i = x.length := by have : ¬ i < x.length := by simpa using hc
                                omega
  subst hi'
  simp
  rw [List.map_map] at hacc
  exact finS (t := 8) (v := fr 10) (by rfl) (by simp) hacc rfl (by have h9 := zaJ ((List.range x.length).map fun i => imgI h (atN x i) (atN f i)) H.length; rw [List.map_map] at h9; exact h9)
def encA (r : Option (List I)) : AV := match r with
 | some d => .tuple [bx d, .bool true]
 | none => .tuple [.nilslice, .bool false]
def LEc (T : Tp) (x : List I) (t h : Int) (R : Option (List I)) (H : AH) (i : Nat) (fr : AFr) (H' : AH) : Prop :=
 ∃ b, fr 1 = bx x ∧ fr 3 = .ptr H.length 1 0 0 ∧ fr 5 = .ptr (H.length + 1) 1 0 0 ∧ fr 8 = bx b ∧ fr 9 = .int .i64 i ∧ i ≤ 8 ∧ allV b ∧ b.length = x.length ∧ encS T x t h (8 - i) b = R ∧ H' = H ++ [.row true 3 [tpA T], .row true 2 [.agg [.int .i64 t, .int .i64 h]]]
theorem zmM (T : Tp) (x : List I) (t h : Int) (hT : tpOk T) (hx : allV x) (hxn : x.length = T.n) (hh : 0 ≤ h ∧ h ≤ 1000000000) (ht : -1000000000 ≤ t ∧ t ≤ 1000000000) (H : AH) :
  zaf E 101 [tpA T, bx x, .agg [.int .i64 t, .int .i64 h]] H (.ret (encA (zeU T x t h))) H := by
 refine zab zah zai Tryz.func101 rfl (by rfl) Tryz.ntmps101 (by kernel_rfl) (by simp) ?_
 have hsm := hT.small
 have hI := fun b hb hbn Hx => zpU T x b t h hT hx hb hxn hbn hh ht Hx
 simp [tpA]
 refine zaa (by simpa [tpA] using hI x hx hxn _) ?_
 simp
 refine zaa (znP x _ (by rw [zbE]; omega) (by omega) _) ?_
 simp
 have hnone : ∀ (fr : AFr) (J : AH), zeU T x t h = none → fr 6 = .nilslice → fr 7 = .bool false → zbN E Tryz.f101 H (.ret (encA (zeU T x t h))) H .ret fr (H ++ J) := by
  intro fr J he h6 h7
  rw [he]
  exact ⟨[.nilslice, .bool false], [.nilslice, .bool false], by simp [show (Tryz.f101).results.toList = [.tmp 6, .tmp 7] from rfl, resA, h6, h7], .drop (by simp [noFs, noF]), rfl⟩
 refine zag (LEc T x t h (zeU T x t h) H) (fun i => 8 - i) 0 ⟨zdM x (zaq T x x t h), by simp, by simp, by simp, by simp, by simp, by omega, zby hx (zaN hx), zbV _ _, rfl, by simp [tpA]⟩ ?_
 rintro i fr H' ⟨b, g1, g3, g5, g8, g9, hi, hbv, hbl, hR, rfl⟩
 by_cases hi8 : i = 8
 ·subst hi8
  have hR' : zeU T x t h = none := hR.symm
  simp [g9]
  exact hnone _ _ hR' (by simp) (by simp)
 ·have hlt : (i : Int) < 8 := by omega
  have hm : 8 - i = (8 - (i + 1)) + 1 := by omega
  rw [hm, encS] at hR
  have w2 : IntKind.i64.wrap ((i : Int) + 1) = ((i + 1 : Nat) : Int) := by rw [zae (by omega) (by omega)]; omega
  have hib := zeR hbv
  have hil := zg4 b
  have hdv := zaN (T := T) (x := x) (b := zbZ b) (t := t) (h := h) hx
  have hdl := zbE (T := T) (x := x) (b := zbZ b) (t := t) (h := h)
  simp [g8, g9, hlt]
  refine zaa (zfI b (by omega) _) ?_
  simp
  refine zak (fun m1 => ?_) (fun m1 => ?_)
  ·rw [if_neg (by simp [m1])] at hR
   simp [g8]
   refine zaa (zmL b hbv (by omega) _) ?_
   simp
   refine zaa (zfI (zbZ b) (by omega) _) ?_
   simp
   refine zak (fun m2 => ?_) (fun m2 => ?_)
   ·rw [if_pos (by simpa using m2)] at hR
    simp
    exact hnone _ _ hR.symm (by simp) (by simp)
   ·rw [if_neg (by simpa using m2)] at hR
    simp [g1, g3, g5, tpA]
    refine zaa (by simpa [tpA] using hI (zbZ b) hib (by omega) _) ?_
    simp
    generalize zaq T x (zbZ b) t h = d at *
    refine zaa (zfI d (by omega) _) ?_
    simp
    refine zak (fun m3 => ?_) (fun m3 => ?_)
    ·rw [if_pos (by simpa using m3)] at hR
     simp
     exact hnone _ _ hR.symm (by simp) (by simp)
    ·rw [if_neg (by simpa using m3)] at hR
     simp
     refine zaa (znO d (zbZ b) (by omega) (by omega) _) ?_
     simp
     refine zak (fun m4 => ?_) (fun m4 => ?_)
     ·rw [if_pos m4] at hR
      rw [← hR]
      simp
      exact ⟨[bx d, .bool true], [bx d, .bool true], by simp [show (Tryz.f101).results.toList = [.tmp 6, .tmp 7] from rfl, resA], .drop (by simp only [noFs, noF, bx, zaJ, Bool.and_self]), rfl⟩
     ·rw [if_neg (by simp [m4])] at hR
      simp
      refine zaa (znP (zbZ b) d (by omega) (by omega) _) ?_
      simp [g9, w2]
      exact ⟨i + 1, by show 8 - (i + 1) < 8 - i; omega, zdM (zbZ b) d, by simp [g1], by simp [g3], by simp [g5], by simp, by simp, by omega, zby hib hdv, by rw [zbV]; omega, hR, by simp [tpA]⟩
  ·rw [if_pos m1] at hR
   simp
   exact hnone _ _ hR.symm (by simp) (by simp)
theorem zua (H : AH) (a b x y : Int) (z : Bool) : zav tab H .neq 48 (.agg [.int .i64 a, .int .i64 b]) (.agg [.int .i64 x, .int .i64 y]) z = some (.bool (!(a == x && b == y)), H) := by
 by_cases h1 : a = x <;> by_cases h2 : b = y <;> simp [zav, binA, eqA, eqFs, nilI, h1, h2]
theorem zqU (a b : List I) (ha : a.length ≤ 1000000) (hb : b.length ≤ 1000000) (H : AH) : zaf E 20 [bx a, bx b] H (.ret (.bool (decide (a = b)))) H := by
 refine zab zah zai Tryz.func20 rfl (by rfl) Tryz.ntmps20 (by kernel_rfl) (by simp) ?_
 by_cases hab : a.length = b.length
 ·have hne : ((a.length : Int) == (b.length : Int)) = true := by simp [hab]
  simp [bx, hab]
  refine zag (fun (i : Nat) fr H' => fr 0 = bx a ∧ fr 1 = bx b ∧ fr 5 = .int .i64 i ∧ i ≤ a.length ∧ H' = H ∧ a.take i = b.take i) (fun i => a.length - i) 0 ⟨by simp [bx], by simp [bx], by simp, by omega, rfl, by simp⟩ ?_
  rintro i fr H' ⟨g0, g1, g5, hi, rfl, hok⟩
  simp [g0, g5, bx]
  refine zak (fun hc => ?_) (fun hc => ?_)
  ·have hlt : i < a.length := by simpa using hc
   obtain ⟨p, hp⟩ := zaj hlt
   obtain ⟨q, hq⟩ := zaj (l := b) (i := i) (by omega)
   have hpE : ∀ h, a[i]'h = p := fun h => (gI.1 hp).2
   have hqE : ∀ h, b[i]'h = q := fun h => (gI.1 hq).2
   have w2 : IntKind.i64.wrap ((i : Int) + 1) = ((i + 1 : Nat) : Int) := by rw [zae (by omega) (by omega)]; omega
   simp [g0, g1, g5, bx, hp, hpE, hq, hqE, zua]
   refine endD [] (by rfl) (by simp [okW, note, Eff.triv, Eff.wr, Eff.none, upTo, newAt]) ?_
   simp
   refine zak (fun hb2 => ?_) (fun hb2 => ?_)
   ·have hne2 : a ≠ b := by
     intro e; subst e; rw [hp] at hq; cases hq; simp at hb2
    simp
    exact fin0 (rs := [.tmp 4]) (by rfl) (by simp [resA, hne2])
   ·have he : p = q := by simp at hb2; exact Prod.ext hb2.1 hb2.2
    simp [g5, w2]
    exact ⟨i + 1, by show a.length - (i + 1) < a.length - i; omega, by simp [g0, bx], by simp [g1, bx], by simp, by omega, rfl, by rw [List.take_add_one, List.take_add_one, hp, hq, hok, he]⟩
  ·have hi' : i = a.length := by have : ¬ i < a.length := by first | simpa using hc | (simp at hc; omega)
                                 omega
   subst hi'
   have he : a = b := by rw [List.take_length, hab, List.take_length] at hok; exact hok
   simp
   exact fin0 (rs := [.tmp 4]) (by rfl) (by simp [resA, he])
 ·have hne : a ≠ b := fun e => hab (by rw [e])
  have hne1 : ((a.length : Int) == (b.length : Int)) = false := by rw [beq_eq_false_iff_ne]; omega
  simp [bx]
  refine zak (fun h => ?_) (fun h => ?_)
  ·simp
   exact fin0 (rs := [.tmp 4]) (by rfl) (by simp [resA, hne])
  ·have h2 : (a.length : Int) = (b.length : Int) := by simpa using h
   exact absurd (by omega) hab
theorem zuR (a b : List I) (H : AH) : zaf E 109 [bx a, bx b] H (.ret (.func (.func 177) [] [.ptr H.length 1 0 0, .ptr (H.length + 1) 1 0 0])) (H ++ [.row true 1 [bx a], .row true 1 [bx b]]) := by
 refine zab zah zai Tryz.func109 rfl (by rfl) Tryz.ntmps109 (by kernel_rfl) (by simp) ?_
 simp [bx]
 exact finK (rs := [.tmp 4]) (vs := [.func (.func 177) [] [.ptr H.length 1 0 0, .ptr (H.length + 1) 1 0 0]]) (by rfl) (by simp [resA]) rfl
end Go.Proofs.YtkghjlgpmeibhaaGreatDoor.Arm

namespace Go.Arm
def zgb (K : AH) (n : Nat) : List (Nat × ABlk) := (List.range n).map fun i => (i, (K[i]?).getD .dead)
theorem zlv (f : Nat → ABlk) : ∀ (l : List Nat) (b : Nat), upAt (l.map fun i => (i, f i)) b = if b ∈ l then some (f b) else none
 | [], b => by simp [upAt]
 | c :: r, b => by
  simp only [List.map_cons, upAt, zlv f r b, List.mem_cons]
  by_cases h : b ∈ r
  ·simp [h]
  ·by_cases e : c = b
   ·subst e; simp [h]
   ·have : ¬ b = c := fun h => e h.symm
    simp [h, e, this]
theorem zc0 {H K X : AH} (hl : K.length = H.length) : zaL (H ++ X) (zgb K H.length) = K ++ X := by
 apply List.ext_getElem?
 intro b
 by_cases hb : b < (H ++ X).length
 ·rw [zbS _ _ _ hb]
  unfold zgb
  rw [zlv]
  by_cases h : b < H.length
  ·have hk : b < K.length := by omega
   simp [h, List.getElem?_append_left hk, hk]
  ·have h2 : K.length ≤ b := by omega
   simp only [List.length_append] at hb
   have h3 : b - H.length < X.length := by omega
   simp [h, List.getElem?_append_right h2, List.getElem?_append_right (show H.length ≤ b by omega), hl, h3]
 ·rw [List.getElem?_eq_none (by rw [zaU]; omega), List.getElem?_eq_none (by simp at hb ⊢; omega)]
theorem zo7 {E : Env} {b : Nat} {args : List AV} {next : NxD} {H K : AH} {v : AV} (hl : K.length = H.length) (hY : ∀ X : AH, zbX E b args (H ++ X) v (K ++ X))
  (k : next .go v ⟨List.range H.length, zgb K H.length, none, true⟩ K) : zdN E (.yld b) args next H := by
 refine ⟨v, List.range H.length, zgb K H.length, ⟨fun c hc => List.mem_range.1 hc, fun p hp => ?_, fun Hx hx => ?_⟩, ?_⟩
 ·unfold zgb at hp
  obtain ⟨i, hi, rfl⟩ := List.mem_map.1 hp
  exact hi
 ·have hle : H.length ≤ Hx.length := by
   rcases Nat.lt_or_ge Hx.length H.length with h | h
   ·have := hx Hx.length (List.mem_range.2 h)
    rw [List.getElem?_eq_none (Nat.le_refl _)] at this
    rw [List.getElem?_eq_getElem h] at this
    cases this
   ·exact h
  have e : Hx = H ++ Hx.drop H.length := by
   apply List.ext_getElem?
   intro c
   by_cases hc : c < H.length
   ·rw [List.getElem?_append_left hc]; exact hx c (List.mem_range.2 hc)
   ·rw [List.getElem?_append_right (by omega), List.getElem?_drop]
    congr 1; omega
  rw [e, zc0 hl]
  exact .inl (hY _)
 ·have := zc0 (X := []) hl
  rw [List.append_nil, List.append_nil] at this
  rw [this]
  exact k
end Go.Arm

namespace Go.Arm
open Go.RowKit
def alters (H H' : AH) : Prop := H'.length = H.length ∧ ∀ c : Nat, H'[c]? = H[c]? ∨ (∃ k, H'[c]? = some k ∧ noFB H.length k = true) ∨ ∃ k st st' frs, H[c]? = some (.loop k st frs) ∧ H'[c]? = some (.loop k st' frs)
theorem alters.refl (H : AH) : alters H H := ⟨rfl, fun _ => .inl rfl⟩
theorem alters.trans {H H1 H2 : AH} (h : alters H H1) (g : alters H1 H2) : alters H H2 := by
 refine ⟨g.1.trans h.1, fun c => ?_⟩
 rcases g.2 c with g1 | ⟨k, g1, g2⟩ | ⟨k, st, st', frs, g1, g2⟩
 ·rw [g1]; exact h.2 c
 ·exact .inr (.inl ⟨k, g1, by rw [← h.1]; exact g2⟩)
 ·rcases h.2 c with h1 | ⟨k', h1, h2⟩ | ⟨k', s1, s2, frs', h1, h2⟩
  ·exact .inr (.inr ⟨k, st, st', frs, by rw [← h1]; exact g1, g2⟩)
  ·rw [g1] at h1; cases h1
   exact .inr (.inl ⟨_, g2, h2⟩)
  ·rw [g1] at h2; cases h2
   exact .inr (.inr ⟨k, s1, st', frs, h1, g2⟩)
def altB (m : Nat) (k k' : ABlk) : Prop := k' = k ∨ noFB m k' = true ∨ ∃ q st st' frs, k = .loop q st frs ∧ k' = .loop q st' frs
def altL (m : Nat) : List ABlk → List ABlk → Prop
 | [], [] => True
 | a :: r, b :: s => altB m a b ∧ altL m r s
 | _, _ => False
theorem altL.len {m : Nat} : ∀ {K K' : List ABlk}, altL m K K' → K'.length = K.length
 | [], [], _ => rfl
 | _ :: _, _ :: _, h => by simp [altL.len h.2]
theorem altL.get {m : Nat} : ∀ {K K' : List ABlk}, altL m K K' → ∀ c : Nat, K'[c]? = K[c]? ∨ (∃ k, K'[c]? = some k ∧ noFB m k = true) ∨ ∃ k st st' frs, K[c]? = some (.loop k st frs) ∧ K'[c]? = some (.loop k st' frs)
 | [], [], _, c => .inl rfl
 | a :: r, b :: s, h, 0 => by
  rcases h.1 with h1 | h1 | ⟨q, st, st', frs, h1, h2⟩
  ·exact .inl (by simp [h1])
  ·exact .inr (.inl ⟨b, rfl, h1⟩)
  ·exact .inr (.inr ⟨q, st, st', frs, by simp [h1], by simp [h2]⟩)
 | a :: r, b :: s, h, c + 1 => by simpa using altL.get h.2 c
theorem zkv {H K K' : AH} (h : altL (H ++ K).length K K') : alters (H ++ K) (H ++ K') := by
 refine ⟨by simp [h.len], fun c => ?_⟩
 rcases Nat.lt_or_ge c H.length with h1 | h1
 ·left; rw [List.getElem?_append_left h1, List.getElem?_append_left h1]
 ·rw [List.getElem?_append_right h1, List.getElem?_append_right h1]; exact h.get _
theorem altB.same {m : Nat} (k : ABlk) : altB m k k := .inl rfl
theorem altB.loop {m : Nat} {q : LK} {st st' : LSt} {frs : List AV} : altB m (.loop q st frs) (.loop q st' frs) := .inr (.inr ⟨q, st, st', frs, rfl, rfl⟩)
inductive zfA (E : Env) (b : Nat) (P : AH → Prop) : List (List AV) → AH → AH → Prop
 | nil (H : AH) : zfA E b P [] H H
 | stop {a : List AV} {r : List (List AV)} {H H' : AH} (h1 : alters H H') (h2 : P H') (h3 : ∀ J : AH, zbX E b a (H ++ J) (.bool false) (H' ++ J)) : zfA E b P (a :: r) H H'
 | go {a : List AV} {r : List (List AV)} {H H1 H' : AH} (h1 : alters H H1) (h2 : P H1) (h3 : ∀ J : AH, zbX E b a (H ++ J) (.bool true) (H1 ++ J)) (h4 : zfA E b P r H1 H') : zfA E b P (a :: r) H H'
theorem zfA.alters {E : Env} {b : Nat} {P : AH → Prop} {L : List (List AV)} {H H' : AH} (h : zfA E b P L H H') : Arm.alters H H' := by
 induction h with
 | nil H => exact .refl H
 | stop h1 _ _ => exact h1
 | go h1 _ _ _ ih => exact h1.trans ih
theorem zfA.keep {E : Env} {b : Nat} {P : AH → Prop} {L : List (List AV)} {H H' : AH} (h : zfA E b P L H H') (h0 : P H) : P H' := by
 induction h with
 | nil H => exact h0
 | stop _ h2 _ => exact h2
 | go _ h2 _ _ ih => exact ih h2
theorem zfA.cases_cons {E : Env} {b : Nat} {P : AH → Prop} {a : List AV} {r : List (List AV)} {H H' : AH} (h : zfA E b P (a :: r) H H') :
  ∃ (go : Bool) (H1 : AH), Arm.alters H H1 ∧ P H1 ∧ (∀ J : AH, zbX E b a (H ++ J) (.bool go) (H1 ++ J)) ∧ (go = false → H1 = H') ∧ (go = true → zfA E b P r H1 H') := by
 cases h with
 | stop h1 h2 h3 => exact ⟨false, _, h1, h2, h3, fun _ => rfl, nofun⟩
 | go h1 h2 h3 h4 => exact ⟨true, _, h1, h2, h3, nofun, fun _ => h4⟩
theorem finY {E : Env} {fr : AFr} {fn : Func} {H0 H1 J : AH} {e : zcj} (hr : fn.results.toList = []) (ha : alters H0 H1) (hx : e = .ret ∨ e = .normal := by simp) : zbN E fn H0 (.ret (.tuple [])) H1 e fr (H1 ++ J) := by
 have hL : Leaves H0 [] (H1 ++ J) [] H1 := .cut H0.length (Nat.le_refl _) (by rw [← ha.1]; simp) (fun b _ => ha.2 b) (by simp [noFs])
 rcases hx with rfl | rfl <;> exact ⟨[], [], by rw [hr]; rfl, hL, rfl⟩
theorem zbO {b : Nat} {k : LK} {frs : List AV} {y : AFr → AH → Prop} {fr : AFr} {H1 : AH} : zpb b k frs y .normal fr H1 = (H1[b]? = some (.loop k .ready frs) ∧ y fr (H1.set b (.loop k .busy frs))) := rfl
theorem zbT {b : Nat} {k : LK} {frs : List AV} {H0 H' H2 : AH} {v : AV} {fr : AFr} : zqP b k frs H0 v H' .normal fr H2 = (H2[b]? = some (.loop k .busy frs) ∧ v = .bool true ∧ Leaves H0 [] (H2.set b (.loop k .ready frs)) [] H') := rfl
theorem Leaves.alters {H H1 J X : AH} (ha : Arm.alters H H1) : Leaves (H ++ J) [] (H1 ++ J ++ X) [] (H1 ++ J) := by
 have hl : (H ++ J).length = (H1 ++ J).length := by simp [ha.1]
 refine .cut (H ++ J).length (Nat.le_refl _) (by rw [hl, List.take_left]) (fun c hc => ?_) (by simp [noFs])
 by_cases h : c < H.length
 ·have h1 : c < H1.length := by rw [ha.1]; exact h
  rw [List.getElem?_append_left h, List.getElem?_append_left h1]
  rcases ha.2 c with g | ⟨k, g1, g2⟩ | ⟨k, st, st', frs, g1, g2⟩
  ·exact .inl g
  ·refine .inr (.inl ⟨k, g1, ?_⟩)
   have hm : H.length ≤ (H ++ J).length := by simp
   cases k with
   | dead => rfl
   | row wr sz xs => simp only [noFB] at g2 ⊢; rw [zaE] at g2 ⊢; exact fun x hx => zbC hm (g2 x hx)
   | map es =>
    simp only [noFB, List.all_eq_true, Bool.and_eq_true] at g2 ⊢
    exact fun e hx => ⟨zbC hm (g2 e hx).1, zbC hm (g2 e hx).2⟩
   | loop k st frs => simp only [noFB] at g2 ⊢; rw [zaE] at g2 ⊢; exact fun x hx => zbC hm (g2 x hx)
  ·exact .inr (.inr ⟨k, st, st', frs, g1, g2⟩)
 ·left
  have hh := ha.1
  rw [List.getElem?_append_right (by omega), List.getElem?_append_right (by omega), hh]
def mvG (G : Gh) (m : Nat) (σ : Nat → Option Nat) : Gh := (List.range m).map fun c => match σ c with
 | some k => ownr G k
 | none => ownr G c
theorem zfd {G : Gh} {m : Nat} {σ : Nat → Option Nat} {c : Nat} : ownr (mvG G m σ) c = if c < m then (match σ c with | some k => ownr G k | none => ownr G c) else none := by
 show ((mvG G m σ)[c]?).join = _
 unfold mvG
 rw [List.getElem?_map]
 by_cases h : c < m
 ·rw [List.getElem?_range h, if_pos h, Option.map_some]; cases h2 : σ c <;> simp [h2]
 ·rw [if_neg h, List.getElem?_eq_none (by simpa using h)]; rfl
section
variable {G : Gh} {w : World} {m : Nat} {σ : Nat → Option Nat}
theorem zeP {c : Nat} {L : GL} (h : ownr (mvG G m σ) c = some L) : c < m ∧ ((∃ k, σ c = some k ∧ ownr G k = some L) ∨ (σ c = none ∧ ownr G c = some L)) := by
 rw [zfd] at h
 split at h
 ·rename_i hc
  refine ⟨hc, ?_⟩
  cases hs : σ c with
  | none => rw [hs] at h; exact .inr ⟨rfl, h⟩
  | some k => rw [hs] at h; exact .inl ⟨k, rfl, h⟩
 ·cases h
theorem VR.move (hd : ∀ c k, σ c = some k → ownr G c = none) {a : AV} {v : Value} (h : VR G w a v) : Arm.noF m a = true → VR (mvG G m σ) w a v := by
 have keep : ∀ {c : Nat} {L : GL}, ownr G c = some L → c < m → ownr (mvG G m σ) c = some L := fun {c L} h hc => by
  rw [zfd, if_pos hc]
  cases hs : σ c with
  | none => exact h
  | some k => rw [hd c k hs] at h; cases h
 have fitsT : ∀ {B e : Nat}, fits G B e → fits (mvG G m σ) B e := fun hl c L hc hB => by
  rcases (zeP hc).2 with ⟨k, _, h⟩ | ⟨_, h⟩ <;> exact hl _ L h hB
 induction h with
 | junk v => intro _; exact .junk v
 | bool b => intro _; exact .bool b
 | int k n => intro _; exact .int k n
 | str s => intro _; exact .str s
 | nilptr => intro _; exact .nilptr
 | ptr h1 hg hs hv => intro hn; simp only [Arm.noF, decide_eq_true_eq] at hn; exact .ptr (keep h1 hn) hg hs hv
 | eptr vals hB hc hr hl ih => intro hn; simp only [Arm.noF] at hn; exact .eptr vals hB hc (fun j a hj => ih j a hj (zat hn hj)) (fitsT hl)
 | nilslice => intro _; exact .nilslice
 | slice0 hf => intro _; exact .slice0 hf
 | slice vals hB hs hc hr hl hcap hf ih =>
  intro hn
  simp only [Arm.noF] at hn
  exact .slice vals hB hs hc (fun i x j c hi hj => ih i x j c hi hj (zat (zbL.2 (zat hn hi)) hj)) (fitsT hl) hcap hf
 | ref h1 hfx hg hs hv => intro hn; simp only [Arm.noF, decide_eq_true_eq] at hn; exact .ref (keep h1 hn) hfx hg hs hv
 | pre h1 hfx hs hv => intro hn; simp only [Arm.noF, decide_eq_true_eq] at hn; exact .pre (keep h1 hn) hfx hs hv
 | func h1 h2 _ _ ih1 ih2 =>
  intro hn
  simp only [Arm.noF, Bool.and_eq_true] at hn
  exact .func h1 h2 (fun i a v ha hv => ih1 i a v ha hv (zat hn.1 ha)) (fun i a v ha hv => ih2 i a v ha hv (zat hn.2 ha))
 | nilfunc => intro _; exact .nilfunc
 | iface _ ih => intro hn; simp only [Arm.noF] at hn; exact .iface (ih hn)
 | niliface => intro _; exact .niliface
 | agg h1 _ ih => intro hn; simp only [Arm.noF] at hn; exact .agg h1 fun i a v ha hv => ih i a v ha hv (zat hn ha)
 | tuple h1 _ ih => intro hn; simp only [Arm.noF] at hn; exact .tuple h1 fun i a v ha hv => ih i a v ha hv (zat hn ha)
 | nilmap => intro _; exact .nilmap
 | map h1 hfx => intro hn; simp only [Arm.noF, decide_eq_true_eq] at hn; exact .map (keep h1 hn) hfx
 | yld h1 hfx => intro hn; simp only [Arm.noF, decide_eq_true_eq] at hn; exact .yld (keep h1 hn) hfx
inductive RenV (m : Nat) (σ : Nat → Option Nat) : AV → AV → Prop
 | old {a : AV} (h : Arm.noF m a = true) : RenV m σ a a
 | ref {b k n : Nat} (h1 : σ b = some k) (h2 : b < m) : RenV m σ (.ref k n) (.ref b n)
 | ptr {b k g i off : Nat} (h1 : σ b = some k) (h2 : b < m) : RenV m σ (.ptr k g i off) (.ptr b g i off)
 | func {f : Fn} {first cap cap' : List AV} (hl : cap'.length = cap.length) (hf : noFs m first = true) (h : ∀ (i : Nat) a a', cap[i]? = some a → cap'[i]? = some a' → RenV m σ a a') : RenV m σ (.func f first cap) (.func f first cap')
def RenX (m : Nat) (σ : Nat → Option Nat) (x x' : AV) : Prop := x.cells.length = x'.cells.length ∧ ∀ (j : Nat) a a', x.cells[j]? = some a → x'.cells[j]? = some a' → RenV m σ a a'
theorem RenV.vr (hd : ∀ c k, σ c = some k → ownr G c = none) {a a' : AV} (hr : RenV m σ a a') : ∀ {v : Value}, VR G w a v → VR (mvG G m σ) w a' v := by
 induction hr with
 | old h1 => intro v h; exact h.move hd h1
 | ref h1 h2 =>
  intro v h
  cases h with
  | ref g1 hfx hg hs hv => exact .ref (by rw [zfd, if_pos h2, h1]; exact g1) hfx hg hs hv
 | ptr h1 h2 =>
  intro v h
  cases h with
  | ptr g1 hg hs hv => exact .ptr (by rw [zfd, if_pos h2, h1]; exact g1) hg hs hv
 | func hl hf h ih =>
  rename_i f first cap cap'
  intro v hv
  cases hv with
  | func q1 q2 q3 q4 =>
   rename_i fv cv
   refine .func q1 (by rw [q2, hl]) (fun i a v ha hv => (q3 i a v ha hv).move hd (zat hf ha)) (fun i a' v ha hv => ?_)
   have hlt : i < cap.length := by rw [← hl]; exact (gI.1 ha).1
   exact ih i cap[i] a' (by simp) ha (q4 i cap[i] v (by simp) hv)
theorem zb1.move (hd : ∀ c k, σ c = some k → ownr G c = none) {c : Nat} (hc : c < m) (hs : σ c = none) {x : ABlk} (h : zb1 G w c x) (hn : noFB m x = true) : zb1 (mvG G m σ) w c x := by
 have ho : ownr (mvG G m σ) c = ownr G c := by rw [zfd, if_pos hc, hs]
 cases x with
 | dead => exact ho.trans h
 | row wr sz xs =>
  obtain ⟨L, h1, h2, h3, h4, h5, h6, h7, c', e, h8, h9, hv⟩ := h
  simp only [noFB] at hn
  refine ⟨L, ho.trans h1, h2, h3, h4, h5, h6, h7, c', e, h8, h9, fun i x j a hi hj => ?_⟩
  obtain ⟨v, g1, g2⟩ := hv i x j a hi hj
  exact ⟨v, g1, g2.move hd (zat (zbL.2 (zat hn hi)) hj)⟩
 | map es =>
  obtain ⟨L, h1, h2, ents, clock, h3, h4, h5⟩ := h
  simp only [noFB, List.all_eq_true, Bool.and_eq_true] at hn
  refine ⟨L, ho.trans h1, h2, ents, clock, h3, h4, fun j e v hj hv => ?_⟩
  have := h5 j e v hj hv
  have h6 := hn e (List.mem_of_getElem? hj)
  exact ⟨this.1.move hd h6.1, this.2.move hd h6.2⟩
 | loop k st frs =>
  obtain ⟨L, h1, h2, r, h3, h4, h5, h6, h7, h8, h9⟩ := h
  simp only [noFB] at hn
  exact ⟨L, ho.trans h1, h2, r, h3, h4, h5, h6, h7, h8, fun j a hj => (h9 j a hj).move hd (zat hn hj)⟩
theorem zb1.moveRow (hd : ∀ c k, σ c = some k → ownr G c = none) {c k : Nat} (hc : c < m) (hs : σ c = some k) {wr : Bool} {sz : Nat} {xs xs' : List AV} (h : zb1 G w k (.row wr sz xs)) (hl : xs'.length = xs.length)
  (hx : ∀ (i : Nat) x x', xs[i]? = some x → xs'[i]? = some x' → RenX m σ x x') : zb1 (mvG G m σ) w c (.row wr sz xs') := by
 have ho : ownr (mvG G m σ) c = ownr G k := by rw [zfd, if_pos hc, hs]
 obtain ⟨L, h1, h2, h3, h4, h5, h6, h7, c', e, h8, h9, hv⟩ := h
 have hget : ∀ (i : Nat) x', xs'[i]? = some x' → ∃ x, xs[i]? = some x ∧ RenX m σ x x' := fun i x' hi => by
  have hlt := (gI.1 hi).1
  exact ⟨xs[i], by simp, hx i _ x' (by simp) hi⟩
 refine ⟨L, ho.trans h1, by rw [h2, hl], h3, fun x' hx' => ?_, by rw [hl]; exact h5, h6, by rw [hl]; exact h7, c', e, h8, h9, fun i x' j a' hi hj => ?_⟩
 ·obtain ⟨i, hi⟩ := List.mem_iff_getElem?.1 hx'
  obtain ⟨x, hx1, hx2⟩ := hget i x' hi
  rw [← hx2.1]; exact h4 x (List.mem_of_getElem? hx1)
 ·obtain ⟨x, hx1, hx2⟩ := hget i x' hi
  have hjl : j < x.cells.length := by rw [hx2.1]; exact (gI.1 hj).1
  obtain ⟨v, g1, g2⟩ := hv i x j x.cells[j] hx1 (by simp)
  exact ⟨v, g1, (hx2.2 j _ a' (by simp) hj).vr hd g2⟩
end
structure zpp (H HJ H' : AH) (r r' : AV) (σ : Nat → Option Nat) : Prop where
 dead : ∀ c k, σ c = some k → c < H.length ∧ H[c]? = some .dead ∧ HJ[c]? = some .dead ∧ H.length ≤ k
 inj : ∀ c c' k, σ c = some k → σ c' = some k → c = c'
 len : H'.length = H.length
 keep : ∀ c, c < H.length → σ c = none → HJ[c]? = H[c]? ∧ H'[c]? = H[c]?
 fill : ∀ c k, σ c = some k → ∃ wr sz xs xs', HJ[k]? = some (.row wr sz xs) ∧ H'[c]? = some (.row wr sz xs') ∧ xs'.length = xs.length ∧ ∀ (i : Nat) x x', xs[i]? = some x → xs'[i]? = some x' → RenX H.length σ x x'
 res : RenV H.length σ r r'
theorem zpp.ok {Γ : Nat → Option (List AV)} {G G' : Gh} {w w' : World} {H HJ H' : AH} {r r' : AV} {σ : Nat → Option Nat} (h : zpp H HJ H' r r' σ) (hI : Inv Γ G w H) (e : Ext G w G' w') (i : Inv Γ G' w' HJ) {u : Value} (hu : VR G' w' r u) :
  ∃ G'', Ext G w G'' w' ∧ Inv Γ G'' w' H' ∧ VR G'' w' r' u := by
 obtain ⟨hd, hi, hl, hk, hf, hr⟩ := h
 have hd' : ∀ c k, σ c = some k → ownr G' c = none := fun c k hs => i.blk c _ (hd c k hs).2.2.1
 have e1 : Ext G w (mvG G' H.length σ) w' := by
  refine ⟨e.os, e.tape, e.output, e.size, e.keep, fun c L hc => ?_, fun c L' hc hlt => ?_⟩
  ·obtain ⟨L', h1, h2⟩ := e.own c L hc
   have hc0 := zbH hc
   rw [hI.len] at hc0
   cases hs : σ c with
   | some k => have := hI.blk c _ (hd c k hs).2.1; rw [show ownr G c = none from this] at hc; cases hc
   | none => exact ⟨L', by rw [zfd, if_pos hc0, hs]; exact h1, h2⟩
  ·rcases (zeP hc).2 with ⟨k, hs, h1⟩ | ⟨_, h1⟩
   ·obtain ⟨L, h2, _⟩ := e.back k L' h1 hlt
    have := zbH h2
    rw [hI.len] at this
    have := (hd c k hs).2.2.2
    omega
   ·exact e.back c L' h1 hlt
 refine ⟨_, e1, ⟨by simp [mvG, hl], fun c x hx => ?_, ?_, fun g cs hg => (hI.glob g cs hg).mono e1⟩, hr.vr hd' hu⟩
 ·have hc : c < H.length := by rw [← hl]; exact (gI.1 hx).1
  cases hs : σ c with
  | none =>
   obtain ⟨h1, h2⟩ := hk c hc hs
   rw [h2] at hx
   have hn := (hI.blk c x hx).noF
   rw [hI.len] at hn
   exact (i.blk c x (h1.trans hx)).move hd' hc hs hn
  | some k =>
   obtain ⟨wr, sz, xs, xs', h1, h2, h3, h4⟩ := hf c k hs
   rw [h2] at hx; cases hx
   exact (i.blk k _ h1).moveRow hd' hc hs h3 h4
 ·intro c c' L L' h1 h2 h3
  obtain ⟨g0, g1⟩ := zeP h1
  obtain ⟨q0, q1⟩ := zeP h2
  rcases g1 with ⟨k, s1, g1⟩ | ⟨s1, g1⟩ <;> rcases q1 with ⟨k', s2, q1⟩ | ⟨s2, q1⟩
  ·have := i.inj k k' L L' g1 q1 h3; subst this; exact hi c c' k s1 s2
  ·have := i.inj k c' L L' g1 q1 h3; have := (hd c k s1).2.2.2; omega
  ·have := i.inj c k' L L' g1 q1 h3; have := (hd c' k' s2).2.2.2; omega
  ·exact i.inj c c' L L' g1 q1 h3
theorem zaf.fills {E : Env} {f : FuncId} {args : List AV} {H HJ H' : AH} {r r' : AV} {σ : Nat → Option Nat} (h : zaf E f args H (.ret r) HJ) (hs : zpp H HJ H' r r' σ) : zaf E f args H (.ret r') H' := by
 refine ⟨h.1, fun F n hF G w vs hI hv => (h.2 F n hF G w vs hI hv).mono ?_⟩
 rintro z w1 ⟨G', e, i, hz⟩
 cases z with
 | returned u =>
  obtain ⟨G'', e2, i2, r2⟩ := hs.ok hI e i hz
  exact ⟨G'', e2, i2, r2⟩
 | panicked ch => cases ch <;> exact hz.elim
 | outgrown => exact hz.elim
theorem zbs {F : Fence} {n : Nat} {P : Program} {fn : Func} {tmps : Array Value} {R R' : Ending → World → Prop} (hR : ∀ e w, R e w → R' e w) : ∀ (ds : List Deferred) (u : FrameMode) (w : World), LeavesInM F n P fn tmps R ds u w → LeavesInM F n P fn tmps R' ds u w
 | [], u, w, h => by
  simp only [LeavesInM] at h ⊢
  cases u with
  | returning => simp only [LeavesIn] at h ⊢; obtain ⟨v, h1, h2⟩ := h; exact ⟨v, h1, hR _ _ h2⟩
  | panicking ch => simp only [LeavesIn] at h ⊢; exact hR _ _ h
  | run => simp only [LeavesIn] at h
 | d :: ds, u, w, h => by
  refine ⟨h.1, ?_⟩
  rcases h.2 with ⟨r, w', h1, h2, h3⟩ | ⟨h1, fv, cap, f, args, h2, h3, h4, h5⟩
  ·exact .inl ⟨r, w', h1, h2, zbs hR ds u w' h3⟩
  ·refine .inr ⟨h1, fv, cap, f, args, h2, h3, h4, h5.mono fun e u' w' h => ?_⟩
   cases e with
   | returned v => exact zbs hR ds _ w' h
   | panicked ch => exact zbs hR ds _ w' h
   | outgrown => exact hR _ _ h
theorem zhx {F : Fence} {n : Nat} {P : Program} {fn : Func} {R R' : Ending → World → Prop} (hR : ∀ e w, R e w → R' e w) {x : Exit} {a : Act} {w : World} (h : bodyPostM F n P fn R x a w) : bodyPostM F n P fn R' x a w := by
 cases x with
 | normal => exact zbs hR _ _ _ h
 | ret => exact zbs hR _ _ _ h
 | panic ch => exact zbs hR _ _ _ h
 | outgrown => exact hR _ _ h
 | exit id => exact h
 | goto l => exact h
def bodyX (E : Env) (fn : Func) (H : AH) (r' : AV) (H' : AH) : zbe := fun x fr H1 => ∃ r HJ σ, zpp H HJ H' r r' σ ∧ zbN E fn H (.ret r) HJ x fr H1
theorem ze4 {E : Env} (hT : zaR E.P E.T) (hm : E.P.follows .mixedOrders = true) {f : FuncId} {fn : Func} {c : Code} (hf : E.P.funcs[f]? = some fn) (hb : fn.body = some c)
  (hname : (fn.name == "runtime.NumGoroutine") = false) {N : Nat} (hN : fn.ntmps = N) (hok : zbt N c = true) {args : List AV} {H H' : AH} {r : AV} (hl : args.length ≤ N)
  (h : awp E c (bodyX E fn H r H') (zfw args) H) : zaf E f args H (.ret r) H' := by
 subst hN
 refine ⟨⟨fn, hf, by rw [hb]; rfl, hname⟩, fun F n hF G w vs hI hv => ?_⟩
 have hF' : Wd F.plain := hF
 have hvl : args.length = vs.size := by simpa using hv.1
 refine (callsIn_of_wp_marks (F := F.plain) (n := n) (P := E.P) (f := f) (fn := fn) (c := c) (args := vs) (w := w) hf hb (hF.2 f) ?_ rfl : CallsIn F.plain n E.P f vs w _)
 refine wpIn_mono (zew hT hF' hm (N := fn.ntmps) (Dk := zhl w []) ⟨hI.inj, hI.lt⟩ zhl.mono c _ (zfw args) H G _ w (.inr (ziJ rfl)) hok h (.refl _ _) hI (zjh hv _) (by simp; omega) ⟨[], rfl, by simp, by simp⟩) fun x a w' hp => ?_
 obtain ⟨e', fr, H1, G1, ⟨r0, HJ, σ, hs, hk⟩, hp⟩ := hp
 refine zhx ?_ (zeY hT hI (e := .ret r0) (H' := HJ) ⟨e', fr, H1, G1, hk, hp⟩)
 rintro z w1 ⟨G', e, i, hz⟩
 cases z with
 | returned u =>
  obtain ⟨G'', e2, i2, r2⟩ := hs.ok hI e i hz
  exact ⟨G'', e2, i2, r2⟩
 | panicked ch => cases ch <;> exact hz.elim
 | outgrown => exact hz.elim
theorem zaf.after {E : Env} {f : FuncId} {args : List AV} {H HJ H' : AH} {r r' : AV} (h : zaf E f args H (.ret r) HJ) (hl : Leaves H [r] HJ [r'] H') : zaf E f args H (.ret r') H' := by
 refine ⟨h.1, fun F n hF G w vs hI hv => (h.2 F n hF G w vs hI hv).mono ?_⟩
 rintro z w' ⟨G', e, i, hz⟩
 cases z with
 | returned u =>
  obtain ⟨G'', e2, i2, r2⟩ := zfg hI hl e i (VL.nil.cons hz)
  exact ⟨G'', e2, i2, r2.2 0 _ _ rfl rfl⟩
 | panicked ch => cases ch <;> exact hz.elim
 | outgrown => exact hz.elim
end Go.Arm
