/- Part of a proof: what the functions of the program do to abstract states, step by step. -/
import Derived.Test.YtohmodcheahpgaaDoorM2
set_option linter.unusedVariables false
set_option linter.unusedSimpArgs false
namespace Go.Proofs.YtohmodcheahpgaaDoor.Arm
open Go.Arm Go.Pl

abbrev fnA (n : Nat) : AV := .func (.func n) [] []
def prodT : List AV := [fnA 133, fnA 134, fnA 135, fnA 134, fnA 135, fnA 136, fnA 136, fnA 134, .nilfunc, .nilfunc, fnA 135, fnA 133, fnA 136, fnA 135, fnA 136, fnA 133, fnA 134, fnA 133]
def quotT : List AV := [fnA 136, fnA 135, fnA 134, fnA 133, fnA 133, fnA 135, fnA 134, fnA 136, fnA 133, fnA 134, fnA 135, fnA 136]
def glob : Nat → Option (List AV)
  | 0 => some prodT
  | 1 => some quotT
  | _ => none
noncomputable def E : Env := ⟨Tryd.prog, tab, glob⟩
@[simp] theorem E_T : E.T = tab := rfl
@[simp] theorem E_G0 : E.Γ 0 = some prodT := rfl
@[simp] theorem E_G1 : E.Γ 1 = some quotT := rfl
theorem tabOk : TabOk E.P E.T := by
  show TabOk Tryd.prog tab
  exact tab_ok
theorem mixed : E.P.follows .mixedOrders = true := by kernel_rfl

def iv (p : I) : AV := .agg [.int .i64 p.1, .int .i64 p.2]
@[simp] theorem iv_eq (p : I) : iv p = .agg [.int .i64 p.1, .int .i64 p.2] := rfl

/-! ### package fixed -/
theorem fDivide1 (r : Int) (H : AH) : Sound E 115 [.int .i64 r] H (.ret (.int .i64 (min r 1))) H := by
  refine sound_of_awp tabOk mixed Tryd.func115 rfl (by rfl) Tryd.ntmps115 (by kernel_rfl) (by simp) ?_
  simp
  exact fin0 (rs := [.tmp 2]) (by rfl) (by simp [resA]; omega)
theorem fFloorCeil (a b : Int) (ha : -4611686018427387904 ≤ a ∧ a ≤ 4611686018427387904) (hb : 0 < b ∧ b ≤ 4611686018427387904) (H : AH) :
    Sound E 114 [.int .i64 a, .int .i64 b, fnA 115] H (.ret (.tuple [.int .i64 (fl a b), .int .i64 (ce a b)])) H := by
  refine sound_of_awp tabOk mixed Tryd.func114 rfl (by rfl) Tryd.ntmps114 (by kernel_rfl) (by simp) ?_
  have h1 := tdiv_floor a hb.1
  have h2 := ceil_eq a hb.1
  have h3 := Int.mul_ediv_add_emod a b
  have h4 := Int.mul_tdiv_add_tmod a b
  obtain ⟨h5, h6⟩ := tmod_bounds a hb.1
  have h7 := Int.emod_nonneg a (b := b) (by omega)
  have h8 := Int.emod_lt_of_pos a hb.1
  have e1 : fl a b = a / b := by unfold fl; rw [if_neg (by omega)]
  have e2 : ce a b = if a % b = 0 then a / b else a / b + 1 := by unfold ce fl; rw [if_neg (by omega), h2]
  have hq : -4611686018427387904 ≤ a.tdiv b ∧ a.tdiv b ≤ 4611686018427387904 := by
    have := Int.natAbs_tdiv_le_natAbs a b
    omega
  have hw : IntKind.i64.wrap (a.tdiv b) = a.tdiv b := wrap64 (by omega) (by omega)
  simp
  refine bind_ifn (by omega) ?_
  simp
  refine bind_ifn (by omega) ?_
  simp [hw]
  refine endD [] (by rfl) (by simp [okW, note, Eff.triv, Eff.wr, Eff.none, upTo, newAt]) ?_
  simp
  refine branch (fun hr => ?_) (fun hr => ?_)
  · have hr' : a.tmod b < 0 := by simpa using hr
    have w1 : IntKind.i64.wrap (a.tdiv b - 1) = a.tdiv b - 1 := wrap64 (by omega) (by omega)
    have w2 : IntKind.i64.wrap (a.tmod b + b) = a.tmod b + b := wrap64 (by omega) (by omega)
    rw [if_pos hr'] at h1
    have hem : a % b = a.tmod b + b := by
      have : b * (a / b) = b * a.tdiv b - b := by rw [h1, Int.mul_sub, Int.mul_one]
      omega
    simp [w1, w2]
    refine call_ret (fDivide1 _ _) ?_
    have w3 : IntKind.i64.wrap (a.tdiv b - 1 + min (a.tmod b + b) 1) = a.tdiv b - 1 + min (a.tmod b + b) 1 := wrap64 (by omega) (by omega)
    simp [w3]
    exact finK (rs := [.tmp 6, .tmp 7]) (vs := [.int .i64 (fl a b), .int .i64 (ce a b)]) (by rfl) (by
      rw [e1, e2]
      simp [resA]
      constructor
      · omega
      · split <;> omega) rfl
  · have hr' : ¬ a.tmod b < 0 := by simpa using hr
    rw [if_neg hr'] at h1
    have hem : a % b = a.tmod b := by
      rw [h1] at h3; omega
    simp
    refine call_ret (fDivide1 _ _) ?_
    have w3 : IntKind.i64.wrap (a.tdiv b + min (a.tmod b) 1) = a.tdiv b + min (a.tmod b) 1 := wrap64 (by omega) (by omega)
    simp [w3]
    exact finK (rs := [.tmp 6, .tmp 7]) (vs := [.int .i64 (fl a b), .int .i64 (ce a b)]) (by rfl) (by
      rw [e1, e2]
      simp [resA]
      constructor
      · omega
      · split <;> omega) rfl
theorem fDivide (a b : Int) (ha : -4611686018427387904 ≤ a ∧ a ≤ 4611686018427387904) (hb : b ≠ 0 ∧ -4611686018427387904 ≤ b ∧ b ≤ 4611686018427387904) (H : AH) :
    Sound E 109 [.int .i64 a, .int .i64 b] H (.ret (.tuple [.int .i64 (fl a b), .int .i64 (ce a b)])) H := by
  refine sound_of_awp tabOk mixed Tryd.func109 rfl (by rfl) Tryd.ntmps109 (by kernel_rfl) (by simp) ?_
  simp
  refine branch (fun hr => ?_) (fun hr => ?_)
  · have hr' : b < 0 := by simpa using hr
    have w1 : IntKind.i64.wrap (-a) = -a := wrap64 (by omega) (by omega)
    have w2 : IntKind.i64.wrap (-b) = -b := wrap64 (by omega) (by omega)
    simp [w1, w2]
    refine call_ret (fFloorCeil (-a) (-b) (by omega) (by omega) _) ?_
    simp
    exact finK (rs := [.tmp 4, .tmp 5]) (vs := [.int .i64 (fl a b), .int .i64 (ce a b)]) (by rfl) (by
      have h1 : fl (-a) (-b) = fl a b := by unfold fl; rw [if_neg (by omega), if_pos hr']
      have h2 : ce (-a) (-b) = ce a b := by unfold ce fl; rw [if_neg (by omega), if_pos hr']
      simp [resA, h1, h2]) rfl
  · have hr' : ¬ b < 0 := by simpa using hr
    simp
    refine call_ret (fFloorCeil a b (by omega) (by omega) _) ?_
    simp
    exact finK (rs := [.tmp 4, .tmp 5]) (vs := [.int .i64 (fl a b), .int .i64 (ce a b)]) (by rfl) (by simp [resA]) rfl
theorem fMul (a b : Int) (h : -4611686018427387904 ≤ a * b ∧ a * b ≤ 4611686018427387904) (H : AH) :
    Sound E 98 [.int .i64 a, .int .i64 b] H (.ret (.tuple [.int .i64 (fl (a * b) 65536), .int .i64 (ce (a * b) 65536)])) H := by
  refine sound_of_awp tabOk mixed Tryd.func98 rfl (by rfl) Tryd.ntmps98 (by kernel_rfl) (by simp) ?_
  have w1 : IntKind.i64.wrap (a * b) = a * b := wrap64 (by omega) (by omega)
  simp [w1]
  refine call_ret (fDivide (a * b) 65536 h (by omega) _) ?_
  simp
  exact finK (rs := [.tmp 4, .tmp 5]) (vs := [.int .i64 (fl (a * b) 65536), .int .i64 (ce (a * b) 65536)]) (by rfl) (by simp [resA]) rfl
end Go.Proofs.YtohmodcheahpgaaDoor.Arm

namespace Go.Proofs.YtohmodcheahpgaaDoor.Arm
open Go.Arm Go.Pl

@[simp] theorem bin_iv (H : AH) (a b c d : Int) (z : Bool) : binOpA tab H .eql 26 (.agg [.int .i64 a, .int .i64 b]) (.agg [.int .i64 c, .int .i64 d]) z = some (.bool (a == c && b == d), H) := by
  simp [binOpA, binA, eqA, eqFs, nilI]
  by_cases h : a = c <;> by_cases h2 : b = d <;> simp [h, h2]
@[simp] theorem bin_iv_ne (H : AH) (a b c d : Int) (z : Bool) : binOpA tab H .neq 26 (.agg [.int .i64 a, .int .i64 b]) (.agg [.int .i64 c, .int .i64 d]) z = some (.bool (!(a == c && b == d)), H) := by
  simp [binOpA, binA, eqA, eqFs, nilI]
  by_cases h : a = c <;> by_cases h2 : b = d <;> simp [h, h2]

theorem iEntire (H : AH) : Sound E 93 [] H (.ret (iv ent)) H := by
  refine sound_of_awp tabOk mixed Tryd.func93 rfl (by rfl) Tryd.ntmps93 (by kernel_rfl) (by simp) ?_
  simp
  exact fin1 (rs := [.cell 0 26]) (by rfl) (by simp [resA, ent]) (by simp [noF, noFs])
theorem iIsEntire (p : I) (H : AH) : Sound E 95 [iv p] H (.ret (.bool (entB p))) H := by
  refine sound_of_awp tabOk mixed Tryd.func95 rfl (by rfl) Tryd.ntmps95 (by kernel_rfl) (by simp) ?_
  simp
  refine callD_ret (fun Hx => iEntire Hx) ?_
  simp
  refine endD [] (by rfl) (by simp [okW, note, Eff.triv, Eff.wr, Eff.none, upTo, newAt]) ?_
  simp [ent]
  exact fin1 (rs := [.tmp 2]) (by rfl) (by simp [resA, entB]) (by simp [noF])
theorem iNew (a b : Int) (H : AH) : Sound E 96 [.int .i64 a, .int .i64 b] H (.ret (iv (mk a b))) H := by
  refine sound_of_awp tabOk mixed Tryd.func96 rfl (by rfl) Tryd.ntmps96 (by kernel_rfl) (by simp) ?_
  have hN : ∀ x, numB x = (decide (-2147483648 < x) && decide (x < 2147483648)) := fun x => rfl
  have key : mk a b = if (decide (a ≤ -2147483648) || decide (2147483648 ≤ b) || decide (2147483648 ≤ a) || decide (b ≤ -2147483648)) = true then ent else (a, b) := by
    unfold mk
    simp only [hN, Bool.and_eq_true, decide_eq_true_eq, Bool.or_eq_true]
    by_cases h : (((a ≤ -2147483648 ∨ 2147483648 ≤ b) ∨ 2147483648 ≤ a) ∨ b ≤ -2147483648)
    · rw [if_pos h, if_neg (by omega)]
    · rw [if_neg h, if_pos (by omega)]
  by_cases h1 : a ≤ -2147483648
  · simp [h1]
    refine call_ret (iEntire _) ?_
    simp
    exact fin1 (rs := [.cell 4 26]) (by rfl) (by rw [key, if_pos (by simp; omega)]; simp [resA]) (by simp [noF, noFs])
  by_cases h2 : 2147483648 ≤ b
  · simp [h1, h2]
    refine call_ret (iEntire _) ?_
    simp
    exact fin1 (rs := [.cell 4 26]) (by rfl) (by rw [key, if_pos (by simp; omega)]; simp [resA]) (by simp [noF, noFs])
  by_cases h3 : 2147483648 ≤ a
  · simp [h1, h2, h3]
    refine call_ret (iEntire _) ?_
    simp
    exact fin1 (rs := [.cell 4 26]) (by rfl) (by rw [key, if_pos (by simp; omega)]; simp [resA]) (by simp [noF, noFs])
  by_cases h4 : b ≤ -2147483648
  · simp [h1, h2, h3, h4]
    refine call_ret (iEntire _) ?_
    simp
    exact fin1 (rs := [.cell 4 26]) (by rfl) (by rw [key, if_pos (by simp; omega)]; simp [resA]) (by simp [noF, noFs])
  simp [h1, h2, h3, h4]
  exact fin1 (rs := [.cell 4 26]) (by rfl) (by rw [key, if_neg (by simp; omega)]; simp [resA]) (by simp [noF, noFs])
theorem iPoint (x : Int) (H : AH) : Sound E 80 [.int .i64 x] H (.ret (iv (pt x))) H := by
  refine sound_of_awp tabOk mixed Tryd.func80 rfl (by rfl) Tryd.ntmps80 (by kernel_rfl) (by simp) ?_
  simp
  refine call_ret (iNew _ _ _) ?_
  simp
  exact fin1 (rs := [.cell 2 26]) (by rfl) (by simp [resA, pt]) (by simp [noF, noFs])
theorem iNeg (p : I) (h : vB p = true) (H : AH) : Sound E 91 [iv p] H (.ret (iv (neg p))) H := by
  refine sound_of_awp tabOk mixed Tryd.func91 rfl (by rfl) Tryd.ntmps91 (by kernel_rfl) (by simp) ?_
  have hb := vB_bounds h
  have w1 : IntKind.i64.wrap (-p.1) = -p.1 := wrap64 (by omega) (by omega)
  have w2 : IntKind.i64.wrap (-p.2) = -p.2 := wrap64 (by omega) (by omega)
  simp [w1, w2]
  exact fin1 (rs := [.cell 2 26]) (by rfl) (by simp [resA, neg]) (by simp [noF, noFs])
theorem iAdd (p q : I) (hp : vB p = true) (hq : vB q = true) (H : AH) : Sound E 74 [iv p, iv q] H (.ret (iv (add p q))) H := by
  refine sound_of_awp tabOk mixed Tryd.func74 rfl (by rfl) Tryd.ntmps74 (by kernel_rfl) (by simp) ?_
  have hb := vB_bounds hp
  have hc := vB_bounds hq
  have w1 : IntKind.i64.wrap (p.1 + q.1) = p.1 + q.1 := wrap64 (by omega) (by omega)
  have w2 : IntKind.i64.wrap (p.2 + q.2) = p.2 + q.2 := wrap64 (by omega) (by omega)
  simp
  refine call_ret (iIsEntire p _) ?_
  cases h1 : entB p with
  | true =>
    simp
    refine call_ret (iEntire _) ?_
    simp
    exact fin1 (rs := [.cell 4 26]) (by rfl) (by simp [resA, add, h1]) (by simp [noF, noFs])
  | false =>
    simp
    refine call_ret (iIsEntire q _) ?_
    cases h2 : entB q with
    | true =>
      simp
      refine call_ret (iEntire _) ?_
      simp
      exact fin1 (rs := [.cell 4 26]) (by rfl) (by simp [resA, add, h1, h2]) (by simp [noF, noFs])
    | false =>
      simp [w1, w2]
      refine call_ret (iNew _ _ _) ?_
      simp
      exact fin1 (rs := [.cell 4 26]) (by rfl) (by simp [resA, add, h1, h2]) (by simp [noF, noFs])
theorem iSub (p q : I) (hp : vB p = true) (hq : vB q = true) (H : AH) : Sound E 82 [iv p, iv q] H (.ret (iv (sub p q))) H := by
  refine sound_of_awp tabOk mixed Tryd.func82 rfl (by rfl) Tryd.ntmps82 (by kernel_rfl) (by simp) ?_
  simp
  refine callD_ret0 (fun Hx => iNeg q hq Hx) ?_
  simp
  refine callD_ret0 (fun Hx => iAdd p (neg q) hp (neg_valid hq) Hx) ?_
  simp
  refine endD [] (by rfl) (by simp [okW, note, Eff.triv, Eff.wr, Eff.none, upTo, newAt]) ?_
  simp
  exact fin1 (rs := [.cell 4 26]) (by rfl) (by simp [resA, sub]) (by simp [noF, noFs])
/-- The side of an interval. -/
def sideI (p : I) : Int := if p.2 ≤ 0 then 0 else if 0 ≤ p.1 then 2 else 1
theorem iSide (p : I) (H : AH) : Sound E 97 [iv p] H (.ret (.int .i64 (sideI p))) H := by
  refine sound_of_awp tabOk mixed Tryd.func97 rfl (by rfl) Tryd.ntmps97 (by kernel_rfl) (by simp) ?_
  by_cases h1 : p.2 ≤ 0
  · simp [h1]
    exact fin1 (rs := [.tmp 2]) (by rfl) (by simp [resA, sideI, h1]) (by simp [noF])
  by_cases h2 : 0 ≤ p.1
  · simp [h1, h2]
    exact fin1 (rs := [.tmp 2]) (by rfl) (by simp [resA, sideI, h1, h2]) (by simp [noF])
  simp [h1, h2]
  exact fin1 (rs := [.tmp 2]) (by rfl) (by simp [resA, sideI, h1, h2]) (by simp [noF])
theorem iHH (p q : I) (H : AH) : Sound E 133 [iv p, iv q] H (.ret (.tuple [.int .i64 p.2, .int .i64 q.2])) H := by
  refine sound_of_awp tabOk mixed Tryd.func133 rfl (by rfl) Tryd.ntmps133 (by kernel_rfl) (by simp) ?_
  simp
  refine endD [] (by rfl) (by simp [okW, note, Eff.triv, Eff.wr, Eff.none, upTo, newAt]) ?_
  simp
  exact finC (rs := [.tmp 4, .tmp 5]) (vs := [.int .i64 p.2, .int .i64 q.2]) (vs' := [.int .i64 p.2, .int .i64 q.2]) (by rfl) (by simp [resA]) (by simp; rfl) (by simp [noF, noFs]) rfl
theorem iLL (p q : I) (H : AH) : Sound E 134 [iv p, iv q] H (.ret (.tuple [.int .i64 p.1, .int .i64 q.1])) H := by
  refine sound_of_awp tabOk mixed Tryd.func134 rfl (by rfl) Tryd.ntmps134 (by kernel_rfl) (by simp) ?_
  simp
  refine endD [] (by rfl) (by simp [okW, note, Eff.triv, Eff.wr, Eff.none, upTo, newAt]) ?_
  simp
  exact finC (rs := [.tmp 4, .tmp 5]) (vs := [.int .i64 p.1, .int .i64 q.1]) (vs' := [.int .i64 p.1, .int .i64 q.1]) (by rfl) (by simp [resA]) (by simp; rfl) (by simp [noF, noFs]) rfl
theorem iLH (p q : I) (H : AH) : Sound E 135 [iv p, iv q] H (.ret (.tuple [.int .i64 p.1, .int .i64 q.2])) H := by
  refine sound_of_awp tabOk mixed Tryd.func135 rfl (by rfl) Tryd.ntmps135 (by kernel_rfl) (by simp) ?_
  simp
  refine endD [] (by rfl) (by simp [okW, note, Eff.triv, Eff.wr, Eff.none, upTo, newAt]) ?_
  simp
  exact finC (rs := [.tmp 4, .tmp 5]) (vs := [.int .i64 p.1, .int .i64 q.2]) (vs' := [.int .i64 p.1, .int .i64 q.2]) (by rfl) (by simp [resA]) (by simp; rfl) (by simp [noF, noFs]) rfl
theorem iHL (p q : I) (H : AH) : Sound E 136 [iv p, iv q] H (.ret (.tuple [.int .i64 p.2, .int .i64 q.1])) H := by
  refine sound_of_awp tabOk mixed Tryd.func136 rfl (by rfl) Tryd.ntmps136 (by kernel_rfl) (by simp) ?_
  simp
  refine endD [] (by rfl) (by simp [okW, note, Eff.triv, Eff.wr, Eff.none, upTo, newAt]) ?_
  simp
  exact finC (rs := [.tmp 4, .tmp 5]) (vs := [.int .i64 p.2, .int .i64 q.1]) (vs' := [.int .i64 p.2, .int .i64 q.1]) (by rfl) (by simp [resA]) (by simp; rfl) (by simp [noF, noFs]) rfl
theorem iMag (p : I) (h : vB p = true) (H : AH) : Sound E 107 [iv p] H (.ret (.int .i64 (max p.2 (-p.1)))) H := by
  refine sound_of_awp tabOk mixed Tryd.func107 rfl (by rfl) Tryd.ntmps107 (by kernel_rfl) (by simp) ?_
  have hb := vB_bounds h
  have w1 : IntKind.i64.wrap (-p.1) = -p.1 := wrap64 (by omega) (by omega)
  simp [w1]
  exact fin1 (rs := [.tmp 2]) (by rfl) (by simp [resA]; omega) (by simp [noF])
theorem iPickInt (b : Bool) (x y : Int) (H : AH) : Sound E 111 [.bool b, .int .i64 x, .int .i64 y] H (.ret (.int .i64 (if b then x else y))) H := by
  refine sound_of_awp tabOk mixed Tryd.func111 rfl (by rfl) Tryd.ntmps111 (by kernel_rfl) (by simp) ?_
  cases b with
  | true =>
    simp
    exact fin0 (rs := [.tmp 6]) (by rfl) (by simp [resA])
  | false =>
    simp
    exact fin0 (rs := [.tmp 6]) (by rfl) (by simp [resA])
theorem iContains (p : I) (x : Int) (H : AH) : Sound E 110 [iv p, .int .i64 x] H (.ret (.bool (conB p x))) H := by
  refine sound_of_awp tabOk mixed Tryd.func110 rfl (by rfl) Tryd.ntmps110 (by kernel_rfl) (by simp) ?_
  simp
  refine call_ret (iIsEntire p _) ?_
  cases h1 : entB p with
  | true =>
    simp
    exact fin1 (rs := [.tmp 4]) (by rfl) (by simp [resA, conB, h1]) (by simp [noF])
  | false =>
    by_cases h2 : p.1 ≤ x
    · simp [h2]
      exact fin1 (rs := [.tmp 4]) (by rfl) (by simp [resA, conB, h1, h2]) (by simp [noF])
    · simp [h2]
      exact fin1 (rs := [.tmp 4]) (by rfl) (by simp [resA, conB, h1, h2]) (by simp [noF])
end Go.Proofs.YtohmodcheahpgaaDoor.Arm

namespace Go.Proofs.YtohmodcheahpgaaDoor.Arm
open Go.Arm Go.Pl

theorem prod_bounds {x y : Int} (hx : -2147483648 ≤ x ∧ x ≤ 2147483648) (hy : -2147483648 ≤ y ∧ y ≤ 2147483648) : -4611686018427387904 ≤ x * y ∧ x * y ≤ 4611686018427387904 := by
  have h1 : (x * y).natAbs ≤ 2147483648 * 2147483648 := by
    rw [Int.natAbs_mul]
    exact Nat.mul_le_mul (by omega) (by omega)
  omega
theorem sideI_cases (p : I) : (sideI p = 0 ∧ p.2 ≤ 0) ∨ (sideI p = 2 ∧ 0 ≤ p.1 ∧ 0 < p.2) ∨ (sideI p = 1 ∧ p.1 < 0 ∧ 0 < p.2) := by
  unfold sideI
  split
  · exact .inl ⟨rfl, by omega⟩
  · split
    · exact .inr (.inl ⟨rfl, by omega, by omega⟩)
    · exact .inr (.inr ⟨rfl, by omega, by omega⟩)
theorem mul_sel {p q : I} (h1 : entB p = false) (h2 : entB q = false) {a b : Int} (ha : min4 (p.1 * q.1) (p.1 * q.2) (p.2 * q.1) (p.2 * q.2) = a) (hb : max4 (p.1 * q.1) (p.1 * q.2) (p.2 * q.1) (p.2 * q.2) = b) :
    mul p q = mk (fl a 65536) (ce b 65536) := by simp [mul, h1, h2, ha, hb]

set_option maxHeartbeats 1000000 in
theorem iMul (p q : I) (hp : vB p = true) (hq : vB q = true) (H : AH) : Sound E 75 [iv p, iv q] H (.ret (iv (mul p q))) H := by
  refine sound_of_awp tabOk mixed Tryd.func75 rfl (by rfl) Tryd.ntmps75 (by kernel_rfl) (by simp) ?_
  simp
  refine call_ret (iIsEntire p _) ?_
  cases h1 : entB p with
  | true =>
    simp
    refine call_ret (iEntire _) ?_
    simp
    exact fin1 (rs := [.cell 4 26]) (by rfl) (by simp [resA, mul, h1]) (by simp [noF, noFs])
  | false =>
  simp
  refine call_ret (iIsEntire q _) ?_
  cases h2 : entB q with
  | true =>
    simp
    refine call_ret (iEntire _) ?_
    simp
    exact fin1 (rs := [.cell 4 26]) (by rfl) (by simp [resA, mul, h1, h2]) (by simp [noF, noFs])
  | false =>
  simp
  refine callD_ret0 (fun Hx => iSide p Hx) ?_
  simp
  refine callD_ret0 (fun Hx => iSide q Hx) ?_
  simp
  refine endD [] (by rfl) (by simp [okW, note, Eff.triv, Eff.wr, Eff.none, upTo, newAt]) ?_
  have hb := entB_false hp h1
  have hc := entB_false hq h2
  have w11 := prod_bounds (x := p.1) (y := q.1) (by omega) (by omega)
  have w12 := prod_bounds (x := p.1) (y := q.2) (by omega) (by omega)
  have w21 := prod_bounds (x := p.2) (y := q.1) (by omega) (by omega)
  have w22 := prod_bounds (x := p.2) (y := q.2) (by omega) (by omega)
  have he := mul_edges p q
  rcases sideI_cases p with ⟨s1, f1⟩ | ⟨s1, f1⟩ | ⟨s1, f1⟩ <;> rcases sideI_cases q with ⟨t1, g1⟩ | ⟨t1, g1⟩ | ⟨t1, g1⟩
  · have hm : mul p q = mk (fl (p.2 * q.2) 65536) (ce (p.1 * q.1) 65536) := mul_sel h1 h2 (by simp only [min4]; omega) (by simp only [max4]; omega)
    simp [s1, t1, prodT]
    refine call_ret (iHH p q _) ?_
    simp
    refine call_ret (fMul _ _ w22 _) ?_
    simp
    refine call_ret (iLL p q _) ?_
    simp
    refine call_ret (fMul _ _ w11 _) ?_
    simp
    refine call_ret (iNew _ _ _) ?_
    simp
    exact fin1 (rs := [.cell 4 26]) (by rfl) (by rw [hm]; simp [resA]) (by simp [noF, noFs])
  · have hm : mul p q = mk (fl (p.1 * q.2) 65536) (ce (p.2 * q.1) 65536) := mul_sel h1 h2 (by simp only [min4]; omega) (by simp only [max4]; omega)
    simp [s1, t1, prodT]
    refine call_ret (iLH p q _) ?_
    simp
    refine call_ret (fMul _ _ w12 _) ?_
    simp
    refine call_ret (iHL p q _) ?_
    simp
    refine call_ret (fMul _ _ w21 _) ?_
    simp
    refine call_ret (iNew _ _ _) ?_
    simp
    exact fin1 (rs := [.cell 4 26]) (by rfl) (by rw [hm]; simp [resA]) (by simp [noF, noFs])
  · have hm : mul p q = mk (fl (p.1 * q.2) 65536) (ce (p.1 * q.1) 65536) := mul_sel h1 h2 (by simp only [min4]; omega) (by simp only [max4]; omega)
    simp [s1, t1, prodT]
    refine call_ret (iLH p q _) ?_
    simp
    refine call_ret (fMul _ _ w12 _) ?_
    simp
    refine call_ret (iLL p q _) ?_
    simp
    refine call_ret (fMul _ _ w11 _) ?_
    simp
    refine call_ret (iNew _ _ _) ?_
    simp
    exact fin1 (rs := [.cell 4 26]) (by rfl) (by rw [hm]; simp [resA]) (by simp [noF, noFs])
  · have hm : mul p q = mk (fl (p.2 * q.1) 65536) (ce (p.1 * q.2) 65536) := mul_sel h1 h2 (by simp only [min4]; omega) (by simp only [max4]; omega)
    simp [s1, t1, prodT]
    refine call_ret (iHL p q _) ?_
    simp
    refine call_ret (fMul _ _ w21 _) ?_
    simp
    refine call_ret (iLH p q _) ?_
    simp
    refine call_ret (fMul _ _ w12 _) ?_
    simp
    refine call_ret (iNew _ _ _) ?_
    simp
    exact fin1 (rs := [.cell 4 26]) (by rfl) (by rw [hm]; simp [resA]) (by simp [noF, noFs])
  · have hm : mul p q = mk (fl (p.1 * q.1) 65536) (ce (p.2 * q.2) 65536) := mul_sel h1 h2 (by simp only [min4]; omega) (by simp only [max4]; omega)
    simp [s1, t1, prodT]
    refine call_ret (iLL p q _) ?_
    simp
    refine call_ret (fMul _ _ w11 _) ?_
    simp
    refine call_ret (iHH p q _) ?_
    simp
    refine call_ret (fMul _ _ w22 _) ?_
    simp
    refine call_ret (iNew _ _ _) ?_
    simp
    exact fin1 (rs := [.cell 4 26]) (by rfl) (by rw [hm]; simp [resA]) (by simp [noF, noFs])
  · have hm : mul p q = mk (fl (p.2 * q.1) 65536) (ce (p.2 * q.2) 65536) := mul_sel h1 h2 (by simp only [min4]; omega) (by simp only [max4]; omega)
    simp [s1, t1, prodT]
    refine call_ret (iHL p q _) ?_
    simp
    refine call_ret (fMul _ _ w21 _) ?_
    simp
    refine call_ret (iHH p q _) ?_
    simp
    refine call_ret (fMul _ _ w22 _) ?_
    simp
    refine call_ret (iNew _ _ _) ?_
    simp
    exact fin1 (rs := [.cell 4 26]) (by rfl) (by rw [hm]; simp [resA]) (by simp [noF, noFs])
  · have hm : mul p q = mk (fl (p.2 * q.1) 65536) (ce (p.1 * q.1) 65536) := mul_sel h1 h2 (by simp only [min4]; omega) (by simp only [max4]; omega)
    simp [s1, t1, prodT]
    refine call_ret (iHL p q _) ?_
    simp
    refine call_ret (fMul _ _ w21 _) ?_
    simp
    refine call_ret (iLL p q _) ?_
    simp
    refine call_ret (fMul _ _ w11 _) ?_
    simp
    refine call_ret (iNew _ _ _) ?_
    simp
    exact fin1 (rs := [.cell 4 26]) (by rfl) (by rw [hm]; simp [resA]) (by simp [noF, noFs])
  · have hm : mul p q = mk (fl (p.1 * q.2) 65536) (ce (p.2 * q.2) 65536) := mul_sel h1 h2 (by simp only [min4]; omega) (by simp only [max4]; omega)
    simp [s1, t1, prodT]
    refine call_ret (iLH p q _) ?_
    simp
    refine call_ret (fMul _ _ w12 _) ?_
    simp
    refine call_ret (iHH p q _) ?_
    simp
    refine call_ret (fMul _ _ w22 _) ?_
    simp
    refine call_ret (iNew _ _ _) ?_
    simp
    exact fin1 (rs := [.cell 4 26]) (by rfl) (by rw [hm]; simp [resA]) (by simp [noF, noFs])
  · have hm : mul p q = mk (min (fl (p.1 * q.2) 65536) (fl (p.2 * q.1) 65536)) (max (ce (p.1 * q.1) 65536) (ce (p.2 * q.2) 65536)) := by
      have e1 : min4 (p.1 * q.1) (p.1 * q.2) (p.2 * q.1) (p.2 * q.2) = min (p.1 * q.2) (p.2 * q.1) := by simp only [min4]; omega
      have e2 : max4 (p.1 * q.1) (p.1 * q.2) (p.2 * q.1) (p.2 * q.2) = max (p.1 * q.1) (p.2 * q.2) := by simp only [max4]; omega
      rw [mul_sel h1 h2 e1 e2]
      congr 1
      · simp only [fl]; split <;> omega
      · simp only [ce, fl]; split <;> omega
    simp [s1, t1]
    refine call_ret (fMul _ _ w12 _) ?_
    simp
    refine call_ret (fMul _ _ w21 _) ?_
    simp
    refine call_ret (fMul _ _ w11 _) ?_
    simp
    refine call_ret (fMul _ _ w22 _) ?_
    simp
    refine call_ret (iNew _ _ _) ?_
    simp
    exact fin1 (rs := [.cell 4 26]) (by rfl) (by rw [hm]; simp [resA, ite_min, ite_max]) (by simp [noF, noFs])
theorem sq_eq (p : I) (h : p.1 ≤ p.2) : (if p.1 ≤ 0 ∧ 0 ≤ p.2 then 0 else min (p.1 * p.1) (p.2 * p.2)) = max (max p.1 (-p.2)) 0 * max (max p.1 (-p.2)) 0 ∧ max (p.1 * p.1) (p.2 * p.2) = max p.2 (-p.1) * max p.2 (-p.1) := by
  obtain ⟨x, y⟩ := p
  simp only at h ⊢
  have e1 : 0 ≤ x → x * x ≤ y * y := fun h0 => Int.mul_le_mul h h h0 (by omega)
  have e2 : y ≤ 0 → y * y ≤ x * x := fun h0 => by
    have := Int.mul_le_mul (a := -y) (b := -y) (c := -x) (d := -x) (by omega) (by omega) (by omega) (by omega)
    simp only [Int.neg_mul_neg] at this; exact this
  have e3 : x ≤ 0 → 0 ≤ y → -x ≤ y → x * x ≤ y * y := fun h0 h1 h2 => by
    have := Int.mul_le_mul (a := -x) (b := -x) (c := y) (d := y) (by omega) (by omega) (by omega) (by omega)
    simp only [Int.neg_mul_neg] at this; exact this
  have e4 : x ≤ 0 → 0 ≤ y → y ≤ -x → y * y ≤ x * x := fun h0 h1 h2 => by
    have := Int.mul_le_mul (a := y) (b := y) (c := -x) (d := -x) (by omega) (by omega) (by omega) (by omega)
    simp only [Int.neg_mul_neg] at this; exact this
  have n1 : -x * -x = x * x := Int.neg_mul_neg x x
  have n2 : -y * -y = y * y := Int.neg_mul_neg y y
  constructor
  · split
    · rw [show max (max x (-y)) 0 = 0 by omega]; simp
    · rcases Int.lt_or_le 0 x with h0 | h0
      · rw [show max (max x (-y)) 0 = x by omega]; have := e1 (by omega); omega
      · rw [show max (max x (-y)) 0 = -y by omega, n2]; have := e2 (by omega); omega
  · rcases Int.le_total (-x) y with h0 | h0
    · rw [show max y (-x) = y by omega]
      rcases Int.le_total 0 x with h1 | h1
      · have := e1 h1; omega
      · have := e3 h1 (by omega) h0; omega
    · rw [show max y (-x) = -x by omega, n1]
      rcases Int.le_total y 0 with h1 | h1
      · have := e2 h1; omega
      · have := e4 (by omega) h1 h0; omega
theorem iSquare (p : I) (hp : vB p = true) (H : AH) : Sound E 92 [iv p] H (.ret (iv (sq p))) H := by
  refine sound_of_awp tabOk mixed Tryd.func92 rfl (by rfl) Tryd.ntmps92 (by kernel_rfl) (by simp) ?_
  simp
  refine call_ret (iIsEntire p _) ?_
  cases h1 : entB p with
  | true =>
    simp
    exact fin1 (rs := [.cell 2 26]) (by rfl) (by have e : sq p = p := (by simp only [sq, h1, if_true]; exact (entB_iff.1 h1).symm); rw [e]; simp [resA]) (by simp [noF, noFs])
  | false =>
  have hb := entB_false hp h1
  have w1 : IntKind.i64.wrap (-p.2) = -p.2 := wrap64 (by omega) (by omega)
  obtain ⟨e1, e2⟩ := sq_eq p hb.2.1
  have hs : sq p = mk (fl (max (max p.1 (-p.2)) 0 * max (max p.1 (-p.2)) 0) 65536) (ce (max p.2 (-p.1) * max p.2 (-p.1)) 65536) := by
    simp only [sq, h1]; rw [e1, e2]; simp
  rw [hs]
  clear hs e1 e2
  simp [w1, ite_max]
  refine callD_ret0 (fun Hx => iMag p hp Hx) ?_
  simp
  refine endD [] (by rfl) (by simp [okW, note, Eff.triv, Eff.wr, Eff.none, upTo, newAt]) ?_
  simp
  refine call_ret (fMul _ _ (prod_bounds (by omega) (by omega)) _) ?_
  simp
  refine call_ret (fMul _ _ (prod_bounds (by omega) (by omega)) _) ?_
  simp
  refine call_ret (iNew _ _ _) ?_
  simp
  exact fin1 (rs := [.cell 2 26]) (by rfl) (by simp [resA]) (by simp [noF, noFs])
theorem fDiv (a b : Int) (ha : -2147483648 ≤ a ∧ a ≤ 2147483648) (hb : b ≠ 0 ∧ -2147483648 ≤ b ∧ b ≤ 2147483648) (H : AH) :
    Sound E 112 [.int .i64 a, .int .i64 b] H (.ret (.tuple [.int .i64 (fl (a * 65536) b), .int .i64 (ce (a * 65536) b), .int .i64 0])) H := by
  refine sound_of_awp tabOk mixed Tryd.func112 rfl (by rfl) Tryd.ntmps112 (by kernel_rfl) (by simp) ?_
  have w1 : IntKind.i64.wrap (a * 65536) = a * 65536 := wrap64 (by omega) (by omega)
  have hb0 : (b == 0) = false := by simp [hb.1]
  simp [hb0, w1]
  refine call_ret (fDivide (a * 65536) b (by omega) (by omega) _) ?_
  simp
  exact finK (rs := [.tmp 4, .tmp 5, .tmp 6]) (vs := [.int .i64 (fl (a * 65536) b), .int .i64 (ce (a * 65536) b), .int .i64 0]) (by rfl) (by simp [resA]) rfl
end Go.Proofs.YtohmodcheahpgaaDoor.Arm

namespace Go.Proofs.YtohmodcheahpgaaDoor.Arm
open Go.Arm Go.Pl

theorem iDiv (p q : I) (hp : vB p = true) (hq : vB q = true) (H : AH) : Sound E 106 [iv p, iv q] H (.ret (iv (div p q))) H := by
  refine sound_of_awp tabOk mixed Tryd.func106 rfl (by rfl) Tryd.ntmps106 (by kernel_rfl) (by simp) ?_
  simp
  refine call_ret (iIsEntire p _) ?_
  cases h1 : entB p with
  | true =>
    simp
    refine call_ret (iEntire _) ?_
    simp
    exact fin1 (rs := [.cell 4 26]) (by rfl) (by simp [resA, div, h1]) (by simp [noF, noFs])
  | false =>
  simp
  refine call_ret (iIsEntire q _) ?_
  cases h2 : entB q with
  | true =>
    simp
    refine call_ret (iEntire _) ?_
    simp
    exact fin1 (rs := [.cell 4 26]) (by rfl) (by simp [resA, div, h1, h2]) (by simp [noF, noFs])
  | false =>
  simp
  refine call_ret (iContains q 0 _) ?_
  cases h3 : conB q 0 with
  | true =>
    simp
    refine call_ret (iEntire _) ?_
    simp
    exact fin1 (rs := [.cell 4 26]) (by rfl) (by simp only [conB, h2, Bool.false_or] at h3; simp [resA, div, h1, h2, h3]) (by simp [noF, noFs])
  | false =>
  have hb := entB_false hp h1
  have hc := entB_false hq h2
  have h3' : q.2 < 0 ∨ 0 < q.1 := by
    simp only [conB, h2, Bool.false_or, Bool.and_eq_false_iff, decide_eq_false_iff_not] at h3
    omega
  simp
  refine callD_ret0 (fun Hx => iSide p Hx) ?_
  simp
  refine callD_ret0 (fun Hx => iPickInt (decide (0 < q.1)) 1 0 Hx) ?_
  simp
  rcases sideI_cases p with ⟨s1, f1⟩ | ⟨s1, f1⟩ | ⟨s1, f1⟩ <;> rcases h3' with g1 | g1
  · rw [div_sel0n h1 h2 hb.2.1 hc.2.1 (by omega) g1]
    have g2 : ¬ 0 < q.1 := by omega
    simp [s1, g2, quotT]
    refine endD [(9, 10)] (by rfl) (by simp [okW, note, Eff.triv, Eff.wr, Eff.none, upTo, newAt]) ?_
    simp
    refine call_ret (iHL p q _) ?_
    simp
    refine call_ret (fDiv _ _ (by omega) (by omega) _) ?_
    simp
    refine call_ret (iLH p q _) ?_
    simp
    refine call_ret (fDiv _ _ (by omega) (by omega) _) ?_
    simp
    refine call_ret (iNew _ _ _) ?_
    simp
    exact fin1 (rs := [.cell 4 26]) (by rfl) (by simp [resA]) (by simp [noF, noFs])
  · rw [div_sel0p h1 h2 hb.2.1 hc.2.1 (by omega) g1]
    have g2 : 0 < q.1 := g1
    simp [s1, g2, quotT]
    refine endD [(9, 10)] (by rfl) (by simp [okW, note, Eff.triv, Eff.wr, Eff.none, upTo, newAt]) ?_
    simp
    refine call_ret (iLL p q _) ?_
    simp
    refine call_ret (fDiv _ _ (by omega) (by omega) _) ?_
    simp
    refine call_ret (iHH p q _) ?_
    simp
    refine call_ret (fDiv _ _ (by omega) (by omega) _) ?_
    simp
    refine call_ret (iNew _ _ _) ?_
    simp
    exact fin1 (rs := [.cell 4 26]) (by rfl) (by simp [resA]) (by simp [noF, noFs])
  · rw [div_sel2n h1 h2 hb.2.1 hc.2.1 (by omega) g1]
    have g2 : ¬ 0 < q.1 := by omega
    simp [s1, g2, quotT]
    refine endD [(9, 10)] (by rfl) (by simp [okW, note, Eff.triv, Eff.wr, Eff.none, upTo, newAt]) ?_
    simp
    refine call_ret (iHH p q _) ?_
    simp
    refine call_ret (fDiv _ _ (by omega) (by omega) _) ?_
    simp
    refine call_ret (iLL p q _) ?_
    simp
    refine call_ret (fDiv _ _ (by omega) (by omega) _) ?_
    simp
    refine call_ret (iNew _ _ _) ?_
    simp
    exact fin1 (rs := [.cell 4 26]) (by rfl) (by simp [resA]) (by simp [noF, noFs])
  · rw [div_sel2p h1 h2 hb.2.1 hc.2.1 (by omega) g1]
    have g2 : 0 < q.1 := g1
    simp [s1, g2, quotT]
    refine endD [(9, 10)] (by rfl) (by simp [okW, note, Eff.triv, Eff.wr, Eff.none, upTo, newAt]) ?_
    simp
    refine call_ret (iLH p q _) ?_
    simp
    refine call_ret (fDiv _ _ (by omega) (by omega) _) ?_
    simp
    refine call_ret (iHL p q _) ?_
    simp
    refine call_ret (fDiv _ _ (by omega) (by omega) _) ?_
    simp
    refine call_ret (iNew _ _ _) ?_
    simp
    exact fin1 (rs := [.cell 4 26]) (by rfl) (by simp [resA]) (by simp [noF, noFs])
  · rw [div_sel1n h1 h2 hb.2.1 hc.2.1 (by omega) g1]
    have g2 : ¬ 0 < q.1 := by omega
    simp [s1, g2, quotT]
    refine endD [(9, 10)] (by rfl) (by simp [okW, note, Eff.triv, Eff.wr, Eff.none, upTo, newAt]) ?_
    simp
    refine call_ret (iHH p q _) ?_
    simp
    refine call_ret (fDiv _ _ (by omega) (by omega) _) ?_
    simp
    refine call_ret (iLH p q _) ?_
    simp
    refine call_ret (fDiv _ _ (by omega) (by omega) _) ?_
    simp
    refine call_ret (iNew _ _ _) ?_
    simp
    exact fin1 (rs := [.cell 4 26]) (by rfl) (by simp [resA]) (by simp [noF, noFs])
  · rw [div_sel1p h1 h2 hb.2.1 hc.2.1 (by omega) g1]
    have g2 : 0 < q.1 := g1
    simp [s1, g2, quotT]
    refine endD [(9, 10)] (by rfl) (by simp [okW, note, Eff.triv, Eff.wr, Eff.none, upTo, newAt]) ?_
    simp
    refine call_ret (iLL p q _) ?_
    simp
    refine call_ret (fDiv _ _ (by omega) (by omega) _) ?_
    simp
    refine call_ret (iHL p q _) ?_
    simp
    refine call_ret (fDiv _ _ (by omega) (by omega) _) ?_
    simp
    refine call_ret (iNew _ _ _) ?_
    simp
    exact fin1 (rs := [.cell 4 26]) (by rfl) (by simp [resA]) (by simp [noF, noFs])
end Go.Proofs.YtohmodcheahpgaaDoor.Arm

namespace Go.Proofs.YtohmodcheahpgaaDoor.Arm
open Go.Arm Go.Pl

theorem withH_some' {H : AH} {x : Option AV} {v : AV} (h : x = some v) : withH H x = some (v, H) := by rw [h]; rfl
theorem map_u8 {x : Option UInt8} {k : Nat} (h : x.map UInt8.toNat = some k) : x.map (fun b => AV.int .u8 b.toNat) = some (.int .u8 k) := by
  cases x with
  | none => cases h
  | some b => simp at h; subst h; rfl

set_option maxRecDepth 100000 in
theorem bLen64 (x : Int) (h : 0 ≤ x ∧ x < 281474976710656) (H : AH) : Sound E 113 [.int .u64 x] H (.ret (.int .i64 (blen x))) H := by
  refine sound_of_awp tabOk mixed Tryd.func113 rfl (by rfl) Tryd.ntmps113 (by kernel_rfl) (by simp) ?_
  have fd : ∀ y : Int, y.fdiv (2 ^ min 32 IntKind.u64.bits) = y / 4294967296 ∧ y.fdiv (2 ^ min 16 IntKind.u64.bits) = y / 65536 ∧ y.fdiv (2 ^ min 8 IntKind.u64.bits) = y / 256 := fun y =>
    ⟨Int.fdiv_eq_ediv_of_nonneg _ (by decide), Int.fdiv_eq_ediv_of_nonneg _ (by decide), Int.fdiv_eq_ediv_of_nonneg _ (by decide)⟩
  obtain ⟨a, ha⟩ : ∃ a, a = (if 4294967296 ≤ x then (x / 4294967296, (32 : Int)) else (x, 0)) := ⟨_, rfl⟩
  obtain ⟨b, hb⟩ : ∃ b, b = (if 65536 ≤ a.1 then (a.1 / 65536, a.2 + 16) else a) := ⟨_, rfl⟩
  obtain ⟨c, hc⟩ : ∃ c, c = (if 256 ≤ b.1 then (b.1 / 256, b.2 + 8) else b) := ⟨_, rfl⟩
  have hbl : blen x = c.2 + len8 c.1.toNat := by rw [hc, hb, ha]; rfl
  rw [hbl]
  clear hbl
  have wc : IntKind.i64.wrap 40 = 40 ∧ IntKind.i64.wrap 32 = 32 ∧ IntKind.i64.wrap 24 = 24 ∧ IntKind.i64.wrap 16 = 16 ∧ IntKind.i64.wrap 8 = 8 := by decide
  by_cases h1 : 4294967296 ≤ x
  · simp only [h1, if_true] at ha
    subst ha
    have h2 : ¬ 65536 ≤ x / 4294967296 := by omega
    dsimp only at hb
    rw [if_neg h2] at hb
    subst hb
    simp [h1, h2, fd]
    by_cases h3 : 256 ≤ x / 4294967296
    · dsimp only at hc
      rw [if_pos h3] at hc
      subst hc
      simp [h3, fd]
      have hz : 0 ≤ x / 4294967296 / 256 ∧ x / 4294967296 / 256 < 256 := by omega
      generalize x / 4294967296 / 256 = z at *
      obtain ⟨k, rfl⟩ := Int.eq_ofNat_of_zero_le hz.1
      have hk : k < 256 := by omega
      have wk : IntKind.u8.wrap (k : Int) = k := wrap8 (by omega) (by omega)
      simp [wk]
      refine bind_some (withH_some' (map_u8 (k := len8 k) ?_)) ?_
      · clear wk hz h
        try clear h3
        try clear h2
        try clear h1
        revert hk
        revert k
        decide +kernel
      have h8 := (len8_spec k hk).2
      have wl : IntKind.i64.wrap (len8 k : Int) = len8 k := wrap64 (by omega) (by omega)
      have wm : IntKind.i64.wrap (40 + (len8 k : Int)) = 40 + len8 k := wrap64 (by omega) (by omega)
      simp [wl, wm, wc]
      exact fin0 (rs := [.tmp 2]) (by rfl) (by simp [resA])
    · dsimp only at hc
      rw [if_neg h3] at hc
      subst hc
      simp [h3, fd]
      have hz : 0 ≤ x / 4294967296 ∧ x / 4294967296 < 256 := by omega
      generalize x / 4294967296 = z at *
      obtain ⟨k, rfl⟩ := Int.eq_ofNat_of_zero_le hz.1
      have hk : k < 256 := by omega
      have wk : IntKind.u8.wrap (k : Int) = k := wrap8 (by omega) (by omega)
      simp [wk]
      refine bind_some (withH_some' (map_u8 (k := len8 k) ?_)) ?_
      · clear wk hz h
        try clear h3
        try clear h2
        try clear h1
        revert hk
        revert k
        decide +kernel
      have h8 := (len8_spec k hk).2
      have wl : IntKind.i64.wrap (len8 k : Int) = len8 k := wrap64 (by omega) (by omega)
      have wm : IntKind.i64.wrap (32 + (len8 k : Int)) = 32 + len8 k := wrap64 (by omega) (by omega)
      simp [wl, wm, wc]
      exact fin0 (rs := [.tmp 2]) (by rfl) (by simp [resA])
  · simp only [h1, if_false] at ha
    subst ha
    by_cases h2 : 65536 ≤ x
    · dsimp only at hb
      rw [if_pos h2] at hb
      subst hb
      simp [h1, h2, fd]
      by_cases h3 : 256 ≤ x / 65536
      · dsimp only at hc
        rw [if_pos h3] at hc
        subst hc
        simp [h3, fd]
        have hz : 0 ≤ x / 65536 / 256 ∧ x / 65536 / 256 < 256 := by omega
        generalize x / 65536 / 256 = z at *
        obtain ⟨k, rfl⟩ := Int.eq_ofNat_of_zero_le hz.1
        have hk : k < 256 := by omega
        have wk : IntKind.u8.wrap (k : Int) = k := wrap8 (by omega) (by omega)
        simp [wk]
        refine bind_some (withH_some' (map_u8 (k := len8 k) ?_)) ?_
        · clear wk hz h
          try clear h3
          try clear h2
          try clear h1
          revert hk
          revert k
          decide +kernel
        have h8 := (len8_spec k hk).2
        have wl : IntKind.i64.wrap (len8 k : Int) = len8 k := wrap64 (by omega) (by omega)
        have wm : IntKind.i64.wrap (24 + (len8 k : Int)) = 24 + len8 k := wrap64 (by omega) (by omega)
        simp [wl, wm, wc]
        exact fin0 (rs := [.tmp 2]) (by rfl) (by simp [resA])
      · dsimp only at hc
        rw [if_neg h3] at hc
        subst hc
        simp [h3, fd]
        have hz : 0 ≤ x / 65536 ∧ x / 65536 < 256 := by omega
        generalize x / 65536 = z at *
        obtain ⟨k, rfl⟩ := Int.eq_ofNat_of_zero_le hz.1
        have hk : k < 256 := by omega
        have wk : IntKind.u8.wrap (k : Int) = k := wrap8 (by omega) (by omega)
        simp [wk]
        refine bind_some (withH_some' (map_u8 (k := len8 k) ?_)) ?_
        · clear wk hz h
          try clear h3
          try clear h2
          try clear h1
          revert hk
          revert k
          decide +kernel
        have h8 := (len8_spec k hk).2
        have wl : IntKind.i64.wrap (len8 k : Int) = len8 k := wrap64 (by omega) (by omega)
        have wm : IntKind.i64.wrap (16 + (len8 k : Int)) = 16 + len8 k := wrap64 (by omega) (by omega)
        simp [wl, wm, wc]
        exact fin0 (rs := [.tmp 2]) (by rfl) (by simp [resA])
    · dsimp only at hb
      rw [if_neg h2] at hb
      subst hb
      simp [h1, h2, fd]
      by_cases h3 : 256 ≤ x
      · dsimp only at hc
        rw [if_pos h3] at hc
        subst hc
        simp [h3, fd]
        have hz : 0 ≤ x / 256 ∧ x / 256 < 256 := by omega
        generalize x / 256 = z at *
        obtain ⟨k, rfl⟩ := Int.eq_ofNat_of_zero_le hz.1
        have hk : k < 256 := by omega
        have wk : IntKind.u8.wrap (k : Int) = k := wrap8 (by omega) (by omega)
        simp [wk]
        refine bind_some (withH_some' (map_u8 (k := len8 k) ?_)) ?_
        · clear wk hz h
          try clear h3
          try clear h2
          try clear h1
          revert hk
          revert k
          decide +kernel
        have h8 := (len8_spec k hk).2
        have wl : IntKind.i64.wrap (len8 k : Int) = len8 k := wrap64 (by omega) (by omega)
        have wm : IntKind.i64.wrap (8 + (len8 k : Int)) = 8 + len8 k := wrap64 (by omega) (by omega)
        simp [wl, wm, wc]
        exact fin0 (rs := [.tmp 2]) (by rfl) (by simp [resA])
      · dsimp only at hc
        rw [if_neg h3] at hc
        subst hc
        simp [h3, fd]
        have hz : 0 ≤ x ∧ x < 256 := by omega
        generalize x = z at *
        obtain ⟨k, rfl⟩ := Int.eq_ofNat_of_zero_le hz.1
        have hk : k < 256 := by omega
        have wk : IntKind.u8.wrap (k : Int) = k := wrap8 (by omega) (by omega)
        simp [wk]
        refine bind_some (withH_some' (map_u8 (k := len8 k) ?_)) ?_
        · clear wk hz h
          try clear h3
          try clear h2
          try clear h1
          revert hk
          revert k
          decide +kernel
        have h8 := (len8_spec k hk).2
        have wl : IntKind.i64.wrap (len8 k : Int) = len8 k := wrap64 (by omega) (by omega)
        have wm : IntKind.i64.wrap (0 + (len8 k : Int)) = 0 + len8 k := wrap64 (by omega) (by omega)
        simp [wl, wm, wc]
        exact fin0 (rs := [.tmp 2]) (by rfl) (by simp [resA])
end Go.Proofs.YtohmodcheahpgaaDoor.Arm

namespace Go.Proofs.YtohmodcheahpgaaDoor.Arm
open Go.Arm Go.Pl

theorem root_lt {n : Int} {e : Nat} {b : Int} (hn : 0 ≤ n) (hb : 0 ≤ b) (h : n < 2 ^ b.toNat) (he : b ≤ 2 * e) : root n ≤ 2 ^ e := by
  obtain ⟨r0, r1, r2⟩ := root_spec hn
  rcases Int.lt_or_le (2 ^ e) (root n) with hlt | hle
  · have h0 : (0 : Int) ≤ 2 ^ e := by exact_mod_cast Nat.zero_le _
    have h1 : (2 ^ e : Int) * 2 ^ e ≤ root n * root n := Int.mul_le_mul (by omega) (by omega) h0 r0
    have h2 : (2 ^ b.toNat : Int) ≤ 2 ^ e * 2 ^ e := by
      rw [← Int.pow_add]
      have : (2 ^ b.toNat : Nat) ≤ 2 ^ (e + e) := Nat.pow_le_pow_right (by omega) (by omega)
      exact_mod_cast this
    omega
  · exact hle
def LSq (n : Int) (H : AH) (x : Int) (fr : AFr) (H' : AH) : Prop :=
  fr 5 = .int .i64 n ∧ fr 6 = .int .i64 x ∧ 0 < x ∧ root n ≤ x ∧ x ≤ 16777216 ∧ H' = H
theorem fSqrt (a : Int) (ha : 0 ≤ a ∧ a ≤ 2147483648) (H : AH) : Sound E 108 [.int .i64 a] H (.ret (.tuple [.int .i64 (root (a * 65536)), .int .i64 (rootU (a * 65536)), .int .i64 0])) H := by
  refine sound_of_awp tabOk mixed Tryd.func108 rfl (by rfl) Tryd.ntmps108 (by kernel_rfl) (by simp) ?_
  have e16 : (2 : Int) ^ min 16 IntKind.i64.bits = 65536 := by decide
  have w1 : IntKind.i64.wrap (a * 65536) = a * 65536 := wrap64 (by omega) (by omega)
  have hlt : ¬ a < 0 := by omega
  simp [hlt, e16, w1]
  obtain ⟨n, hn⟩ : ∃ n, n = a * 65536 := ⟨_, rfl⟩
  rw [← hn]
  have hn0 : 0 ≤ n ∧ n ≤ 140737488355328 := by omega
  clear hn w1
  by_cases hz : n = 0
  · subst hz
    simp
    exact finK (rs := [.tmp 2, .tmp 3, .tmp 4]) (vs := [.int .i64 (root 0), .int .i64 (rootU 0), .int .i64 0]) (by rfl) (by simp [resA]; decide) rfl
  have hz' : (n == 0) = false := by simp [hz]
  have wu : IntKind.u64.wrap n = n := wrapu64 (by omega) (by omega)
  simp [hz', wu]
  refine call_ret (bLen64 n (by omega) _) ?_
  obtain ⟨b0, b1, b2⟩ := blen_spec (x := n) (by omega)
  generalize blen n = b at *
  have wb : IntKind.i64.wrap (b + 1) = b + 1 := wrap64 (by omega) (by omega)
  have wt : (b + 1).tdiv 2 = (b + 1) / 2 := Int.tdiv_eq_ediv_of_nonneg (by omega)
  have wq : IntKind.i64.wrap ((b + 1) / 2) = (b + 1) / 2 := wrap64 (by omega) (by omega)
  obtain ⟨e, he⟩ : ∃ e : Nat, (b + 1) / 2 = (e : Int) := ⟨((b + 1) / 2).toNat, by omega⟩
  have he2 : e ≤ 24 := by omega
  have hneg : ¬ ((e : Int) < 0) := by omega
  have hmin : min e IntKind.i64.bits = e := by simp [IntKind.bits]; omega
  have hp : (2 : Int) ^ e ≤ 16777216 ∧ 0 < (2 : Int) ^ e := by
    have h1 : (2 : Nat) ^ e ≤ 2 ^ 24 := Nat.pow_le_pow_right (by omega) he2
    have h2 : 0 < (2 : Nat) ^ e := Nat.pow_pos (by omega)
    have h3 : (((2 : Nat) ^ e : Nat) : Int) = 2 ^ e := by simp
    have h4 : (2 : Nat) ^ 24 = 16777216 := by decide
    rw [h4] at h1
    rw [← h3]
    omega
  have wp : IntKind.i64.wrap ((2 : Int) ^ e) = 2 ^ e := wrap64 (by omega) (by omega)
  have we : IntKind.i64.wrap (e : Int) = e := wrap64 (by omega) (by omega)
  simp [wb, wt, we, he, hneg, hmin, wp]
  have hr1 : 1 ≤ root n := by
    obtain ⟨r0, r1, r2⟩ := root_spec hn0.1
    rcases Int.lt_or_le 0 (root n) with h | h
    · omega
    · have : root n = 0 := by omega
      rw [this] at r2; omega
  refine loop_count (LSq n H) (fun x => x.toNat) (2 ^ e) ⟨by simp, by simp, hp.2, root_lt hn0.1 b0 b2 (by omega), hp.1, rfl⟩ ?_
  rintro x fr H' ⟨h5, h6, h7, h8, h9, rfl⟩
  obtain ⟨n1, n2, n3⟩ := newton_step h7 h8 hn0.1
  have hx0 : x ≠ 0 := by omega
  have hq : n.tdiv x = n / x := Int.tdiv_eq_ediv_of_nonneg (by omega)
  have hqb : n / x ≤ n := Int.ediv_le_self _ hn0.1
  have wn : IntKind.i64.wrap (n / x) = n / x := wrap64 (by omega) (by omega)
  have ws : IntKind.i64.wrap (x + n / x) = x + n / x := wrap64 (by omega) (by omega)
  have wt2 : (x + n / x).tdiv 2 = (x + n / x) / 2 := Int.tdiv_eq_ediv_of_nonneg (by omega)
  have wy : IntKind.i64.wrap ((x + n / x) / 2) = (x + n / x) / 2 := wrap64 (by omega) (by omega)
  simp [h5, h6]
  refine bind_ifn hx0 ?_
  simp [h5, h6, hq, wn, ws, wt2, wy]
  refine branch (fun hc => ?_) (fun hc => ?_)
  · simp at hc
    have hxr := n2 hc
    obtain ⟨r0, r1, r2⟩ := root_spec hn0.1
    have hxx : x * x ≤ n := by rw [hxr]; exact r1
    have hx1 : 0 ≤ x * x := Int.mul_nonneg (by omega) (by omega)
    have wx : IntKind.i64.wrap (x * x) = x * x := wrap64 (by omega) (by omega)
    have wx1 : IntKind.i64.wrap (x + 1) = x + 1 := wrap64 (by omega) (by omega)
    simp [h5, h6, wx]
    refine branch (fun hd => ?_) (fun hd => ?_)
    · simp at hd
      simp [h6, wx1]
      exact finK (rs := [.tmp 2, .tmp 3, .tmp 4]) (vs := [.int .i64 (root n), .int .i64 (rootU n), .int .i64 0]) (by rfl) (by
        have : rootU n = x + 1 := by unfold rootU; rw [← hxr, if_pos hd]
        simp [resA, this, ← hxr]) rfl
    · simp at hd
      simp [h6]
      exact finK (rs := [.tmp 2, .tmp 3, .tmp 4]) (vs := [.int .i64 (root n), .int .i64 (rootU n), .int .i64 0]) (by rfl) (by
        have : rootU n = x := by unfold rootU; rw [← hxr, if_neg (by omega)]
        simp [resA, this, ← hxr]) rfl
  · simp at hc
    simp
    exact ⟨(x + n / x) / 2, by show ((x + n / x) / 2).toNat < x.toNat; omega, by simp [h5], by simp, by omega, n1, by omega, rfl⟩
theorem iSqrt (p : I) (hp : vB p = true) (h0 : 0 ≤ p.2) (H : AH) : Sound E 94 [iv p] H (.ret (.tuple [iv (sqrt p), .bool true])) H := by
  refine sound_of_awp tabOk mixed Tryd.func94 rfl (by rfl) Tryd.ntmps94 (by kernel_rfl) (by simp) ?_
  simp
  refine call_ret (iIsEntire p _) ?_
  cases h1 : entB p with
  | true =>
    simp
    exact finC (rs := [.cell 2 26, .tmp 3]) (vs := [iv (sqrt p), .bool true]) (vs' := [iv (sqrt p), .bool true]) (by rfl) (by have e : sqrt p = p := (by simp only [sqrt, h1, if_true]); rw [e]; simp [resA]) (by simp; rfl) (by simp [noF, noFs]) rfl
  | false =>
  have hb := entB_false hp h1
  have hlt : ¬ p.2 < 0 := by omega
  have e : sqrt p = mk (root (max p.1 0 * 65536)) (rootU (p.2 * 65536)) := by simp only [sqrt, h1, hlt, if_false]; simp
  rw [e]
  simp [hlt, ite_max]
  refine call_ret (fSqrt (max p.1 0) (by omega) _) ?_
  simp
  refine call_ret (fSqrt p.2 (by omega) _) ?_
  simp
  refine call_ret (iNew _ _ _) ?_
  simp
  exact finC (rs := [.cell 2 26, .tmp 3]) (vs := [iv (mk (root (max p.1 0 * 65536)) (rootU (p.2 * 65536))), .bool true]) (vs' := [iv (mk (root (max p.1 0 * 65536)) (rootU (p.2 * 65536))), .bool true]) (by rfl) (by simp [resA]) (by simp; rfl) (by simp [noF, noFs]) rfl
end Go.Proofs.YtohmodcheahpgaaDoor.Arm

namespace Go.Proofs.YtohmodcheahpgaaDoor.Arm
open Go.Arm Go.Pl

theorem rNumber (x : Int) (H : AH) : Sound E 70 [.int .i64 x] H (.ret (.bool (numB x))) H := by
  refine sound_of_awp tabOk mixed Tryd.func70 rfl (by rfl) Tryd.ntmps70 (by kernel_rfl) (by simp) ?_
  by_cases h1 : -2147483648 < x
  · simp [h1]
    exact fin0 (rs := [.tmp 2]) (by rfl) (by simp [resA, numB, h1])
  · simp [h1]
    exact fin0 (rs := [.tmp 2]) (by rfl) (by simp [resA, numB, h1])
theorem rEntire (H : AH) : Sound E 51 [] H (.ret (iv ent)) H := by
  refine sound_of_awp tabOk mixed Tryd.func51 rfl (by rfl) Tryd.ntmps51 (by kernel_rfl) (by simp) ?_
  simp
  exact fin1 (rs := [.cell 0 26]) (by rfl) (by simp [resA, ent]) (by simp [noF, noFs])
theorem rIsEntire (p : I) (H : AH) : Sound E 67 [iv p] H (.ret (.bool (entB p))) H := by
  refine sound_of_awp tabOk mixed Tryd.func67 rfl (by rfl) Tryd.ntmps67 (by kernel_rfl) (by simp) ?_
  by_cases h1 : p.1 = -2147483648
  · simp [h1]
    exact fin1 (rs := [.tmp 2]) (by rfl) (by simp [resA, entB, h1]) (by simp [noF])
  · have h2 : (p.1 == -2147483648) = false := by simp [h1]
    simp [h2]
    exact fin1 (rs := [.tmp 2]) (by rfl) (by simp [resA, entB, h2]) (by simp [noF])
theorem rValid (p : I) (H : AH) : Sound E 47 [iv p] H (.ret (.bool (vB p))) H := by
  refine sound_of_awp tabOk mixed Tryd.func47 rfl (by rfl) Tryd.ntmps47 (by kernel_rfl) (by simp) ?_
  simp
  refine call_ret (rIsEntire p _) ?_
  cases h1 : entB p with
  | true =>
    simp
    exact fin1 (rs := [.tmp 2]) (by rfl) (by simp [resA, vB, h1]) (by simp [noF])
  | false =>
  simp
  refine call_ret (rNumber _ _) ?_
  cases h2 : numB p.1 with
  | false =>
    simp
    exact fin1 (rs := [.tmp 2]) (by rfl) (by simp [resA, vB, h1, h2]) (by simp [noF])
  | true =>
  simp
  refine call_ret (rNumber _ _) ?_
  cases h3 : numB p.2 with
  | false =>
    simp
    exact fin1 (rs := [.tmp 2]) (by rfl) (by simp [resA, vB, h1, h2, h3]) (by simp [noF])
  | true =>
  simp
  exact fin1 (rs := [.tmp 2]) (by rfl) (by simp [resA, vB, h1, h2, h3]) (by simp [noF])
theorem rNew (a b : Int) (H : AH) : Sound E 34 [.int .i64 a, .int .i64 b] H (.ret (iv (mk a b))) H := by
  refine sound_of_awp tabOk mixed Tryd.func34 rfl (by rfl) Tryd.ntmps34 (by kernel_rfl) (by simp) ?_
  simp
  refine call_ret (rNumber _ _) ?_
  cases h1 : numB a with
  | false =>
    simp
    refine call_ret (rEntire _) ?_
    simp
    exact fin1 (rs := [.cell 4 26]) (by rfl) (by simp [resA, mk, h1]) (by simp [noF, noFs])
  | true =>
  simp
  refine call_ret (rNumber _ _) ?_
  cases h2 : numB b with
  | false =>
    simp
    refine call_ret (rEntire _) ?_
    simp
    exact fin1 (rs := [.cell 4 26]) (by rfl) (by simp [resA, mk, h1, h2]) (by simp [noF, noFs])
  | true =>
  simp
  exact fin1 (rs := [.cell 4 26]) (by rfl) (by simp [resA, mk, h1, h2]) (by simp [noF, noFs])
theorem rPoint (x : Int) (H : AH) : Sound E 26 [.int .i64 x] H (.ret (iv (pt x))) H := by
  refine sound_of_awp tabOk mixed Tryd.func26 rfl (by rfl) Tryd.ntmps26 (by kernel_rfl) (by simp) ?_
  simp
  refine call_ret (rNew _ _ _) ?_
  simp
  exact fin1 (rs := [.cell 2 26]) (by rfl) (by simp [resA, pt]) (by simp [noF, noFs])

theorem fl_go {a b : Int} (hb : b ≠ 0) : fl a b = if a.tmod b ≠ 0 ∧ (decide (a < 0) != decide (b < 0)) = true then a.tdiv b - 1 else a.tdiv b := by
  have key : ∀ c : Int, 0 < c → a / c = if a.tmod c < 0 then a.tdiv c - 1 else a.tdiv c := fun c hc => tdiv_floor a hc
  rcases Int.lt_or_gt_of_ne hb with h | h
  · have h1 := tdiv_floor (-a) (b := -b) (by omega)
    obtain ⟨h2, h3⟩ := tmod_bounds (-a) (b := -b) (by omega)
    have e1 : (-a).tdiv (-b) = a.tdiv b := by rw [Int.neg_tdiv_neg]
    have e2 : (-a).tmod (-b) = -(a.tmod b) := by rw [Int.tmod_neg, Int.neg_tmod]
    unfold fl
    rw [if_pos h, h1, e1, e2]
    have h4 : decide (b < 0) = true := by simp [h]
    by_cases ha : a < 0
    · have h5 : decide (a < 0) = true := by simp [ha]
      have := h2 (by omega)
      rw [h4, h5]
      rw [if_neg (by omega), if_neg (by simp)]
    · have h5 : decide (a < 0) = false := by simp [ha]
      rw [h4, h5]
      by_cases ha0 : a = 0
      · subst ha0; simp
      · have := h3 (by omega)
        by_cases hm : a.tmod b = 0
        · rw [if_neg (by omega), if_neg (by simp [hm])]
        · rw [if_pos (by omega), if_pos (by simp [hm])]
  · have h1 := tdiv_floor a h
    obtain ⟨h2, h3⟩ := tmod_bounds a h
    unfold fl
    rw [if_neg (by omega), h1]
    have h4 : decide (b < 0) = false := by simp; omega
    by_cases ha : a < 0
    · have h5 : decide (a < 0) = true := by simp [ha]
      have := h3 ha
      rw [h4, h5]
      by_cases hm : a.tmod b = 0
      · rw [if_neg (by omega), if_neg (by simp [hm])]
      · rw [if_pos (by omega), if_pos (by simp [hm])]
    · have h5 : decide (a < 0) = false := by simp [ha]
      have := h2 (by omega)
      rw [h4, h5]
      rw [if_neg (by omega), if_neg (by simp)]

theorem rFloor (a b : Int) (ha : -9223372036854775807 ≤ a ∧ a ≤ 9223372036854775807) (hb : b ≠ 0) (H : AH) : Sound E 68 [.int .i64 a, .int .i64 b] H (.ret (.int .i64 (fl a b))) H := by
  refine sound_of_awp tabOk mixed Tryd.func68 rfl (by rfl) Tryd.ntmps68 (by kernel_rfl) (by simp) ?_
  have hq : -9223372036854775807 ≤ a.tdiv b ∧ a.tdiv b ≤ 9223372036854775807 := by
    have := Int.natAbs_tdiv_le_natAbs a b
    omega
  have w1 : IntKind.i64.wrap (a.tdiv b) = a.tdiv b := wrap64 (by omega) (by omega)
  have w2 : IntKind.i64.wrap (a.tdiv b - 1) = a.tdiv b - 1 := wrap64 (by omega) (by omega)
  rw [fl_go hb]
  simp
  refine bind_ifn hb ?_
  simp [w1]
  refine bind_ifn hb ?_
  by_cases hm : a.tmod b = 0
  · simp [hm]
    exact fin0 (rs := [.tmp 4]) (by rfl) (by simp [resA, hm])
  · have hm' : (a.tmod b != 0) = true := by simp [hm]
    simp [hm']
    refine branch (fun hc => ?_) (fun hc => ?_)
    · simp [w2]
      exact fin0 (rs := [.tmp 4]) (by rfl) (by simp [resA, hm]; simp at hc; simp [hc])
    · simp
      exact fin0 (rs := [.tmp 4]) (by rfl) (by simp [resA, hm]; simp at hc; simp [hc])
end Go.Proofs.YtohmodcheahpgaaDoor.Arm

namespace Go.Proofs.YtohmodcheahpgaaDoor.Arm
open Go.Arm Go.Pl

theorem fl_bound {a b : Int} {M : Int} (hb : b ≠ 0) (ha : -M ≤ a ∧ a ≤ M) : -M - 1 ≤ fl a b ∧ fl a b ≤ M := by
  rw [fl_go hb]
  have := Int.natAbs_tdiv_le_natAbs a b
  split <;> omega
theorem fl_bound' {a b : Int} {M : Int} (hb : b ≠ 0) (ha : -M ≤ a ∧ a ≤ M) : -M ≤ fl a b ∧ fl a b ≤ M := by
  rcases Int.lt_or_gt_of_ne hb with h | h
  · unfold fl
    rw [if_pos h]
    have h1 := ediv_mono (x := -M) (y := -a) (b := -b) (by omega) (by omega)
    have h2 := ediv_mono (x := -a) (y := M) (b := -b) (by omega) (by omega)
    have h3 : M / (-b) ≤ M := Int.ediv_le_self _ (by omega)
    have h4 : -M ≤ (-M) / (-b) := by
      refine Int.le_ediv_of_mul_le (by omega) ?_
      have : M * 1 ≤ M * (-b) := Int.mul_le_mul_of_nonneg_left (by omega) (by omega)
      rw [Int.neg_mul]; omega
    omega
  · unfold fl
    rw [if_neg (by omega)]
    have h1 := ediv_mono (x := -M) (y := a) (b := b) (by omega) (by omega)
    have h2 := ediv_mono (x := a) (y := M) (b := b) (by omega) (by omega)
    have h3 : M / b ≤ M := Int.ediv_le_self _ (by omega)
    have h4 : -M ≤ (-M) / b := by
      refine Int.le_ediv_of_mul_le (by omega) ?_
      have : M * 1 ≤ M * b := Int.mul_le_mul_of_nonneg_left (by omega) (by omega)
      rw [Int.neg_mul]; omega
    omega
theorem rCeil (a b : Int) (ha : -9223372036854775807 ≤ a ∧ a ≤ 9223372036854775807) (hb : b ≠ 0) (H : AH) : Sound E 69 [.int .i64 a, .int .i64 b] H (.ret (.int .i64 (ce a b))) H := by
  refine sound_of_awp tabOk mixed Tryd.func69 rfl (by rfl) Tryd.ntmps69 (by kernel_rfl) (by simp) ?_
  have w1 : IntKind.i64.wrap (-a) = -a := wrap64 (by omega) (by omega)
  have hf := fl_bound' (M := 9223372036854775807) (a := -a) hb (by omega)
  have w2 : IntKind.i64.wrap (-fl (-a) b) = -fl (-a) b := wrap64 (by omega) (by omega)
  simp [w1]
  refine call_ret (rFloor (-a) b (by omega) hb _) ?_
  simp [w2]
  exact fin0 (rs := [.tmp 4]) (by rfl) (by simp [resA, ce])
theorem rNeg (p : I) (h : vB p = true) (H : AH) : Sound E 37 [iv p] H (.ret (iv (neg p))) H := by
  refine sound_of_awp tabOk mixed Tryd.func37 rfl (by rfl) Tryd.ntmps37 (by kernel_rfl) (by simp) ?_
  have hb := vB_bounds h
  have w1 : IntKind.i64.wrap (-p.1) = -p.1 := wrap64 (by omega) (by omega)
  have w2 : IntKind.i64.wrap (-p.2) = -p.2 := wrap64 (by omega) (by omega)
  simp [w1, w2]
  exact fin1 (rs := [.cell 2 26]) (by rfl) (by simp [resA, neg]) (by simp [noF, noFs])
theorem rAdd (p q : I) (hp : vB p = true) (hq : vB q = true) (H : AH) : Sound E 32 [iv p, iv q] H (.ret (iv (add p q))) H := by
  refine sound_of_awp tabOk mixed Tryd.func32 rfl (by rfl) Tryd.ntmps32 (by kernel_rfl) (by simp) ?_
  have hb := vB_bounds hp
  have hc := vB_bounds hq
  have w1 : IntKind.i64.wrap (p.1 + q.1) = p.1 + q.1 := wrap64 (by omega) (by omega)
  have w2 : IntKind.i64.wrap (p.2 + q.2) = p.2 + q.2 := wrap64 (by omega) (by omega)
  simp
  refine call_ret (rIsEntire p _) ?_
  cases h1 : entB p with
  | true =>
    simp
    refine call_ret (rEntire _) ?_
    simp
    exact fin1 (rs := [.cell 4 26]) (by rfl) (by simp [resA, add, h1]) (by simp [noF, noFs])
  | false =>
    simp
    refine call_ret (rIsEntire q _) ?_
    cases h2 : entB q with
    | true =>
      simp
      refine call_ret (rEntire _) ?_
      simp
      exact fin1 (rs := [.cell 4 26]) (by rfl) (by simp [resA, add, h1, h2]) (by simp [noF, noFs])
    | false =>
      simp [w1, w2]
      refine call_ret (rNew _ _ _) ?_
      simp
      exact fin1 (rs := [.cell 4 26]) (by rfl) (by simp [resA, add, h1, h2]) (by simp [noF, noFs])
theorem rSub (p q : I) (hp : vB p = true) (hq : vB q = true) (H : AH) : Sound E 30 [iv p, iv q] H (.ret (iv (sub p q))) H := by
  refine sound_of_awp tabOk mixed Tryd.func30 rfl (by rfl) Tryd.ntmps30 (by kernel_rfl) (by simp) ?_
  simp
  refine callD_ret0 (fun Hx => rNeg q hq Hx) ?_
  simp
  refine callD_ret0 (fun Hx => rAdd p (neg q) hp (neg_valid hq) Hx) ?_
  simp
  refine endD [] (by rfl) (by simp [okW, note, Eff.triv, Eff.wr, Eff.none, upTo, newAt]) ?_
  simp
  exact fin1 (rs := [.cell 4 26]) (by rfl) (by simp [resA, sub]) (by simp [noF, noFs])
theorem rHull (p q : I) (H : AH) : Sound E 46 [iv p, iv q] H (.ret (iv (hull p q))) H := by
  refine sound_of_awp tabOk mixed Tryd.func46 rfl (by rfl) Tryd.ntmps46 (by kernel_rfl) (by simp) ?_
  simp [ite_min, ite_max]
  exact fin1 (rs := [.cell 4 26]) (by rfl) (by simp [resA, hull]) (by simp [noF, noFs])
theorem rSubset (p q : I) (H : AH) : Sound E 19 [iv p, iv q] H (.ret (.bool (subB p q))) H := by
  refine sound_of_awp tabOk mixed Tryd.func19 rfl (by rfl) Tryd.ntmps19 (by kernel_rfl) (by simp) ?_
  by_cases h1 : q.1 ≤ p.1
  · simp [h1]
    exact fin1 (rs := [.tmp 4]) (by rfl) (by simp [resA, subB, h1]) (by simp [noF])
  · simp [h1]
    exact fin1 (rs := [.tmp 4]) (by rfl) (by simp [resA, subB, h1]) (by simp [noF])
theorem rContains (p : I) (x : Int) (H : AH) : Sound E 27 [iv p, .int .i64 x] H (.ret (.bool (conB p x))) H := by
  refine sound_of_awp tabOk mixed Tryd.func27 rfl (by rfl) Tryd.ntmps27 (by kernel_rfl) (by simp) ?_
  simp
  refine call_ret (rIsEntire p _) ?_
  cases h1 : entB p with
  | true =>
    simp
    exact fin1 (rs := [.tmp 4]) (by rfl) (by simp [resA, conB, h1]) (by simp [noF])
  | false =>
    by_cases h2 : p.1 ≤ x
    · simp [h2]
      exact fin1 (rs := [.tmp 4]) (by rfl) (by simp [resA, conB, h1, h2]) (by simp [noF])
    · simp [h2]
      exact fin1 (rs := [.tmp 4]) (by rfl) (by simp [resA, conB, h1, h2]) (by simp [noF])
theorem rMid (p : I) (h : vB p = true) (H : AH) : Sound E 28 [iv p] H (.ret (.int .i64 (mid p))) H := by
  refine sound_of_awp tabOk mixed Tryd.func28 rfl (by rfl) Tryd.ntmps28 (by kernel_rfl) (by simp) ?_
  have hb := vB_bounds h
  have w1 : IntKind.i64.wrap (p.1 + p.2) = p.1 + p.2 := wrap64 (by omega) (by omega)
  simp [w1]
  refine call_ret (rFloor (p.1 + p.2) 2 (by omega) (by omega) _) ?_
  simp
  exact fin1 (rs := [.tmp 2]) (by rfl) (by simp [resA, mid, fl]) (by simp [noF])
theorem rIntersect (p q : I) (H : AH) : Sound E 35 [iv p, iv q] H (.ret (.tuple [iv (inter p q), .bool (interB p q)])) H := by
  refine sound_of_awp tabOk mixed Tryd.func35 rfl (by rfl) Tryd.ntmps35 (by kernel_rfl) (by simp) ?_
  simp [ite_min, ite_max]
  refine branch (fun hc => ?_) (fun hc => ?_)
  · have h0 : interB p q = false := by simp at hc; simp only [interB, decide_eq_false_iff_not]; omega
    simp
    exact finC (rs := [.cell 4 26, .tmp 5]) (vs := [iv (inter p q), .bool (interB p q)]) (vs' := [iv (inter p q), .bool (interB p q)]) (by rfl) (by simp [resA, inter, h0]) (by simp; rfl) (by simp [noF, noFs]) rfl
  · have h0 : interB p q = true := by simp at hc; simp only [interB, decide_eq_true_eq]; omega
    simp
    exact finC (rs := [.cell 4 26, .tmp 5]) (vs := [iv (inter p q), .bool (interB p q)]) (vs' := [iv (inter p q), .bool (interB p q)]) (by rfl) (by simp [resA, inter, h0, meet]) (by simp; rfl) (by simp [noF, noFs]) rfl

/-- Made intervals. -/
def smallI (p : I) : I := (min (p.1.tmod 16777216) (p.2.tmod 16777216), max (p.1.tmod 16777216) (p.2.tmod 16777216))
def madeI (p : I) : I := if vB p then p else if andA .i64 p.1 31 == 7 then ent else smallI p
theorem tmod_lt24 (x : Int) : -16777216 < x.tmod 16777216 ∧ x.tmod 16777216 < 16777216 := by
  obtain ⟨h1, h2⟩ := tmod_bounds x (b := 16777216) (by omega)
  rcases Int.lt_or_le x 0 with h | h
  · have := h2 h; omega
  · have := h1 h; omega
theorem smallI_bounds (p : I) : -16777216 < (smallI p).1 ∧ (smallI p).1 ≤ (smallI p).2 ∧ (smallI p).2 < 16777216 := by
  have h1 := tmod_lt24 p.1
  have h2 := tmod_lt24 p.2
  unfold smallI
  simp only
  omega
theorem smallI_valid (p : I) : vB (smallI p) = true := by
  have := smallI_bounds p
  exact vB_pair (x := (smallI p).1) (y := (smallI p).2) (by omega) (by omega) (by omega)
theorem madeI_valid (p : I) : vB (madeI p) = true := by
  unfold madeI
  split
  · assumption
  · split
    · decide
    · exact smallI_valid p
theorem rSmall (p : I) (H : AH) : Sound E 52 [iv p] H (.ret (iv (smallI p))) H := by
  refine sound_of_awp tabOk mixed Tryd.func52 rfl (by rfl) Tryd.ntmps52 (by kernel_rfl) (by simp) ?_
  simp
  refine endD [] (by rfl) (by simp [okW, note, Eff.triv, Eff.wr, Eff.none, upTo, newAt]) ?_
  simp [ite_min, ite_max]
  exact fin1 (rs := [.cell 2 26]) (by rfl) (by simp [resA, smallI]) (by simp [noF, noFs])
theorem rMade (p : I) (H : AH) : Sound E 15 [iv p] H (.ret (iv (madeI p))) H := by
  refine sound_of_awp tabOk mixed Tryd.func15 rfl (by rfl) Tryd.ntmps15 (by kernel_rfl) (by simp) ?_
  simp
  refine call_ret (rValid p _) ?_
  cases h1 : vB p with
  | true =>
    simp
    exact fin1 (rs := [.cell 2 26]) (by rfl) (by simp [resA, madeI, h1]) (by simp [noF, noFs])
  | false =>
    simp
    refine branch (fun hc => ?_) (fun hc => ?_)
    · simp
      refine call_ret (rEntire _) ?_
      simp
      exact fin1 (rs := [.cell 2 26]) (by rfl) (by simp [resA, madeI, h1, hc]) (by simp [noF, noFs])
    · simp
      refine call_ret (rSmall p _) ?_
      simp
      exact fin1 (rs := [.cell 2 26]) (by rfl) (by simp [resA, madeI, h1, hc]) (by simp [noF, noFs])
def nearI (p : I) (w : Int) : I := (p.1.tmod 1048576, p.1.tmod 1048576 + (p.2.tmod w + w).tmod w)
theorem nearI_bounds (p : I) {w : Int} (hw : 1 ≤ w) : -1048576 < (nearI p w).1 ∧ (nearI p w).1 ≤ (nearI p w).2 ∧ (nearI p w).2 < 1048576 + w ∧ (w = 1 → (nearI p w).1 = (nearI p w).2) := by
  obtain ⟨h1, h2⟩ := tmod_bounds p.1 (b := 1048576) (by omega)
  obtain ⟨h3, h4⟩ := tmod_bounds p.2 (b := w) (by omega)
  obtain ⟨h5, h6⟩ := tmod_bounds (p.2.tmod w + w) (b := w) (by omega)
  have h7 : 0 ≤ p.2.tmod w + w := by
    rcases Int.lt_or_le p.2 0 with h | h
    · have := h4 h; omega
    · have := h3 h; omega
  have := h5 h7
  unfold nearI
  simp only
  rcases Int.lt_or_le p.1 0 with h | h
  · have := h2 h; omega
  · have := h1 h; omega
theorem rNear (p : I) (w : Int) (hw : 1 ≤ w ∧ w ≤ 1000000) (H : AH) : Sound E 76 [iv p, .int .i64 w] H (.ret (iv (nearI p w))) H := by
  refine sound_of_awp tabOk mixed Tryd.func76 rfl (by rfl) Tryd.ntmps76 (by kernel_rfl) (by simp) ?_
  have hb := nearI_bounds p hw.1
  have hw0 : w ≠ 0 := by omega
  obtain ⟨h3, h4⟩ := tmod_bounds p.2 (b := w) (by omega)
  have h7 : 0 ≤ p.2.tmod w + w ∧ p.2.tmod w + w < 2 * w := by
    rcases Int.lt_or_le p.2 0 with h | h
    · have := h4 h; omega
    · have := h3 h; omega
  have w1 : IntKind.i64.wrap (p.2.tmod w + w) = p.2.tmod w + w := wrap64 (by omega) (by omega)
  have w2 : IntKind.i64.wrap (p.1.tmod 1048576 + (p.2.tmod w + w).tmod w) = p.1.tmod 1048576 + (p.2.tmod w + w).tmod w := wrap64 (by have := hb; simp only [nearI] at this; omega) (by have := hb; simp only [nearI] at this; omega)
  simp [hw0, w1]
  refine endD [] (by rfl) (by simp [okW, note, Eff.triv, Eff.wr, Eff.none, upTo, newAt]) ?_
  simp [w2]
  exact fin1 (rs := [.cell 4 26]) (by rfl) (by simp [resA, nearI]) (by simp [noF, noFs])
end Go.Proofs.YtohmodcheahpgaaDoor.Arm

namespace Go.Proofs.YtohmodcheahpgaaDoor.Arm
open Go.Arm Go.Pl

/-- The least and the greatest of the first so many. -/
def loT (l : List Int) (z : Int) (i : Nat) : Int := (l.take i).foldl min z
def hiT (l : List Int) (z : Int) (i : Nat) : Int := (l.take i).foldl max z
theorem loT_succ {l : List Int} {z x : Int} {i : Nat} (h : l[i]? = some x) : loT l z (i + 1) = min (loT l z i) x := by
  unfold loT; rw [List.take_add_one, h, List.foldl_append]; rfl
theorem hiT_succ {l : List Int} {z x : Int} {i : Nat} (h : l[i]? = some x) : hiT l z (i + 1) = max (hiT l z i) x := by
  unfold hiT; rw [List.take_add_one, h, List.foldl_append]; rfl

def LMul (l : List Int) (z : Int) (H : AH) (J : AH) (i : Nat) (fr : AFr) (H' : AH) : Prop :=
  fr 4 = .ptr (H.length + 2) 1 0 0 ∧ fr 5 = .slice (l.map (.int .i64)) true ∧ fr 6 = .int .i64 (loT l z i) ∧ fr 7 = .int .i64 (hiT l z i) ∧ fr 8 = .int .i64 i ∧ 1 ≤ i ∧ i ≤ l.length ∧ H' = H ++ J
theorem rMul (p q : I) (hp : vB p = true) (hq : vB q = true) (H : AH) : Sound E 33 [iv p, iv q] H (.ret (iv (mul p q))) H := by
  refine sound_of_awp tabOk mixed Tryd.func33 rfl (by rfl) Tryd.ntmps33 (by kernel_rfl) (by simp) ?_
  simp
  refine call_ret (rIsEntire p _) ?_
  cases h1 : entB p with
  | true =>
    simp
    refine call_ret (rEntire _) ?_
    simp
    exact fin1 (rs := [.cell 4 26]) (by rfl) (by simp [resA, mul, h1]) (by simp [noF, noFs])
  | false =>
  simp
  refine call_ret (rIsEntire q _) ?_
  cases h2 : entB q with
  | true =>
    simp
    refine call_ret (rEntire _) ?_
    simp
    exact fin1 (rs := [.cell 4 26]) (by rfl) (by simp [resA, mul, h1, h2]) (by simp [noF, noFs])
  | false =>
  have hb := entB_false hp h1
  have hc := entB_false hq h2
  have w11 := prod_bounds (x := p.1) (y := q.1) (by omega) (by omega)
  have w12 := prod_bounds (x := p.1) (y := q.2) (by omega) (by omega)
  have w21 := prod_bounds (x := p.2) (y := q.1) (by omega) (by omega)
  have w22 := prod_bounds (x := p.2) (y := q.2) (by omega) (by omega)
  have v11 : IntKind.i64.wrap (p.1 * q.1) = p.1 * q.1 := wrap64 (by omega) (by omega)
  have v12 : IntKind.i64.wrap (p.1 * q.2) = p.1 * q.2 := wrap64 (by omega) (by omega)
  have v21 : IntKind.i64.wrap (p.2 * q.1) = p.2 * q.1 := wrap64 (by omega) (by omega)
  have v22 : IntKind.i64.wrap (p.2 * q.2) = p.2 * q.2 := wrap64 (by omega) (by omega)
  have hm : mul p q = mk (fl (min4 (p.1 * q.1) (p.1 * q.2) (p.2 * q.1) (p.2 * q.2)) 65536) (ce (max4 (p.1 * q.1) (p.1 * q.2) (p.2 * q.1) (p.2 * q.2)) 65536) := by simp [mul, h1, h2]
  rw [hm]
  simp [v11, v12, v21, v22]
  generalize p.1 * q.1 = a at *
  generalize p.1 * q.2 = b at *
  generalize p.2 * q.1 = c at *
  generalize p.2 * q.2 = d at *
  refine endD [] (by rfl) (by simp [okW, note, Eff.triv, Eff.wr, Eff.none, upTo, newAt]) ?_
  obtain ⟨l, hl⟩ : ∃ l, l = [a, b, c, d] := ⟨_, rfl⟩
  simp
  refine loop_count (LMul l a H [.row true 2 [iv p], .row true 2 [iv q], .row true 2 [iv (0, 0)]]) (fun i => 4 - i) 1 ⟨by simp, by simp [hl], by simp [loT, hl], by simp [hiT, hl], by simp, by omega, by simp [hl], by simp⟩ ?_
  rintro i fr H' ⟨h4, h5, h6, h7, h8, i1, i4, rfl⟩
  have hl4 : l.length = 4 := by simp [hl]
  simp [h8]
  refine branch (fun hi => ?_) (fun hi => ?_)
  · have hi' : i < l.length := by simp at hi; omega
    obtain ⟨x, hx⟩ := get_lt hi'
    have wi : IntKind.i64.wrap ((i : Int) + 1) = ((i + 1 : Nat) : Int) := by rw [wrap64 (by omega) (by omega)]; omega
    have hx' : ∀ h, l[i]'h = x := fun h => (List.getElem?_eq_some_iff.1 hx).2
    simp [h4, h5, h6, h7, h8, hx, ite_min, ite_max]
    exact ⟨i + 1, by show 4 - (i + 1) < 4 - i; omega, by simp [h4], by simp [h5], by simp [loT_succ hx], by simp [hiT_succ hx], by simp [wi], by omega, by omega, rfl⟩
  · have hi' : i = 4 := by simp at hi; omega
    subst hi'
    have e1 : loT l a 4 = min4 a b c d := by simp [loT, hl, min4]
    have e2 : hiT l a 4 = max4 a b c d := by simp [hiT, hl, max4]
    simp [h4, h6, h7, e1, e2]
    refine call_ret (rFloor _ _ (by simp only [min4]; omega) (by omega) _) ?_
    simp [h4, h6, h7]
    refine call_ret (rCeil _ _ (by rw [e2]; simp only [max4]; omega) (by omega) _) ?_
    simp [h4, h6, h7, e2]
    refine call_ret (rNew _ _ _) ?_
    simp [h4]
    exact fin1 (rs := [.cell 4 26]) (by rfl) (by simp [resA, h4]) (by simp [noF, noFs])

theorem rSquare (p : I) (hp : vB p = true) (H : AH) : Sound E 61 [iv p] H (.ret (iv (sq p))) H := by
  refine sound_of_awp tabOk mixed Tryd.func61 rfl (by rfl) Tryd.ntmps61 (by kernel_rfl) (by simp) ?_
  simp
  refine call_ret (rIsEntire p _) ?_
  cases h1 : entB p with
  | true =>
    simp
    refine call_ret (rEntire _) ?_
    simp
    exact fin1 (rs := [.cell 2 26]) (by rfl) (by simp [resA, sq, h1]) (by simp [noF, noFs])
  | false =>
  have hb := entB_false hp h1
  have w11 := prod_bounds (x := p.1) (y := p.1) (by omega) (by omega)
  have w22 := prod_bounds (x := p.2) (y := p.2) (by omega) (by omega)
  have v11 : IntKind.i64.wrap (p.1 * p.1) = p.1 * p.1 := wrap64 (by omega) (by omega)
  have v22 : IntKind.i64.wrap (p.2 * p.2) = p.2 * p.2 := wrap64 (by omega) (by omega)
  have hm : sq p = mk (fl (if p.1 ≤ 0 ∧ 0 ≤ p.2 then 0 else min (p.1 * p.1) (p.2 * p.2)) 65536) (ce (max (p.1 * p.1) (p.2 * p.2)) 65536) := by simp [sq, h1]
  rw [hm]
  simp [v11, v22, ite_min, ite_max]
  refine endD [] (by rfl) (by simp [okW, note, Eff.triv, Eff.wr, Eff.none, upTo, newAt]) ?_
  simp
  by_cases h2 : p.1 ≤ 0 ∧ 0 ≤ p.2
  · simp [h2.1, h2.2]
    refine call_ret (rFloor _ _ (by omega) (by omega) _) ?_
    simp
    refine call_ret (rCeil _ _ (by omega) (by omega) _) ?_
    simp
    refine call_ret (rNew _ _ _) ?_
    simp
    exact fin1 (rs := [.cell 2 26]) (by rfl) (by simp [resA, h2]) (by simp [noF, noFs])
  · have h3 : (decide (p.1 ≤ 0) && decide (0 ≤ p.2)) = false := by simp; omega
    by_cases h4 : p.1 ≤ 0
    · have h5 : ¬ 0 ≤ p.2 := by omega
      simp [h4, h5]
      refine call_ret (rFloor _ _ (by omega) (by omega) _) ?_
      simp
      refine call_ret (rCeil _ _ (by omega) (by omega) _) ?_
      simp
      refine call_ret (rNew _ _ _) ?_
      simp
      exact fin1 (rs := [.cell 2 26]) (by rfl) (by simp [resA, h5]) (by simp [noF, noFs])
    · simp [h4]
      refine call_ret (rFloor _ _ (by omega) (by omega) _) ?_
      simp
      refine call_ret (rCeil _ _ (by omega) (by omega) _) ?_
      simp
      refine call_ret (rNew _ _ _) ?_
      simp
      exact fin1 (rs := [.cell 2 26]) (by rfl) (by simp [resA, h4]) (by simp [noF, noFs])

def LRt (n : Int) (H : AH) (k : Nat) (fr : AFr) (H' : AH) : Prop :=
  ∃ r : Int, fr 0 = .int .i64 n ∧ fr 3 = .int .i64 r ∧ fr 4 = .int .i64 (2 ^ k / 2) ∧ k ≤ 31 ∧ 0 ≤ r ∧ r + 2 ^ k ≤ 2147483648 ∧ r * r ≤ n ∧ n < (r + 2 ^ k) * (r + 2 ^ k) ∧ H' = H
theorem rRoot (n : Int) (hn : 0 ≤ n ∧ n ≤ 140737488355328) (H : AH) : Sound E 86 [.int .i64 n] H (.ret (.int .i64 (root n))) H := by
  refine sound_of_awp tabOk mixed Tryd.func86 rfl (by rfl) Tryd.ntmps86 (by kernel_rfl) (by simp) ?_
  simp
  refine loop_count (LRt n H) (fun k => k) 31 ⟨0, by simp, by simp, by simp, by omega, by omega, by omega, by omega, by omega, rfl⟩ ?_
  rintro k fr H' ⟨r, h0, h3, h4, hk, r0, r1, r2, r3, rfl⟩
  cases k with
  | zero =>
    have e : root n = r := root_unique r0 r2 (by simpa using r3)
    simp [h4]
    simp [h3]
    exact fin0 (rs := [.tmp 2]) (by rfl) (by simp [resA, h3, e])
  | succ k =>
    have hp : (0 : Int) < 2 ^ k := by
      have : 0 < (2 : Nat) ^ k := Nat.pow_pos (by omega)
      have h3 : (((2 : Nat) ^ k : Nat) : Int) = 2 ^ k := by simp
      omega
    have e2 : (2 : Int) ^ (k + 1) = 2 * 2 ^ k := by rw [Int.pow_succ]; omega
    have e3 : (2 : Int) ^ (k + 1) / 2 = 2 ^ k := by omega
    rw [e3] at h4
    rw [e2] at r1 r3
    generalize hP : (2 : Int) ^ k = P at *
    have wr : IntKind.i64.wrap (r + P) = r + P := wrap64 (by omega) (by omega)
    have wb := prod_bounds (x := r + P) (y := r + P) (by omega) (by omega)
    have wm : IntKind.i64.wrap ((r + P) * (r + P)) = (r + P) * (r + P) := wrap64 (by omega) (by omega)
    have wq : IntKind.i64.wrap (P / 2) = P / 2 := wrap64 (by omega) (by omega)
    have wt : P.tdiv 2 = P / 2 := Int.tdiv_eq_ediv_of_nonneg (by omega)
    simp [h4, hp]
    simp [h0, h3, h4, wr, wm]
    refine branch (fun hc => ?_) (fun hc => ?_)
    · simp at hc
      simp [h0, h3, h4, wr, wq, wt]
      exact ⟨k, by show k < k + 1; omega, r + P, by simp [h0], by simp, by simp [hP], by omega, by omega, by rw [hP]; omega, hc, by rw [hP, show r + P + P = r + 2 * P by omega]; exact r3, rfl⟩
    · simp at hc
      simp [h0, h3, h4, wq, wt]
      exact ⟨k, by show k < k + 1; omega, r, by simp [h0], by simp [h3], by simp [hP], by omega, by omega, by rw [hP]; omega, r2, by rw [hP]; omega, rfl⟩
theorem rSqrt (p : I) (hp : vB p = true) (h0 : 0 ≤ p.2) (H : AH) : Sound E 62 [iv p] H (.ret (.tuple [iv (sqrt p), .bool true])) H := by
  refine sound_of_awp tabOk mixed Tryd.func62 rfl (by rfl) Tryd.ntmps62 (by kernel_rfl) (by simp) ?_
  simp
  refine call_ret (rIsEntire p _) ?_
  cases h1 : entB p with
  | true =>
    simp
    exact finC (rs := [.cell 2 26, .tmp 3]) (vs := [iv (sqrt p), .bool true]) (vs' := [iv (sqrt p), .bool true]) (by rfl) (by have e : sqrt p = p := (by simp only [sqrt, h1, if_true]); rw [e]; simp [resA]) (by simp; rfl) (by simp [noF, noFs]) rfl
  | false =>
  have hb := entB_false hp h1
  have hlt : ¬ p.2 < 0 := by omega
  have e : sqrt p = mk (root (max p.1 0 * 65536)) (rootU (p.2 * 65536)) := by simp only [sqrt, h1, hlt, if_false]; simp
  have w1 : IntKind.i64.wrap (max p.1 0 * 65536) = max p.1 0 * 65536 := wrap64 (by omega) (by omega)
  have w2 : IntKind.i64.wrap (p.2 * 65536) = p.2 * 65536 := wrap64 (by omega) (by omega)
  obtain ⟨g0, g1, g2⟩ := root_spec (n := p.2 * 65536) (by omega)
  have hx1 : 0 ≤ root (p.2 * 65536) * root (p.2 * 65536) := Int.mul_nonneg g0 g0
  have w3 : IntKind.i64.wrap (root (p.2 * 65536) * root (p.2 * 65536)) = root (p.2 * 65536) * root (p.2 * 65536) := wrap64 (by omega) (by omega)
  have hrb : root (p.2 * 65536) ≤ 140737488355328 := by
    rcases Int.lt_or_le 140737488355328 (root (p.2 * 65536)) with h | h
    · have : 140737488355328 * 140737488355328 ≤ root (p.2 * 65536) * root (p.2 * 65536) := Int.mul_le_mul (by omega) (by omega) (by omega) (by omega)
      omega
    · exact h
  have w4 : IntKind.i64.wrap (root (p.2 * 65536) + 1) = root (p.2 * 65536) + 1 := wrap64 (by omega) (by omega)
  rw [e]
  simp [hlt, ite_max, w1]
  refine callD_ret0 (fun Hx => rRoot _ (by omega) Hx) ?_
  simp [w2]
  refine callD_ret0 (fun Hx => rRoot _ (by omega) Hx) ?_
  simp
  refine endD [] (by rfl) (by simp [okW, note, Eff.triv, Eff.wr, Eff.none, upTo, newAt]) ?_
  simp [w3, w2]
  refine branch (fun hc => ?_) (fun hc => ?_)
  · have hu : rootU (p.2 * 65536) = root (p.2 * 65536) + 1 := by simp at hc; unfold rootU; rw [if_pos hc]
    simp [w4]
    refine call_ret (rNew _ _ _) ?_
    simp
    exact finC (rs := [.cell 2 26, .tmp 3]) (vs := [iv (mk (root (max p.1 0 * 65536)) (rootU (p.2 * 65536))), .bool true]) (vs' := [iv (mk (root (max p.1 0 * 65536)) (rootU (p.2 * 65536))), .bool true]) (by rfl) (by simp [resA, hu]) (by simp; rfl) (by simp [noF, noFs]) rfl
  · have hu : rootU (p.2 * 65536) = root (p.2 * 65536) := by simp at hc; unfold rootU; rw [if_neg (by omega)]
    simp
    refine call_ret (rNew _ _ _) ?_
    simp
    exact finC (rs := [.cell 2 26, .tmp 3]) (vs := [iv (mk (root (max p.1 0 * 65536)) (rootU (p.2 * 65536))), .bool true]) (vs' := [iv (mk (root (max p.1 0 * 65536)) (rootU (p.2 * 65536))), .bool true]) (by rfl) (by simp [resA, hu]) (by simp; rfl) (by simp [noF, noFs]) rfl
end Go.Proofs.YtohmodcheahpgaaDoor.Arm

namespace Go.Proofs.YtohmodcheahpgaaDoor.Arm
open Go.Arm Go.Pl

def LDv (p q : I) (fs cs : List Int) (z y : Int) (H J : AH) (i s : Nat) (fr : AFr) (H' : AH) : Prop :=
  fr 4 = .ptr (H.length + 2) 1 0 0 ∧ fr 5 = .slice [.int .i64 p.1, .int .i64 p.2] true ∧ fr 6 = .slice [.int .i64 q.1, .int .i64 q.2] true ∧ fr 7 = .int .i64 (loT fs z s) ∧ fr 8 = .int .i64 (hiT cs y s) ∧ fr 9 = .int .i64 i ∧ H' = H ++ J
theorem rDiv (p q : I) (hp : vB p = true) (hq : vB q = true) (H : AH) : Sound E 63 [iv p, iv q] H (.ret (iv (div p q))) H := by
  refine sound_of_awp tabOk mixed Tryd.func63 rfl (by rfl) Tryd.ntmps63 (by kernel_rfl) (by simp) ?_
  simp
  refine call_ret (rIsEntire p _) ?_
  cases h1 : entB p with
  | true =>
    simp
    refine call_ret (rEntire _) ?_
    simp
    exact fin1 (rs := [.cell 4 26]) (by rfl) (by simp [resA, div, h1]) (by simp [noF, noFs])
  | false =>
  simp
  refine call_ret (rIsEntire q _) ?_
  cases h2 : entB q with
  | true =>
    simp
    refine call_ret (rEntire _) ?_
    simp
    exact fin1 (rs := [.cell 4 26]) (by rfl) (by simp [resA, div, h1, h2]) (by simp [noF, noFs])
  | false =>
  by_cases h3 : q.1 ≤ 0 ∧ 0 ≤ q.2
  · simp [h3.1, h3.2]
    refine call_ret (rEntire _) ?_
    simp
    exact fin1 (rs := [.cell 4 26]) (by rfl) (by simp [resA, div, h1, h2, h3.1, h3.2]) (by simp [noF, noFs])
  have hb := entB_false hp h1
  have hc := entB_false hq h2
  have h4 : (decide (q.1 ≤ 0) && decide (0 ≤ q.2)) = false := by simp; omega
  have hm : div p q = mk (min4 (fl (p.1 * 65536) q.1) (fl (p.1 * 65536) q.2) (fl (p.2 * 65536) q.1) (fl (p.2 * 65536) q.2)) (max4 (ce (p.1 * 65536) q.1) (ce (p.1 * 65536) q.2) (ce (p.2 * 65536) q.1) (ce (p.2 * 65536) q.2)) := by simp [div, h1, h2, h4]
  rw [hm]
  have wp1 : IntKind.i64.wrap (p.1 * 65536) = p.1 * 65536 := wrap64 (by omega) (by omega)
  have wp2 : IntKind.i64.wrap (p.2 * 65536) = p.2 * 65536 := wrap64 (by omega) (by omega)
  have q1 : q.1 ≠ 0 := by omega
  have q2 : q.2 ≠ 0 := by omega
  have fF : ∀ x y, (x = p.1 ∨ x = p.2) → (y = q.1 ∨ y = q.2) → ∀ Hx, Sound E 68 [.int .i64 (x * 65536), .int .i64 y] Hx (.ret (.int .i64 (fl (x * 65536) y))) Hx := fun x y hx hy Hx =>
    rFloor _ _ (by rcases hx with rfl | rfl <;> omega) (by rcases hy with rfl | rfl <;> assumption) Hx
  have cC : ∀ x y, (x = p.1 ∨ x = p.2) → (y = q.1 ∨ y = q.2) → ∀ Hx, Sound E 69 [.int .i64 (x * 65536), .int .i64 y] Hx (.ret (.int .i64 (ce (x * 65536) y))) Hx := fun x y hx hy Hx =>
    rCeil _ _ (by rcases hx with rfl | rfl <;> omega) (by rcases hy with rfl | rfl <;> assumption) Hx
  obtain ⟨fs, hfs⟩ : ∃ l, l = [fl (p.1 * 65536) q.1, fl (p.1 * 65536) q.2, fl (p.2 * 65536) q.1, fl (p.2 * 65536) q.2] := ⟨_, rfl⟩
  obtain ⟨cs, hcs⟩ : ∃ l, l = [ce (p.1 * 65536) q.1, ce (p.1 * 65536) q.2, ce (p.2 * 65536) q.1, ce (p.2 * 65536) q.2] := ⟨_, rfl⟩
  obtain ⟨z, hz⟩ : ∃ z, z = fl (p.1 * 65536) q.1 := ⟨_, rfl⟩
  obtain ⟨y, hy⟩ : ∃ y, y = ce (p.1 * 65536) q.1 := ⟨_, rfl⟩
  have s1 : ∀ i k x1, (i : Nat) = 0 ∨ i = 1 → (k : Nat) = 0 ∨ k = 1 → x1 = 2 * i + k → loT fs z (x1 + 1) = min (loT fs z x1) (fl ((if i = 0 then p.1 else p.2) * 65536) (if k = 0 then q.1 else q.2)) := by
    rintro i k x1 (rfl | rfl) (rfl | rfl) rfl <;> exact loT_succ (by simp [hfs])
  have s2 : ∀ i k x1, (i : Nat) = 0 ∨ i = 1 → (k : Nat) = 0 ∨ k = 1 → x1 = 2 * i + k → hiT cs y (x1 + 1) = max (hiT cs y x1) (ce ((if i = 0 then p.1 else p.2) * 65536) (if k = 0 then q.1 else q.2)) := by
    rintro i k x1 (rfl | rfl) (rfl | rfl) rfl <;> exact hiT_succ (by simp [hcs])
  have e1 : loT fs z 4 = min4 (fl (p.1 * 65536) q.1) (fl (p.1 * 65536) q.2) (fl (p.2 * 65536) q.1) (fl (p.2 * 65536) q.2) := by simp [loT, hfs, hz, min4]
  have e2 : hiT cs y 4 = max4 (ce (p.1 * 65536) q.1) (ce (p.1 * 65536) q.2) (ce (p.2 * 65536) q.1) (ce (p.2 * 65536) q.2) := by simp [hiT, hcs, hy, max4]
  rw [← e1, ← e2]
  by_cases h6 : q.1 ≤ 0
  · have h7 : ¬ 0 ≤ q.2 := by omega
    simp [h6, h7]
    refine endD [] (by rfl) (by simp [okW, note, Eff.triv, Eff.wr, Eff.none, upTo, newAt]) ?_
    simp [wp1]
    refine callD_ret0 (fF p.1 q.1 (.inl rfl) (.inl rfl)) ?_
    simp [wp1]
    refine callD_ret0 (cC p.1 q.1 (.inl rfl) (.inl rfl)) ?_
    simp
    refine endD [] (by rfl) (by simp [okW, note, Eff.triv, Eff.wr, Eff.none, upTo, newAt]) ?_
    simp
    refine loop_count (fun i fr H' => LDv p q fs cs z y H [.row true 2 [iv p], .row true 2 [iv q], .row true 2 [iv (0, 0)]] i (2 * i) fr H' ∧ i ≤ 2) (fun i => 2 - i) 0 ⟨⟨by simp, by simp, by simp, by simp [loT, hz], by simp [hiT, hy], by simp, by simp⟩, by omega⟩ ?_
    rintro i fr H' ⟨⟨g4, g5, g6, g7, g8, g9, rfl⟩, hi⟩
    simp [g9]
    refine branch (fun hc1 => ?_) (fun hc1 => ?_)
    · have hi' : i = 0 ∨ i = 1 := by simp at hc1; omega
      simp
      refine loop_count (fun k fr H' => LDv p q fs cs z y H [.row true 2 [iv p], .row true 2 [iv q], .row true 2 [iv (0, 0)]] i (2 * i + k) fr H' ∧ fr 10 = .int .i64 k ∧ k ≤ 2) (fun k => 2 - k) 0 ⟨⟨by simp [g4], by simp [g5], by simp [g6], by simp [g7], by simp [g8], by simp [g9], rfl⟩, by simp, by omega⟩ ?_
      rintro k fr2 H2 ⟨⟨k4, k5, k6, k7, k8, k9, rfl⟩, k10, hk⟩
      simp [k10]
      refine branch (fun hc2 => ?_) (fun hc2 => ?_)
      · have hk' : k = 0 ∨ k = 1 := by simp at hc2; omega
        rcases hi' with rfl | rfl <;> rcases hk' with rfl | rfl
        · have t1 := s1 0 0 0 (by omega) (by omega) (by omega)
          have t2 := s2 0 0 0 (by omega) (by omega) (by omega)
          simp at t1 t2 k7 k8 k9 k10
          have w : IntKind.i64.wrap 1 = 1 := by decide
          simp [k5, k6, k7, k8, k9, k10, wp1]
          refine callD_ret0 (fF p.1 q.1 (.inl rfl) (.inl rfl)) ?_
          simp [k5, k6, k7, k8, k9, k10]
          refine endD [] (by rfl) (by simp [okW, note, Eff.triv, Eff.wr, Eff.none, upTo, newAt]) ?_
          simp [k5, k6, k7, k8, k9, k10, wp1]
          refine callD_ret0 (cC p.1 q.1 (.inl rfl) (.inl rfl)) ?_
          simp [k5, k6, k7, k8, k9, k10]
          refine endD [] (by rfl) (by simp [okW, note, Eff.triv, Eff.wr, Eff.none, upTo, newAt]) ?_
          simp [k5, k6, k7, k8, k9, k10, ite_min, ite_max]
          exact ⟨1, by decide, ⟨by simp [k4], by simp [k5], by simp [k6], by simp [t1], by simp [t2], by simp [k9], rfl⟩, by simp [k10, w], by omega⟩
        · have t1 := s1 0 1 1 (by omega) (by omega) (by omega)
          have t2 := s2 0 1 1 (by omega) (by omega) (by omega)
          simp at t1 t2 k7 k8 k9 k10
          have w : IntKind.i64.wrap 2 = 2 := by decide
          simp [k5, k6, k7, k8, k9, k10, wp1]
          refine callD_ret0 (fF p.1 q.2 (.inl rfl) (.inr rfl)) ?_
          simp [k5, k6, k7, k8, k9, k10]
          refine endD [] (by rfl) (by simp [okW, note, Eff.triv, Eff.wr, Eff.none, upTo, newAt]) ?_
          simp [k5, k6, k7, k8, k9, k10, wp1]
          refine callD_ret0 (cC p.1 q.2 (.inl rfl) (.inr rfl)) ?_
          simp [k5, k6, k7, k8, k9, k10]
          refine endD [] (by rfl) (by simp [okW, note, Eff.triv, Eff.wr, Eff.none, upTo, newAt]) ?_
          simp [k5, k6, k7, k8, k9, k10, ite_min, ite_max]
          exact ⟨2, by decide, ⟨by simp [k4], by simp [k5], by simp [k6], by simp [t1], by simp [t2], by simp [k9], rfl⟩, by simp [k10, w], by omega⟩
        · have t1 := s1 1 0 2 (by omega) (by omega) (by omega)
          have t2 := s2 1 0 2 (by omega) (by omega) (by omega)
          simp at t1 t2 k7 k8 k9 k10
          have w : IntKind.i64.wrap 1 = 1 := by decide
          simp [k5, k6, k7, k8, k9, k10, wp2]
          refine callD_ret0 (fF p.2 q.1 (.inr rfl) (.inl rfl)) ?_
          simp [k5, k6, k7, k8, k9, k10]
          refine endD [] (by rfl) (by simp [okW, note, Eff.triv, Eff.wr, Eff.none, upTo, newAt]) ?_
          simp [k5, k6, k7, k8, k9, k10, wp2]
          refine callD_ret0 (cC p.2 q.1 (.inr rfl) (.inl rfl)) ?_
          simp [k5, k6, k7, k8, k9, k10]
          refine endD [] (by rfl) (by simp [okW, note, Eff.triv, Eff.wr, Eff.none, upTo, newAt]) ?_
          simp [k5, k6, k7, k8, k9, k10, ite_min, ite_max]
          exact ⟨1, by decide, ⟨by simp [k4], by simp [k5], by simp [k6], by simp [t1], by simp [t2], by simp [k9], rfl⟩, by simp [k10, w], by omega⟩
        · have t1 := s1 1 1 3 (by omega) (by omega) (by omega)
          have t2 := s2 1 1 3 (by omega) (by omega) (by omega)
          simp at t1 t2 k7 k8 k9 k10
          have w : IntKind.i64.wrap 2 = 2 := by decide
          simp [k5, k6, k7, k8, k9, k10, wp2]
          refine callD_ret0 (fF p.2 q.2 (.inr rfl) (.inr rfl)) ?_
          simp [k5, k6, k7, k8, k9, k10]
          refine endD [] (by rfl) (by simp [okW, note, Eff.triv, Eff.wr, Eff.none, upTo, newAt]) ?_
          simp [k5, k6, k7, k8, k9, k10, wp2]
          refine callD_ret0 (cC p.2 q.2 (.inr rfl) (.inr rfl)) ?_
          simp [k5, k6, k7, k8, k9, k10]
          refine endD [] (by rfl) (by simp [okW, note, Eff.triv, Eff.wr, Eff.none, upTo, newAt]) ?_
          simp [k5, k6, k7, k8, k9, k10, ite_min, ite_max]
          exact ⟨2, by decide, ⟨by simp [k4], by simp [k5], by simp [k6], by simp [t1], by simp [t2], by simp [k9], rfl⟩, by simp [k10, w], by omega⟩
      · have hk' : k = 2 := by simp at hc2; omega
        subst hk'
        have wi : IntKind.i64.wrap ((i : Int) + 1) = ((i + 1 : Nat) : Int) := by rw [wrap64 (by omega) (by omega)]; omega
        simp [k9]
        exact ⟨i + 1, by show 2 - (i + 1) < 2 - i; omega, ⟨by simp [k4], by simp [k5], by simp [k6], by simp [k7, show 2 * (i + 1) = 2 * i + 2 by omega], by simp [k8, show 2 * (i + 1) = 2 * i + 2 by omega], by simp [wi], rfl⟩, by omega⟩
    · have hi' : i = 2 := by simp at hc1; omega
      subst hi'
      simp at g7 g8
      simp [g4, g7, g8]
      refine call_ret (rNew _ _ _) ?_
      simp [g4]
      exact fin1 (rs := [.cell 4 26]) (by rfl) (by simp [resA, g4]) (by simp [noF, noFs])
  · simp [h6]
    refine endD [] (by rfl) (by simp [okW, note, Eff.triv, Eff.wr, Eff.none, upTo, newAt]) ?_
    simp [wp1]
    refine callD_ret0 (fF p.1 q.1 (.inl rfl) (.inl rfl)) ?_
    simp [wp1]
    refine callD_ret0 (cC p.1 q.1 (.inl rfl) (.inl rfl)) ?_
    simp
    refine endD [] (by rfl) (by simp [okW, note, Eff.triv, Eff.wr, Eff.none, upTo, newAt]) ?_
    simp
    refine loop_count (fun i fr H' => LDv p q fs cs z y H [.row true 2 [iv p], .row true 2 [iv q], .row true 2 [iv (0, 0)]] i (2 * i) fr H' ∧ i ≤ 2) (fun i => 2 - i) 0 ⟨⟨by simp, by simp, by simp, by simp [loT, hz], by simp [hiT, hy], by simp, by simp⟩, by omega⟩ ?_
    rintro i fr H' ⟨⟨g4, g5, g6, g7, g8, g9, rfl⟩, hi⟩
    simp [g9]
    refine branch (fun hc1 => ?_) (fun hc1 => ?_)
    · have hi' : i = 0 ∨ i = 1 := by simp at hc1; omega
      simp
      refine loop_count (fun k fr H' => LDv p q fs cs z y H [.row true 2 [iv p], .row true 2 [iv q], .row true 2 [iv (0, 0)]] i (2 * i + k) fr H' ∧ fr 10 = .int .i64 k ∧ k ≤ 2) (fun k => 2 - k) 0 ⟨⟨by simp [g4], by simp [g5], by simp [g6], by simp [g7], by simp [g8], by simp [g9], rfl⟩, by simp, by omega⟩ ?_
      rintro k fr2 H2 ⟨⟨k4, k5, k6, k7, k8, k9, rfl⟩, k10, hk⟩
      simp [k10]
      refine branch (fun hc2 => ?_) (fun hc2 => ?_)
      · have hk' : k = 0 ∨ k = 1 := by simp at hc2; omega
        rcases hi' with rfl | rfl <;> rcases hk' with rfl | rfl
        · have t1 := s1 0 0 0 (by omega) (by omega) (by omega)
          have t2 := s2 0 0 0 (by omega) (by omega) (by omega)
          simp at t1 t2 k7 k8 k9 k10
          have w : IntKind.i64.wrap 1 = 1 := by decide
          simp [k5, k6, k7, k8, k9, k10, wp1]
          refine callD_ret0 (fF p.1 q.1 (.inl rfl) (.inl rfl)) ?_
          simp [k5, k6, k7, k8, k9, k10]
          refine endD [] (by rfl) (by simp [okW, note, Eff.triv, Eff.wr, Eff.none, upTo, newAt]) ?_
          simp [k5, k6, k7, k8, k9, k10, wp1]
          refine callD_ret0 (cC p.1 q.1 (.inl rfl) (.inl rfl)) ?_
          simp [k5, k6, k7, k8, k9, k10]
          refine endD [] (by rfl) (by simp [okW, note, Eff.triv, Eff.wr, Eff.none, upTo, newAt]) ?_
          simp [k5, k6, k7, k8, k9, k10, ite_min, ite_max]
          exact ⟨1, by decide, ⟨by simp [k4], by simp [k5], by simp [k6], by simp [t1], by simp [t2], by simp [k9], rfl⟩, by simp [k10, w], by omega⟩
        · have t1 := s1 0 1 1 (by omega) (by omega) (by omega)
          have t2 := s2 0 1 1 (by omega) (by omega) (by omega)
          simp at t1 t2 k7 k8 k9 k10
          have w : IntKind.i64.wrap 2 = 2 := by decide
          simp [k5, k6, k7, k8, k9, k10, wp1]
          refine callD_ret0 (fF p.1 q.2 (.inl rfl) (.inr rfl)) ?_
          simp [k5, k6, k7, k8, k9, k10]
          refine endD [] (by rfl) (by simp [okW, note, Eff.triv, Eff.wr, Eff.none, upTo, newAt]) ?_
          simp [k5, k6, k7, k8, k9, k10, wp1]
          refine callD_ret0 (cC p.1 q.2 (.inl rfl) (.inr rfl)) ?_
          simp [k5, k6, k7, k8, k9, k10]
          refine endD [] (by rfl) (by simp [okW, note, Eff.triv, Eff.wr, Eff.none, upTo, newAt]) ?_
          simp [k5, k6, k7, k8, k9, k10, ite_min, ite_max]
          exact ⟨2, by decide, ⟨by simp [k4], by simp [k5], by simp [k6], by simp [t1], by simp [t2], by simp [k9], rfl⟩, by simp [k10, w], by omega⟩
        · have t1 := s1 1 0 2 (by omega) (by omega) (by omega)
          have t2 := s2 1 0 2 (by omega) (by omega) (by omega)
          simp at t1 t2 k7 k8 k9 k10
          have w : IntKind.i64.wrap 1 = 1 := by decide
          simp [k5, k6, k7, k8, k9, k10, wp2]
          refine callD_ret0 (fF p.2 q.1 (.inr rfl) (.inl rfl)) ?_
          simp [k5, k6, k7, k8, k9, k10]
          refine endD [] (by rfl) (by simp [okW, note, Eff.triv, Eff.wr, Eff.none, upTo, newAt]) ?_
          simp [k5, k6, k7, k8, k9, k10, wp2]
          refine callD_ret0 (cC p.2 q.1 (.inr rfl) (.inl rfl)) ?_
          simp [k5, k6, k7, k8, k9, k10]
          refine endD [] (by rfl) (by simp [okW, note, Eff.triv, Eff.wr, Eff.none, upTo, newAt]) ?_
          simp [k5, k6, k7, k8, k9, k10, ite_min, ite_max]
          exact ⟨1, by decide, ⟨by simp [k4], by simp [k5], by simp [k6], by simp [t1], by simp [t2], by simp [k9], rfl⟩, by simp [k10, w], by omega⟩
        · have t1 := s1 1 1 3 (by omega) (by omega) (by omega)
          have t2 := s2 1 1 3 (by omega) (by omega) (by omega)
          simp at t1 t2 k7 k8 k9 k10
          have w : IntKind.i64.wrap 2 = 2 := by decide
          simp [k5, k6, k7, k8, k9, k10, wp2]
          refine callD_ret0 (fF p.2 q.2 (.inr rfl) (.inr rfl)) ?_
          simp [k5, k6, k7, k8, k9, k10]
          refine endD [] (by rfl) (by simp [okW, note, Eff.triv, Eff.wr, Eff.none, upTo, newAt]) ?_
          simp [k5, k6, k7, k8, k9, k10, wp2]
          refine callD_ret0 (cC p.2 q.2 (.inr rfl) (.inr rfl)) ?_
          simp [k5, k6, k7, k8, k9, k10]
          refine endD [] (by rfl) (by simp [okW, note, Eff.triv, Eff.wr, Eff.none, upTo, newAt]) ?_
          simp [k5, k6, k7, k8, k9, k10, ite_min, ite_max]
          exact ⟨2, by decide, ⟨by simp [k4], by simp [k5], by simp [k6], by simp [t1], by simp [t2], by simp [k9], rfl⟩, by simp [k10, w], by omega⟩
      · have hk' : k = 2 := by simp at hc2; omega
        subst hk'
        have wi : IntKind.i64.wrap ((i : Int) + 1) = ((i + 1 : Nat) : Int) := by rw [wrap64 (by omega) (by omega)]; omega
        simp [k9]
        exact ⟨i + 1, by show 2 - (i + 1) < 2 - i; omega, ⟨by simp [k4], by simp [k5], by simp [k6], by simp [k7, show 2 * (i + 1) = 2 * i + 2 by omega], by simp [k8, show 2 * (i + 1) = 2 * i + 2 by omega], by simp [wi], rfl⟩, by omega⟩
    · have hi' : i = 2 := by simp at hc1; omega
      subst hi'
      simp at g7 g8
      simp [g4, g7, g8]
      refine call_ret (rNew _ _ _) ?_
      simp [g4]
      exact fin1 (rs := [.cell 4 26]) (by rfl) (by simp [resA, g4]) (by simp [noF, noFs])
end Go.Proofs.YtohmodcheahpgaaDoor.Arm

/- Expressions as trees: their nodes in a row, their values, simplification, derivatives. -/
namespace Go.Pl

structure Nd where
  op : Int
  n : Int
  c : I
  deriving DecidableEq

inductive U where
  | neg | sqr | sqrt
  deriving DecidableEq
inductive B where
  | add | sub | mul | div
  deriving DecidableEq
def U.code : U → Int
  | .neg => 4
  | .sqr => 5
  | .sqrt => 6
def B.code : B → Int
  | .add => 7
  | .sub => 8
  | .mul => 9
  | .div => 10

inductive Ex where
  | num (c : I)
  | var (i : Nat)
  | time
  | un (o : U) (a : Ex)
  | bin (o : B) (a b : Ex)
  deriving DecidableEq

def leafN (op n : Int) : Nd := ⟨op, n, (0, 0)⟩
def root0 : Ex → Nd
  | .num c => ⟨1, 0, c⟩
  | .var i => leafN 2 i
  | .time => leafN 3 0
  | .un o _ => leafN o.code 0
  | .bin o _ _ => leafN o.code 0
def ser : Ex → List Nd
  | .num c => [⟨1, 0, c⟩]
  | .var i => [leafN 2 i]
  | .time => [leafN 3 0]
  | .un o a => leafN o.code 0 :: ser a
  | .bin o a b => leafN o.code 0 :: (ser a ++ ser b)
def kids : Ex → List Ex
  | .num _ | .var _ | .time => []
  | .un _ a => [a]
  | .bin _ a b => [a, b]
def sz (e : Ex) : Nat := (ser e).length
def serL (l : List Ex) : List Nd := l.flatMap ser
theorem ser_eq (e : Ex) : ser e = root0 e :: serL (kids e) := by cases e <;> simp [ser, root0, serL, kids]
theorem sz_pos (e : Ex) : 0 < sz e := by rw [sz, ser_eq]; simp
theorem sz_un (o : U) (a : Ex) : sz (.un o a) = sz a + 1 := by simp [sz, ser]
theorem sz_bin (o : B) (a b : Ex) : sz (.bin o a b) = sz a + sz b + 1 := by simp [sz, ser]
theorem sz_num (c : I) : sz (.num c) = 1 := rfl
theorem sz_var (i : Nat) : sz (.var i) = 1 := rfl
theorem sz_time : sz .time = 1 := rfl
/-- The number of operands of an operation. -/
def arity (op : Int) : Int := if 1 ≤ op ∧ op ≤ 3 then 0 else if 4 ≤ op ∧ op ≤ 6 then 1 else if 7 ≤ op ∧ op ≤ 10 then 2 else -1
theorem arity_root (e : Ex) : arity (root0 e).op = (kids e).length := by
  cases e with
  | un o a => cases o <;> rfl
  | bin o a b => cases o <;> rfl
  | _ => rfl

/-! ### Values -/
def unV : U → I → I
  | .neg, v => neg v
  | .sqr, v => sq v
  | .sqrt, v => if v.1 < 0 then ent else sqrt v
def binV : B → I → I → I
  | .add => add
  | .sub => sub
  | .mul => mul
  | .div => div
def ev (x : List I) (t : I) : Ex → I
  | .num c => c
  | .var i => (x[i]?).getD (0, 0)
  | .time => t
  | .un o a => unV o (ev x t a)
  | .bin o a b => binV o (ev x t a) (ev x t b)
def wf (n : Nat) : Ex → Bool
  | .num c => vB c
  | .var i => decide (i < n)
  | .time => true
  | .un _ a => wf n a
  | .bin _ a b => wf n a && wf n b
theorem unV_valid {o : U} {v : I} (h : vB v = true) : vB (unV o v) = true := by
  cases o with
  | neg => exact neg_valid h
  | sqr => exact sq_valid h
  | sqrt =>
    simp only [unV]
    split
    · decide
    · exact sqrt_valid h
theorem binV_valid {o : B} {v w : I} (h : vB v = true) (k : vB w = true) : vB (binV o v w) = true := by
  cases o with
  | add => exact add_valid h k
  | sub => exact sub_valid h k
  | mul => exact mul_valid
  | div => exact div_valid k
theorem ev_valid {x : List I} {t : I} (hx : ∀ a ∈ x, vB a = true) (ht : vB t = true) : ∀ (e : Ex), wf x.length e = true → vB (ev x t e) = true
  | .num c, h => h
  | .var i, h => by
    simp only [wf, decide_eq_true_eq] at h
    simp only [ev]
    rw [List.getElem?_eq_getElem h]
    exact hx _ (List.getElem_mem h)
  | .time, _ => ht
  | .un o a, h => unV_valid (ev_valid hx ht a h)
  | .bin o a b, h => by
    simp only [wf, Bool.and_eq_true] at h
    exact binV_valid (ev_valid hx ht a h.1) (ev_valid hx ht b h.2)

/-! ### Simplification -/
def number (n : Int) : Ex := .num (pt (n * 65536))
def isK (e : Ex) (x : Int) : Bool := match e with
  | .num c => c.1 == x && c.2 == x
  | _ => false
def isPt : Ex → Option Int
  | .num c => if c.1 = c.2 then some c.1 else none
  | _ => none
def smpNeg (a : Ex) : Ex :=
  match isPt a with
  | some c => .num (pt (-c))
  | none => match a with
    | .un .neg b => b
    | _ => .un .neg a
/-- An operation on two point constants, where its result is one. -/
def foldC (f : I → I → I) (a b : Ex) : Option Ex :=
  match a, b with
  | .num c, .num d => if c.1 = c.2 ∧ d.1 = d.2 ∧ (f c d).1 = (f c d).2 then some (.num (f c d)) else none
  | _, _ => none
def smpAdd (a b : Ex) : Ex :=
  if isK a 0 then b else if isK b 0 then a else (foldC add a b).getD (.bin .add a b)
def smpSub (a b : Ex) : Ex :=
  if isK b 0 then a else if isK a 0 then smpNeg b else (foldC sub a b).getD (.bin .sub a b)
def smpMul (a b : Ex) : Ex :=
  if isK a 0 || isK b 0 then number 0 else if isK a 65536 then b else if isK b 65536 then a else (foldC mul a b).getD (.bin .mul a b)
def smpU : U → Ex → Ex
  | .neg, a => smpNeg a
  | .sqr, a => if isK a 0 || isK a 65536 then a else .un .sqr a
  | .sqrt, a => if isK a 0 || isK a 65536 then a else .un .sqrt a
def smpB : B → Ex → Ex → Ex
  | .add, a, b => smpAdd a b
  | .sub, a, b => smpSub a b
  | .mul, a, b => smpMul a b
  | .div, a, b => if isK a 0 || isK b 65536 then a else .bin .div a b
def smp : Ex → Ex
  | .un o a => smpU o (smp a)
  | .bin o a b => smpB o (smp a) (smp b)
  | e => e

/-! ### Derivatives -/
inductive Vr where
  | st (i : Int)
  | tm
  deriving DecidableEq
def isV : Vr → Ex → Bool
  | .st i, .var k => (k : Int) == i
  | .tm, .time => true
  | _, _ => false
def dif (v : Vr) : Ex → Ex
  | .un .neg a => .un .neg (dif v a)
  | .un .sqr a => .bin .mul (.bin .mul (number 2) a) (dif v a)
  | .un .sqrt a => .bin .div (dif v a) (.bin .mul (number 2) (.un .sqrt a))
  | .bin .add a b => .bin .add (dif v a) (dif v b)
  | .bin .sub a b => .bin .sub (dif v a) (dif v b)
  | .bin .mul a b => .bin .add (.bin .mul (dif v a) b) (.bin .mul a (dif v b))
  | .bin .div a b => .bin .div (.bin .sub (.bin .mul (dif v a) b) (.bin .mul a (dif v b))) (.un .sqr b)
  | e => if isV v e then number 1 else number 0
def der (v : Vr) (e : Ex) : Ex := smp (dif v e)

/-! ### Lengths -/
theorem number_sz (n : Int) : sz (number n) = 1 := rfl
theorem isK_num {e : Ex} {x : Int} (h : isK e x = true) : e = .num (x, x) := by
  cases e <;> simp [isK] at h
  rename_i c
  obtain ⟨a, b⟩ := c
  simp only at h; rw [h.1, h.2]
theorem smpNeg_sz (a : Ex) : sz (smpNeg a) ≤ sz a + 1 := by
  unfold smpNeg
  split
  · rw [sz_num]; omega
  · split
    · rw [sz_un]; omega
    · rw [sz_un]; omega
theorem foldC_sz {f : I → I → I} {a b : Ex} {o : B} : sz ((foldC f a b).getD (.bin o a b)) ≤ sz a + sz b + 1 := by
  unfold foldC
  split
  · split
    · simp only [Option.getD_some, sz_num]; omega
    · simp only [Option.getD_none, sz_bin]; omega
  · simp only [Option.getD_none, sz_bin]; omega
theorem smpU_sz (o : U) (a : Ex) : sz (smpU o a) ≤ sz a + 1 := by
  cases o with
  | neg => exact smpNeg_sz a
  | sqr => simp only [smpU]; split <;> (try rw [sz_un]) <;> omega
  | sqrt => simp only [smpU]; split <;> (try rw [sz_un]) <;> omega
theorem smpB_sz (o : B) (a b : Ex) : sz (smpB o a b) ≤ sz a + sz b + 1 := by
  cases o with
  | add =>
    simp only [smpB, smpAdd]
    split
    · omega
    · split
      · omega
      · exact foldC_sz
  | sub =>
    simp only [smpB, smpSub]
    split
    · omega
    · split
      · have := smpNeg_sz b; omega
      · exact foldC_sz
  | mul =>
    simp only [smpB, smpMul]
    split
    · rw [number_sz]; omega
    · split
      · omega
      · split
        · omega
        · exact foldC_sz
  | div => simp only [smpB]; split <;> (try rw [sz_bin]) <;> omega
theorem smp_sz : ∀ e : Ex, sz (smp e) ≤ sz e
  | .num _ | .var _ | .time => Nat.le_refl _
  | .un o a => by
    have h1 := smp_sz a
    have h2 := smpU_sz o (smp a)
    rw [sz_un]; simp only [smp]; omega
  | .bin o a b => by
    have h1 := smp_sz a
    have h2 := smp_sz b
    have h3 := smpB_sz o (smp a) (smp b)
    rw [sz_bin]; simp only [smp]; omega

/-! ### Well-formedness is kept -/
theorem number_wf (n m : Int) (k : Nat) (h : number n = number m) : wf k (number m) = wf k (number n) := by rw [h]
theorem pt_valid (x : Int) : vB (pt x) = true := mk_valid (Int.le_refl _)
theorem number_wf' (n : Int) (k : Nat) : wf k (number n) = true := pt_valid _
theorem smpNeg_wf {k : Nat} {a : Ex} (h : wf k a = true) : wf k (smpNeg a) = true := by
  unfold smpNeg
  split
  · exact pt_valid _
  · split
    · exact h
    · exact h
theorem foldC_wf {k : Nat} {o : B} {a b : Ex} (ha : wf k a = true) (hb : wf k b = true) : wf k ((foldC (binV o) a b).getD (.bin o a b)) = true := by
  unfold foldC
  split
  · split
    · simp only [Option.getD_some, wf] at ha hb ⊢; exact binV_valid ha hb
    · simp only [Option.getD_none, wf, Bool.and_eq_true] at ha hb ⊢; exact ⟨ha, hb⟩
  · simp only [Option.getD_none, wf, Bool.and_eq_true]; exact ⟨ha, hb⟩
theorem smpU_wf {k : Nat} {o : U} {a : Ex} (h : wf k a = true) : wf k (smpU o a) = true := by
  cases o with
  | neg => exact smpNeg_wf h
  | sqr => simp only [smpU]; split <;> exact h
  | sqrt => simp only [smpU]; split <;> exact h
theorem smpB_wf {k : Nat} {o : B} {a b : Ex} (ha : wf k a = true) (hb : wf k b = true) : wf k (smpB o a b) = true := by
  cases o with
  | add =>
    simp only [smpB, smpAdd]
    split
    · exact hb
    · split
      · exact ha
      · exact foldC_wf (o := .add) ha hb
  | sub =>
    simp only [smpB, smpSub]
    split
    · exact ha
    · split
      · exact smpNeg_wf hb
      · exact foldC_wf (o := .sub) ha hb
  | mul =>
    simp only [smpB, smpMul]
    split
    · exact number_wf' _ _
    · split
      · exact hb
      · split
        · exact ha
        · exact foldC_wf (o := .mul) ha hb
  | div =>
    simp only [smpB]
    split
    · exact ha
    · simp only [wf, Bool.and_eq_true]; exact ⟨ha, hb⟩
theorem smp_wf {k : Nat} : ∀ e : Ex, wf k e = true → wf k (smp e) = true
  | .num _, h | .var _, h | .time, h => h
  | .un o a, h => smpU_wf (smp_wf a h)
  | .bin o a b, h => by
    simp only [wf, Bool.and_eq_true] at h
    exact smpB_wf (smp_wf a h.1) (smp_wf b h.2)
theorem dif_wf {k : Nat} (v : Vr) : ∀ e : Ex, wf k e = true → wf k (dif v e) = true
  | .num _, h | .var _, h | .time, h => by unfold dif; split <;> exact number_wf' _ _
  | .un o a, h => by
    have := dif_wf v a h
    have h2 := number_wf' 2 k
    simp only [wf] at h
    cases o <;> simp [dif, wf, h, this, h2]
  | .bin o a b, h => by
    simp only [wf, Bool.and_eq_true] at h
    have h1 := dif_wf v a h.1
    have h2 := dif_wf v b h.2
    cases o <;> simp [dif, wf, h, h1, h2]
theorem der_wf {k : Nat} {v : Vr} {e : Ex} (h : wf k e = true) : wf k (der v e) = true := smp_wf _ (dif_wf v e h)

end Go.Pl

namespace Go.Proofs.YtohmodcheahpgaaDoor.Arm
open Go.Arm Go.Pl

def nd (x : Nd) : AV := .agg [.int .i64 x.op, .int .i64 x.n, .int .i64 x.c.1, .int .i64 x.c.2]
@[simp] theorem nd_eq (x : Nd) : nd x = .agg [.int .i64 x.op, .int .i64 x.n, .int .i64 x.c.1, .int .i64 x.c.2] := rfl
theorem nd_cells (x : Nd) : (nd x).cells.length = 4 := rfl
/-- A row of nodes. -/
def xs (l : List Nd) : AV := .slice (l.map nd) false
theorem xs_eq (l : List Nd) : xs l = .slice (l.map nd) false := rfl

@[simp] theorem bin_nd (H : AH) (a b : Int) (x y c d u v : Int) (z : Bool) : binOpA tab H .eql 62 (.agg [.int .i64 a, .int .i64 b, .int .i64 x, .int .i64 y]) (.agg [.int .i64 c, .int .i64 d, .int .i64 u, .int .i64 v]) z = some (.bool (a == c && b == d && (x == u && y == v)), H) := by
  simp [binOpA, binA, eqA, eqFs, nilI]
  by_cases h : a = c <;> by_cases h2 : b = d <;> by_cases h3 : x = u <;> by_cases h4 : y = v <;> simp [h, h2, h3, h4]
@[simp] theorem bin_nd_ne (H : AH) (a b : Int) (x y c d u v : Int) (z : Bool) : binOpA tab H .neq 62 (.agg [.int .i64 a, .int .i64 b, .int .i64 x, .int .i64 y]) (.agg [.int .i64 c, .int .i64 d, .int .i64 u, .int .i64 v]) z = some (.bool (!(a == c && b == d && (x == u && y == v))), H) := by
  simp [binOpA, binA, eqA, eqFs, nilI]
  by_cases h : a = c <;> by_cases h2 : b = d <;> by_cases h3 : x = u <;> by_cases h4 : y = v <;> simp [h, h2, h3, h4]

theorem oArity (op : Int) (H : AH) : Sound E 77 [.int .i64 op] H (.ret (.int .i64 (arity op))) H := by
  refine sound_of_awp tabOk mixed Tryd.func77 rfl (by rfl) Tryd.ntmps77 (by kernel_rfl) (by simp) ?_
  simp
  by_cases h1 : op < 1
  · have e : arity op = -1 := by unfold arity; rw [if_neg (by omega), if_neg (by omega), if_neg (by omega)]
    have e1 : ¬ 1 ≤ op := by omega
    have e2 : ¬ 4 ≤ op := by omega
    have e3 : ¬ 7 ≤ op := by omega
    simp [e1, e2, e3]
    exact fin0 (rs := [.tmp 2]) (by rfl) (by simp [resA, e])
  have e1 : 1 ≤ op := by omega
  by_cases h2 : op ≤ 3
  · have e : arity op = 0 := by unfold arity; rw [if_pos (by omega)]
    simp [e1, h2]
    exact fin0 (rs := [.tmp 2]) (by rfl) (by simp [resA, e])
  have e2 : 4 ≤ op := by omega
  by_cases h3 : op ≤ 6
  · have e : arity op = 1 := by unfold arity; rw [if_neg (by omega), if_pos (by omega)]
    simp [e1, h2, e2, h3]
    exact fin0 (rs := [.tmp 2]) (by rfl) (by simp [resA, e])
  have e3 : 7 ≤ op := by omega
  by_cases h4 : op ≤ 10
  · have e : arity op = 2 := by unfold arity; rw [if_neg (by omega), if_neg (by omega), if_pos (by omega)]
    simp [e1, h2, e2, h3, e3, h4]
    exact fin0 (rs := [.tmp 2]) (by rfl) (by simp [resA, e])
  · have e : arity op = -1 := by unfold arity; rw [if_neg (by omega), if_neg (by omega), if_neg (by omega)]
    simp [e1, h2, e2, h3, e3, h4]
    exact fin0 (rs := [.tmp 2]) (by rfl) (by simp [resA, e])
theorem r7Arity (op : Int) (H : AH) : Sound E 66 [.int .i64 op] H (.ret (.int .i64 (arity op))) H := by
  refine sound_of_awp tabOk mixed Tryd.func66 rfl (by rfl) Tryd.ntmps66 (by kernel_rfl) (by simp) ?_
  simp
  by_cases h1 : op < 1
  · have e : arity op = -1 := by unfold arity; rw [if_neg (by omega), if_neg (by omega), if_neg (by omega)]
    simp [h1]
    exact fin0 (rs := [.tmp 2]) (by rfl) (by simp [resA, e])
  by_cases h2 : 10 < op
  · have e : arity op = -1 := by unfold arity; rw [if_neg (by omega), if_neg (by omega), if_neg (by omega)]
    simp [h1, h2]
    exact fin0 (rs := [.tmp 2]) (by rfl) (by simp [resA, e])
  by_cases h3 : op ≤ 3
  · have e : arity op = 0 := by unfold arity; rw [if_pos (by omega)]
    simp [h1, h2, h3]
    exact fin0 (rs := [.tmp 2]) (by rfl) (by simp [resA, e])
  by_cases h4 : op ≤ 6
  · have e : arity op = 1 := by unfold arity; rw [if_neg (by omega), if_pos (by omega)]
    simp [h1, h2, h3, h4]
    exact fin0 (rs := [.tmp 2]) (by rfl) (by simp [resA, e])
  have e : arity op = 2 := by unfold arity; rw [if_neg (by omega), if_neg (by omega), if_pos (by omega)]
  simp [h1, h2, h3, h4]
  exact fin0 (rs := [.tmp 2]) (by rfl) (by simp [resA, e])

theorem kids_le (e : Ex) : (kids e).length ≤ 2 := by cases e <;> simp [kids]
theorem len_serL (l : List Ex) : l.length ≤ (serL l).length := by
  induction l with
  | nil => simp [serL]
  | cons a r ih =>
    have := sz_pos a
    simp only [serL, List.flatMap_cons, List.length_append, List.length_cons, sz] at this ih ⊢
    omega
theorem serL_cons (t : Ex) (ts : List Ex) : serL (t :: ts) = root0 t :: serL (kids t ++ ts) := by
  have h := ser_eq t
  simp only [serL, List.flatMap_cons, List.flatMap_append] at h ⊢
  rw [h]; simp

def LEl (l r : List Nd) (H : AH) (ts : List Ex) (fr : AFr) (H' : AH) : Prop :=
  ∃ pre : List Nd, l = pre ++ serL ts ++ r ∧ ts ≠ [] ∧ fr 0 = xs l ∧ fr 3 = .int .i64 ts.length ∧ fr 6 = xs l ∧ fr 7 = .int .i64 l.length ∧ fr 8 = .int .i64 pre.length ∧ ∃ J, H' = H ++ J
theorem oExprLen (a : Ex) (r : List Nd) (hl : sz a + r.length ≤ 4611686018427387904) (H : AH) : Sound E 78 [xs (ser a ++ r)] H (.ret (.int .i64 (sz a))) H := by
  refine sound_of_awp tabOk mixed Tryd.func78 rfl (by rfl) Tryd.ntmps78 (by kernel_rfl) (by simp) ?_
  simp [xs_eq]
  refine loop_count (LEl (ser a ++ r) r H) (fun ts => (serL ts).length) [a] ⟨[], by simp [serL], by simp, by simp [xs], by simp, by simp [xs], by simp, by simp, [], by simp⟩ ?_
  rintro ts fr H' ⟨pre, hpre, hne, h0, h3, h6, h7, h8, J, rfl⟩
  have hlen : sz a + r.length = pre.length + (serL ts).length + r.length := by
    have := congrArg List.length hpre
    simp only [List.length_append, sz] at this ⊢; omega
  obtain ⟨t, ts', rfl⟩ : ∃ t ts', ts = t :: ts' := by
    cases ts with
    | nil => exact absurd rfl hne
    | cons t ts' => exact ⟨t, ts', rfl⟩
  have hts := len_serL ts'
  have hk := kids_le t
  have hsc := serL_cons t ts'
  have hscl : (serL (t :: ts')).length = (serL (kids t ++ ts')).length + 1 := by rw [hsc]; simp
  have htl : (serL (t :: ts')).length = sz t + (serL ts').length := by simp [serL, sz]
  have hget : (ser a ++ r)[pre.length]? = some (root0 t) := by
    rw [hpre, hsc]; simp
  have hlt : pre.length < (ser a ++ r).length := (List.getElem?_eq_some_iff.1 hget).1
  have hlt' : pre.length < (ser a).length + r.length := by simpa using hlt
  have hmap : ((ser a ++ r).map nd)[pre.length]? = some (nd (root0 t)) := by rw [List.getElem?_map, hget]; rfl
  have hc : decide ((pre.length : Int) < ((ser a ++ r).length : Int)) = true := by simp; omega
  have hmapE : ∀ h, ((ser a ++ r).map nd)[pre.length]'h = nd (root0 t) := fun h => (List.getElem?_eq_some_iff.1 hmap).2
  rw [xs_eq] at h0 h6
  generalize hL : (ser a ++ r).map nd = L at *
  have hnode : nd (root0 t) = .agg [.int .i64 (root0 t).op, .int .i64 (root0 t).n, .int .i64 (root0 t).c.1, .int .i64 (root0 t).c.2] := rfl
  simp [h7, h8]
  refine branch (fun hb => ?_) (fun hb => ?_)
  · simp [h0, h3, h6, h8, hmap, hmapE]
    refine call_ret (oArity _ _) ?_
    rw [arity_root]
    have ws : IntKind.i64.wrap (((kids t).length : Int) - 1) = (kids t).length - 1 := wrap64 (by omega) (by omega)
    have wm : IntKind.i64.wrap ((ts'.length : Int) + 1 + ((kids t).length - 1)) = ((kids t ++ ts').length : Nat) := by
      rw [List.length_append, wrap64 (by simp at hlen hl; omega) (by simp at hlen hl; omega)]; omega
    simp [h3, h6, h8, ws, wm]
    refine branch (fun hz => ?_) (fun hz => ?_)
    · have hnil : kids t ++ ts' = [] := by
        apply List.eq_nil_of_length_eq_zero
        have h1 : (((kids t ++ ts').length : Nat) : Int) = 0 := by simpa using hz
        omega
      have h1 : (serL (kids t ++ ts')).length = 0 := by rw [hnil]; rfl
      have w1 : IntKind.i64.wrap ((pre.length : Int) + 1) = (sz a : Int) := by
        rw [wrap64 (by omega) (by omega)]; omega
      simp [h8, w1]
      exact fin1 (rs := [.tmp 2]) (by rfl) (by simp [resA]) (by simp [noF])
    · have h1 : ¬ (((kids t ++ ts').length : Nat) : Int) = 0 := by simpa using hz
      have w1 : IntKind.i64.wrap ((pre.length : Int) + 1) = ((pre ++ [root0 t]).length : Nat) := by
        rw [wrap64 (by omega) (by omega), List.length_append]; rfl
      simp [h8, w1]
      refine ⟨kids t ++ ts', by show (serL (kids t ++ ts')).length < (serL (t :: ts')).length; omega, pre ++ [root0 t], ?_, ?_, by simp [h0, xs, hL], by simp, by simp [h6, xs, hL], by simp [h7], by simp, J ++ [.row true 4 [nd (root0 t)]], by simp⟩
      · rw [hpre, hsc]; simp
      · intro e; rw [e] at h1; exact h1 rfl
  · simp at hb; omega
end Go.Proofs.YtohmodcheahpgaaDoor.Arm

namespace Go.Proofs.YtohmodcheahpgaaDoor.Arm
open Go.Arm Go.Pl

theorem kid_sz {a k : Ex} {i : Nat} (h : (kids a)[i]? = some k) : sz k < sz a := by
  cases a with
  | num c => simp [kids] at h
  | var c => simp [kids] at h
  | time => simp [kids] at h
  | un o a =>
    cases i with
    | zero => simp [kids] at h; subst h; rw [sz_un]; omega
    | succ i => simp [kids] at h
  | bin o a b =>
    rw [sz_bin]
    match i, h with
    | 0, h => simp [kids] at h; subst h; omega
    | 1, h => simp [kids] at h; subst h; omega
    | i + 2, h => simp [kids] at h
theorem serL_split (l : List Ex) (i : Nat) : serL l = serL (l.take i) ++ serL (l.drop i) := by
  rw [serL, serL, serL, ← List.flatMap_append, List.take_append_drop]
theorem serL_drop {l : List Ex} {i : Nat} {k : Ex} (h : l[i]? = some k) : serL (l.drop i) = ser k ++ serL (l.drop (i + 1)) := by
  have hl := (List.getElem?_eq_some_iff.1 h).1
  rw [List.drop_eq_getElem_cons hl, (List.getElem?_eq_some_iff.1 h).2]; rfl
theorem serL_take {l : List Ex} {i : Nat} {k : Ex} (h : l[i]? = some k) : serL (l.take (i + 1)) = serL (l.take i) ++ ser k := by
  rw [List.take_add_one, h]; simp [serL]
theorem sz_kids (a : Ex) : sz a = 1 + (serL (kids a)).length := by rw [sz, ser_eq]; simp; omega
/-- The rest of an expression's nodes behind so many operands. -/
theorem rest_at (a : Ex) (r : List Nd) (i : Nat) : (ser a ++ r).drop (1 + (serL ((kids a).take i)).length) = serL ((kids a).drop i) ++ r := by
  rw [ser_eq, serL_split (kids a) i]
  rw [show 1 + (serL ((kids a).take i)).length = (root0 a :: serL ((kids a).take i)).length by simp; omega]
  rw [show root0 a :: (serL ((kids a).take i) ++ serL ((kids a).drop i)) ++ r = (root0 a :: serL ((kids a).take i)) ++ (serL ((kids a).drop i) ++ r) by simp]
  rw [List.drop_left]

def LRl (a : Ex) (r : List Nd) (H : AH) (i : Nat) (fr : AFr) (H' : AH) : Prop :=
  fr 0 = xs (ser a ++ r) ∧ fr 3 = .int .i64 ((1 + (serL ((kids a).take i)).length : Nat) : Int) ∧ fr 4 = .int .i64 i ∧ i ≤ (kids a).length ∧ H' = H
theorem r7ExprLen : ∀ (n : Nat) (a : Ex) (r : List Nd), sz a ≤ n → sz a + r.length ≤ 4611686018427387904 → ∀ H, Sound E 59 [xs (ser a ++ r)] H (.ret (.int .i64 (sz a))) H
  | 0, a, r, hn, hl, H => by have := sz_pos a; omega
  | n + 1, a, r, hn, hl, H => by
    refine sound_of_awp tabOk mixed Tryd.func59 rfl (by rfl) Tryd.ntmps59 (by kernel_rfl) (by simp) ?_
    have hp := sz_pos a
    have hget : (ser a ++ r)[0]? = some (root0 a) := by rw [ser_eq]; rfl
    have hmap : ((ser a ++ r).map nd)[0]? = some (nd (root0 a)) := by rw [List.getElem?_map, hget]; rfl
    have hmapE : ∀ h, ((ser a ++ r).map nd)[0]'h = nd (root0 a) := fun h => (List.getElem?_eq_some_iff.1 hmap).2
    have hlen : (ser a ++ r).length = sz a + r.length := by simp [sz]
    have hne : (((ser a ++ r).length : Int) == 0) = false := by rw [hlen, beq_eq_false_iff_ne]; omega
    have hk := kids_le a
    have har := arity_root a
    have hsk := sz_kids a
    have hb : ∀ i, 1 + (serL ((kids a).take i)).length ≤ sz a := fun i => by
      have := congrArg List.length (serL_split (kids a) i)
      rw [List.length_append] at this; omega
    have hrest := rest_at a r
    have ih : ∀ (k : Ex) (i : Nat) (r' : List Nd), (kids a)[i]? = some k → sz k + r'.length ≤ 4611686018427387904 → ∀ H, Sound E 59 [xs (ser k ++ r')] H (.ret (.int .i64 (sz k))) H := fun k i r' hi hb H =>
      r7ExprLen n k r' (by have := kid_sz hi; omega) hb H
    unfold xs
    generalize hL : ser a ++ r = L at *
    simp [hne, hmap, hmapE]
    refine call_ret (r7Arity _ _) ?_
    rw [har]
    have h0 : ¬ (((kids a).length : Nat) : Int) < 0 := by omega
    simp [h0]
    refine loop_count (LRl a r H) (fun i => (kids a).length - i) 0 ⟨by simp [xs, hL], by simp [serL], by simp, by omega, rfl⟩ ?_
    rintro i fr H' ⟨g0, g3, g4, hi, rfl⟩
    rw [xs_eq, hL] at g0
    have hbi := hb i
    simp [g0, g4, hmap, hmapE]
    refine call_ret (r7Arity _ _) ?_
    rw [har]
    simp [g0, g4]
    refine branch (fun hc => ?_) (fun hc => ?_)
    · have hlt : i < (kids a).length := by simpa using hc
      obtain ⟨k, hki⟩ := get_lt hlt
      have hd := serL_drop hki
      have htk := serL_take hki
      have hszk : sz k = (ser k).length := rfl
      have hbi1 := hb (i + 1)
      rw [htk, List.length_append] at hbi1
      have hle : 1 + (serL ((kids a).take i)).length ≤ L.length := by omega
      have hdrop : L.drop (1 + (serL ((kids a).take i)).length) = ser k ++ (serL ((kids a).drop (i + 1)) ++ r) := by
        rw [hrest, hd]; simp
      have hdl := congrArg List.length hdrop
      simp only [List.length_drop, List.length_append] at hdl
      generalize hq : 1 + (serL ((kids a).take i)).length = q at *
      have hE : List.drop q (List.take L.length (L.map nd)) = (ser k ++ (serL ((kids a).drop (i + 1)) ++ r)).map nd := by
        rw [List.take_of_length_le (by simp), ← List.map_drop, hdrop]
      have w1 : IntKind.i64.wrap ((q : Int) + (sz k : Int)) = ((q + (ser k).length : Nat) : Int) := by rw [wrap64 (by omega) (by omega)]; omega
      have w2 : IntKind.i64.wrap ((i : Int) + 1) = ((i + 1 : Nat) : Int) := by rw [wrap64 (by omega) (by omega)]; omega
      have h00 : ¬ ((sz k : Nat) : Int) < 0 := by omega
      simp [g0, g3, g4]
      refine bind_if (szOk_map fun _ => rfl) ?_
      refine bind_if hle ?_
      rw [hE]
      simp
      have hS := ih k i (serL ((kids a).drop (i + 1)) ++ r) hki (by simp only [List.length_append]; omega) H'
      simp only [xs_eq, List.map_append] at hS
      refine call_ret hS ?_
      simp [g0, g3, g4, h00, w1, w2]
      exact ⟨i + 1, by show (kids a).length - (i + 1) < (kids a).length - i; omega, by simp [g0, xs, hL], by simp [htk, ← hq]; omega, by simp, by omega, rfl⟩
    · have hi' : i = (kids a).length := by have : ¬ i < (kids a).length := by simpa using hc
                                           omega
      subst hi'
      rw [List.take_length] at g3
      simp [g3]
      exact fin0 (rs := [.tmp 2]) (by rfl) (by simp [resA, g3, hsk])
end Go.Proofs.YtohmodcheahpgaaDoor.Arm

namespace Go.Proofs.YtohmodcheahpgaaDoor.Arm
open Go.Arm Go.Pl

theorem nd_all (l : List Nd) : (l.map nd).all (fun y => y.cells.length == 4 && y.cells.all okc) = true := by
  rw [List.all_eq_true]
  intro x hx
  obtain ⟨y, _, rfl⟩ := List.mem_map.1 hx
  rfl
theorem app_full {H : AH} {l m : List Nd} (hm : m ≠ []) (hb : l.length + m.length ≤ 1000000000) {f : Bool} :
    appendA tab H 23 (.slice (l.map nd) true) (.slice (m.map nd) f) = some (.ref H.length (l.length + m.length), H ++ [.row true 4 ((l ++ m).map nd)]) := by
  have h1 := nd_all m
  have h2 : (l.map nd).all (fun y => y.cells.length == 4) = true := by
    rw [List.all_eq_true]
    intro x hx
    obtain ⟨y, _, rfl⟩ := List.mem_map.1 hx
    rfl
  have h3 : (m.map nd).isEmpty = false := by simpa using hm
  simp only [appendA, tab23, tab62, els, h3, vcells, AV.cells, growA, growNew, h1, h2, List.length_map]
  simp
  omega
theorem app_ref {H : AH} {l m : List Nd} {b : Nat} {wr : Bool} (hm : m ≠ []) (hb : l.length + m.length ≤ 1000000000) {f : Bool} (hH : H[b]? = some (.row wr 4 (l.map nd))) :
    appendA tab H 23 (.ref b l.length) (.slice (m.map nd) f) = some (.ref b (l.length + m.length), H.set b (.row wr 4 ((l ++ m).map nd))) := by
  have h1 := nd_all m
  have h3 : (m.map nd).isEmpty = false := by simpa using hm
  simp only [appendA, tab23, tab62, els, h3, vcells, AV.cells, growA, hH, h1, List.length_map]
  simp
  omega

def LSm (l m : List Nd) (H : AH) (i : Nat) (fr : AFr) (H' : AH) : Prop :=
  fr 0 = xs l ∧ fr 1 = xs m ∧ fr 5 = .int .i64 i ∧ i ≤ l.length ∧ l.take i = m.take i ∧ H' = H
theorem r7Same (l m : List Nd) (hl : l.length ≤ 4611686018427387904) (hm : m.length ≤ 4611686018427387904) (H : AH) : Sound E 18 [xs l, xs m] H (.ret (.bool (decide (l = m)))) H := by
  refine sound_of_awp tabOk mixed Tryd.func18 rfl (by rfl) Tryd.ntmps18 (by kernel_rfl) (by simp) ?_
  unfold xs
  by_cases hlm : l.length = m.length
  · have h1 : ((l.length : Int) != (m.length : Int)) = false := by simp [hlm]
    simp [h1]
    refine loop_count (LSm l m H) (fun i => l.length - i) 0 ⟨by simp [xs], by simp [xs], by simp, by omega, by simp, rfl⟩ ?_
    rintro i fr H' ⟨g0, g1, g5, hi, ht, rfl⟩
    rw [xs_eq] at g0 g1
    simp [g0, g5]
    refine branch (fun hc => ?_) (fun hc => ?_)
    · have hlt : i < l.length := by simpa using hc
      obtain ⟨a, ha⟩ := get_lt hlt
      obtain ⟨b, hb⟩ := get_lt (l := m) (i := i) (by omega)
      have ha' : ∀ h, l[i]'h = a := fun h => (List.getElem?_eq_some_iff.1 ha).2
      have hb' : ∀ h, m[i]'h = b := fun h => (List.getElem?_eq_some_iff.1 hb).2
      simp [g0, g1, g5, ha, hb, ha', hb']
      refine endD [] (by rfl) (by simp [okW, note, Eff.triv, Eff.wr, Eff.none, upTo, newAt]) ?_
      have w2 : IntKind.i64.wrap ((i : Int) + 1) = ((i + 1 : Nat) : Int) := by rw [wrap64 (by omega) (by omega)]; omega
      have hab : (a.op == b.op && a.n == b.n && (a.c.1 == b.c.1 && a.c.2 == b.c.2)) = decide (a = b) := by
        obtain ⟨a1, a2, a3, a4⟩ := a
        obtain ⟨b1, b2, b3, b4⟩ := b
        simp only [Nd.mk.injEq, Prod.mk.injEq]
        by_cases h : a1 = b1 <;> by_cases h2 : a2 = b2 <;> by_cases h3 : a3 = b3 <;> by_cases h4 : a4 = b4 <;> simp [h, h2, h3, h4]
      simp [hab]
      refine branch (fun he => ?_) (fun he => ?_)
      · have hne : ¬ l = m := by
          rintro rfl
          rw [ha] at hb; cases hb
          simp at he
        simp [hne]
        exact fin0 (rs := [.tmp 4]) (by rfl) (by simp [resA])
      · have hee : a = b := by
          have he' : (a.op == b.op && a.n == b.n && (a.c.1 == b.c.1 && a.c.2 == b.c.2)) = true := by simpa using he
          rw [hab] at he'; simpa using he'
        simp [g5, w2]
        exact ⟨i + 1, by show l.length - (i + 1) < l.length - i; omega, by simp [g0, xs], by simp [g1, xs], by simp, by omega, by rw [List.take_add_one, List.take_add_one, ha, hb, ht, hee], rfl⟩
    · have hi' : i = l.length := by have : ¬ i < l.length := by simpa using hc
                                    omega
      have he : l = m := by
        have h1 : l.take i = l := List.take_of_length_le (by omega)
        have h2 : m.take i = m := List.take_of_length_le (by omega)
        rw [← h1, ht, h2]
      simp [he]
      exact fin0 (rs := [.tmp 4]) (by rfl) (by simp [resA])
  · have h1 : ((l.length : Int) != (m.length : Int)) = true := by simp; omega
    have h2 : ¬ l = m := by rintro rfl; exact hlm rfl
    simp [h1, h2]
    exact fin0 (rs := [.tmp 4]) (by rfl) (by simp [resA])

theorem r7Const (c : I) (H : AH) : Sound E 45 [iv c] H (.ret (xs (ser (.num c)))) H := by
  refine sound_of_awp tabOk mixed Tryd.func45 rfl (by rfl) Tryd.ntmps45 (by kernel_rfl) (by simp) ?_
  simp
  exact finC (rs := [.tmp 2]) (vs := [.slice [nd ⟨1, 0, c⟩] true]) (vs' := [.slice [nd ⟨1, 0, c⟩] false]) (by rfl) (by simp [resA]) (by simp; rfl) (by simp [noF, noFs]) rfl
theorem r7Unary (op : Int) (l : List Nd) (hl : l ≠ []) (hb : l.length ≤ 500000000) (H : AH) : Sound E 36 [.int .i64 op, xs l] H (.ret (xs (leafN op 0 :: l))) H := by
  refine sound_of_awp tabOk mixed Tryd.func36 rfl (by rfl) Tryd.ntmps36 (by kernel_rfl) (by simp) ?_
  unfold xs
  simp
  refine bind_some (app_full (l := [leafN op 0]) hl (by simp; omega)) ?_
  simp
  exact finC (rs := [.tmp 4]) (vs := [.ref H.length (1 + l.length)]) (vs' := [.slice ((leafN op 0 :: l).map nd) false]) (J' := [.row false 4 ((leafN op 0 :: l).map nd)]) (by rfl) (by simp [resA]) (by simp [Nat.add_comm]) (by
    simp only [noFs, noF, Bool.and_true]
    exact noFs_iff.2 fun x hx => by obtain ⟨y, _, rfl⟩ := List.mem_map.1 hx; rfl) rfl
end Go.Proofs.YtohmodcheahpgaaDoor.Arm

namespace Go.Proofs.YtohmodcheahpgaaDoor.Arm
open Go.Arm Go.Pl

theorem nd_noFs (l : List Nd) (n : Nat) : noFs n (l.map nd) = true := noFs_iff.2 fun x hx => by obtain ⟨y, _, rfl⟩ := List.mem_map.1 hx; rfl
theorem xs_noF (l : List Nd) (n : Nat) : noF n (xs l) = true := by simp only [xs, noF]; exact nd_noFs l n
theorem xss_noFs (ls : List (List Nd)) (n : Nat) : noFs n (ls.map xs) = true := noFs_iff.2 fun x hx => by obtain ⟨y, _, rfl⟩ := List.mem_map.1 hx; exact xs_noF y n

theorem r7Binary (op : Int) (l m : List Nd) (hl : l ≠ []) (hm : m ≠ []) (hb : l.length + m.length ≤ 500000000) (H : AH) : Sound E 22 [.int .i64 op, xs l, xs m] H (.ret (xs (leafN op 0 :: (l ++ m)))) H := by
  refine sound_of_awp tabOk mixed Tryd.func22 rfl (by rfl) Tryd.ntmps22 (by kernel_rfl) (by simp) ?_
  unfold xs
  simp
  refine bind_some (app_full (l := [leafN op 0]) hl (by simp; omega)) ?_
  have hr := fun Hx : AH => app_ref (H := Hx ++ [.row true 4 ((leafN op 0 :: l).map nd)]) (l := leafN op 0 :: l) (m := m) (b := Hx.length) (wr := true) (f := false) hm (by simp; omega) (by simp)
  have hr' := hr H
  rw [List.length_cons, Nat.add_comm l.length 1] at hr'
  simp
  simp at hr'
  refine bind_some hr' ?_
  simp
  exact finC (rs := [.tmp 6]) (vs := [.ref H.length (l.length + m.length + 1)]) (vs' := [.slice ((leafN op 0 :: (l ++ m)).map nd) false]) (J' := [.row false 4 ((leafN op 0 :: (l ++ m)).map nd)]) (by rfl) (by simp [resA]; omega) (by simp) (by
    simp only [noFs, noF, Bool.and_true]; exact nd_noFs _ _) (by simp [one])

def LOp (a : Ex) (v0 : AV) (ti to : Tmp) (ts : Tmp) (H : AH) (i : Nat) (fr : AFr) (H' : AH) : Prop :=
  fr 0 = xs (ser a) ∧ fr ts = .int .i64 ((1 + (serL ((kids a).take i)).length : Nat) : Int) ∧ fr ti = .int .i64 i ∧ i ≤ (kids a).length ∧ ∃ J, H' = H ++ J ∧ Acc H J (fr to) 1 (((kids a).take i).map fun k => xs (ser k)) v0
theorem oOperands (a : Ex) (hb : sz a ≤ 1000000000) (H : AH) : Sound E 53 [xs (ser a)] H (.ret (.slice ((kids a).map fun k => xs (ser k)) false)) H := by
  refine sound_of_awp tabOk mixed Tryd.func53 rfl (by rfl) Tryd.ntmps53 (by kernel_rfl) (by simp) ?_
  have hget : (ser a)[0]? = some (root0 a) := by rw [ser_eq]; rfl
  have hmap : ((ser a).map nd)[0]? = some (nd (root0 a)) := by rw [List.getElem?_map, hget]; rfl
  have hmapE : ∀ h, ((ser a).map nd)[0]'h = nd (root0 a) := fun h => (List.getElem?_eq_some_iff.1 hmap).2
  have hk := kids_le a
  have hsk := sz_kids a
  have hrest := fun i => rest_at a [] i
  have hbk : ∀ i, 1 + (serL ((kids a).take i)).length ≤ sz a := fun i => by
    have := congrArg List.length (serL_split (kids a) i)
    rw [List.length_append] at this; omega
  have hsa : (ser a).length = sz a := rfl
  unfold xs
  simp [hmap, hmapE]
  refine call_ret (oArity _ _) ?_
  rw [arity_root]
  simp
  refine loop_count (fun i fr H' => LOp a .nilslice 11 3 4 H i fr H' ∧ fr 10 = .int .i64 (kids a).length) (fun i => (kids a).length - i) 0 ⟨⟨by simp [xs], by simp [serL], by simp, by omega, [], by simp, .inl ⟨by simp, by simp⟩⟩, by simp⟩ ?_
  rintro i fr H' ⟨⟨g0, g4, g11, hi, J, rfl, hacc⟩, g10⟩
  rw [xs_eq] at g0
  simp [g11, g10]
  refine branch (fun hc => ?_) (fun hc => ?_)
  · have hlt : i < (kids a).length := by simpa using hc
    obtain ⟨k, hki⟩ := get_lt hlt
    have hd := serL_drop hki
    have htk := serL_take hki
    have hszk : sz k = (ser k).length := rfl
    have hbi := hbk i
    have hbi1 := hbk (i + 1)
    rw [htk, List.length_append] at hbi1
    have hdrop : (ser a).drop (1 + (serL ((kids a).take i)).length) = ser k ++ serL ((kids a).drop (i + 1)) := by
      have := hrest i
      rw [List.append_nil, List.append_nil] at this
      rw [this, hd]
    have hdl := congrArg List.length hdrop
    simp only [List.length_drop, List.length_append] at hdl
    generalize hq : 1 + (serL ((kids a).take i)).length = q at *
    have hE : List.drop q (List.take (ser a).length ((ser a).map nd)) = (ser k ++ serL ((kids a).drop (i + 1))).map nd := by
      rw [List.take_of_length_le (by simp), ← List.map_drop, hdrop]
    have hE2 : List.drop q (List.take (q + (ser k).length) ((ser a).map nd)) = (ser k).map nd := by
      rw [← List.map_take, ← List.map_drop, List.drop_take, hdrop, Nat.add_sub_cancel_left, List.take_left]
    have w1 : IntKind.i64.wrap ((q : Int) + (sz k : Int)) = ((q + (ser k).length : Nat) : Int) := by rw [wrap64 (by omega) (by omega)]; omega
    have w2 : IntKind.i64.wrap ((i : Int) + 1) = ((i + 1 : Nat) : Int) := by rw [wrap64 (by omega) (by omega)]; omega
    have hS := oExprLen k (serL ((kids a).drop (i + 1))) (by omega) (H ++ J)
    simp only [xs_eq, List.map_append] at hS
    simp [g0, g4, g11]
    refine bind_if (szOk_map fun _ => rfl) ?_
    refine bind_if (by omega) ?_
    rw [hE]
    simp
    refine call_ret hS ?_
    simp [g0, g4, g11, w1]
    refine bind_if (szOk_map fun _ => rfl) ?_
    refine bind_if (by omega) ?_
    have e2 : ((q : Int) + ((ser k).length : Int)).toNat = q + (ser k).length := by omega
    rw [e2, hE2]
    obtain ⟨v', J', hap, hacc', _⟩ := Acc.push (T := tab) (t := 22) (e := 23) (x := .slice [xs (ser k)] true) hacc tab22 rfl tab23 rfl rfl (by simp [xs, okc]) ⟨by decide, by simp⟩ (by simp; omega) (by simp; omega)
    simp only [xs_eq] at hap
    simp
    refine bind_some hap ?_
    simp [g0, g10, g11, w2]
    refine ⟨i + 1, by show (kids a).length - (i + 1) < (kids a).length - i; omega, ⟨by simp [g0, xs], by simp [htk, ← hq]; omega, by simp, by omega, J', rfl, ?_⟩, by simp [g10]⟩
    rw [List.take_add_one, hki]
    simpa using hacc'
  · have hi' : i = (kids a).length := by have : ¬ i < (kids a).length := by simpa using hc
                                         omega
    subst hi'
    rw [List.take_length] at hacc
    simp
    exact finS (t := 2) (by rfl) (by simp) hacc rfl (by have h := xss_noFs ((kids a).map ser) H.length; rw [List.map_map] at h; exact h)

theorem r7Operands (a : Ex) (hb : sz a ≤ 1000000000) (H : AH) : Sound E 60 [xs (ser a)] H (.ret (.slice ((kids a).map fun k => xs (ser k)) false)) H := by
  refine sound_of_awp tabOk mixed Tryd.func60 rfl (by rfl) Tryd.ntmps60 (by kernel_rfl) (by simp) ?_
  have hget : (ser a)[0]? = some (root0 a) := by rw [ser_eq]; rfl
  have hmap : ((ser a).map nd)[0]? = some (nd (root0 a)) := by rw [List.getElem?_map, hget]; rfl
  have hmapE : ∀ h, ((ser a).map nd)[0]'h = nd (root0 a) := fun h => (List.getElem?_eq_some_iff.1 hmap).2
  have hk := kids_le a
  have hsk := sz_kids a
  have hrest := fun i => rest_at a [] i
  have hbk : ∀ i, 1 + (serL ((kids a).take i)).length ≤ sz a := fun i => by
    have := congrArg List.length (serL_split (kids a) i)
    rw [List.length_append] at this; omega
  have hsa : (ser a).length = sz a := rfl
  unfold xs
  simp
  refine loop_count (fun i fr H' => LOp a (.slice [] true) 5 3 4 H i fr H') (fun i => (kids a).length - i) 0 ⟨by simp [xs], by simp [serL], by simp, by omega, [], by simp, .inl ⟨by simp, by simp⟩⟩ ?_
  rintro i fr H' ⟨g0, g4, g5, hi, J, rfl, hacc⟩
  rw [xs_eq] at g0
  simp [g0, g5, hmap, hmapE]
  refine call_ret (r7Arity _ _) ?_
  rw [arity_root]
  simp [g0, g5]
  refine branch (fun hc => ?_) (fun hc => ?_)
  · have hlt : i < (kids a).length := by simpa using hc
    obtain ⟨k, hki⟩ := get_lt hlt
    have hd := serL_drop hki
    have htk := serL_take hki
    have hszk : sz k = (ser k).length := rfl
    have hbi := hbk i
    have hbi1 := hbk (i + 1)
    rw [htk, List.length_append] at hbi1
    have hdrop : (ser a).drop (1 + (serL ((kids a).take i)).length) = ser k ++ serL ((kids a).drop (i + 1)) := by
      have := hrest i
      rw [List.append_nil, List.append_nil] at this
      rw [this, hd]
    have hdl := congrArg List.length hdrop
    simp only [List.length_drop, List.length_append] at hdl
    generalize hq : 1 + (serL ((kids a).take i)).length = q at *
    have hE : List.drop q (List.take (ser a).length ((ser a).map nd)) = (ser k ++ serL ((kids a).drop (i + 1))).map nd := by
      rw [List.take_of_length_le (by simp), ← List.map_drop, hdrop]
    have hE2 : List.drop q (List.take (q + (ser k).length) ((ser a).map nd)) = (ser k).map nd := by
      rw [← List.map_take, ← List.map_drop, List.drop_take, hdrop, Nat.add_sub_cancel_left, List.take_left]
    have w1 : IntKind.i64.wrap ((q : Int) + (sz k : Int)) = ((q + (ser k).length : Nat) : Int) := by rw [wrap64 (by omega) (by omega)]; omega
    have w2 : IntKind.i64.wrap ((i : Int) + 1) = ((i + 1 : Nat) : Int) := by rw [wrap64 (by omega) (by omega)]; omega
    have hS := r7ExprLen (sz k) k (serL ((kids a).drop (i + 1))) (Nat.le_refl _) (by omega) (H ++ J)
    simp only [xs_eq, List.map_append] at hS
    simp [g0, g4, g5]
    refine bind_if (szOk_map fun _ => rfl) ?_
    refine bind_if (by omega) ?_
    rw [hE]
    simp
    refine call_ret hS ?_
    simp [g0, g4, g5, w1]
    refine bind_if (szOk_map fun _ => rfl) ?_
    refine bind_if (by omega) ?_
    have e2 : ((q : Int) + ((ser k).length : Int)).toNat = q + (ser k).length := by omega
    rw [e2, hE2]
    obtain ⟨v', J', hap, hacc', _⟩ := Acc.push (T := tab) (t := 22) (e := 23) (x := .slice [xs (ser k)] true) hacc tab22 rfl tab23 rfl rfl (by simp [xs, okc]) ⟨by decide, by simp⟩ (by simp; omega) (by simp; omega)
    simp only [xs_eq] at hap
    simp
    refine bind_some hap ?_
    simp [g0, g4, g5, w1, w2]
    refine ⟨i + 1, by show (kids a).length - (i + 1) < (kids a).length - i; omega, by simp [g0, xs], by simp [htk, ← hq]; omega, by simp, by omega, J', rfl, ?_⟩
    rw [List.take_add_one, hki]
    simpa using hacc'
  · have hi' : i = (kids a).length := by have : ¬ i < (kids a).length := by simpa using hc
                                         omega
    subst hi'
    rw [List.take_length] at hacc
    simp
    exact finS (t := 2) (by rfl) (by simp) hacc rfl (by have h := xss_noFs ((kids a).map ser) H.length; rw [List.map_map] at h; exact h)
end Go.Proofs.YtohmodcheahpgaaDoor.Arm

namespace Go.Proofs.YtohmodcheahpgaaDoor.Arm
open Go.Arm Go.Pl

theorem grow0 (H : AH) : Sound E 85 [.nilslice, .int .i64 0] H (.ret .nilslice) H := by
  refine sound_of_awp tabOk mixed Tryd.func85 rfl (by rfl) Tryd.ntmps85 (by kernel_rfl) (by simp) ?_
  have w : IntKind.i64.wrap 0 = 0 := by decide
  simp [w]
  exact fin0 (rs := [.tmp 4]) (by rfl) (by simp [resA])
theorem growN (n : Int) (hn : 0 < n ∧ n ≤ 1000000000) (H : AH) : Sound E 85 [.nilslice, .int .i64 n] H (.ret (.ref H.length 0)) (H ++ [.row true 4 []]) := by
  refine sound_of_awp tabOk mixed Tryd.func85 rfl (by rfl) Tryd.ntmps85 (by kernel_rfl) (by simp) ?_
  have w : IntKind.i64.wrap 0 = 0 := by decide
  have w2 : IntKind.i64.wrap n = n := wrap64 (by omega) (by omega)
  have h1 : ¬ n < 0 := by omega
  simp [w, w2, h1, hn.1]
  refine bind_if (by omega) ?_
  simp
  exact finK (rs := [.tmp 4]) (vs := [.ref H.length 0]) (by rfl) (by simp [resA]) rfl

def LCa (ls : List (List Nd)) (H : AH) (i : Nat) (fr : AFr) (H' : AH) : Prop :=
  fr 0 = .slice (ls.map xs) false ∧ fr 3 = .int .i64 ((ls.take i).flatten.length : Nat) ∧ fr 9 = .slice (ls.map xs) false ∧ fr 10 = .int .i64 ls.length ∧ fr 11 = .int .i64 i ∧ i ≤ ls.length ∧ H' = H
def LCb (ls : List (List Nd)) (H : AH) (i : Nat) (fr : AFr) (H' : AH) : Prop :=
  fr 25 = .slice (ls.map xs) false ∧ fr 26 = .int .i64 ls.length ∧ fr 27 = .int .i64 i ∧ i ≤ ls.length ∧ ∃ J, H' = H ++ J ∧ Acc H J (fr 6) 4 ((ls.take i).flatten.map nd) .nilslice
theorem flat_take_le {α : Type} (ls : List (List α)) (i : Nat) : (ls.take i).flatten.length ≤ ls.flatten.length := by
  have : ls.flatten = (ls.take i).flatten ++ (ls.drop i).flatten := by rw [← List.flatten_append, List.take_append_drop]
  rw [this]; simp
theorem concat (ls : List (List Nd)) (hl : ls.length ≤ 1000000000) (hb : ls.flatten.length ≤ 500000000) (H : AH) :
    Sound E 58 [.slice (ls.map xs) false] H (.ret (xs ls.flatten)) H := by
  refine sound_of_awp tabOk mixed Tryd.func58 rfl (by rfl) Tryd.ntmps58 (by kernel_rfl) (by simp) ?_
  simp
  refine loop_count (LCa ls H) (fun i => ls.length - i) 0 ⟨by simp, by simp, by simp, by simp, by simp, by omega, rfl⟩ ?_
  rintro i fr H' ⟨g0, g3, g9, g10, g11, hi, rfl⟩
  simp [g10, g11]
  refine branch (fun hc => ?_) (fun hc => ?_)
  · have hlt : i < ls.length := by simpa using hc
    obtain ⟨l, hli⟩ := get_lt hlt
    have hliE : ∀ h, ls[i]'h = l := fun h => (List.getElem?_eq_some_iff.1 hli).2
    have hf1 := flat_take_le ls i
    have hf2 := flat_take_le ls (i + 1)
    have hft : (ls.take (i + 1)).flatten = (ls.take i).flatten ++ l := by rw [List.take_add_one, hli]; simp
    rw [hft, List.length_append] at hf2
    generalize hq : (ls.take i).flatten.length = q at *
    have w1 : IntKind.i64.wrap ((q : Int) + (l.length : Int)) = ((q + l.length : Nat) : Int) := by rw [wrap64 (by omega) (by omega)]; omega
    have w2 : IntKind.i64.wrap ((i : Int) + 1) = ((i + 1 : Nat) : Int) := by rw [wrap64 (by omega) (by omega)]; omega
    have h0 : ¬ ((q : Int) + (l.length : Int) < 0) := by omega
    simp [g3, g9, g11, hli, hliE, xs, w1, h0, w2]
    exact ⟨i + 1, by show ls.length - (i + 1) < ls.length - i; omega, by simp [g0], by simp [hft, hq], by simp [g9], by simp [g10], by simp, by omega, rfl⟩
  · have hi' : i = ls.length := by have : ¬ i < ls.length := by simpa using hc
                                   omega
    subst hi'
    rw [List.take_length] at g3
    have body : ∀ (i : Nat) (fr : AFr) (J : AH), LCb ls H' i fr (H' ++ J) → i < ls.length → ∃ l v' J', ls[i]? = some l ∧ appendA tab (H' ++ J) 23 (fr 6) (xs l) = some (v', H' ++ J') ∧ Acc H' J' v' 4 ((ls.take (i + 1)).flatten.map nd) .nilslice := by
      rintro i fr J ⟨_, _, _, _, J1, hJ, hacc⟩ hlt
      obtain rfl := List.append_cancel_left hJ
      obtain ⟨l, hli⟩ := get_lt hlt
      have hf2 := flat_take_le ls (i + 1)
      have hft : (ls.take (i + 1)).flatten = (ls.take i).flatten ++ l := by rw [List.take_add_one, hli]; simp
      rw [hft, List.length_append] at hf2
      obtain ⟨v', J', hap, hacc', _⟩ := Acc.push (T := tab) (t := 23) (e := 62) (x := xs l) (ys := l.map nd) hacc tab23 rfl tab62 rfl rfl (nd_all l) ⟨by decide, by simp⟩ (by rw [List.length_map, List.length_map]; dsimp only; omega) (by rw [List.length_map, List.length_map]; omega)
      exact ⟨l, v', J', hli, hap, by rw [hft, List.map_append]; exact hacc'⟩
    by_cases hz : ls.flatten.length = 0
    · rw [hz] at g3
      simp [g0, g3]
      refine call_ret (grow0 _) ?_
      simp [g0]
      refine loop_count (LCb ls H') (fun i => ls.length - i) 0 ⟨by simp, by simp, by simp, by omega, [], by simp, .inl ⟨by simp, by simp⟩⟩ ?_
      rintro i fr2 H2 ⟨k25, k26, k27, hk, J, rfl, hacc⟩
      simp [k26, k27]
      refine branch (fun hc2 => ?_) (fun hc2 => ?_)
      · have hlt : i < ls.length := by simpa using hc2
        obtain ⟨l, v', J', hli, hap, hacc'⟩ := body i fr2 J ⟨k25, k26, k27, hk, J, rfl, hacc⟩ hlt
        have hliE : ∀ h, ls[i]'h = l := fun h => (List.getElem?_eq_some_iff.1 hli).2
        have w2 : IntKind.i64.wrap ((i : Int) + 1) = ((i + 1 : Nat) : Int) := by rw [wrap64 (by omega) (by omega)]; omega
        simp [k25, k27, hli, hliE, xs]
        simp only [xs_eq] at hap
        refine bind_some hap ?_
        simp [k27, w2]
        exact ⟨i + 1, by show ls.length - (i + 1) < ls.length - i; omega, by simp [k25], by simp [k26], by simp, by omega, J', rfl, by simpa using hacc'⟩
      · have hi2 : i = ls.length := by have : ¬ i < ls.length := by simpa using hc2
                                       omega
        subst hi2
        rw [List.take_length] at hacc
        simp
        exact finS (t := 2) (by rfl) (by simp) hacc rfl (nd_noFs _ _)
    · have hz' : 0 < (ls.flatten.length : Int) ∧ (ls.flatten.length : Int) ≤ 1000000000 := by omega
      rw [show ((ls.flatten.length : Nat) : Int) = (ls.flatten.length : Int) from rfl] at g3
      generalize hq : (ls.flatten.length : Int) = q at g3 hz'
      simp [g0, g3]
      refine call_ret (growN q hz' _) ?_
      simp [g0]
      refine loop_count (LCb ls H') (fun i => ls.length - i) 0 ⟨by simp, by simp, by simp, by omega, [.row true 4 []], by simp, .inr ⟨0, by simp, by simp⟩⟩ ?_
      rintro i fr2 H2 ⟨k25, k26, k27, hk, J, rfl, hacc⟩
      simp [k26, k27]
      refine branch (fun hc2 => ?_) (fun hc2 => ?_)
      · have hlt : i < ls.length := by simpa using hc2
        obtain ⟨l, v', J', hli, hap, hacc'⟩ := body i fr2 J ⟨k25, k26, k27, hk, J, rfl, hacc⟩ hlt
        have hliE : ∀ h, ls[i]'h = l := fun h => (List.getElem?_eq_some_iff.1 hli).2
        have w2 : IntKind.i64.wrap ((i : Int) + 1) = ((i + 1 : Nat) : Int) := by rw [wrap64 (by omega) (by omega)]; omega
        simp [k25, k27, hli, hliE, xs]
        simp only [xs_eq] at hap
        refine bind_some hap ?_
        simp [k27, w2]
        exact ⟨i + 1, by show ls.length - (i + 1) < ls.length - i; omega, by simp [k25], by simp [k26], by simp, by omega, J', rfl, by simpa using hacc'⟩
      · have hi2 : i = ls.length := by have : ¬ i < ls.length := by simpa using hc2
                                       omega
        subst hi2
        rw [List.take_length] at hacc
        simp
        exact finS (t := 2) (by rfl) (by simp) hacc rfl (nd_noFs _ _)
end Go.Proofs.YtohmodcheahpgaaDoor.Arm

namespace Go.Proofs.YtohmodcheahpgaaDoor.Arm
open Go.Arm Go.Pl

/-- The end of a function that lays nothing and hands out values that are read as such. -/
theorem finC0 {fn : Func} {rs : List ResultVar} {fr : AFr} {H0 : AH} {vs vs' : List AV} {v : AV} {e : AExit} (hr : fn.results.toList = rs) (h : resA E fr H0 rs = some vs) (hc : convL H0 vs = (vs', H0)) (hv : noFs H0.length vs' = true) (ho : one vs' = v)
    (hx : e = .ret ∨ e = .normal := by simp) : bodyK E fn H0 (.ret v) H0 e fr H0 := by
  have := finC (E := E) (fr := fr) (J := []) (J' := []) (H0 := H0) (vs := vs) (vs' := vs') (e := e) hr (by rw [List.append_nil]; exact h) (by rw [List.append_nil]; exact hc) hv ho hx
  rwa [List.append_nil] at this

theorem jNumber (n : Int) (hn : -1000000 ≤ n ∧ n ≤ 1000000) (H : AH) : Sound E 84 [.int .i64 n] H (.ret (xs (ser (number n)))) H := by
  refine sound_of_awp tabOk mixed Tryd.func84 rfl (by rfl) Tryd.ntmps84 (by kernel_rfl) (by simp) ?_
  have w : IntKind.i64.wrap (n * 65536) = n * 65536 := wrap64 (by omega) (by omega)
  simp [w]
  refine call_ret (iPoint _ _) ?_
  simp
  exact finC0 (rs := [.tmp 2]) (vs := [.slice [nd ⟨1, 0, pt (n * 65536)⟩] true]) (vs' := [.slice [nd ⟨1, 0, pt (n * 65536)⟩] false]) (by rfl) (by simp [resA]) (by simp) (by simp [noF, noFs]) rfl
theorem jApply (op : Int) (ls : List (List Nd)) (hne : ls.flatten ≠ []) (hl : ls.length ≤ 1000000000) (hb : ls.flatten.length ≤ 500000000) (H : AH) :
    Sound E 81 [.int .i64 op, .slice (ls.map xs) false] H (.ret (xs (leafN op 0 :: ls.flatten))) H := by
  refine sound_of_awp tabOk mixed Tryd.func81 rfl (by rfl) Tryd.ntmps81 (by kernel_rfl) (by simp) ?_
  have hC := fun Hx => concat ls hl hb Hx
  generalize ls.flatten = l at *
  simp
  refine call_ret (hC _) ?_
  simp only [xs_eq]
  simp
  refine bind_some (app_full (l := [leafN op 0]) hne (by rw [show ([leafN op 0] : List Nd).length = 1 from rfl]; omega)) ?_
  simp
  exact finC (rs := [.tmp 4]) (vs := [.ref H.length (1 + l.length)]) (vs' := [xs (leafN op 0 :: l)]) (J' := [.row false 4 ((leafN op 0 :: l).map nd)]) (by rfl) (by simp [resA]) (by simp [Nat.add_comm, xs]) (by
    simp only [noFs, Bool.and_true]; exact xs_noF _ _) (by simp [one, xs])

def ptV (a : Ex) : Int := (isPt a).getD 0
theorem ser_ne1 {a : Ex} (h : ∀ c i, a ≠ .num c ∧ a ≠ .var i ∧ a ≠ .time) : (ser a).length ≠ 1 := by
  cases a with
  | num c => exact absurd rfl (h c 0).1
  | var i => exact absurd rfl (h (0, 0) i).2.1
  | time => exact absurd rfl (h (0, 0) 0).2.2
  | un o a => have := sz_pos a; simp only [sz] at this; simp [ser]; intro e; rw [e] at this; simp at this
  | bin o a b => have := sz_pos a; simp only [sz] at this; simp [ser]; intro e; rw [e] at this; simp at this
theorem jPoint (a : Ex) (hb : sz a ≤ 1000000000) (H : AH) : Sound E 79 [xs (ser a)] H (.ret (.tuple [.int .i64 (ptV a), .bool (isPt a).isSome])) H := by
  refine sound_of_awp tabOk mixed Tryd.func79 rfl (by rfl) Tryd.ntmps79 (by kernel_rfl) (by simp) ?_
  have big : (∀ c i, a ≠ .num c ∧ a ≠ .var i ∧ a ≠ .time) → (((ser a).length : Int) != 1) = true := fun h => by
    have := ser_ne1 h
    simp only [bne_iff_ne, ne_eq]; omega
  have fin : ∀ {fr : AFr} {x : AExit} (p : Int) (q : Bool), fr 2 = .int .i64 p → fr 3 = .bool q → p = ptV a → q = (isPt a).isSome → (x = .ret ∨ x = .normal) → bodyK E Tryd.f79 H (.ret (.tuple [.int .i64 (ptV a), .bool (isPt a).isSome])) H x fr H := by
    rintro fr x p q h1 h2 rfl rfl hx
    exact finK (rs := [.tmp 2, .tmp 3]) (vs := [.int .i64 (ptV a), .bool (isPt a).isSome]) (by rfl) (by simp [resA, h1, h2]) rfl hx
  unfold xs
  cases a with
  | num c =>
    simp [ser]
    by_cases hc : c.1 = c.2
    · have h1 : (c.1 != c.2) = false := by simp [hc]
      simp [h1]
      refine endD [] (by rfl) (by simp [okW, note, Eff.triv, Eff.wr, Eff.none, upTo, newAt]) ?_
      simp
      exact fin c.1 true (by simp) (by simp) (by simp [ptV, isPt, hc]) (by simp [isPt, hc]) (by simp)
    · have h1 : (c.1 != c.2) = true := by simp [hc]
      simp [h1]
      refine endD [] (by rfl) (by simp [okW, note, Eff.triv, Eff.wr, Eff.none, upTo, newAt]) ?_
      simp
      exact fin 0 false (by simp) (by simp) (by simp [ptV, isPt, hc]) (by simp [isPt, hc]) (by simp)
  | var i =>
    simp [ser, leafN]
    refine endD [] (by rfl) (by simp [okW, note, Eff.triv, Eff.wr, Eff.none, upTo, newAt]) ?_
    simp
    exact fin 0 false (by simp) (by simp) (by simp [ptV, isPt]) (by simp [isPt]) (by simp)
  | time =>
    simp [ser, leafN]
    refine endD [] (by rfl) (by simp [okW, note, Eff.triv, Eff.wr, Eff.none, upTo, newAt]) ?_
    simp
    exact fin 0 false (by simp) (by simp) (by simp [ptV, isPt]) (by simp [isPt]) (by simp)
  | un o b =>
    have h1 := big (fun c i => ⟨by simp, by simp, by simp⟩)
    generalize ser (.un o b) = L at *
    simp [h1]
    refine endD [] (by rfl) (by simp [okW, note, Eff.triv, Eff.wr, Eff.none, upTo, newAt]) ?_
    simp
    exact fin 0 false (by simp) (by simp) (by simp [ptV, isPt]) (by simp [isPt]) (by simp)
  | bin o b d =>
    have h1 := big (fun c i => ⟨by simp, by simp, by simp⟩)
    generalize ser (.bin o b d) = L at *
    simp [h1]
    refine endD [] (by rfl) (by simp [okW, note, Eff.triv, Eff.wr, Eff.none, upTo, newAt]) ?_
    simp
    exact fin 0 false (by simp) (by simp) (by simp [ptV, isPt]) (by simp [isPt]) (by simp)
theorem isK_pt (a : Ex) (x : Int) : isK a x = ((isPt a).isSome && ptV a == x) := by
  cases a with
  | num c =>
    simp only [isK, isPt, ptV]
    by_cases hc : c.1 = c.2
    · simp [hc]
    · simp [hc]
      intro h1 h2; omega
  | _ => simp [isK, isPt]
theorem jIs (a : Ex) (x : Int) (hb : sz a ≤ 1000000000) (H : AH) : Sound E 55 [xs (ser a), .int .i64 x] H (.ret (.bool (isK a x))) H := by
  refine sound_of_awp tabOk mixed Tryd.func55 rfl (by rfl) Tryd.ntmps55 (by kernel_rfl) (by simp) ?_
  simp
  refine call_ret (jPoint a hb _) ?_
  rw [isK_pt]
  simp
  cases (isPt a).isSome with
  | true =>
    simp
    exact fin0 (rs := [.tmp 4]) (by rfl) (by simp [resA])
  | false =>
    simp
    exact fin0 (rs := [.tmp 4]) (by rfl) (by simp [resA])
end Go.Proofs.YtohmodcheahpgaaDoor.Arm

namespace Go.Proofs.YtohmodcheahpgaaDoor.Arm
open Go.Arm Go.Pl

/-- An operation on two point constants. -/
def foldR (f : I → I → I) (a b : Ex) : Option I :=
  match a, b with
  | .num c, .num d => if c.1 = c.2 ∧ d.1 = d.2 then some (f c d) else none
  | _, _ => none
def foldA : Option I → AV
  | some r => xs (ser (.num r))
  | none => .slice [] false
def foldOk : Option I → Bool
  | some r => r.1 == r.2
  | none => false
theorem foldC_eq (f : I → I → I) (a b e : Ex) : (foldC f a b).getD e = if foldOk (foldR f a b) then (.num ((foldR f a b).getD (0, 0))) else e := by
  cases a with
  | num c =>
    cases b with
    | num d =>
      by_cases h : c.1 = c.2 ∧ d.1 = d.2
      · by_cases h2 : (f c d).1 = (f c d).2
        · simp [foldC, foldR, foldOk, h.1, h.2, h2]
        · simp [foldC, foldR, foldOk, h.1, h.2, h2]
      · have h3 : ¬ (c.1 = c.2 ∧ d.1 = d.2 ∧ (f c d).1 = (f c d).2) := fun x => h ⟨x.1, x.2.1⟩
        have e1 : foldR f (.num c) (.num d) = none := by unfold foldR; exact if_neg h
        have e2 : foldC f (.num c) (.num d) = none := by unfold foldC; exact if_neg h3
        rw [e1, e2]; rfl
    | _ => simp [foldC, foldR, foldOk]
  | _ => simp [foldC, foldR, foldOk]
theorem isPt_some {a : Ex} {x : Int} (h : isPt a = some x) : a = .num (x, x) := by
  cases a with
  | num c =>
    obtain ⟨p, q⟩ := c
    simp only [isPt] at h
    split at h
    · rename_i he; simp at h he; subst h he; rfl
    · cases h
  | _ => simp [isPt] at h
theorem jFold (g : FuncId) (f : I → I → I) (hg : ∀ c d, vB c = true → vB d = true → ∀ Hx, Sound E g [iv c, iv d] Hx (.ret (iv (f c d))) Hx) (a b : Ex) {k : Nat} (ha : wf k a = true) (hb : wf k b = true) (hsa : sz a ≤ 1000000000) (hsb : sz b ≤ 1000000000) (H : AH) :
    Sound E 83 [fnA g, xs (ser a), xs (ser b)] H (.ret (.tuple [foldA (foldR f a b), .bool (foldOk (foldR f a b))])) H := by
  refine sound_of_awp tabOk mixed Tryd.func83 rfl (by rfl) Tryd.ntmps83 (by kernel_rfl) (by simp) ?_
  have nil : ∀ {fr : AFr} {x : AExit}, fr 6 = .nilslice → fr 7 = .bool false → foldR f a b = none → (x = .ret ∨ x = .normal) → bodyK E Tryd.f83 H (.ret (.tuple [foldA (foldR f a b), .bool (foldOk (foldR f a b))])) H x fr H := by
    rintro fr x h1 h2 h3 hx
    rw [h3]
    exact finC0 (rs := [.tmp 6, .tmp 7]) (vs := [.nilslice, .bool false]) (vs' := [.slice [] false, .bool false]) (by rfl) (by simp [resA, h1, h2]) (by simp) (by simp [noF, noFs]) rfl hx
  simp
  refine call_ret (jPoint a hsa _) ?_
  simp
  refine call_ret (jPoint b hsb _) ?_
  simp
  cases h1 : isPt a with
  | none =>
    have h0 : foldR f a b = none := by
      unfold foldR
      split
      · rename_i c d
        simp only [isPt] at h1
        split at h1
        · cases h1
        · rename_i hc; rw [if_neg (fun x => hc x.1)]
      · rfl
    simp
    exact nil (by simp) (by simp) h0 (by simp)
  | some x =>
    cases h2 : isPt b with
    | none =>
      have h0 : foldR f a b = none := by
        unfold foldR
        split
        · rename_i c d
          simp only [isPt] at h2
          split at h2
          · cases h2
          · rename_i hc; rw [if_neg (fun x => hc x.2)]
        · rfl
      simp
      exact nil (by simp) (by simp) h0 (by simp)
    | some y =>
      obtain rfl := isPt_some h1
      obtain rfl := isPt_some h2
      have h0 : foldR f (.num (x, x)) (.num (y, y)) = some (f (x, x) (y, y)) := by simp [foldR]
      rw [h0]
      simp [ser, xs]
      refine callD_ret0 (hg (x, x) (y, y) ha hb) ?_
      generalize f (x, x) (y, y) = r
      simp
      refine endD [(10, 11)] (by rfl) (by simp [okW, note, Eff.triv, Eff.wr, Eff.none, upTo, newAt]) ?_
      simp
      refine endD [] (by rfl) (by simp [okW, note, Eff.triv, Eff.wr, Eff.none, upTo, newAt]) ?_
      simp
      exact finC (rs := [.tmp 6, .tmp 7]) (vs := [.slice [nd ⟨1, 0, r⟩] true, .bool (r.1 == r.2)]) (vs' := [.slice [nd ⟨1, 0, r⟩] false, .bool (r.1 == r.2)]) (by rfl) (by simp [resA]) (by simp; rfl) (by simp [noF, noFs]) rfl
theorem jApply1 (op : Int) (a : Ex) (hb : sz a ≤ 500000000) (H : AH) : Sound E 81 [.int .i64 op, .slice [xs (ser a)] false] H (.ret (xs (leafN op 0 :: ser a))) H := by
  have h := jApply op [ser a] (by have := sz_pos a; simp only [sz] at this; intro e; rw [show ([ser a] : List (List Nd)).flatten = ser a by simp] at e; rw [e] at this; simp at this) (by simp) (by simpa [sz] using hb) H
  rw [show ([ser a] : List (List Nd)).flatten = ser a by simp] at h
  exact h
theorem jApply2 (op : Int) (a b : Ex) (hb : sz a + sz b ≤ 500000000) (H : AH) : Sound E 81 [.int .i64 op, .slice [xs (ser a), xs (ser b)] false] H (.ret (xs (leafN op 0 :: (ser a ++ ser b)))) H := by
  have e : ([ser a, ser b] : List (List Nd)).flatten = ser a ++ ser b := by simp
  have h := jApply op [ser a, ser b] (by rw [e]; have := sz_pos a; simp only [sz] at this; intro e; rw [List.append_eq_nil_iff] at e; rw [e.1] at this; simp at this) (by simp) (by rw [e, List.length_append]; simpa [sz] using hb) H
  rw [e] at h
  exact h
theorem jSimplifyNeg (a : Ex) {k : Nat} (ha : wf k a = true) (hsa : sz a ≤ 100000000) (H : AH) : Sound E 54 [xs (ser a)] H (.ret (xs (ser (smpNeg a)))) H := by
  refine sound_of_awp tabOk mixed Tryd.func54 rfl (by rfl) Tryd.ntmps54 (by kernel_rfl) (by simp) ?_
  simp
  refine call_ret (jPoint a (by omega) _) ?_
  simp
  cases h1 : isPt a with
  | some x =>
    obtain rfl := isPt_some h1
    have hv := vB_bounds (a := (x, x)) ha
    have w : IntKind.i64.wrap (-x) = -x := wrap64 (by omega) (by omega)
    have hp : ptV (.num (x, x)) = x := by simp [ptV, isPt]
    have he : smpNeg (.num (x, x)) = .num (pt (-x)) := by simp [smpNeg, isPt]
    rw [he]
    simp [hp, w]
    refine call_ret (iPoint _ _) ?_
    simp
    exact finC0 (rs := [.tmp 2]) (vs := [.slice [nd ⟨1, 0, pt (-x)⟩] true]) (vs' := [.slice [nd ⟨1, 0, pt (-x)⟩] false]) (by rfl) (by simp [resA]) (by simp) (by simp [noF, noFs]) rfl
  | none =>
    simp
    have hget : (ser a)[0]? = some (root0 a) := by rw [ser_eq]; rfl
    have hmap : ((ser a).map nd)[0]? = some (nd (root0 a)) := by rw [List.getElem?_map, hget]; rfl
    have hmapE : ∀ h, ((ser a).map nd)[0]'h = nd (root0 a) := fun h => (List.getElem?_eq_some_iff.1 hmap).2
    by_cases h2 : ∃ b, a = .un .neg b
    · obtain ⟨b, rfl⟩ := h2
      have he : smpNeg (.un .neg b) = b := by simp [smpNeg, isPt]
      rw [he]
      have hr : (root0 (.un .neg b)).op = 4 := rfl
      have hl : 1 ≤ (ser (.un .neg b)).length := sz_pos _
      have hd : (ser (.un .neg b)).drop 1 = ser b := rfl
      generalize ser (.un .neg b) = L at *
      have hE : (List.take L.length (L.map nd)).tail = (ser b).map nd := by rw [List.take_of_length_le (by simp), ← List.drop_one, ← List.map_drop, hd]
      simp [xs, hmap, hmapE, hr]
      refine bind_if (szOk_map fun _ => rfl) ?_
      refine bind_if (by omega) ?_
      simp [hE]
      exact fin0 (rs := [.tmp 2]) (by rfl) (by simp [resA])
    · have he : smpNeg a = .un .neg a := by
        unfold smpNeg
        rw [h1]
        dsimp only
        split
        · rename_i b; exact absurd ⟨b, rfl⟩ h2
        · rfl
      have hr : ((root0 a).op == 4) = false := by
        cases a with
        | un o b => cases o with
          | neg => exact absurd ⟨b, rfl⟩ h2
          | sqr => rfl
          | sqrt => rfl
        | bin o b c => cases o <;> rfl
        | _ => rfl
      rw [he]
      simp [xs, hmap, hmapE, hr]
      refine call_conv0 (jApply1 4 a (by omega) _) (by simp [xs]; rfl) ?_
      simp
      exact finC0 (rs := [.tmp 2]) (vs := [xs (ser (.un .neg a))]) (vs' := [xs (ser (.un .neg a))]) (by rfl) (by simp [resA, xs, ser, U.code]) (by simp [xs]) (by simp only [noFs, Bool.and_true]; exact xs_noF _ _) rfl
end Go.Proofs.YtohmodcheahpgaaDoor.Arm

namespace Go.Proofs.YtohmodcheahpgaaDoor.Arm
open Go.Arm Go.Pl

/-- The end that hands out a row of nodes. -/
theorem finX {fn : Func} {t : Tmp} {fr : AFr} {H0 : AH} {l : List Nd} {e : AExit} (hr : fn.results.toList = [.tmp t]) (h : fr t = xs l) (hx : e = .ret ∨ e = .normal := by simp) : bodyK E fn H0 (.ret (xs l)) H0 e fr H0 :=
  finC0 (rs := [.tmp t]) (vs := [xs l]) (vs' := [xs l]) hr (by simp [resA, h]) (by simp [xs]) (by simp only [noFs, Bool.and_true]; exact xs_noF _ _) rfl hx
theorem foldA_ok {o : Option I} (h : foldOk o = true) : foldA o = xs (ser (.num (o.getD (0, 0)))) := by
  cases o with
  | none => cases h
  | some r => rfl

theorem jSimplifyAdd (a b : Ex) {k : Nat} (ha : wf k a = true) (hb : wf k b = true) (hs : sz a + sz b ≤ 100000000) (H : AH) : Sound E 56 [.int .i64 7, xs (ser a), xs (ser b)] H (.ret (xs (ser (smpAdd a b)))) H := by
  refine sound_of_awp tabOk mixed Tryd.func56 rfl (by rfl) Tryd.ntmps56 (by kernel_rfl) (by simp) ?_
  simp
  refine call_ret (jFold 74 add (fun c d hc hd Hx => iAdd c d hc hd Hx) a b ha hb (by omega) (by omega) _) ?_
  simp
  refine call_ret (jIs a 0 (by omega) _) ?_
  cases h1 : isK a 0 with
  | true =>
    simp
    exact finX (t := 6) (by rfl) (by simp [smpAdd, h1])
  | false =>
  simp
  refine call_ret (jIs b 0 (by omega) _) ?_
  cases h2 : isK b 0 with
  | true =>
    simp
    exact finX (t := 6) (by rfl) (by simp [smpAdd, h1, h2])
  | false =>
  have he : smpAdd a b = if foldOk (foldR add a b) then .num ((foldR add a b).getD (0, 0)) else .bin .add a b := by simp only [smpAdd, h1, h2]; exact foldC_eq _ _ _ _
  rw [he]
  simp
  cases h3 : foldOk (foldR add a b) with
  | true =>
    simp
    exact finX (t := 6) (by rfl) (by simp; exact foldA_ok h3)
  | false =>
  simp [xs]
  refine call_conv0 (jApply2 7 a b (by omega) _) (by simp [xs]; rfl) ?_
  simp
  exact finX (t := 6) (by rfl) (by simp [ser, B.code])
theorem jSimplifySub (a b : Ex) {k : Nat} (ha : wf k a = true) (hb : wf k b = true) (hs : sz a + sz b ≤ 100000000) (H : AH) : Sound E 56 [.int .i64 8, xs (ser a), xs (ser b)] H (.ret (xs (ser (smpSub a b)))) H := by
  refine sound_of_awp tabOk mixed Tryd.func56 rfl (by rfl) Tryd.ntmps56 (by kernel_rfl) (by simp) ?_
  simp
  refine call_ret (jFold 82 sub (fun c d hc hd Hx => iSub c d hc hd Hx) a b ha hb (by omega) (by omega) _) ?_
  simp
  refine call_ret (jIs b 0 (by omega) _) ?_
  cases h2 : isK b 0 with
  | true =>
    simp
    exact finX (t := 6) (by rfl) (by simp [smpSub, h2])
  | false =>
  simp
  refine call_ret (jIs a 0 (by omega) _) ?_
  cases h1 : isK a 0 with
  | true =>
    simp
    refine call_ret (jSimplifyNeg b hb (by omega) _) ?_
    simp
    exact finX (t := 6) (by rfl) (by simp [smpSub, h1, h2])
  | false =>
  have he : smpSub a b = if foldOk (foldR sub a b) then .num ((foldR sub a b).getD (0, 0)) else .bin .sub a b := by simp only [smpSub, h1, h2]; exact foldC_eq _ _ _ _
  rw [he]
  simp
  cases h3 : foldOk (foldR sub a b) with
  | true =>
    simp
    exact finX (t := 6) (by rfl) (by simp; exact foldA_ok h3)
  | false =>
  simp [xs]
  refine call_conv0 (jApply2 8 a b (by omega) _) (by simp [xs]; rfl) ?_
  simp
  exact finX (t := 6) (by rfl) (by simp [ser, B.code])
theorem jSimplifyProduct (a b : Ex) {k : Nat} (ha : wf k a = true) (hb : wf k b = true) (hs : sz a + sz b ≤ 100000000) (H : AH) : Sound E 57 [xs (ser a), xs (ser b)] H (.ret (xs (ser (smpMul a b)))) H := by
  refine sound_of_awp tabOk mixed Tryd.func57 rfl (by rfl) Tryd.ntmps57 (by kernel_rfl) (by simp) ?_
  simp
  refine call_ret (jFold 75 mul (fun c d hc hd Hx => iMul c d hc hd Hx) a b ha hb (by omega) (by omega) _) ?_
  simp
  refine call_ret (jIs a 0 (by omega) _) ?_
  cases h1 : isK a 0 with
  | true =>
    simp
    refine call_ret (jNumber 0 (by omega) _) ?_
    simp
    exact finX (t := 4) (by rfl) (by simp [smpMul, h1])
  | false =>
  simp
  refine call_ret (jIs b 0 (by omega) _) ?_
  cases h2 : isK b 0 with
  | true =>
    simp
    refine call_ret (jNumber 0 (by omega) _) ?_
    simp
    exact finX (t := 4) (by rfl) (by simp [smpMul, h1, h2])
  | false =>
  simp
  refine call_ret (jIs a 65536 (by omega) _) ?_
  cases h3 : isK a 65536 with
  | true =>
    simp
    exact finX (t := 4) (by rfl) (by simp [smpMul, h1, h2, h3])
  | false =>
  simp
  refine call_ret (jIs b 65536 (by omega) _) ?_
  cases h4 : isK b 65536 with
  | true =>
    simp
    exact finX (t := 4) (by rfl) (by simp [smpMul, h1, h2, h3, h4])
  | false =>
  have he : smpMul a b = if foldOk (foldR mul a b) then .num ((foldR mul a b).getD (0, 0)) else .bin .mul a b := by simp only [smpMul, h1, h2, h3, h4]; exact foldC_eq _ _ _ _
  rw [he]
  simp
  cases h5 : foldOk (foldR mul a b) with
  | true =>
    simp
    exact finX (t := 4) (by rfl) (by simp; exact foldA_ok h5)
  | false =>
  simp [xs]
  refine call_conv0 (jApply2 9 a b (by omega) _) (by simp [xs]; rfl) ?_
  simp
  exact finX (t := 4) (by rfl) (by simp [ser, B.code])
end Go.Proofs.YtohmodcheahpgaaDoor.Arm

namespace Go.Proofs.YtohmodcheahpgaaDoor.Arm
open Go.Arm Go.Pl

/-- A call in a region of drawn order that reads a row of one's own as a value. -/
theorem callD_cv {g : FuncId} {captured args args' : List AV} {next : NxD} {H : AH} {r : AV} {b : Nat} {k k' : ABlk} (hb : H[b]? = some k) (hc : ∀ Hx : AH, Hx[b]? = some k → convL Hx args = (args', Hx.set b k')) (h : ∀ Hx, Sound E g (args' ++ captured) Hx (.ret r) Hx)
    (kk : next .go r ⟨[b], [(b, k')], none, true⟩ (H.set b k')) : callD E (.func (.func g) [] captured) args next H :=
  ⟨r, [b], [(b, k')], ⟨fun c hc => by simp at hc; subst hc; exact (List.getElem?_eq_some_iff.1 hb).1, fun p hp => by simp at hp; subst hp; simp, fun Hx hx => .inr (by
    rw [List.nil_append, hc Hx ((hx b (by simp)).trans hb)]; exact h _)⟩, kk⟩

@[simp ↓] theorem cells_xs (l : List Nd) : (xs l).cells = [xs l] := rfl
@[simp ↓] theorem vcells_xs (l : List Nd) : vcells (xs l) = some [xs l] := rfl
@[simp ↓] theorem conv1_xs (H : AH) (l : List Nd) : conv1 H (xs l) = (xs l, H) := rfl
@[simp ↓] theorem okc_xs (l : List Nd) : okc (xs l) = true := rfl

theorem app_nil {H : AH} {l : List AV} {f g : Bool} : appendA tab H 23 (.slice l f) (.slice [] g) = some (.slice l f, H) := by simp [appendA]

def LSi (a : Ex) (H : AH) (i : Nat) (fr : AFr) (H' : AH) : Prop :=
  fr 0 = xs (ser a) ∧ fr 8 = .slice ((kids a).map fun k => xs (ser k)) false ∧ fr 9 = .int .i64 (kids a).length ∧ fr 10 = .int .i64 i ∧ i ≤ (kids a).length ∧ (i = 0 → fr 3 = .nilslice) ∧ ∃ J, H' = H ++ J ∧ Acc H J (fr 3) 1 (((kids a).take i).map fun k => xs (ser (smp k))) .nilslice
theorem kid_wf {n : Nat} {a k : Ex} {i : Nat} (h : (kids a)[i]? = some k) (hw : wf n a = true) : wf n k = true := by
  cases a with
  | un o a =>
    cases i with
    | zero => simp [kids] at h; subst h; exact hw
    | succ i => simp [kids] at h
  | bin o a b =>
    simp only [wf, Bool.and_eq_true] at hw
    match i, h with
    | 0, h => simp [kids] at h; subst h; exact hw.1
    | 1, h => simp [kids] at h; subst h; exact hw.2
    | i + 2, h => simp [kids] at h
  | _ => simp [kids] at h
theorem jSimplify {kk : Nat} : ∀ (n : Nat) (a : Ex), sz a ≤ n → wf kk a = true → sz a ≤ 100000000 → ∀ H, Sound E 16 [xs (ser a)] H (.ret (xs (ser (smp a)))) H
  | 0, a, hn, hw, hs, H => by have := sz_pos a; omega
  | n + 1, a, hn, hw, hs, H => by
    refine sound_of_awp tabOk mixed Tryd.func16 rfl (by rfl) Tryd.ntmps16 (by kernel_rfl) (by simp) ?_
    have ih : ∀ (k : Ex) (i : Nat), (kids a)[i]? = some k → ∀ H, Sound E 16 [xs (ser k)] H (.ret (xs (ser (smp k)))) H := fun k i hi H =>
      jSimplify n k (by have := kid_sz hi; omega) (kid_wf hi hw) (by have := kid_sz hi; omega) H
    have hk2 := kids_le a
    have hget : (ser a)[0]? = some (root0 a) := by rw [ser_eq]; rfl
    have hmap : ((ser a).map nd)[0]? = some (nd (root0 a)) := by rw [List.getElem?_map, hget]; rfl
    have hmapE : ∀ h, ((ser a).map nd)[0]'h = nd (root0 a) := fun h => (List.getElem?_eq_some_iff.1 hmap).2
    simp
    refine call_ret (oOperands a (by omega) _) ?_
    simp
    refine loop_count (LSi a H) (fun i => (kids a).length - i) 0 ⟨by simp, by simp, by simp, by simp, by omega, fun _ => by simp, [], by simp, .inl ⟨by simp, by simp⟩⟩ ?_
    rintro i fr H' ⟨g0, g8, g9, g10, hi, hnil, J, rfl, hacc⟩
    simp [g9, g10]
    refine branch (fun hc => ?_) (fun hc => ?_)
    · have hlt : i < (kids a).length := by simpa using hc
      obtain ⟨k, hki⟩ := get_lt hlt
      have hkiE : ∀ h, (kids a)[i]'h = k := fun h => (List.getElem?_eq_some_iff.1 hki).2
      have w2 : IntKind.i64.wrap ((i : Int) + 1) = ((i + 1 : Nat) : Int) := by rw [wrap64 (by omega) (by omega)]; omega
      have hS := ih k i hki (H ++ J)
      simp only [xs_eq] at hS
      simp [g0, g8, g9, g10, hki, hkiE, xs]
      refine call_ret hS ?_
      obtain ⟨v', J', hap, hacc', _⟩ := Acc.push (T := tab) (t := 22) (e := 23) (x := .slice [xs (ser (smp k))] true) hacc tab22 rfl tab23 rfl rfl (by simp [xs, okc]) ⟨by decide, by simp⟩ (by simp; omega) (by simp; omega)
      simp only [xs_eq] at hap
      simp
      refine bind_some hap ?_
      simp [g0, g9, g10, w2]
      refine ⟨i + 1, by show (kids a).length - (i + 1) < (kids a).length - i; omega, by simp [g0], by simp [g8], by simp [g9], by simp, by omega, fun h => by omega, J', rfl, ?_⟩
      rw [List.take_add_one, hki]
      simpa using hacc'
    · have hi' : i = (kids a).length := by have : ¬ i < (kids a).length := by simpa using hc
                                           omega
      subst hi'
      rw [List.take_length] at hacc
      rw [xs_eq] at g0
      have ih' := fun k i hi => ih k i hi
      simp [g0, hmap, hmapE]
      clear ih g8 g9 g10 hc hi
      cases a with
      | num c =>
        have h3 : fr 3 = .nilslice := hnil rfl
        simp [root0, leafN, h3]
        simp [g0, hmap, hmapE, root0, leafN]
        refine callD_conv0 (args' := [.slice [] false]) (fun Hx => concat [] (by simp) (by simp) Hx) (fun Hx => by simp [h3]) ?_
        simp [xs]
        refine bind_some app_nil ?_
        simp
        refine endD [] (by rfl) (by simp [okW, note, Eff.triv, Eff.wr, Eff.none, upTo, newAt]) ?_
        simp
        exact finC (rs := [.tmp 2]) (vs := [.slice [nd (root0 (.num c))] true]) (vs' := [xs (ser (.num c))]) (by rfl) (by simp [resA, root0, leafN]) (by simp [xs, ser, root0, leafN]; rfl) (by simp only [noFs, Bool.and_true]; exact xs_noF _ _) rfl
      | var v =>
        have h3 : fr 3 = .nilslice := hnil rfl
        simp [root0, leafN, h3]
        simp [g0, hmap, hmapE, root0, leafN]
        refine callD_conv0 (args' := [.slice [] false]) (fun Hx => concat [] (by simp) (by simp) Hx) (fun Hx => by simp [h3]) ?_
        simp [xs]
        refine bind_some app_nil ?_
        simp
        refine endD [] (by rfl) (by simp [okW, note, Eff.triv, Eff.wr, Eff.none, upTo, newAt]) ?_
        simp
        exact finC (rs := [.tmp 2]) (vs := [.slice [nd (root0 (.var v))] true]) (vs' := [xs (ser (.var v))]) (by rfl) (by simp [resA, root0, leafN]) (by simp [xs, ser, root0, leafN]; rfl) (by simp only [noFs, Bool.and_true]; exact xs_noF _ _) rfl
      | time =>
        have h3 : fr 3 = .nilslice := hnil rfl
        simp [root0, leafN, h3]
        simp [g0, hmap, hmapE, root0, leafN]
        refine callD_conv0 (args' := [.slice [] false]) (fun Hx => concat [] (by simp) (by simp) Hx) (fun Hx => by simp [h3]) ?_
        simp [xs]
        refine bind_some app_nil ?_
        simp
        refine endD [] (by rfl) (by simp [okW, note, Eff.triv, Eff.wr, Eff.none, upTo, newAt]) ?_
        simp
        exact finC (rs := [.tmp 2]) (vs := [.slice [nd (root0 (.time))] true]) (vs' := [xs (ser (.time))]) (by rfl) (by simp [resA, root0, leafN]) (by simp [xs, ser, root0, leafN]; rfl) (by simp only [noFs, Bool.and_true]; exact xs_noF _ _) rfl
      | un o a =>
        have hacc1 : ∃ k, fr 3 = .ref (H.length + k) 1 ∧ J[k]? = some (.row true 1 [xs (ser (smp a))]) := by
          rcases hacc with ⟨h, _⟩ | ⟨k, h1, h2⟩
          · simp [kids] at h
          · exact ⟨k, by simpa [kids] using h1, by simpa [kids] using h2⟩
        obtain ⟨k, h3, hJ⟩ := hacc1
        have hwa : wf kk (smp a) = true := smp_wf a hw
        have hsa := smp_sz a
        rw [sz_un] at hs
        have hne : ser (smp a) ≠ [] := by rw [ser_eq]; simp
        have hlen : (ser (smp a)).length ≤ 500000000 := by
          have : sz (smp a) = (ser (smp a)).length := rfl
          omega
        cases o with
        | neg =>
          simp [root0, leafN, U.code, h3, hJ, xs]
          refine call_ret (jSimplifyNeg (smp a) hwa (by omega) _) ?_
          simp
          exact finC (rs := [.tmp 2]) (vs := [xs (ser (smpNeg (smp a)))]) (vs' := [xs (ser (smpNeg (smp a)))]) (by rfl) (by simp [resA, xs]) (by simp [xs]; rfl) (by simp only [noFs, Bool.and_true]; exact xs_noF _ _) rfl
        | sqr =>
          have he : smp (.un .sqr a) = if isK (smp a) 0 || isK (smp a) 65536 then smp a else .un .sqr (smp a) := rfl
          have fin0 : ∀ (fr : AFr) (J : AH) (x : AExit), fr 2 = xs (ser (smp a)) → smp (.un .sqr a) = smp a → (x = .ret ∨ x = .normal) → bodyK E Tryd.f16 H (.ret (xs (ser (smp (.un .sqr a))))) H x fr (H ++ J) := by
            intro fr J x h1 h2 hx
            rw [h2]
            exact finC (rs := [.tmp 2]) (vs := [xs (ser (smp a))]) (vs' := [xs (ser (smp a))]) (by rfl) (by simp [resA, h1]) (by simp [xs]; rfl) (by simp only [noFs, Bool.and_true]; exact xs_noF _ _) rfl hx
          simp [root0, leafN, U.code, h3, hJ, xs]
          refine call_ret (jIs (smp a) 0 (by omega) _) ?_
          cases h4 : isK (smp a) 0 with
          | true =>
            simp [h3, hJ, xs]
            exact fin0 _ _ _ (by simp [xs]) (by rw [he, h4]; rfl) (by simp)
          | false =>
          simp [h3, hJ, xs]
          refine call_ret (jIs (smp a) 65536 (by omega) _) ?_
          cases h5 : isK (smp a) 65536 with
          | true =>
            simp [h3, hJ, xs]
            exact fin0 _ _ _ (by simp [xs]) (by rw [he, h4, h5]; rfl) (by simp)
          | false =>
          rw [he, h4, h5]
          simp [h3, hJ, g0, hmap, hmapE, root0, leafN, U.code]
          refine callD_cv (b := H.length + k) (k := .row true 1 [xs (ser (smp a))]) (k' := .row false 1 [xs (ser (smp a))]) (args' := [.slice [xs (ser (smp a))] false]) (by simp [hJ]) (fun Hx hx => by simp [hx, xs]) (fun Hx => by rw [List.append_nil]; exact concat [ser (smp a)] (by simp) (by simpa using hlen) Hx) ?_
          rw [show ([ser (smp a)] : List (List Nd)).flatten = ser (smp a) by simp]
          simp [xs]
          refine bind_some (app_full (l := [leafN 5 0]) hne (by simp; omega)) ?_
          simp
          have hkJ : k < J.length := (List.getElem?_eq_some_iff.1 hJ).1
          refine endD [] (by rfl) (by simp [okW, note, Eff.triv, Eff.wr, Eff.none, upTo, newAt]; omega) ?_
          simp
          exact finC (rs := [.tmp 2]) (vs := [.ref (H.length + J.length) (1 + (ser (smp a)).length)]) (vs' := [xs (ser (.un .sqr (smp a)))]) (by rfl) (by simp [resA]) (by simp [xs, ser, U.code, Nat.add_comm]; rfl) (by simp only [noFs, Bool.and_true]; exact xs_noF _ _) rfl
        | sqrt =>
          have he : smp (.un .sqrt a) = if isK (smp a) 0 || isK (smp a) 65536 then smp a else .un .sqrt (smp a) := rfl
          have fin0 : ∀ (fr : AFr) (J : AH) (x : AExit), fr 2 = xs (ser (smp a)) → smp (.un .sqrt a) = smp a → (x = .ret ∨ x = .normal) → bodyK E Tryd.f16 H (.ret (xs (ser (smp (.un .sqrt a))))) H x fr (H ++ J) := by
            intro fr J x h1 h2 hx
            rw [h2]
            exact finC (rs := [.tmp 2]) (vs := [xs (ser (smp a))]) (vs' := [xs (ser (smp a))]) (by rfl) (by simp [resA, h1]) (by simp [xs]; rfl) (by simp only [noFs, Bool.and_true]; exact xs_noF _ _) rfl hx
          simp [root0, leafN, U.code, h3, hJ, xs]
          refine call_ret (jIs (smp a) 0 (by omega) _) ?_
          cases h4 : isK (smp a) 0 with
          | true =>
            simp [h3, hJ, xs]
            exact fin0 _ _ _ (by simp [xs]) (by rw [he, h4]; rfl) (by simp)
          | false =>
          simp [h3, hJ, xs]
          refine call_ret (jIs (smp a) 65536 (by omega) _) ?_
          cases h5 : isK (smp a) 65536 with
          | true =>
            simp [h3, hJ, xs]
            exact fin0 _ _ _ (by simp [xs]) (by rw [he, h4, h5]; rfl) (by simp)
          | false =>
          rw [he, h4, h5]
          simp [h3, hJ, g0, hmap, hmapE, root0, leafN, U.code]
          refine callD_cv (b := H.length + k) (k := .row true 1 [xs (ser (smp a))]) (k' := .row false 1 [xs (ser (smp a))]) (args' := [.slice [xs (ser (smp a))] false]) (by simp [hJ]) (fun Hx hx => by simp [hx, xs]) (fun Hx => by rw [List.append_nil]; exact concat [ser (smp a)] (by simp) (by simpa using hlen) Hx) ?_
          rw [show ([ser (smp a)] : List (List Nd)).flatten = ser (smp a) by simp]
          simp [xs]
          refine bind_some (app_full (l := [leafN 6 0]) hne (by simp; omega)) ?_
          simp
          have hkJ : k < J.length := (List.getElem?_eq_some_iff.1 hJ).1
          refine endD [] (by rfl) (by simp [okW, note, Eff.triv, Eff.wr, Eff.none, upTo, newAt]; omega) ?_
          simp
          exact finC (rs := [.tmp 2]) (vs := [.ref (H.length + J.length) (1 + (ser (smp a)).length)]) (vs' := [xs (ser (.un .sqrt (smp a)))]) (by rfl) (by simp [resA]) (by simp [xs, ser, U.code, Nat.add_comm]; rfl) (by simp only [noFs, Bool.and_true]; exact xs_noF _ _) rfl
      | bin o a b =>
        have hacc1 : ∃ k, fr 3 = .ref (H.length + k) 2 ∧ J[k]? = some (.row true 1 [xs (ser (smp a)), xs (ser (smp b))]) := by
          rcases hacc with ⟨h, _⟩ | ⟨k, h1, h2⟩
          · simp [kids] at h
          · exact ⟨k, by simpa [kids] using h1, by simpa [kids] using h2⟩
        obtain ⟨k, h3, hJ⟩ := hacc1
        simp only [wf, Bool.and_eq_true] at hw
        have hwa : wf kk (smp a) = true := smp_wf a hw.1
        have hwb : wf kk (smp b) = true := smp_wf b hw.2
        have hsa := smp_sz a
        have hsb := smp_sz b
        rw [sz_bin] at hs
        have hne : ser (smp a) ++ ser (smp b) ≠ [] := by rw [ser_eq (smp a)]; simp
        have hlen : (ser (smp a)).length + (ser (smp b)).length ≤ 500000000 := by
          have : sz (smp a) = (ser (smp a)).length := rfl
          have : sz (smp b) = (ser (smp b)).length := rfl
          omega
        cases o with
        | add =>
          simp [root0, leafN, B.code, h3, hJ, xs]
          refine callD_ret0 (fun Hx => jSimplifyAdd (smp a) (smp b) hwa hwb (by omega) Hx) ?_
          simp
          refine endD [] (by rfl) (by simp [okW, note, Eff.triv, Eff.wr, Eff.none, upTo, newAt]) ?_
          simp
          exact finC (rs := [.tmp 2]) (vs := [xs (ser (smpAdd (smp a) (smp b)))]) (vs' := [xs (ser (smpAdd (smp a) (smp b)))]) (by rfl) (by simp [resA, xs]) (by simp [xs]; rfl) (by simp only [noFs, Bool.and_true]; exact xs_noF _ _) rfl
        | sub =>
          simp [root0, leafN, B.code, h3, hJ, xs]
          refine callD_ret0 (fun Hx => jSimplifySub (smp a) (smp b) hwa hwb (by omega) Hx) ?_
          simp
          refine endD [] (by rfl) (by simp [okW, note, Eff.triv, Eff.wr, Eff.none, upTo, newAt]) ?_
          simp
          exact finC (rs := [.tmp 2]) (vs := [xs (ser (smpSub (smp a) (smp b)))]) (vs' := [xs (ser (smpSub (smp a) (smp b)))]) (by rfl) (by simp [resA, xs]) (by simp [xs]; rfl) (by simp only [noFs, Bool.and_true]; exact xs_noF _ _) rfl
        | mul =>
          simp [root0, leafN, B.code, h3, hJ, xs]
          refine callD_ret0 (fun Hx => jSimplifyProduct (smp a) (smp b) hwa hwb (by omega) Hx) ?_
          simp
          refine endD [] (by rfl) (by simp [okW, note, Eff.triv, Eff.wr, Eff.none, upTo, newAt]) ?_
          simp
          exact finC (rs := [.tmp 2]) (vs := [xs (ser (smpMul (smp a) (smp b)))]) (vs' := [xs (ser (smpMul (smp a) (smp b)))]) (by rfl) (by simp [resA, xs]) (by simp [xs]; rfl) (by simp only [noFs, Bool.and_true]; exact xs_noF _ _) rfl
        | div =>
          have he : smp (.bin .div a b) = if isK (smp a) 0 || isK (smp b) 65536 then smp a else .bin .div (smp a) (smp b) := rfl
          have fin0 : ∀ (fr : AFr) (J : AH) (x : AExit), fr 2 = xs (ser (smp a)) → smp (.bin .div a b) = smp a → (x = .ret ∨ x = .normal) → bodyK E Tryd.f16 H (.ret (xs (ser (smp (.bin .div a b))))) H x fr (H ++ J) := by
            intro fr J x h1 h2 hx
            rw [h2]
            exact finC (rs := [.tmp 2]) (vs := [xs (ser (smp a))]) (vs' := [xs (ser (smp a))]) (by rfl) (by simp [resA, h1]) (by simp [xs]; rfl) (by simp only [noFs, Bool.and_true]; exact xs_noF _ _) rfl hx
          simp [root0, leafN, B.code, h3, hJ, xs]
          refine call_ret (jIs (smp a) 0 (by omega) _) ?_
          cases h4 : isK (smp a) 0 with
          | true =>
            simp [h3, hJ, xs]
            exact fin0 _ _ _ (by simp [xs]) (by rw [he, h4]; rfl) (by simp)
          | false =>
          simp [h3, hJ, xs]
          refine call_ret (jIs (smp b) 65536 (by omega) _) ?_
          cases h5 : isK (smp b) 65536 with
          | true =>
            simp [h3, hJ, xs]
            exact fin0 _ _ _ (by simp [xs]) (by rw [he, h4, h5]; rfl) (by simp)
          | false =>
          rw [he, h4, h5]
          simp [h3, hJ, g0, hmap, hmapE, root0, leafN, B.code]
          refine callD_cv (b := H.length + k) (k := .row true 1 [xs (ser (smp a)), xs (ser (smp b))]) (k' := .row false 1 [xs (ser (smp a)), xs (ser (smp b))]) (args' := [.slice [xs (ser (smp a)), xs (ser (smp b))] false]) (by simp [hJ]) (fun Hx hx => by simp [hx, xs]) (fun Hx => by rw [List.append_nil]; exact concat [ser (smp a), ser (smp b)] (by simp) (by simpa using hlen) Hx) ?_
          rw [show ([ser (smp a), ser (smp b)] : List (List Nd)).flatten = ser (smp a) ++ ser (smp b) by simp]
          have hap := fun Hx : AH => app_full (H := Hx) (l := [leafN 10 0]) (f := false) hne (by simp; omega)
          generalize hLL : ser (smp a) ++ ser (smp b) = L at *
          simp [xs]
          refine bind_some (hap _) ?_
          simp
          have hkJ : k < J.length := (List.getElem?_eq_some_iff.1 hJ).1
          refine endD [] (by rfl) (by simp [okW, note, Eff.triv, Eff.wr, Eff.none, upTo, newAt]; omega) ?_
          simp
          exact finC (rs := [.tmp 2]) (vs := [.ref (H.length + J.length) (1 + L.length)]) (vs' := [xs (leafN 10 0 :: L)]) (by rfl) (by simp [resA]) (by simp [xs, Nat.add_comm]; rfl) (by simp only [noFs, Bool.and_true]; exact xs_noF _ _) (by rw [← hLL]; rfl)
end Go.Proofs.YtohmodcheahpgaaDoor.Arm

namespace Go.Proofs.YtohmodcheahpgaaDoor.Arm
open Go.Arm Go.Pl

def xss (l : List Ex) : AV := .slice (l.map fun k => xs (ser k)) false
theorem jApplyU (o : U) (a : Ex) (hb : sz a ≤ 500000000) (H : AH) : Sound E 81 [.int .i64 o.code, .slice [xs (ser a)] false] H (.ret (xs (ser (.un o a)))) H := jApply1 o.code a hb H
theorem jApplyB (o : B) (a b : Ex) (hb : sz a + sz b ≤ 500000000) (H : AH) : Sound E 81 [.int .i64 o.code, .slice [xs (ser a), xs (ser b)] false] H (.ret (xs (ser (.bin o a b)))) H := jApply2 o.code a b hb H

theorem jRule1 (e a d : Ex) (hb : sz d ≤ 10000000) (H : AH) : Sound E 99 [xs (ser e), xss [a], xss [d]] H (.ret (xs (ser (.un .neg d)))) H := by
  refine sound_of_awp tabOk mixed Tryd.func99 rfl (by rfl) Tryd.ntmps99 (by kernel_rfl) (by simp) ?_
  simp [xss, xs]
  refine call_conv0 (jApplyU .neg d (by omega) _) (by simp [xs, U.code]; rfl) ?_
  simp
  exact finX (t := 6) (by rfl) (by simp)
theorem jRule2 (e a d : Ex) (hb : sz a + sz d ≤ 10000000) (H : AH) : Sound E 100 [xs (ser e), xss [a], xss [d]] H (.ret (xs (ser (.bin .mul (.bin .mul (number 2) a) d)))) H := by
  refine sound_of_awp tabOk mixed Tryd.func100 rfl (by rfl) Tryd.ntmps100 (by kernel_rfl) (by simp) ?_
  have h1 := sz_bin .mul (number 2) a
  rw [number_sz] at h1
  simp [xss, xs]
  refine callD_ret0 (fun Hx => jNumber 2 (by omega) Hx) ?_
  simp [xs]
  refine callD_conv0 (fun Hx => jApplyB .mul (number 2) a (by rw [number_sz]; omega) Hx) (fun Hx => by simp [xs, B.code]) ?_
  simp [xs]
  refine callD_conv0 (fun Hx => jApplyB .mul (.bin .mul (number 2) a) d (by omega) Hx) (fun Hx => by simp [xs, B.code]) ?_
  simp
  refine endD [] (by rfl) (by simp [okW, note, Eff.triv, Eff.wr, Eff.none, upTo, newAt]) ?_
  simp
  exact finX (t := 6) (by rfl) (by simp)
theorem jRule3 (e a d : Ex) (hb : sz e + sz d ≤ 10000000) (H : AH) : Sound E 101 [xs (ser e), xss [a], xss [d]] H (.ret (xs (ser (.bin .div d (.bin .mul (number 2) e))))) H := by
  refine sound_of_awp tabOk mixed Tryd.func101 rfl (by rfl) Tryd.ntmps101 (by kernel_rfl) (by simp) ?_
  have h1 := sz_bin .mul (number 2) e
  rw [number_sz] at h1
  simp [xss, xs]
  refine callD_ret0 (fun Hx => jNumber 2 (by omega) Hx) ?_
  simp [xs]
  refine callD_conv0 (fun Hx => jApplyB .mul (number 2) e (by rw [number_sz]; omega) Hx) (fun Hx => by simp [xs, B.code]) ?_
  simp [xs]
  refine callD_conv0 (fun Hx => jApplyB .div d (.bin .mul (number 2) e) (by omega) Hx) (fun Hx => by simp [xs, B.code]) ?_
  simp
  refine endD [] (by rfl) (by simp [okW, note, Eff.triv, Eff.wr, Eff.none, upTo, newAt]) ?_
  simp
  exact finX (t := 6) (by rfl) (by simp)
theorem jRule4 (e a b c d : Ex) (hb : sz c + sz d ≤ 10000000) (H : AH) : Sound E 102 [xs (ser e), xss [a, b], xss [c, d]] H (.ret (xs (ser (.bin .add c d)))) H := by
  refine sound_of_awp tabOk mixed Tryd.func102 rfl (by rfl) Tryd.ntmps102 (by kernel_rfl) (by simp) ?_
  simp [xss, xs]
  refine call_ret (jApplyB .add c d (by omega) _) ?_
  simp
  exact finX (t := 6) (by rfl) (by simp)
theorem jRule5 (e a b c d : Ex) (hb : sz c + sz d ≤ 10000000) (H : AH) : Sound E 103 [xs (ser e), xss [a, b], xss [c, d]] H (.ret (xs (ser (.bin .sub c d)))) H := by
  refine sound_of_awp tabOk mixed Tryd.func103 rfl (by rfl) Tryd.ntmps103 (by kernel_rfl) (by simp) ?_
  simp [xss, xs]
  refine call_ret (jApplyB .sub c d (by omega) _) ?_
  simp
  exact finX (t := 6) (by rfl) (by simp)
theorem jRule6 (e a b c d : Ex) (hb : sz a + sz b + sz c + sz d ≤ 10000000) (H : AH) : Sound E 104 [xs (ser e), xss [a, b], xss [c, d]] H (.ret (xs (ser (.bin .add (.bin .mul c b) (.bin .mul a d))))) H := by
  refine sound_of_awp tabOk mixed Tryd.func104 rfl (by rfl) Tryd.ntmps104 (by kernel_rfl) (by simp) ?_
  have h1 := sz_bin .mul c b
  have h2 := sz_bin .mul a d
  simp [xss, xs]
  refine callD_conv0 (fun Hx => jApplyB .mul c b (by omega) Hx) (fun Hx => by simp [xs, B.code]) ?_
  simp [xs]
  refine callD_conv0 (fun Hx => jApplyB .mul a d (by omega) Hx) (fun Hx => by simp [xs, B.code]) ?_
  simp [xs]
  refine callD_conv0 (fun Hx => jApplyB .add (.bin .mul c b) (.bin .mul a d) (by omega) Hx) (fun Hx => by simp [xs, B.code]) ?_
  simp
  refine endD [] (by rfl) (by simp [okW, note, Eff.triv, Eff.wr, Eff.none, upTo, newAt]) ?_
  simp
  exact finX (t := 6) (by rfl) (by simp)
theorem jRule7 (e a b c d : Ex) (hb : sz a + sz b + sz c + sz d ≤ 10000000) (H : AH) : Sound E 105 [xs (ser e), xss [a, b], xss [c, d]] H (.ret (xs (ser (.bin .div (.bin .sub (.bin .mul c b) (.bin .mul a d)) (.un .sqr b))))) H := by
  refine sound_of_awp tabOk mixed Tryd.func105 rfl (by rfl) Tryd.ntmps105 (by kernel_rfl) (by simp) ?_
  have h1 := sz_bin .mul c b
  have h2 := sz_bin .mul a d
  have h3 := sz_bin .sub (.bin .mul c b) (.bin .mul a d)
  have h4 := sz_un .sqr b
  simp [xss, xs]
  refine callD_conv0 (fun Hx => jApplyB .mul c b (by omega) Hx) (fun Hx => by simp [xs, B.code]) ?_
  simp [xs]
  refine callD_conv0 (fun Hx => jApplyB .mul a d (by omega) Hx) (fun Hx => by simp [xs, B.code]) ?_
  simp [xs]
  refine callD_conv0 (fun Hx => jApplyB .sub (.bin .mul c b) (.bin .mul a d) (by omega) Hx) (fun Hx => by simp [xs, B.code]) ?_
  simp [xs]
  refine callD_conv0 (fun Hx => jApplyU .sqr b (by omega) Hx) (fun Hx => by simp [xs, U.code]) ?_
  simp [xs]
  refine callD_conv0 (fun Hx => jApplyB .div (.bin .sub (.bin .mul c b) (.bin .mul a d)) (.un .sqr b) (by omega) Hx) (fun Hx => by simp [xs, B.code]) ?_
  simp
  refine endD [] (by rfl) (by simp [okW, note, Eff.triv, Eff.wr, Eff.none, upTo, newAt]) ?_
  simp
  exact finX (t := 6) (by rfl) (by simp)
def ruleT : List (AV × AV) := [(.int .i64 4, fnA 99), (.int .i64 5, fnA 100), (.int .i64 6, fnA 101), (.int .i64 7, fnA 102), (.int .i64 8, fnA 103), (.int .i64 9, fnA 104), (.int .i64 10, fnA 105)]
theorem jRules (H : AH) : Sound E 87 [] H (.ret (.map H.length)) (H ++ [.map ruleT]) := by
  refine sound_of_awp tabOk mixed Tryd.func87 rfl (by rfl) Tryd.ntmps87 (by kernel_rfl) (by simp) ?_
  simp
  exact finK (rs := [.tmp 0]) (vs := [.map H.length]) (by rfl) (by simp [resA]) rfl
end Go.Proofs.YtohmodcheahpgaaDoor.Arm

namespace Go.Proofs.YtohmodcheahpgaaDoor.Arm
open Go.Arm Go.Pl

/-- A call in a region of drawn order that reads some blocks. -/
theorem callD_rd (rds : List Nat) {g : FuncId} {captured args : List AV} {next : NxD} {H : AH} {r : AV} (hlt : ∀ b ∈ rds, b < H.length) (h : ∀ Hx : AH, (∀ b ∈ rds, Hx[b]? = H[b]?) → Sound E g (args ++ captured) Hx (.ret r) Hx)
    (kk : next .go r ⟨rds, [], none, true⟩ H) : callD E (.func (.func g) [] captured) args next H :=
  ⟨r, rds, [], ⟨hlt, fun p hp => by simp at hp, fun Hx hx => .inl (h Hx hx)⟩, kk⟩

def isLeaf : Ex → Bool
  | .num _ | .var _ | .time => true
  | _ => false
/-- What the function that differentiates finds in the memory: the variable's test, itself, the rules. -/
structure DMem (v : Vr) (H : AH) (bv bd bt bm : Nat) (rv : List Nat) (gV : FuncId) (cV : List AV) : Prop where
  hv : H[bv]? = some (.row true 1 [.func (.func gV) [] cV])
  hd : H[bd]? = some (.row true 1 [.func (.func 88) [] [.ptr bv 1 0 0, .ptr bd 1 0 0, .ptr bt 1 0 0]])
  ht : H[bt]? = some (.row true 1 [.map bm])
  hm : H[bm]? = some (.map ruleT)
  hr : ∀ b ∈ rv, b < H.length
  test : ∀ Hx : AH, (∀ b ∈ rv, Hx[b]? = H[b]?) → ∀ e, isLeaf e = true → Sound E gV ([nd (root0 e)] ++ cV) Hx (.ret (.bool (isV v e))) Hx
theorem DMem.app {v : Vr} {H : AH} {bv bd bt bm : Nat} {rv : List Nat} {gV : FuncId} {cV : List AV} (h : DMem v H bv bd bt bm rv gV cV) (J : AH) : DMem v (H ++ J) bv bd bt bm rv gV cV :=
  ⟨get_old h.hv, get_old h.hd, get_old h.ht, get_old h.hm, fun b hb => by have := h.hr b hb; simp; omega, fun Hx hx e he => h.test Hx (fun b hb => by rw [hx b hb, List.getElem?_append_left (h.hr b hb)]) e he⟩
theorem dif_kid {v : Vr} {a k : Ex} {i : Nat} (h : (kids a)[i]? = some k) : sz (dif v k) ≤ sz (dif v a) := by
  cases a with
  | un o a =>
    cases i with
    | zero =>
      simp [kids] at h; subst h
      cases o <;> simp only [dif, sz_un, sz_bin] <;> omega
    | succ i => simp [kids] at h
  | bin o a b =>
    match i, h with
    | 0, h =>
      simp [kids] at h; subst h
      cases o <;> simp only [dif, sz_un, sz_bin] <;> omega
    | 1, h =>
      simp [kids] at h; subst h
      cases o <;> simp only [dif, sz_un, sz_bin] <;> omega
    | i + 2, h => simp [kids] at h
  | _ => simp [kids] at h

def LDe (v : Vr) (a : Ex) (pv pd pt : AV) (H : AH) (i : Nat) (fr : AFr) (H' : AH) : Prop :=
  fr 0 = xs (ser a) ∧ fr 1 = pv ∧ fr 2 = pd ∧ fr 3 = pt ∧ fr 6 = xss (kids a) ∧ fr 22 = xss (kids a) ∧ fr 23 = .int .i64 (kids a).length ∧ fr 24 = .int .i64 i ∧ i ≤ (kids a).length ∧ ∃ J, H' = H ++ J ∧ Acc H J (fr 7) 1 (((kids a).take i).map fun k => xs (ser (dif v k))) .nilslice
theorem jD {v : Vr} {kk : Nat} {bv bd bt bm : Nat} {rv : List Nat} {gV : FuncId} {cV : List AV} : ∀ (n : Nat) (a : Ex), sz a ≤ n → wf kk a = true → sz a ≤ 1000000 → sz (dif v a) ≤ 1000000 → ∀ H, DMem v H bv bd bt bm rv gV cV →
    Sound E 88 [xs (ser a), .ptr bv 1 0 0, .ptr bd 1 0 0, .ptr bt 1 0 0] H (.ret (xs (ser (dif v a)))) H
  | 0, a, hn, hw, hs, hds, H, hM => by have := sz_pos a; omega
  | n + 1, a, hn, hw, hs, hds, H, hM => by
    refine sound_of_awp tabOk mixed Tryd.func88 rfl (by rfl) Tryd.ntmps88 (by kernel_rfl) (by simp) ?_
    have ih : ∀ (k : Ex) (i : Nat), (kids a)[i]? = some k → ∀ J : AH, Sound E 88 [xs (ser k), .ptr bv 1 0 0, .ptr bd 1 0 0, .ptr bt 1 0 0] (H ++ J) (.ret (xs (ser (dif v k)))) (H ++ J) := fun k i hi J =>
      jD n k (by have := kid_sz hi; omega) (kid_wf hi hw) (by have := kid_sz hi; omega) (Nat.le_trans (dif_kid hi) hds) _ (hM.app J)
    have hk2 := kids_le a
    have hget : (ser a)[0]? = some (root0 a) := by rw [ser_eq]; rfl
    have hmap : ((ser a).map nd)[0]? = some (nd (root0 a)) := by rw [List.getElem?_map, hget]; rfl
    have hmapE : ∀ h, ((ser a).map nd)[0]'h = nd (root0 a) := fun h => (List.getElem?_eq_some_iff.1 hmap).2
    simp
    refine call_ret (oOperands a (by omega) _) ?_
    simp
    by_cases hleaf : isLeaf a = true
    · have hkz : kids a = [] := by cases a <;> simp [isLeaf] at hleaf <;> rfl
      have hdif : dif v a = if isV v a then number 1 else number 0 := by cases a <;> simp [isLeaf] at hleaf <;> rfl
      rw [hdif]
      simp [hkz, hM.hv, xs, hmap, hmapE]
      refine callD_rd rv hM.hr (fun Hx hx => hM.test Hx hx a hleaf) ?_
      simp
      refine endD [] (by rfl) (by by_cases hrv : rv = [] <;> simp [okW, note, Eff.triv, Eff.wr, Eff.none, upTo, newAt, hrv]) ?_
      cases hv : isV v a with
      | true =>
        simp
        refine call_ret (jNumber 1 (by omega) _) ?_
        simp
        exact finX (t := 5) (by rfl) (by simp)
      | false =>
        simp
        refine call_ret (jNumber 0 (by omega) _) ?_
        simp
        exact finX (t := 5) (by rfl) (by simp)
    · have hkn : (((kids a).length : Int) == 0) = false := by cases a <;> simp [isLeaf] at hleaf <;> simp [kids]
      simp [hkn]
      refine loop_count (LDe v a (.ptr bv 1 0 0) (.ptr bd 1 0 0) (.ptr bt 1 0 0) H) (fun i => (kids a).length - i) 0 ⟨by simp, by simp, by simp, by simp, by simp [xss], by simp [xss], by simp, by simp, by omega, [], by simp, .inl ⟨by simp, by simp⟩⟩ ?_
      rintro i fr H' ⟨g0, g1, g2, g3, g6, g22, g23, g24, hi, J, rfl, hacc⟩
      simp [g23, g24]
      refine branch (fun hc => ?_) (fun hc => ?_)
      · have hlt : i < (kids a).length := by simpa using hc
        obtain ⟨k, hki⟩ := get_lt hlt
        have hkiE : ∀ h, (kids a)[i]'h = k := fun h => (List.getElem?_eq_some_iff.1 hki).2
        have w2 : IntKind.i64.wrap ((i : Int) + 1) = ((i + 1 : Nat) : Int) := by rw [wrap64 (by omega) (by omega)]; omega
        have hS := ih k i hki J
        simp only [xs_eq] at hS
        simp [g2, g22, g24, hki, hkiE, xs, xss, old hM.hd]
        refine call_ret hS ?_
        obtain ⟨v', J', hap, hacc', _⟩ := Acc.push (T := tab) (t := 22) (e := 23) (x := .slice [xs (ser (dif v k))] true) hacc tab22 rfl tab23 rfl rfl (by simp [xs, okc]) ⟨by decide, by simp⟩ (by simp; omega) (by simp; omega)
        simp only [xs_eq] at hap
        simp
        refine bind_some hap ?_
        simp [g24, w2]
        refine ⟨i + 1, by show (kids a).length - (i + 1) < (kids a).length - i; omega, by simp [g0], by simp [g1], by simp [g2], by simp [g3], by simp [g6], by simp [g22], by simp [g23], by simp, by omega, J', rfl, ?_⟩
        rw [List.take_add_one, hki]
        simpa using hacc'
      · have hi' : i = (kids a).length := by have : ¬ i < (kids a).length := by simpa using hc
                                             omega
        subst hi'
        rw [List.take_length] at hacc
        rw [xs_eq] at g0
        clear ih g22 g23 g24 hc hi
        have hbt : bt < H.length := (List.getElem?_eq_some_iff.1 hM.ht).1
        have hbm : bm < H.length := (List.getElem?_eq_some_iff.1 hM.hm).1
        cases a with
        | un o a =>
          have hacc1 : ∃ k, fr 7 = .ref (H.length + k) 1 ∧ J[k]? = some (.row true 1 [xs (ser (dif v a))]) := by
            rcases hacc with ⟨h, _⟩ | ⟨k, h1, h2⟩
            · simp [kids] at h
            · exact ⟨k, by simpa [kids] using h1, by simpa [kids] using h2⟩
          obtain ⟨k, h7, hJ⟩ := hacc1
          have hkJ : k < J.length := (List.getElem?_eq_some_iff.1 hJ).1
          have hdk := dif_kid (v := v) (a := .un o a) (i := 0) (k := a) rfl
          have hsu := sz_un o a
          cases o with
          | neg =>
            simp [g0, g3, g6, h7, hJ, hmap, hmapE, root0, leafN, U.code, old hM.ht, old hM.hm, ruleT]
            refine callD_cv (b := H.length + k) (k := .row true 1 [xs (ser (dif v a))]) (k' := .row false 1 [xs (ser (dif v a))]) (args' := [xs (ser (.un .neg a)), xss [a], xss [dif v a]]) (by simp [hJ]) (fun Hx hx => by simp [hx, xs, xss, kids]) (fun Hx => by rw [List.append_nil]; exact jRule1 (.un .neg a) a (dif v a) (by omega) Hx) ?_
            simp
            refine endD [] (by rfl) (by simp [okW, note, Eff.triv, Eff.wr, Eff.none, upTo, newAt]; omega) ?_
            simp
            exact finC (rs := [.tmp 5]) (vs := [xs (ser (dif v (.un .neg a)))]) (vs' := [xs (ser (dif v (.un .neg a)))]) (by rfl) (by simp [resA, dif]) (by simp [xs]; rfl) (by simp only [noFs, Bool.and_true]; exact xs_noF _ _) rfl
          | sqr =>
            simp [g0, g3, g6, h7, hJ, hmap, hmapE, root0, leafN, U.code, old hM.ht, old hM.hm, ruleT]
            refine callD_cv (b := H.length + k) (k := .row true 1 [xs (ser (dif v a))]) (k' := .row false 1 [xs (ser (dif v a))]) (args' := [xs (ser (.un .sqr a)), xss [a], xss [dif v a]]) (by simp [hJ]) (fun Hx hx => by simp [hx, xs, xss, kids]) (fun Hx => by rw [List.append_nil]; exact jRule2 (.un .sqr a) a (dif v a) (by omega) Hx) ?_
            simp
            refine endD [] (by rfl) (by simp [okW, note, Eff.triv, Eff.wr, Eff.none, upTo, newAt]; omega) ?_
            simp
            exact finC (rs := [.tmp 5]) (vs := [xs (ser (dif v (.un .sqr a)))]) (vs' := [xs (ser (dif v (.un .sqr a)))]) (by rfl) (by simp [resA, dif]) (by simp [xs]; rfl) (by simp only [noFs, Bool.and_true]; exact xs_noF _ _) rfl
          | sqrt =>
            simp [g0, g3, g6, h7, hJ, hmap, hmapE, root0, leafN, U.code, old hM.ht, old hM.hm, ruleT]
            refine callD_cv (b := H.length + k) (k := .row true 1 [xs (ser (dif v a))]) (k' := .row false 1 [xs (ser (dif v a))]) (args' := [xs (ser (.un .sqrt a)), xss [a], xss [dif v a]]) (by simp [hJ]) (fun Hx hx => by simp [hx, xs, xss, kids]) (fun Hx => by rw [List.append_nil]; exact jRule3 (.un .sqrt a) a (dif v a) (by omega) Hx) ?_
            simp
            refine endD [] (by rfl) (by simp [okW, note, Eff.triv, Eff.wr, Eff.none, upTo, newAt]; omega) ?_
            simp
            exact finC (rs := [.tmp 5]) (vs := [xs (ser (dif v (.un .sqrt a)))]) (vs' := [xs (ser (dif v (.un .sqrt a)))]) (by rfl) (by simp [resA, dif]) (by simp [xs]; rfl) (by simp only [noFs, Bool.and_true]; exact xs_noF _ _) rfl
        | bin o a b =>
          have hacc1 : ∃ k, fr 7 = .ref (H.length + k) 2 ∧ J[k]? = some (.row true 1 [xs (ser (dif v a)), xs (ser (dif v b))]) := by
            rcases hacc with ⟨h, _⟩ | ⟨k, h1, h2⟩
            · simp [kids] at h
            · exact ⟨k, by simpa [kids] using h1, by simpa [kids] using h2⟩
          obtain ⟨k, h7, hJ⟩ := hacc1
          have hkJ : k < J.length := (List.getElem?_eq_some_iff.1 hJ).1
          have hdk := dif_kid (v := v) (a := .bin o a b) (i := 0) (k := a) rfl
          have hdk2 := dif_kid (v := v) (a := .bin o a b) (i := 1) (k := b) rfl
          have hsu := sz_bin o a b
          cases o with
          | add =>
            simp [g0, g3, g6, h7, hJ, hmap, hmapE, root0, leafN, B.code, old hM.ht, old hM.hm, ruleT]
            refine callD_cv (b := H.length + k) (k := .row true 1 [xs (ser (dif v a)), xs (ser (dif v b))]) (k' := .row false 1 [xs (ser (dif v a)), xs (ser (dif v b))]) (args' := [xs (ser (.bin .add a b)), xss [a, b], xss [dif v a, dif v b]]) (by simp [hJ]) (fun Hx hx => by simp [hx, xs, xss, kids]) (fun Hx => by rw [List.append_nil]; exact jRule4 (.bin .add a b) a b (dif v a) (dif v b) (by omega) Hx) ?_
            simp
            refine endD [] (by rfl) (by simp [okW, note, Eff.triv, Eff.wr, Eff.none, upTo, newAt]; omega) ?_
            simp
            exact finC (rs := [.tmp 5]) (vs := [xs (ser (dif v (.bin .add a b)))]) (vs' := [xs (ser (dif v (.bin .add a b)))]) (by rfl) (by simp [resA, dif]) (by simp [xs]; rfl) (by simp only [noFs, Bool.and_true]; exact xs_noF _ _) rfl
          | sub =>
            simp [g0, g3, g6, h7, hJ, hmap, hmapE, root0, leafN, B.code, old hM.ht, old hM.hm, ruleT]
            refine callD_cv (b := H.length + k) (k := .row true 1 [xs (ser (dif v a)), xs (ser (dif v b))]) (k' := .row false 1 [xs (ser (dif v a)), xs (ser (dif v b))]) (args' := [xs (ser (.bin .sub a b)), xss [a, b], xss [dif v a, dif v b]]) (by simp [hJ]) (fun Hx hx => by simp [hx, xs, xss, kids]) (fun Hx => by rw [List.append_nil]; exact jRule5 (.bin .sub a b) a b (dif v a) (dif v b) (by omega) Hx) ?_
            simp
            refine endD [] (by rfl) (by simp [okW, note, Eff.triv, Eff.wr, Eff.none, upTo, newAt]; omega) ?_
            simp
            exact finC (rs := [.tmp 5]) (vs := [xs (ser (dif v (.bin .sub a b)))]) (vs' := [xs (ser (dif v (.bin .sub a b)))]) (by rfl) (by simp [resA, dif]) (by simp [xs]; rfl) (by simp only [noFs, Bool.and_true]; exact xs_noF _ _) rfl
          | mul =>
            simp [g0, g3, g6, h7, hJ, hmap, hmapE, root0, leafN, B.code, old hM.ht, old hM.hm, ruleT]
            refine callD_cv (b := H.length + k) (k := .row true 1 [xs (ser (dif v a)), xs (ser (dif v b))]) (k' := .row false 1 [xs (ser (dif v a)), xs (ser (dif v b))]) (args' := [xs (ser (.bin .mul a b)), xss [a, b], xss [dif v a, dif v b]]) (by simp [hJ]) (fun Hx hx => by simp [hx, xs, xss, kids]) (fun Hx => by rw [List.append_nil]; exact jRule6 (.bin .mul a b) a b (dif v a) (dif v b) (by omega) Hx) ?_
            simp
            refine endD [] (by rfl) (by simp [okW, note, Eff.triv, Eff.wr, Eff.none, upTo, newAt]; omega) ?_
            simp
            exact finC (rs := [.tmp 5]) (vs := [xs (ser (dif v (.bin .mul a b)))]) (vs' := [xs (ser (dif v (.bin .mul a b)))]) (by rfl) (by simp [resA, dif]) (by simp [xs]; rfl) (by simp only [noFs, Bool.and_true]; exact xs_noF _ _) rfl
          | div =>
            simp [g0, g3, g6, h7, hJ, hmap, hmapE, root0, leafN, B.code, old hM.ht, old hM.hm, ruleT]
            refine callD_cv (b := H.length + k) (k := .row true 1 [xs (ser (dif v a)), xs (ser (dif v b))]) (k' := .row false 1 [xs (ser (dif v a)), xs (ser (dif v b))]) (args' := [xs (ser (.bin .div a b)), xss [a, b], xss [dif v a, dif v b]]) (by simp [hJ]) (fun Hx hx => by simp [hx, xs, xss, kids]) (fun Hx => by rw [List.append_nil]; exact jRule7 (.bin .div a b) a b (dif v a) (dif v b) (by omega) Hx) ?_
            simp
            refine endD [] (by rfl) (by simp [okW, note, Eff.triv, Eff.wr, Eff.none, upTo, newAt]; omega) ?_
            simp
            exact finC (rs := [.tmp 5]) (vs := [xs (ser (dif v (.bin .div a b)))]) (vs' := [xs (ser (dif v (.bin .div a b)))]) (by rfl) (by simp [resA, dif]) (by simp [xs]; rfl) (by simp only [noFs, Bool.and_true]; exact xs_noF _ _) rfl
        | _ => simp [isLeaf] at hleaf
end Go.Proofs.YtohmodcheahpgaaDoor.Arm

namespace Go.Proofs.YtohmodcheahpgaaDoor.Arm
open Go.Arm Go.Pl

theorem jDerivative {v : Vr} {kk : Nat} (a : Ex) (hw : wf kk a = true) (hs : sz a ≤ 1000000) (hds : sz (dif v a) ≤ 1000000) (H : AH) (rv : List Nat) (gV : FuncId) (cV : List AV) (hr : ∀ b ∈ rv, b < H.length)
    (test : ∀ Hx : AH, (∀ b ∈ rv, Hx[b]? = H[b]?) → ∀ e, isLeaf e = true → Sound E gV ([nd (root0 e)] ++ cV) Hx (.ret (.bool (isV v e))) Hx) :
    Sound E 64 [xs (ser a), .func (.func gV) [] cV] H (.ret (xs (ser (der v a)))) H := by
  refine sound_of_awp tabOk mixed Tryd.func64 rfl (by rfl) Tryd.ntmps64 (by kernel_rfl) (by simp) ?_
  simp
  refine call_ret (jRules _) ?_
  simp
  have hM : DMem v (H ++ [.row true 1 [.func (.func gV) [] cV], .map ruleT, .row true 1 [.map (H.length + 1)], .row true 1 [.func (.func 88) [] [.ptr H.length 1 0 0, .ptr (H.length + 3) 1 0 0, .ptr (H.length + 2) 1 0 0]]]) H.length (H.length + 3) (H.length + 2) (H.length + 1) rv gV cV :=
    ⟨by simp, by simp, by simp, by simp, fun b hb => by have := hr b hb; simp; omega, fun Hx hx e he => test Hx (fun b hb => by rw [hx b hb, List.getElem?_append_left (hr b hb)]) e he⟩
  have hS := jD (kk := kk) (sz a) a (Nat.le_refl _) hw hs hds _ hM
  refine call_ret hS ?_
  simp
  refine call_ret (jSimplify (sz (dif v a)) (dif v a) (Nat.le_refl _) (dif_wf (k := kk) v a hw) (by omega) _) ?_
  simp
  exact finC (rs := [.tmp 4]) (vs := [xs (ser (der v a))]) (vs' := [xs (ser (der v a))]) (by rfl) (by simp [resA, der]) (by simp [xs]; rfl) (by simp only [noFs, Bool.and_true]; exact xs_noF _ _) rfl
theorem root_op (e : Ex) (h : isLeaf e = true) : ((root0 e).op == 2) = (match e with | .var _ => true | _ => false) ∧ ((root0 e).op == 3) = (match e with | .time => true | _ => false) := by
  cases e <;> simp [isLeaf] at h <;> simp [root0, leafN]
theorem jDiff1 (e : Ex) (he : isLeaf e = true) (i : Int) (b : Nat) (H : AH) (hb : H[b]? = some (.row true 1 [.int .i64 i])) : Sound E 65 [nd (root0 e), .ptr b 1 0 0] H (.ret (.bool (isV (.st i) e))) H := by
  refine sound_of_awp tabOk mixed Tryd.func65 rfl (by rfl) Tryd.ntmps65 (by kernel_rfl) (by simp) ?_
  cases e with
  | var k =>
    simp [root0, leafN, old hb]
    exact fin1 (rs := [.tmp 3]) (by rfl) (by simp [resA, isV]) (by simp [noF])
  | num c =>
    simp [root0, leafN, old hb]
    exact fin1 (rs := [.tmp 3]) (by rfl) (by simp [resA, isV]) (by simp [noF])
  | time =>
    simp [root0, leafN, old hb]
    exact fin1 (rs := [.tmp 3]) (by rfl) (by simp [resA, isV]) (by simp [noF])
  | _ => simp [isLeaf] at he
theorem jTime1 (e : Ex) (he : isLeaf e = true) (H : AH) : Sound E 71 [nd (root0 e)] H (.ret (.bool (isV .tm e))) H := by
  refine sound_of_awp tabOk mixed Tryd.func71 rfl (by rfl) Tryd.ntmps71 (by kernel_rfl) (by simp) ?_
  cases e with
  | var k =>
    simp [root0, leafN]
    exact fin1 (rs := [.tmp 2]) (by rfl) (by simp [resA, isV]) (by simp [noF])
  | num c =>
    simp [root0, leafN]
    exact fin1 (rs := [.tmp 2]) (by rfl) (by simp [resA, isV]) (by simp [noF])
  | time =>
    simp [root0, leafN]
    exact fin1 (rs := [.tmp 2]) (by rfl) (by simp [resA, isV]) (by simp [noF])
  | _ => simp [isLeaf] at he
theorem jDiff {kk : Nat} (a : Ex) (i : Int) (hw : wf kk a = true) (hs : sz a ≤ 1000000) (hds : sz (dif (.st i) a) ≤ 1000000) (H : AH) : Sound E 24 [xs (ser a), .int .i64 i] H (.ret (xs (ser (der (.st i) a)))) H := by
  refine sound_of_awp tabOk mixed Tryd.func24 rfl (by rfl) Tryd.ntmps24 (by kernel_rfl) (by simp) ?_
  simp
  refine call_ret (jDerivative (v := .st i) (kk := kk) a hw hs hds _ [H.length] 65 [.ptr H.length 1 0 0] (by simp) (fun Hx hx e he => jDiff1 e he i H.length Hx (by rw [hx H.length (by simp)]; simp))) ?_
  simp
  exact finC (rs := [.tmp 4]) (vs := [xs (ser (der (.st i) a))]) (vs' := [xs (ser (der (.st i) a))]) (by rfl) (by simp [resA]) (by simp [xs]; rfl) (by simp only [noFs, Bool.and_true]; exact xs_noF _ _) rfl
theorem jTimeDerivative {kk : Nat} (a : Ex) (hw : wf kk a = true) (hs : sz a ≤ 1000000) (hds : sz (dif .tm a) ≤ 1000000) (H : AH) : Sound E 38 [xs (ser a)] H (.ret (xs (ser (der .tm a)))) H := by
  refine sound_of_awp tabOk mixed Tryd.func38 rfl (by rfl) Tryd.ntmps38 (by kernel_rfl) (by simp) ?_
  simp
  refine call_ret (jDerivative (v := .tm) (kk := kk) a hw hs hds _ [] 71 [] (by simp) (fun Hx hx e he => by simpa using jTime1 e he Hx)) ?_
  simp
  exact finX (t := 2) (by rfl) (by simp)
end Go.Proofs.YtohmodcheahpgaaDoor.Arm

namespace Go.Proofs.YtohmodcheahpgaaDoor.Arm
open Go.Arm Go.Pl

/-- A call in a region of drawn order that reads some blocks and writes one. -/
theorem callD_up (rds : List Nat) (b : Nat) (k' : ABlk) {g : FuncId} {captured args : List AV} {next : NxD} {H : AH} {r : AV} (hlt : ∀ c ∈ rds, c < H.length) (hb : b ∈ rds) (h : ∀ Hx : AH, (∀ c ∈ rds, Hx[c]? = H[c]?) → Sound E g (args ++ captured) Hx (.ret r) (Hx.set b k'))
    (kk : next .go r ⟨rds, [(b, k')], none, true⟩ (H.set b k')) : callD E (.func (.func g) [] captured) args next H :=
  ⟨r, rds, [(b, k')], ⟨hlt, fun p hp => by simp at hp; subst hp; exact hb, fun Hx hx => .inl (h Hx hx)⟩, kk⟩

def opsT : List (AV × AV) := [(.int .i64 7, fnA 74), (.int .i64 8, fnA 82), (.int .i64 9, fnA 75), (.int .i64 10, fnA 106)]
theorem oBinaryOps (H : AH) : Sound E 89 [] H (.ret (.map H.length)) (H ++ [.map opsT]) := by
  refine sound_of_awp tabOk mixed Tryd.func89 rfl (by rfl) Tryd.ntmps89 (by kernel_rfl) (by simp) ?_
  simp
  exact finK (rs := [.tmp 0]) (vs := [.map H.length]) (by rfl) (by simp [resA]) rfl
def evF (be bi bx bt bv bb : Nat) : AV := .func (.func 90) [] [.ptr be 1 0 0, .ptr bi 1 0 0, .ptr bx 1 0 0, .ptr bt 1 0 0, .ptr bv 1 0 0, .ptr bb 1 0 0]
/-- What the evaluating function finds in the memory. -/
structure EMem (l : List Nd) (xv : List I) (t : I) (H : AH) (be bi bx bt bv bb bm : Nat) : Prop where
  he : H[be]? = some (.row true 1 [xs l])
  hx : H[bx]? = some (.row true 1 [.slice (xv.map iv) false])
  ht : H[bt]? = some (.row true 2 [iv t])
  hv : H[bv]? = some (.row true 1 [evF be bi bx bt bv bb])
  hb : H[bb]? = some (.row true 1 [.map bm])
  hm : H[bm]? = some (.map opsT)
  hi : ∃ k, H[bi]? = some (.row true 1 [.int .i64 k])
  ne : bi ≠ be ∧ bi ≠ bx ∧ bi ≠ bt ∧ bi ≠ bv ∧ bi ≠ bb ∧ bi ≠ bm
theorem EMem.app {l : List Nd} {xv : List I} {t : I} {H : AH} {be bi bx bt bv bb bm : Nat} (h : EMem l xv t H be bi bx bt bv bb bm) (J : AH) : EMem l xv t (H ++ J) be bi bx bt bv bb bm :=
  ⟨get_old h.he, get_old h.hx, get_old h.ht, get_old h.hv, get_old h.hb, get_old h.hm, let ⟨k, hk⟩ := h.hi; ⟨k, get_old hk⟩, h.ne⟩
theorem EMem.set {l : List Nd} {xv : List I} {t : I} {H : AH} {be bi bx bt bv bb bm : Nat} (h : EMem l xv t H be bi bx bt bv bb bm) (k : Int) : EMem l xv t (H.set bi (.row true 1 [.int .i64 k])) be bi bx bt bv bb bm := by
  obtain ⟨n1, n2, n3, n4, n5, n6⟩ := h.ne
  obtain ⟨k0, hk0⟩ := h.hi
  exact ⟨by rw [List.getElem?_set_ne n1]; exact h.he, by rw [List.getElem?_set_ne n2]; exact h.hx, by rw [List.getElem?_set_ne n3]; exact h.ht, by rw [List.getElem?_set_ne n4]; exact h.hv, by rw [List.getElem?_set_ne n5]; exact h.hb, by rw [List.getElem?_set_ne n6]; exact h.hm,
    ⟨k, by rw [List.getElem?_set_self (List.getElem?_eq_some_iff.1 hk0).1]⟩, h.ne⟩
theorem EMem.like {l : List Nd} {xv : List I} {t : I} {H Hx : AH} {be bi bx bt bv bb bm : Nat} (h : EMem l xv t H be bi bx bt bv bb bm) (k : ∀ c ∈ [be, bi, bx, bt, bv, bb, bm], Hx[c]? = H[c]?) : EMem l xv t Hx be bi bx bt bv bb bm :=
  ⟨by rw [k be (by simp)]; exact h.he, by rw [k bx (by simp)]; exact h.hx, by rw [k bt (by simp)]; exact h.ht, by rw [k bv (by simp)]; exact h.hv, by rw [k bb (by simp)]; exact h.hb, by rw [k bm (by simp)]; exact h.hm, let ⟨q, hq⟩ := h.hi; ⟨q, by rw [k bi (by simp)]; exact hq⟩, h.ne⟩
theorem set_set_app {H J : AH} {b : Nat} {x y : ABlk} (h : b < H.length) : (H.set b x ++ J).set b y = H.set b y ++ J := by
  rw [List.set_append_left _ _ (by simpa using h), List.set_set]

theorem oEval1 {xv : List I} {t : I} (hxv : ∀ p ∈ xv, vB p = true) (hxl : xv.length ≤ 1000000000) (htv : vB t = true) {l : List Nd} (hl : l.length ≤ 1000000000) {be bi bx bt bv bb bm : Nat} : ∀ (n : Nat) (a : Ex), sz a ≤ n → wf xv.length a = true → ∀ (pre r : List Nd) (H : AH), l = pre ++ ser a ++ r →
    EMem l xv t H be bi bx bt bv bb bm → H[bi]? = some (.row true 1 [.int .i64 pre.length]) →
    Sound E 90 [.ptr be 1 0 0, .ptr bi 1 0 0, .ptr bx 1 0 0, .ptr bt 1 0 0, .ptr bv 1 0 0, .ptr bb 1 0 0] H (.ret (iv (ev xv t a))) (H.set bi (.row true 1 [.int .i64 ((pre.length + sz a : Nat) : Int)]))
  | 0, a, hn, hw, pre, r, H, hpre, hM, hbi => by have := sz_pos a; omega
  | n + 1, a, hn, hw, pre, r, H, hpre, hM, hbi => by
    refine sound_of_awp tabOk mixed Tryd.func90 rfl (by rfl) Tryd.ntmps90 (by kernel_rfl) (by simp) ?_
    have hbl : bi < H.length := (List.getElem?_eq_some_iff.1 hbi).1
    have hlen : l.length = pre.length + sz a + r.length := by rw [hpre]; simp [sz]; omega
    have hget : l[pre.length]? = some (root0 a) := by rw [hpre, ser_eq]; simp
    have hmap : (l.map nd)[pre.length]? = some (nd (root0 a)) := by rw [List.getElem?_map, hget]; rfl
    have hmapE : ∀ h, (l.map nd)[pre.length]'h = nd (root0 a) := fun h => (List.getElem?_eq_some_iff.1 hmap).2
    have w1 : IntKind.i64.wrap ((pre.length : Int) + 1) = ((pre.length + 1 : Nat) : Int) := by rw [wrap64 (by omega) (by omega)]; omega
    obtain ⟨n1, n2, n3, n4, n5, n6⟩ := hM.ne
    have hgetE : ∀ h, l[pre.length]'h = root0 a := fun h => (List.getElem?_eq_some_iff.1 hget).2
    generalize hK : ((pre.length + sz a : Nat) : Int) = K
    have fin : ∀ (fr : AFr) (J : AH) (x : AExit) (k : Int), fr 6 = .ptr H.length 1 0 0 → J[0]? = some (.row true 2 [iv (ev xv t a)]) → k = K → (x = .ret ∨ x = .normal) →
        bodyK E Tryd.f90 H (.ret (iv (ev xv t a))) (H.set bi (.row true 1 [.int .i64 K])) x fr (H.set bi (.row true 1 [.int .i64 k]) ++ J) := by
      intro fr J x k h6 hJ hk hx
      subst hk
      refine finU (rs := [.cell 6 26]) (by rfl) ?_ (by simp) (set_blocks (by simp [noFB, noF, noFs])) (by simp [noF, noFs]) hx
      have e : (H.set bi (.row true 1 [.int .i64 k]) ++ J)[H.length]? = some (.row true 2 [iv (ev xv t a)]) := by
        rw [List.getElem?_append_right (by simp), List.length_set, Nat.sub_self]; exact hJ
      simp [resA, h6, e]
    have hM1 := hM.set ((pre.length + 1 : Nat) : Int)
    have hbi1 : (H.set bi (.row true 1 [.int .i64 ((pre.length + 1 : Nat) : Int)]))[bi]? = some (.row true 1 [.int .i64 ((pre.length + 1 : Nat) : Int)]) := List.getElem?_set_self hbl
    simp [old hM.he, old hbi, olds hbi, xs, hget, hgetE, w1]
    simp at hM1 hbi1
    generalize hH1 : H.set bi (.row true 1 [.int .i64 ((pre.length : Int) + 1)]) = H1 at *
    have hl1 : H1.length = H.length := by rw [← hH1]; simp
    rw [← hl1]
    have rec1 : ∀ (k : Ex) (pre' r' : List Nd) (m m' : Int) (J0 : AH), sz k ≤ n → wf xv.length k = true → l = pre' ++ ser k ++ r' → m = (pre'.length : Int) → m' = ((pre'.length + sz k : Nat) : Int) →
        Sound E 90 [.ptr be 1 0 0, .ptr bi 1 0 0, .ptr bx 1 0 0, .ptr bt 1 0 0, .ptr bv 1 0 0, .ptr bb 1 0 0] (H.set bi (.row true 1 [.int .i64 m]) ++ J0) (.ret (iv (ev xv t k))) (H.set bi (.row true 1 [.int .i64 m']) ++ J0) := by
      rintro k pre' r' m m' J0 h1 h2 h3 rfl rfl
      have h := oEval1 hxv hxl htv hl n k h1 h2 pre' r' (H.set bi (.row true 1 [.int .i64 (pre'.length : Int)]) ++ J0) h3 ((hM.set _).app J0) (by rw [List.getElem?_append_left (by simpa using hbl), List.getElem?_set_self hbl])
      rwa [set_set_app hbl] at h
    have hval := ev_valid hxv htv a hw
    cases a with
    | num c =>
      have hk1 : (pre.length : Int) + 1 = K := by rw [← hK, sz_num]; omega
      simp [root0]
      rw [hl1, ← hH1]
      exact fin _ _ _ _ (by simp) rfl hk1 (by simp)
    | var v =>
      have hk1 : (pre.length : Int) + 1 = K := by rw [← hK, sz_var]; omega
      simp only [wf, decide_eq_true_eq] at hw
      obtain ⟨p, hxg⟩ := get_lt hw
      have hev : ev xv t (.var v) = p := by simp [ev, hxg]
      have hxgE : ∀ h, xv[v]'h = p := fun h => (List.getElem?_eq_some_iff.1 hxg).2
      simp [root0, leafN, old hM1.hx, hxg, hxgE]
      rw [hl1, ← hH1]
      exact fin _ _ _ _ (by simp) (by simp [hev]) hk1 (by simp)
    | time =>
      have hk1 : (pre.length : Int) + 1 = K := by rw [← hK, sz_time]; omega
      simp [root0, leafN, old hM1.ht]
      rw [hl1, ← hH1]
      exact fin _ _ _ _ (by simp) (by simp [ev]) hk1 (by simp)
    | un o a =>
      rw [sz_un] at hn hK
      have hva := ev_valid hxv htv a hw
      cases o with
      | neg =>
        simp [root0, leafN, U.code, old hM1.hv, evF]
        have hS := rec1 a (pre ++ [leafN 4 0]) r ((pre.length : Int) + 1) K [.row true 2 [iv (0, 0)], .row true 4 [nd (leafN 4 0)]] (by omega) hw (by rw [hpre]; simp [ser, U.code]) (by simp) (by rw [← hK]; simp; omega)
        rw [hH1] at hS
        refine call_ret hS ?_
        rw [hl1]
        obtain ⟨H2, hH2⟩ : ∃ H2, H2 = H.set bi (.row true 1 [.int .i64 K]) := ⟨_, rfl⟩
        have hl2 : H2.length = H.length := by rw [hH2]; simp
        rw [← hl2]
        rw [← hH2]
        simp
        refine call_ret (iNeg _ hva _) ?_
        simp
        rw [hl2, hH2]
        exact fin _ _ _ _ (by simp) (by simp [ev, unV]) rfl (by simp)
      | sqr =>
        simp [root0, leafN, U.code, old hM1.hv, evF]
        have hS := rec1 a (pre ++ [leafN 5 0]) r ((pre.length : Int) + 1) K [.row true 2 [iv (0, 0)], .row true 4 [nd (leafN 5 0)]] (by omega) hw (by rw [hpre]; simp [ser, U.code]) (by simp) (by rw [← hK]; simp; omega)
        rw [hH1] at hS
        refine call_ret hS ?_
        rw [hl1]
        obtain ⟨H2, hH2⟩ : ∃ H2, H2 = H.set bi (.row true 1 [.int .i64 K]) := ⟨_, rfl⟩
        have hl2 : H2.length = H.length := by rw [hH2]; simp
        rw [← hl2]
        rw [← hH2]
        simp
        refine call_ret (iSquare _ hva _) ?_
        simp
        rw [hl2, hH2]
        exact fin _ _ _ _ (by simp) (by simp [ev, unV]) rfl (by simp)
      | sqrt =>
        simp [root0, leafN, U.code, old hM1.hv, evF]
        have hS := rec1 a (pre ++ [leafN 6 0]) r ((pre.length : Int) + 1) K [.row true 2 [iv (0, 0)], .row true 4 [nd (leafN 6 0)]] (by omega) hw (by rw [hpre]; simp [ser, U.code]) (by simp) (by rw [← hK]; simp; omega)
        rw [hH1] at hS
        refine call_ret hS ?_
        rw [hl1]
        obtain ⟨H2, hH2⟩ : ∃ H2, H2 = H.set bi (.row true 1 [.int .i64 K]) := ⟨_, rfl⟩
        have hl2 : H2.length = H.length := by rw [hH2]; simp
        rw [← hl2]
        rw [← hH2]
        simp
        refine branch (fun hc => ?_) (fun hc => ?_)
        · have h0 : (ev xv t a).1 < 0 := by simpa using hc
          simp
          refine call_ret (iEntire _) ?_
          simp
          rw [hl2, hH2]
          exact fin _ _ _ _ (by simp) (by simp [ev, unV, h0]) rfl (by simp)
        · have h0 : ¬ (ev xv t a).1 < 0 := by simpa using hc
          have hb := vB_bounds hva
          simp
          refine call_ret (iSqrt _ hva (by omega) _) ?_
          simp
          rw [hl2, hH2]
          exact fin _ _ _ _ (by simp) (by simp [ev, unV, h0]) rfl (by simp)
    | bin o a b =>
      rw [sz_bin] at hn hK
      simp only [wf, Bool.and_eq_true] at hw
      have hva := ev_valid hxv htv a hw.1
      have hvb := ev_valid hxv htv b hw.2
      cases o with
      | add =>
        simp [root0, leafN, B.code, old hM1.hv, evF]
        have hS := rec1 a (pre ++ [leafN 7 0]) (ser b ++ r) ((pre.length : Int) + 1) ((pre.length + 1 + sz a : Nat) : Int) [.row true 2 [iv (0, 0)], .row true 4 [nd (leafN 7 0)]] (by omega) hw.1 (by rw [hpre]; simp [ser, B.code]) (by simp) (by simp)
        rw [hH1] at hS
        refine call_ret hS ?_
        rw [hl1]
        have hM2 := hM.set ((pre.length + 1 + sz a : Nat) : Int)
        have hbi2 : (H.set bi (.row true 1 [.int .i64 ((pre.length + 1 + sz a : Nat) : Int)]))[bi]? = some (.row true 1 [.int .i64 ((pre.length + 1 + sz a : Nat) : Int)]) := List.getElem?_set_self hbl
        obtain ⟨H2, hH2⟩ : ∃ H2, H2 = H.set bi (.row true 1 [.int .i64 ((pre.length + 1 + sz a : Nat) : Int)]) := ⟨_, rfl⟩
        have hl2 : H2.length = H.length := by rw [hH2]; simp
        rw [← hH2] at hM2 hbi2
        rw [← hl2]
        rw [← hH2]
        simp [old hM2.hb, old hM2.hm, old hM2.hv, evF, opsT, leafN]
        refine callD_up [be, bi, bx, bt, bv, bb, bm] bi (.row true 1 [.int .i64 K]) (fun c hc => by
          have h1 := (List.getElem?_eq_some_iff.1 hM2.he).1
          have h2 := (List.getElem?_eq_some_iff.1 hM2.hx).1
          have h3 := (List.getElem?_eq_some_iff.1 hM2.ht).1
          have h4 := (List.getElem?_eq_some_iff.1 hM2.hv).1
          have h5 := (List.getElem?_eq_some_iff.1 hM2.hb).1
          have h6 := (List.getElem?_eq_some_iff.1 hM2.hm).1
          have h7 := (List.getElem?_eq_some_iff.1 hbi2).1
          have : c < H2.length := by
            simp only [List.mem_cons, List.not_mem_nil, or_false] at hc
            rcases hc with rfl | rfl | rfl | rfl | rfl | rfl | rfl <;> assumption
          simp only [List.length_append]; omega) (by simp) (fun Hx hx => by
          have hMx := (hM2.app _).like hx
          have := oEval1 hxv hxl htv hl n b (by omega) hw.2 (pre ++ [leafN 7 0] ++ ser a) r Hx (by rw [hpre]; simp [ser, B.code]) hMx (by rw [hx bi (by simp), List.getElem?_append_left (List.getElem?_eq_some_iff.1 hbi2).1, hbi2]; simp [sz]; omega)
          have e : (((pre ++ [leafN 7 0] ++ ser a).length + sz b : Nat) : Int) = K := by rw [← hK]; simp [sz]; omega
          rw [e] at this
          simpa using this) ?_
        have h1 := (List.getElem?_eq_some_iff.1 hM2.he).1
        have h2 := (List.getElem?_eq_some_iff.1 hM2.hx).1
        have h3 := (List.getElem?_eq_some_iff.1 hM2.ht).1
        have h4 := (List.getElem?_eq_some_iff.1 hM2.hv).1
        have h5 := (List.getElem?_eq_some_iff.1 hM2.hb).1
        have h6 := (List.getElem?_eq_some_iff.1 hM2.hm).1
        have h7 := (List.getElem?_eq_some_iff.1 hbi2).1
        have hset : ∀ L : AH, (H2 ++ L).set bi (.row true 1 [.int .i64 K]) = H.set bi (.row true 1 [.int .i64 K]) ++ L := fun L => by rw [hH2, set_set_app hbl]
        rw [hset]
        obtain ⟨H3, hH3⟩ : ∃ H3, H3 = H.set bi (.row true 1 [.int .i64 K]) := ⟨_, rfl⟩
        have hl3 : H3.length = H2.length := by rw [hH3, hl2]; simp
        rw [← hl3, ← hH3]
        simp
        refine callD_ret0 (fun Hx => iAdd _ _ hva hvb Hx) ?_
        simp
        refine endD [] (by rfl) (by simp [okW, note, Eff.triv, Eff.wr, Eff.none, upTo, newAt]; omega) ?_
        simp
        rw [hl3, hl2, hH3]
        exact fin _ _ _ _ (by simp) (by simp [ev, binV]) rfl (by simp)
      | sub =>
        simp [root0, leafN, B.code, old hM1.hv, evF]
        have hS := rec1 a (pre ++ [leafN 8 0]) (ser b ++ r) ((pre.length : Int) + 1) ((pre.length + 1 + sz a : Nat) : Int) [.row true 2 [iv (0, 0)], .row true 4 [nd (leafN 8 0)]] (by omega) hw.1 (by rw [hpre]; simp [ser, B.code]) (by simp) (by simp)
        rw [hH1] at hS
        refine call_ret hS ?_
        rw [hl1]
        have hM2 := hM.set ((pre.length + 1 + sz a : Nat) : Int)
        have hbi2 : (H.set bi (.row true 1 [.int .i64 ((pre.length + 1 + sz a : Nat) : Int)]))[bi]? = some (.row true 1 [.int .i64 ((pre.length + 1 + sz a : Nat) : Int)]) := List.getElem?_set_self hbl
        obtain ⟨H2, hH2⟩ : ∃ H2, H2 = H.set bi (.row true 1 [.int .i64 ((pre.length + 1 + sz a : Nat) : Int)]) := ⟨_, rfl⟩
        have hl2 : H2.length = H.length := by rw [hH2]; simp
        rw [← hH2] at hM2 hbi2
        rw [← hl2]
        rw [← hH2]
        simp [old hM2.hb, old hM2.hm, old hM2.hv, evF, opsT, leafN]
        refine callD_up [be, bi, bx, bt, bv, bb, bm] bi (.row true 1 [.int .i64 K]) (fun c hc => by
          have h1 := (List.getElem?_eq_some_iff.1 hM2.he).1
          have h2 := (List.getElem?_eq_some_iff.1 hM2.hx).1
          have h3 := (List.getElem?_eq_some_iff.1 hM2.ht).1
          have h4 := (List.getElem?_eq_some_iff.1 hM2.hv).1
          have h5 := (List.getElem?_eq_some_iff.1 hM2.hb).1
          have h6 := (List.getElem?_eq_some_iff.1 hM2.hm).1
          have h7 := (List.getElem?_eq_some_iff.1 hbi2).1
          have : c < H2.length := by
            simp only [List.mem_cons, List.not_mem_nil, or_false] at hc
            rcases hc with rfl | rfl | rfl | rfl | rfl | rfl | rfl <;> assumption
          simp only [List.length_append]; omega) (by simp) (fun Hx hx => by
          have hMx := (hM2.app _).like hx
          have := oEval1 hxv hxl htv hl n b (by omega) hw.2 (pre ++ [leafN 8 0] ++ ser a) r Hx (by rw [hpre]; simp [ser, B.code]) hMx (by rw [hx bi (by simp), List.getElem?_append_left (List.getElem?_eq_some_iff.1 hbi2).1, hbi2]; simp [sz]; omega)
          have e : (((pre ++ [leafN 8 0] ++ ser a).length + sz b : Nat) : Int) = K := by rw [← hK]; simp [sz]; omega
          rw [e] at this
          simpa using this) ?_
        have h1 := (List.getElem?_eq_some_iff.1 hM2.he).1
        have h2 := (List.getElem?_eq_some_iff.1 hM2.hx).1
        have h3 := (List.getElem?_eq_some_iff.1 hM2.ht).1
        have h4 := (List.getElem?_eq_some_iff.1 hM2.hv).1
        have h5 := (List.getElem?_eq_some_iff.1 hM2.hb).1
        have h6 := (List.getElem?_eq_some_iff.1 hM2.hm).1
        have h7 := (List.getElem?_eq_some_iff.1 hbi2).1
        have hset : ∀ L : AH, (H2 ++ L).set bi (.row true 1 [.int .i64 K]) = H.set bi (.row true 1 [.int .i64 K]) ++ L := fun L => by rw [hH2, set_set_app hbl]
        rw [hset]
        obtain ⟨H3, hH3⟩ : ∃ H3, H3 = H.set bi (.row true 1 [.int .i64 K]) := ⟨_, rfl⟩
        have hl3 : H3.length = H2.length := by rw [hH3, hl2]; simp
        rw [← hl3, ← hH3]
        simp
        refine callD_ret0 (fun Hx => iSub _ _ hva hvb Hx) ?_
        simp
        refine endD [] (by rfl) (by simp [okW, note, Eff.triv, Eff.wr, Eff.none, upTo, newAt]; omega) ?_
        simp
        rw [hl3, hl2, hH3]
        exact fin _ _ _ _ (by simp) (by simp [ev, binV]) rfl (by simp)
      | mul =>
        simp [root0, leafN, B.code, old hM1.hv, evF]
        have hS := rec1 a (pre ++ [leafN 9 0]) (ser b ++ r) ((pre.length : Int) + 1) ((pre.length + 1 + sz a : Nat) : Int) [.row true 2 [iv (0, 0)], .row true 4 [nd (leafN 9 0)]] (by omega) hw.1 (by rw [hpre]; simp [ser, B.code]) (by simp) (by simp)
        rw [hH1] at hS
        refine call_ret hS ?_
        rw [hl1]
        have hM2 := hM.set ((pre.length + 1 + sz a : Nat) : Int)
        have hbi2 : (H.set bi (.row true 1 [.int .i64 ((pre.length + 1 + sz a : Nat) : Int)]))[bi]? = some (.row true 1 [.int .i64 ((pre.length + 1 + sz a : Nat) : Int)]) := List.getElem?_set_self hbl
        obtain ⟨H2, hH2⟩ : ∃ H2, H2 = H.set bi (.row true 1 [.int .i64 ((pre.length + 1 + sz a : Nat) : Int)]) := ⟨_, rfl⟩
        have hl2 : H2.length = H.length := by rw [hH2]; simp
        rw [← hH2] at hM2 hbi2
        rw [← hl2]
        rw [← hH2]
        simp [old hM2.hb, old hM2.hm, old hM2.hv, evF, opsT, leafN]
        refine callD_up [be, bi, bx, bt, bv, bb, bm] bi (.row true 1 [.int .i64 K]) (fun c hc => by
          have h1 := (List.getElem?_eq_some_iff.1 hM2.he).1
          have h2 := (List.getElem?_eq_some_iff.1 hM2.hx).1
          have h3 := (List.getElem?_eq_some_iff.1 hM2.ht).1
          have h4 := (List.getElem?_eq_some_iff.1 hM2.hv).1
          have h5 := (List.getElem?_eq_some_iff.1 hM2.hb).1
          have h6 := (List.getElem?_eq_some_iff.1 hM2.hm).1
          have h7 := (List.getElem?_eq_some_iff.1 hbi2).1
          have : c < H2.length := by
            simp only [List.mem_cons, List.not_mem_nil, or_false] at hc
            rcases hc with rfl | rfl | rfl | rfl | rfl | rfl | rfl <;> assumption
          simp only [List.length_append]; omega) (by simp) (fun Hx hx => by
          have hMx := (hM2.app _).like hx
          have := oEval1 hxv hxl htv hl n b (by omega) hw.2 (pre ++ [leafN 9 0] ++ ser a) r Hx (by rw [hpre]; simp [ser, B.code]) hMx (by rw [hx bi (by simp), List.getElem?_append_left (List.getElem?_eq_some_iff.1 hbi2).1, hbi2]; simp [sz]; omega)
          have e : (((pre ++ [leafN 9 0] ++ ser a).length + sz b : Nat) : Int) = K := by rw [← hK]; simp [sz]; omega
          rw [e] at this
          simpa using this) ?_
        have h1 := (List.getElem?_eq_some_iff.1 hM2.he).1
        have h2 := (List.getElem?_eq_some_iff.1 hM2.hx).1
        have h3 := (List.getElem?_eq_some_iff.1 hM2.ht).1
        have h4 := (List.getElem?_eq_some_iff.1 hM2.hv).1
        have h5 := (List.getElem?_eq_some_iff.1 hM2.hb).1
        have h6 := (List.getElem?_eq_some_iff.1 hM2.hm).1
        have h7 := (List.getElem?_eq_some_iff.1 hbi2).1
        have hset : ∀ L : AH, (H2 ++ L).set bi (.row true 1 [.int .i64 K]) = H.set bi (.row true 1 [.int .i64 K]) ++ L := fun L => by rw [hH2, set_set_app hbl]
        rw [hset]
        obtain ⟨H3, hH3⟩ : ∃ H3, H3 = H.set bi (.row true 1 [.int .i64 K]) := ⟨_, rfl⟩
        have hl3 : H3.length = H2.length := by rw [hH3, hl2]; simp
        rw [← hl3, ← hH3]
        simp
        refine callD_ret0 (fun Hx => iMul _ _ hva hvb Hx) ?_
        simp
        refine endD [] (by rfl) (by simp [okW, note, Eff.triv, Eff.wr, Eff.none, upTo, newAt]; omega) ?_
        simp
        rw [hl3, hl2, hH3]
        exact fin _ _ _ _ (by simp) (by simp [ev, binV]) rfl (by simp)
      | div =>
        simp [root0, leafN, B.code, old hM1.hv, evF]
        have hS := rec1 a (pre ++ [leafN 10 0]) (ser b ++ r) ((pre.length : Int) + 1) ((pre.length + 1 + sz a : Nat) : Int) [.row true 2 [iv (0, 0)], .row true 4 [nd (leafN 10 0)]] (by omega) hw.1 (by rw [hpre]; simp [ser, B.code]) (by simp) (by simp)
        rw [hH1] at hS
        refine call_ret hS ?_
        rw [hl1]
        have hM2 := hM.set ((pre.length + 1 + sz a : Nat) : Int)
        have hbi2 : (H.set bi (.row true 1 [.int .i64 ((pre.length + 1 + sz a : Nat) : Int)]))[bi]? = some (.row true 1 [.int .i64 ((pre.length + 1 + sz a : Nat) : Int)]) := List.getElem?_set_self hbl
        obtain ⟨H2, hH2⟩ : ∃ H2, H2 = H.set bi (.row true 1 [.int .i64 ((pre.length + 1 + sz a : Nat) : Int)]) := ⟨_, rfl⟩
        have hl2 : H2.length = H.length := by rw [hH2]; simp
        rw [← hH2] at hM2 hbi2
        rw [← hl2]
        rw [← hH2]
        simp [old hM2.hb, old hM2.hm, old hM2.hv, evF, opsT, leafN]
        refine callD_up [be, bi, bx, bt, bv, bb, bm] bi (.row true 1 [.int .i64 K]) (fun c hc => by
          have h1 := (List.getElem?_eq_some_iff.1 hM2.he).1
          have h2 := (List.getElem?_eq_some_iff.1 hM2.hx).1
          have h3 := (List.getElem?_eq_some_iff.1 hM2.ht).1
          have h4 := (List.getElem?_eq_some_iff.1 hM2.hv).1
          have h5 := (List.getElem?_eq_some_iff.1 hM2.hb).1
          have h6 := (List.getElem?_eq_some_iff.1 hM2.hm).1
          have h7 := (List.getElem?_eq_some_iff.1 hbi2).1
          have : c < H2.length := by
            simp only [List.mem_cons, List.not_mem_nil, or_false] at hc
            rcases hc with rfl | rfl | rfl | rfl | rfl | rfl | rfl <;> assumption
          simp only [List.length_append]; omega) (by simp) (fun Hx hx => by
          have hMx := (hM2.app _).like hx
          have := oEval1 hxv hxl htv hl n b (by omega) hw.2 (pre ++ [leafN 10 0] ++ ser a) r Hx (by rw [hpre]; simp [ser, B.code]) hMx (by rw [hx bi (by simp), List.getElem?_append_left (List.getElem?_eq_some_iff.1 hbi2).1, hbi2]; simp [sz]; omega)
          have e : (((pre ++ [leafN 10 0] ++ ser a).length + sz b : Nat) : Int) = K := by rw [← hK]; simp [sz]; omega
          rw [e] at this
          simpa using this) ?_
        have h1 := (List.getElem?_eq_some_iff.1 hM2.he).1
        have h2 := (List.getElem?_eq_some_iff.1 hM2.hx).1
        have h3 := (List.getElem?_eq_some_iff.1 hM2.ht).1
        have h4 := (List.getElem?_eq_some_iff.1 hM2.hv).1
        have h5 := (List.getElem?_eq_some_iff.1 hM2.hb).1
        have h6 := (List.getElem?_eq_some_iff.1 hM2.hm).1
        have h7 := (List.getElem?_eq_some_iff.1 hbi2).1
        have hset : ∀ L : AH, (H2 ++ L).set bi (.row true 1 [.int .i64 K]) = H.set bi (.row true 1 [.int .i64 K]) ++ L := fun L => by rw [hH2, set_set_app hbl]
        rw [hset]
        obtain ⟨H3, hH3⟩ : ∃ H3, H3 = H.set bi (.row true 1 [.int .i64 K]) := ⟨_, rfl⟩
        have hl3 : H3.length = H2.length := by rw [hH3, hl2]; simp
        rw [← hl3, ← hH3]
        simp
        refine callD_ret0 (fun Hx => iDiv _ _ hva hvb Hx) ?_
        simp
        refine endD [] (by rfl) (by simp [okW, note, Eff.triv, Eff.wr, Eff.none, upTo, newAt]; omega) ?_
        simp
        rw [hl3, hl2, hH3]
        exact fin _ _ _ _ (by simp) (by simp [ev, binV]) rfl (by simp)
end Go.Proofs.YtohmodcheahpgaaDoor.Arm

namespace Go.Proofs.YtohmodcheahpgaaDoor.Arm
open Go.Arm Go.Pl

def bx (l : List I) : AV := .slice (l.map iv) false
theorem oEval (a : Ex) (xv : List I) (t : I) (hxv : ∀ p ∈ xv, vB p = true) (hxl : xv.length ≤ 1000000000) (htv : vB t = true) (hl : sz a ≤ 1000000000) (hw : wf xv.length a = true) (H : AH) :
    Sound E 72 [xs (ser a), bx xv, iv t] H (.ret (iv (ev xv t a))) H := by
  refine sound_of_awp tabOk mixed Tryd.func72 rfl (by rfl) Tryd.ntmps72 (by kernel_rfl) (by simp) ?_
  simp [bx, xs]
  refine call_ret (oBinaryOps _) ?_
  simp
  have hM : ∀ q : AV, EMem (ser a) xv t (H ++ [.row true 1 [xs (ser a)], .row true 1 [.slice (xv.map iv) false], .row true 2 [iv t], .row true 2 [q], .map opsT, .row true 1 [.int .i64 0], .row true 1 [.map (H.length + 4)], .row true 1 [evF H.length (H.length + 5) (H.length + 1) (H.length + 2) (H.length + 7) (H.length + 6)]]) H.length (H.length + 5) (H.length + 1) (H.length + 2) (H.length + 7) (H.length + 6) (H.length + 4) := fun q =>
    ⟨by simp, by simp, by simp, by simp, by simp, by simp, ⟨0, by simp⟩, by omega⟩
  have hS := oEval1 hxv hxl htv (l := ser a) hl (sz a) a (Nat.le_refl _) hw [] [] _ (by simp) (hM (iv (0, 0))) (by simp)
  refine call_ret hS ?_
  simp
  exact fin1 (rs := [.cell 6 26]) (by rfl) (by simp [resA]) (by simp [noF, noFs])

structure Sys where
  names : List ByteArray
  f : List Ex
def sys (s : Sys) : AV := .agg [.slice (s.names.map .str) false, .slice (s.f.map fun e => xs (ser e)) false]
def LDs (s : Sys) (xv : List I) (t : I) (H : AH) (i : Nat) (fr : AFr) (H' : AH) : Prop :=
  fr 1 = bx xv ∧ fr 5 = .ptr (H.length + 1) 1 0 0 ∧ fr 11 = .slice (s.f.map fun e => xs (ser e)) false ∧ fr 12 = .int .i64 s.f.length ∧ fr 13 = .int .i64 i ∧ i ≤ s.f.length ∧ ∃ J, H' = H ++ [.row true 2 [sys s], .row true 2 [iv t]] ++ J ∧ Acc (H ++ [.row true 2 [sys s], .row true 2 [iv t]]) J (fr 7) 2 ((s.f.take i).map fun e => iv (ev xv t e)) .nilslice
theorem accBase {H A J : AH} {v v0 : AV} {sz : Nat} {l : List AV} (h : Acc (H ++ A) J v sz l v0) : Acc H (A ++ J) v sz l v0 := by
  rcases h with h | ⟨k, h1, h2⟩
  · exact .inl h
  · exact .inr ⟨A.length + k, by rw [h1, List.length_append, Nat.add_assoc], by rw [List.getElem?_append_right (by omega), Nat.add_sub_cancel_left]; exact h2⟩
theorem iv_noFs (l : List I) (n : Nat) : noFs n (l.map iv) = true := noFs_iff.2 fun x hx => by obtain ⟨y, _, rfl⟩ := List.mem_map.1 hx; simp [noF, noFs]
theorem oDerivatives (s : Sys) (xv : List I) (t : I) (hxv : ∀ p ∈ xv, vB p = true) (hxl : xv.length ≤ 1000000000) (htv : vB t = true) (hf : ∀ e ∈ s.f, sz e ≤ 1000000000 ∧ wf xv.length e = true) (hn : s.f.length ≤ 1000000000) (H : AH) :
    Sound E 73 [sys s, bx xv, iv t] H (.ret (bx (s.f.map (ev xv t)))) H := by
  refine sound_of_awp tabOk mixed Tryd.func73 rfl (by rfl) Tryd.ntmps73 (by kernel_rfl) (by simp) ?_
  simp [sys]
  refine loop_count (LDs s xv t H) (fun i => s.f.length - i) 0 ⟨by simp [bx], by simp, by simp, by simp, by simp, by omega, [], by simp [sys, iv], .inl ⟨by simp, by simp⟩⟩ ?_
  rintro i fr H' ⟨g1, g5, g11, g12, g13, hi, J, rfl, hacc⟩
  simp [g12, g13]
  refine branch (fun hc => ?_) (fun hc => ?_)
  · have hlt : i < s.f.length := by simpa using hc
    obtain ⟨e, hei⟩ := get_lt hlt
    have heE : ∀ h, s.f[i]'h = e := fun h => (List.getElem?_eq_some_iff.1 hei).2
    have hfe := hf e (List.mem_of_getElem? hei)
    have w2 : IntKind.i64.wrap ((i : Int) + 1) = ((i + 1 : Nat) : Int) := by rw [wrap64 (by omega) (by omega)]; omega
    have hg5 : (H ++ [.row true 2 [sys s], .row true 2 [iv t]] ++ J)[H.length + 1]? = some (.row true 2 [iv t]) := by simp
    have hft : s.f.take (i + 1) = s.f.take i ++ [e] := by rw [List.take_add_one, hei]; rfl
    obtain ⟨v', J', hap, hacc', _⟩ := Acc.push (T := tab) (t := 24) (e := 26) (x := .slice [iv (ev xv t e)] true) (ys := [iv (ev xv t e)]) hacc tab24 rfl tab26 rfl rfl (by simp [okc]) ⟨by decide, by simp⟩ (by rw [List.length_map, List.length_take]; dsimp only [List.length_cons, List.length_nil]; omega) (by rw [List.length_map, List.length_take]; dsimp only [List.length_cons, List.length_nil]; omega)
    simp [g1, g5, g11, g13, hei, heE, xs, bx]
    refine call_conv0 (oEval e xv t hxv hxl htv hfe.1 hfe.2 _) (by simp [xs, bx, iv]; rfl) ?_
    simp
    refine bind_some (by simpa [sys, iv] using hap) ?_
    simp [g13, w2]
    exact ⟨i + 1, by show s.f.length - (i + 1) < s.f.length - i; omega, by simp [g1, bx], by simp [g5], by simp [g11, xs], by simp [g12], by simp, by omega, J', by simp [sys, iv], by simpa [hft] using hacc'⟩
  · have hi' : i = s.f.length := by have : ¬ i < s.f.length := by simpa using hc
                                    omega
    subst hi'
    rw [List.take_length] at hacc
    simp
    rw [show bx (s.f.map (ev xv t)) = .slice (s.f.map fun e => iv (ev xv t e)) false by simp [bx]]
    have hH : H ++ ABlk.row true 2 [sys s] :: ABlk.row true 2 [AV.agg [AV.int IntKind.i64 t.fst, AV.int IntKind.i64 t.snd]] :: J = H ++ ([.row true 2 [sys s], .row true 2 [iv t]] ++ J) := by simp
    rw [hH]
    exact finS (t := 6) (by rfl) (by simp) (accBase hacc) rfl (by have h := iv_noFs (s.f.map (ev xv t)) H.length; rw [List.map_map] at h; exact h)
end Go.Proofs.YtohmodcheahpgaaDoor.Arm

namespace Go.Proofs.YtohmodcheahpgaaDoor.Arm
open Go.Arm Go.Pl

theorem app_iv0 {H : AH} {p : I} {f : Bool} : appendA tab H 24 .nilslice (.slice [iv p] f) = some (.ref H.length 1, H ++ [.row true 2 [iv p]]) := by
  simp only [appendA, tab24, tab26, els, vcells, AV.cells, growA]
  simp [okc, growNew]
theorem app_iv {H : AH} {p : I} {l : List AV} {b n : Nat} {wr f : Bool} (hb : n ≤ 1000000000) (hn : l.length = n) (hH : H[b]? = some (.row wr 2 l)) :
    appendA tab H 24 (.ref b n) (.slice [iv p] f) = some (.ref b (n + 1), H.set b (.row wr 2 (l ++ [iv p]))) := by
  subst hn
  simp only [appendA, tab24, tab26, els, vcells, AV.cells, growA, hH]
  simp [okc]
  omega
/-- The row of the matrix for one component. -/
def jrow (xv : List I) (t : I) (e : Ex) (j : Nat) : List I := (List.range j).map fun (k : Nat) => ev xv t (der (.st k) e)
theorem jrow_succ (xv : List I) (t : I) (e : Ex) (j : Nat) : jrow xv t e (j + 1) = jrow xv t e j ++ [ev xv t (der (.st j) e)] := by simp [jrow, List.range_succ]
theorem jrow_len (xv : List I) (t : I) (e : Ex) (j : Nat) : (jrow xv t e j).length = j := by simp [jrow]
def LMa (s : Sys) (xv : List I) (t : I) (H : AH) (i : Nat) (fr : AFr) (H' : AH) : Prop :=
  fr 1 = bx xv ∧ fr 3 = .ptr H.length 1 0 0 ∧ fr 5 = .ptr (H.length + 1) 1 0 0 ∧ fr 13 = .slice (s.f.map fun e => xs (ser e)) false ∧ fr 14 = .int .i64 s.f.length ∧ fr 15 = .int .i64 i ∧ i ≤ s.f.length ∧ ∃ J, H' = H ++ [.row true 2 [sys s], .row true 2 [iv t]] ++ J ∧ Acc (H ++ [.row true 2 [sys s], .row true 2 [iv t]]) J (fr 7) 1 ((s.f.take i).map fun e => bx (jrow xv t e s.f.length)) .nilslice
def LMb (s : Sys) (e : Ex) (b3 b5 : Nat) (v7 : AV) (i : Nat) (xv : List I) (t : I) (H : AH) (j : Nat) (fr : AFr) (H' : AH) : Prop :=
  fr 1 = bx xv ∧ fr 3 = .ptr b3 1 0 0 ∧ fr 5 = .ptr b5 1 0 0 ∧ fr 7 = v7 ∧ fr 9 = xs (ser e) ∧ fr 13 = .slice (s.f.map fun e => xs (ser e)) false ∧ fr 14 = .int .i64 s.f.length ∧ fr 15 = .int .i64 i ∧ fr 21 = .int .i64 s.f.length ∧ fr 22 = .int .i64 j ∧ j ≤ s.f.length ∧ ∃ J, H' = H ++ J ∧ Acc H J (fr 10) 2 ((jrow xv t e j).map iv) .nilslice
theorem jMatrix (s : Sys) (xv : List I) (t : I) (hxv : ∀ p ∈ xv, vB p = true) (hxl : xv.length ≤ 1000000000) (htv : vB t = true) (hf : ∀ e ∈ s.f, sz e ≤ 1000000 ∧ wf xv.length e = true ∧ ∀ j : Nat, j < s.f.length → sz (dif (.st j) e) ≤ 1000000) (hn : s.f.length ≤ 1000000000) (H : AH) :
    Sound E 48 [sys s, bx xv, iv t] H (.ret (.slice (s.f.map fun e => bx (jrow xv t e s.f.length)) false)) H := by
  refine sound_of_awp tabOk mixed Tryd.func48 rfl (by rfl) Tryd.ntmps48 (by kernel_rfl) (by simp) ?_
  simp [sys]
  refine loop_count (LMa s xv t H) (fun i => s.f.length - i) 0 ⟨by simp [bx], by simp, by simp, by simp, by simp, by simp, by omega, [], by simp [sys, iv], .inl ⟨by simp, by simp⟩⟩ ?_
  rintro i fr H' ⟨g1, g3, g5, g13, g14, g15, hi, J, rfl, hacc⟩
  simp [g14, g15]
  refine branch (fun hc => ?_) (fun hc => ?_)
  · have hlt : i < s.f.length := by simpa using hc
    obtain ⟨e, hei⟩ := get_lt hlt
    have heE : ∀ h, s.f[i]'h = e := fun h => (List.getElem?_eq_some_iff.1 hei).2
    obtain ⟨hes, hew, hed⟩ := hf e (List.mem_of_getElem? hei)
    have w2 : IntKind.i64.wrap ((i : Int) + 1) = ((i + 1 : Nat) : Int) := by rw [wrap64 (by omega) (by omega)]; omega
    simp [g1, g3, g5, g13, g15, hei, heE, xs, sys]
    have hq3 : (H ++ [.row true 2 [sys s], .row true 2 [iv t]] ++ J)[H.length]? = some (.row true 2 [sys s]) := by simp
    have hq5 : (H ++ [.row true 2 [sys s], .row true 2 [iv t]] ++ J)[H.length + 1]? = some (.row true 2 [iv t]) := by simp
    refine loop_count (LMb s e H.length (H.length + 1) (fr 7) i xv t (H ++ [.row true 2 [sys s], .row true 2 [iv t]] ++ J)) (fun j => s.f.length - j) 0 ⟨by simp [g1], by simp [g3], by simp [g5], by simp, by simp [xs], by simp [g13, xs], by simp [g14], by simp [g15], by simp, by simp, by omega, [], by simp [sys, iv, xs], .inl ⟨by simp [jrow], by simp⟩⟩ ?_
    rintro j fr2 H2 ⟨k1, k3, k5, k7, k9, k13, k14, k15, k21, k22, hj, L, rfl, hacc2⟩
    generalize hHq : H ++ [.row true 2 [sys s], .row true 2 [iv t]] ++ J = Hq at *
    simp [k21, k22]
    refine branch (fun hc2 => ?_) (fun hc2 => ?_)
    · have hjlt : j < s.f.length := by simpa using hc2
      have w3 : IntKind.i64.wrap ((j : Int) + 1) = ((j + 1 : Nat) : Int) := by rw [wrap64 (by omega) (by omega)]; omega
      have hda := hed j hjlt
      have hsd : sz (der (.st j) e) ≤ 1000000 := Nat.le_trans (smp_sz _) hda
      simp [k1, k5, k9, k22, xs, bx]
      refine callD_ret0 (fun Hx => jDiff e j hew hes hda Hx) ?_
      simp [k1, k5, old hq5]
      refine callD_ret0 (fun Hx => oEval (der (.st j) e) xv t hxv hxl htv (by omega) (der_wf hew) Hx) ?_
      rcases hacc2 with ⟨h0, h1⟩ | ⟨kk, h1, h2⟩
      · have hz : j = 0 := by have := congrArg List.length h0
                              simp only [List.length_map, jrow_len, List.length_nil] at this; omega
        have ha := app_iv0 (H := Hq ++ L) (p := ev xv t (der (.st j) e)) (f := true)
        simp [h1]
        simp only [iv] at ha
        refine bind_some ha ?_
        simp
        have hlq : H.length + 1 < Hq.length := (List.getElem?_eq_some_iff.1 hq5).1
        refine endD [] (by rfl) (by simp [okW, note, Eff.triv, Eff.wr, Eff.none, upTo, newAt]; omega) ?_
        simp [k22, w3]
        exact ⟨j + 1, by show s.f.length - (j + 1) < s.f.length - j; omega, by simp [k1, bx], by simp [k3], by simp [k5], by simp [k7], by simp [k9, xs], by simp [k13, xs], by simp [k14], by simp [k15], by simp [k21], by simp, by omega, L ++ [.row true 2 [iv (ev xv t (der (.st j) e))]], by simp [iv], .inr ⟨L.length, by rw [jrow_succ]; simp [hz, jrow], by rw [jrow_succ]; simp [hz, jrow]⟩⟩
      · have ha := app_iv (H := Hq ++ L) (p := ev xv t (der (.st j) e)) (f := true) (n := j) (l := (jrow xv t e j).map iv) (wr := true) (b := Hq.length + kk) (by omega) (by rw [List.length_map, jrow_len]) (by simpa using h2)
        rw [List.length_map, jrow_len] at h1
        simp [h1, h2]
        simp only [iv] at ha
        refine bind_some ha ?_
        simp
        have hlq : H.length + 1 < Hq.length := (List.getElem?_eq_some_iff.1 hq5).1
        refine endD [] (by rfl) (by simp [okW, note, Eff.triv, Eff.wr, Eff.none, upTo, newAt]; omega) ?_
        simp [k22, w3]
        exact ⟨j + 1, by show s.f.length - (j + 1) < s.f.length - j; omega, by simp [k1, bx], by simp [k3], by simp [k5], by simp [k7], by simp [k9, xs], by simp [k13, xs], by simp [k14], by simp [k15], by simp [k21], by simp, by omega, L.set kk (.row true 2 ((jrow xv t e (j + 1)).map iv)), by rw [jrow_succ]; simp [iv], .inr ⟨kk, by simp [jrow_len], by rw [List.getElem?_set_self (List.getElem?_eq_some_iff.1 h2).1]⟩⟩
    · have hj' : j = s.f.length := by have : ¬ j < s.f.length := by simpa using hc2
                                      omega
      subst hj'
      rcases hacc2 with ⟨h0, _⟩ | ⟨kk, h1, h2⟩
      · have := congrArg List.length h0
        simp only [List.length_map, jrow_len, List.length_nil] at this; omega
      rw [List.length_map, jrow_len] at h1
      have hft : s.f.take (i + 1) = s.f.take i ++ [e] := by rw [List.take_add_one, hei]; rfl
      obtain ⟨v', J', hap, hacc', _⟩ := Acc.push (T := tab) (t := 78) (e := 24) (x := .slice [bx (jrow xv t e s.f.length)] true) (ys := [bx (jrow xv t e s.f.length)]) (Acc.len (L := L.set kk (.row false 2 ((jrow xv t e s.f.length).map iv))) hacc) tab78 rfl tab24 rfl rfl (by simp [okc, bx]) ⟨by decide, by simp⟩ (by rw [List.length_map, List.length_take]; dsimp only [List.length_cons, List.length_nil]; omega) (by rw [List.length_map, List.length_take]; dsimp only [List.length_cons, List.length_nil]; omega)
      simp [h1, h2, k7, jrow_len]
      simp only [← List.append_assoc] at hap
      rw [hHq] at hap
      refine bind_some (by simpa [bx] using hap) ?_
      simp [k15, w2]
      subst hHq
      exact ⟨i + 1, by show s.f.length - (i + 1) < s.f.length - i; omega, by simp [k1, bx], by simp [k3], by simp [k5], by simp [k13, xs], by simp [k14], by simp, by omega, J', by simp [sys, iv], by simpa [hft] using hacc'⟩
  · have hi' : i = s.f.length := by have : ¬ i < s.f.length := by simpa using hc
                                    omega
    subst hi'
    rw [List.take_length] at hacc
    simp
    have hH : H ++ ABlk.row true 2 [sys s] :: ABlk.row true 2 [AV.agg [AV.int IntKind.i64 t.fst, AV.int IntKind.i64 t.snd]] :: J = H ++ ([.row true 2 [sys s], .row true 2 [iv t]] ++ J) := by simp
    rw [hH]
    exact finS (t := 6) (by rfl) (by simp) (accBase hacc) rfl (noFs_iff.2 fun x hx => by obtain ⟨y, _, rfl⟩ := List.mem_map.1 hx; simp only [bx, noF]; exact iv_noFs _ _)
end Go.Proofs.YtohmodcheahpgaaDoor.Arm

namespace Go.Proofs.YtohmodcheahpgaaDoor.Arm
open Go.Arm Go.Pl

/-- The Lie derivative's sum after i components. -/
def lieSum (xv : List I) (t : I) (g : Ex) (f : List I) : Nat → I
  | 0 => ev xv t (der .tm g)
  | i + 1 => if isK (der (.st i) g) 0 then lieSum xv t g f i else add (lieSum xv t g f i) (mul (ev xv t (der (.st i) g)) (f.getD i (0, 0)))
def LLi (s : Sys) (g : Ex) (xv : List I) (t : I) (H : AH) (i : Nat) (fr : AFr) (H' : AH) : Prop :=
  fr 1 = xs (ser g) ∧ fr 2 = bx xv ∧ fr 7 = .ptr (H.length + 1) 1 0 0 ∧ fr 8 = .ptr (H.length + 2) 1 0 0 ∧ fr 9 = .ptr (H.length + 3) 1 0 0 ∧ fr 21 = bx (s.f.map (ev xv t)) ∧ fr 22 = .int .i64 s.f.length ∧ fr 23 = .int .i64 i ∧ i ≤ s.f.length ∧ ∃ J, H' = H ++ ([.row true 2 [sys s], .row true 2 [iv t], .row true 2 [iv (0, 0)], .row true 2 [iv (lieSum xv t g (s.f.map (ev xv t)) i)]] ++ J)
theorem lieSum_valid {xv : List I} {t : I} {g : Ex} {f : List I} (hxv : ∀ p ∈ xv, vB p = true) (htv : vB t = true) (hw : wf xv.length g = true) (hf : ∀ p ∈ f, vB p = true) : ∀ i, vB (lieSum xv t g f i) = true
  | 0 => ev_valid hxv htv _ (der_wf hw)
  | i + 1 => by
    simp only [lieSum]
    split
    · exact lieSum_valid hxv htv hw hf i
    · exact add_valid (lieSum_valid hxv htv hw hf i) mul_valid
theorem jLieDerivative (s : Sys) (g : Ex) (xv : List I) (t : I) (hxv : ∀ p ∈ xv, vB p = true) (hxl : xv.length ≤ 1000000000) (htv : vB t = true) (hf : ∀ e ∈ s.f, sz e ≤ 1000000000 ∧ wf xv.length e = true) (hn : s.f.length ≤ 1000000000) (hgs : sz g ≤ 1000000) (hgw : wf xv.length g = true) (hgt : sz (dif .tm g) ≤ 1000000) (hgd : ∀ j : Nat, j < s.f.length → sz (dif (.st j) g) ≤ 1000000) (H : AH) :
    Sound E 43 [sys s, xs (ser g), bx xv, iv t] H (.ret (iv (lieSum xv t g (s.f.map (ev xv t)) s.f.length))) H := by
  refine sound_of_awp tabOk mixed Tryd.func43 rfl (by rfl) Tryd.ntmps43 (by kernel_rfl) (by simp) ?_
  simp [sys, xs]
  have hst : sz (der .tm g) ≤ 1000000 := Nat.le_trans (smp_sz _) hgt
  refine callD_ret0 (fun Hx => jTimeDerivative g hgw hgs hgt Hx) ?_
  simp [bx]
  refine callD_ret0 (fun Hx => oEval (der .tm g) xv t hxv hxl htv (by omega) (der_wf hgw) Hx) ?_
  simp
  refine endD [(5, 6)] (by rfl) (by simp [okW, note, Eff.triv, Eff.wr, Eff.none, upTo, newAt]) ?_
  simp
  refine call_conv0 (oDerivatives s xv t hxv hxl htv hf hn _) (by simp [sys, bx, iv, xs]; rfl) ?_
  simp [bx]
  have hfv : ∀ p ∈ s.f.map (ev xv t), vB p = true := fun p hp => by obtain ⟨e, he, rfl⟩ := List.mem_map.1 hp; exact ev_valid hxv htv e (hf e he).2
  refine loop_count (LLi s g xv t H) (fun i => s.f.length - i) 0 ⟨by simp [xs], by simp [bx], by simp, by simp, by simp, by simp [bx], by simp, by simp, by omega, [], by simp [sys, iv, xs, lieSum]⟩ ?_
  rintro i fr H' ⟨g1, g2, g7, g8, g9, g21, g22, g23, hi, J, rfl⟩
  simp [g22, g23]
  refine branch (fun hc => ?_) (fun hc => ?_)
  · have hlt : i < s.f.length := by simpa using hc
    obtain ⟨e, hei⟩ := get_lt hlt
    have heE : ∀ h, s.f[i]'h = e := fun h => (List.getElem?_eq_some_iff.1 hei).2
    have w2 : IntKind.i64.wrap ((i : Int) + 1) = ((i + 1 : Nat) : Int) := by rw [wrap64 (by omega) (by omega)]; omega
    have hda := hgd i hlt
    have hsd : sz (der (.st i) g) ≤ 1000000 := Nat.le_trans (smp_sz _) hda
    have hls : lieSum xv t g (s.f.map (ev xv t)) (i + 1) = if isK (der (.st i) g) 0 then lieSum xv t g (s.f.map (ev xv t)) i else add (lieSum xv t g (s.f.map (ev xv t)) i) (mul (ev xv t (der (.st i) g)) (ev xv t e)) := by
      simp only [lieSum, List.getD_eq_getElem?_getD, List.getElem?_map, hei, Option.map_some, Option.getD_some]
    have hsv := lieSum_valid (f := s.f.map (ev xv t)) hxv htv hgw hfv i
    have hev := ev_valid hxv htv e (hf e (List.mem_of_getElem? hei)).2
    generalize hS : lieSum xv t g (s.f.map (ev xv t)) i = S at *
    simp [g1, g2, g7, g8, g9, g21, g23, hei, heE, xs, bx]
    refine call_conv0 (jDiff g i hgw hgs hda _) (by simp [xs]; rfl) ?_
    simp
    refine call_ret (jIs (der (.st i) g) 0 (by omega) _) ?_
    simp
    cases hk : isK (der (.st i) g) 0 with
    | true =>
      simp [g23, w2]
      exact ⟨i + 1, by show s.f.length - (i + 1) < s.f.length - i; omega, by simp [g1, xs], by simp [g2, bx], by simp [g7], by simp [g8], by simp [g9], by simp [g21, bx], by simp [g22], by simp, by omega, J ++ [.row true 2 [iv (ev xv t e)]], by simp [sys, iv, hls, hk]⟩
    | false =>
      simp [g2, g7, g9, bx]
      refine callD_ret0 (fun Hx => oEval (der (.st i) g) xv t hxv hxl htv (by omega) (der_wf hgw) Hx) ?_
      simp [g2, g7, g9]
      refine callD_ret0 (fun Hx => iMul _ _ (ev_valid hxv htv _ (der_wf hgw)) hev Hx) ?_
      simp [g9]
      refine callD_ret0 (fun Hx => iAdd _ _ hsv mul_valid Hx) ?_
      simp [g9]
      refine endD [(0, 8)] (by rfl) (by simp [okW, note, Eff.triv, Eff.wr, Eff.none, upTo, newAt]) ?_
      simp [g23, w2]
      exact ⟨i + 1, by show s.f.length - (i + 1) < s.f.length - i; omega, by simp [g1, xs], by simp [g2, bx], by simp [g7], by simp [g8], by simp [g9], by simp [g21, bx], by simp [g22], by simp, by omega, J ++ [.row true 2 [iv (ev xv t e)]], by simp [sys, iv, hls, hk]⟩
  · have hi' : i = s.f.length := by have : ¬ i < s.f.length := by simpa using hc
                                    omega
    subst hi'
    simp [g8, g9]
    exact fin1 (rs := [.cell 8 26]) (by rfl) (by simp [resA, g8]) (by simp [noF, noFs])
end Go.Proofs.YtohmodcheahpgaaDoor.Arm

namespace Go.Proofs.YtohmodcheahpgaaDoor.Arm
open Go.Arm Go.Pl

theorem app_iv1 {H : AH} {p : I} {f : Bool} : appendA tab H 24 (.slice [] true) (.slice [iv p] f) = some (.ref H.length 1, H ++ [.row true 2 [iv p]]) := by
  simp only [appendA, tab24, tab26, els, vcells, AV.cells, growA]
  simp [okc, growNew]
def LEv (a : Ex) (xv : List I) (t : I) (H : AH) (i : Nat) (fr : AFr) (H' : AH) : Prop :=
  fr 0 = xs (ser a) ∧ fr 1 = bx xv ∧ fr 5 = .ptr H.length 1 0 0 ∧ fr 6 = .ptr (H.length + 1) 1 0 0 ∧ fr 7 = .slice ((kids a).map fun k => xs (ser k)) false ∧ fr 9 = .int .i64 i ∧ i ≤ (kids a).length ∧ ∃ J, H' = H ++ [.row true 2 [iv t], .row true 2 [iv (0, 0)]] ++ J ∧ Acc (H ++ [.row true 2 [iv t], .row true 2 [iv (0, 0)]]) J (fr 8) 2 (((kids a).take i).map fun k => iv (ev xv t k)) (.slice [] true)
theorem r7Eval (xv : List I) (t : I) (hxv : ∀ p ∈ xv, vB p = true) (hxl : xv.length ≤ 1000000000) (htv : vB t = true) : ∀ (n : Nat) (a : Ex), sz a ≤ n → sz a ≤ 1000000000 → wf xv.length a = true → ∀ H,
    Sound E 20 [xs (ser a), bx xv, iv t] H (.ret (iv (ev xv t a))) H
  | 0, a, hn, hs, hw, H => by have := sz_pos a; omega
  | n + 1, a, hn, hs, hw, H => by
    refine sound_of_awp tabOk mixed Tryd.func20 rfl (by rfl) Tryd.ntmps20 (by kernel_rfl) (by simp) ?_
    have ih : ∀ (k : Ex) (i : Nat), (kids a)[i]? = some k → ∀ H, Sound E 20 [xs (ser k), bx xv, iv t] H (.ret (iv (ev xv t k))) H := fun k i hi H =>
      r7Eval xv t hxv hxl htv n k (by have := kid_sz hi; omega) (by have := kid_sz hi; omega) (kid_wf hi hw) H
    have hkv : ∀ (k : Ex) (i : Nat), (kids a)[i]? = some k → vB (ev xv t k) = true := fun k i hi => ev_valid hxv htv k (kid_wf hi hw)
    have hk2 := kids_le a
    have hget : (ser a)[0]? = some (root0 a) := by rw [ser_eq]; rfl
    have hmap : ((ser a).map nd)[0]? = some (nd (root0 a)) := by rw [List.getElem?_map, hget]; rfl
    have hmapE : ∀ h, ((ser a).map nd)[0]'h = nd (root0 a) := fun h => (List.getElem?_eq_some_iff.1 hmap).2
    simp
    refine call_ret (r7Operands a (by omega) _) ?_
    simp
    refine loop_count (LEv a xv t H) (fun i => (kids a).length - i) 0 ⟨by simp, by simp [bx], by simp, by simp, by simp, by simp, by omega, [], by simp [iv], .inl ⟨by simp, by simp⟩⟩ ?_
    rintro i fr H' ⟨g0, g1, g5, g6, g7, g9, hi, J, rfl, hacc⟩
    have hq5 : (H ++ [.row true 2 [iv t], .row true 2 [iv (0, 0)]] ++ J)[H.length]? = some (.row true 2 [iv t]) := by simp
    have hq6 : (H ++ [.row true 2 [iv t], .row true 2 [iv (0, 0)]] ++ J)[H.length + 1]? = some (.row true 2 [iv (0, 0)]) := by simp
    generalize hB : H ++ [.row true 2 [iv t], .row true 2 [iv (0, 0)]] = B at *
    have hlB : H.length + 2 = B.length := by rw [← hB]; simp
    simp [g7, g9]
    refine branch (fun hc => ?_) (fun hc => ?_)
    · have hlt : i < (kids a).length := by simpa using hc
      obtain ⟨k, hki⟩ := get_lt hlt
      have hkiE : ∀ h, (kids a)[i]'h = k := fun h => (List.getElem?_eq_some_iff.1 hki).2
      have hft : (kids a).take (i + 1) = (kids a).take i ++ [k] := by rw [List.take_add_one, hki]; rfl
      have w2 : IntKind.i64.wrap ((i : Int) + 1) = ((i + 1 : Nat) : Int) := by rw [wrap64 (by omega) (by omega)]; omega
      simp [g1, g5, g7, g9, hki, hkiE, xs, bx, hq5]
      refine callD_ret0 (fun Hx => ih k i hki Hx) ?_
      rcases hacc with ⟨h0, h1⟩ | ⟨kk, h1, h2⟩
      · have ha := app_iv1 (H := B ++ J) (p := ev xv t k) (f := true)
        have hz : (kids a).take i = [] := by simpa using h0
        simp [h1]
        simp only [iv] at ha
        refine bind_some ha ?_
        simp
        refine endD [] (by rfl) (by simp [okW, note, Eff.triv, Eff.wr, Eff.none, upTo, newAt]; omega) ?_
        simp [g9, w2]
        subst hB
        exact ⟨i + 1, by show (kids a).length - (i + 1) < (kids a).length - i; omega, by simp [g0], by simp [g1, bx], by simp [g5], by simp [g6], by simp [g7, xs], by simp, by omega, J ++ [.row true 2 [iv (ev xv t k)]], by simp [iv], .inr ⟨J.length, by rw [hft, hz]; simp, by rw [hft, hz]; simp⟩⟩
      · have ha := app_iv (H := B ++ J) (p := ev xv t k) (f := true) (n := i) (l := ((kids a).take i).map fun k => iv (ev xv t k)) (wr := true) (b := B.length + kk) (by omega) (by rw [List.length_map, List.length_take]; omega) (by simpa using h2)
        rw [List.length_map, List.length_take, Nat.min_eq_left hi] at h1
        simp [h1, h2]
        simp only [iv] at ha
        refine bind_some ha ?_
        simp
        refine endD [] (by rfl) (by simp [okW, note, Eff.triv, Eff.wr, Eff.none, upTo, newAt]; omega) ?_
        simp [g9, w2]
        subst hB
        exact ⟨i + 1, by show (kids a).length - (i + 1) < (kids a).length - i; omega, by simp [g0], by simp [g1, bx], by simp [g5], by simp [g6], by simp [g7, xs], by simp, by omega, J.set kk (.row true 2 (((kids a).take (i + 1)).map fun k => iv (ev xv t k))), by rw [hft]; simp [iv], .inr ⟨kk, by simp; omega, by rw [List.getElem?_set_self (List.getElem?_eq_some_iff.1 h2).1]⟩⟩
    · have hi' : i = (kids a).length := by have : ¬ i < (kids a).length := by simpa using hc
                                           omega
      subst hi'
      rw [List.take_length] at hacc
      subst hB
      rw [xs_eq] at g0
      clear ih
      cases a with
      | num c =>
        simp [g0, g1, g5, g6, hmap, hmapE, root0, leafN]
        exact fin1 (rs := [.cell 6 26]) (by rfl) (by simp [resA, g6, ev]) (by simp [noF, noFs])
      | var k =>
        simp only [wf, decide_eq_true_eq] at hw
        obtain ⟨q, hq⟩ := get_lt hw
        have hqE : ∀ h, xv[k]'h = q := fun h => (List.getElem?_eq_some_iff.1 hq).2
        simp [g0, g1, g5, g6, hmap, hmapE, root0, leafN, bx, hq, hqE]
        exact fin1 (rs := [.cell 6 26]) (by rfl) (by simp [resA, g6, ev, hq]) (by simp [noF, noFs])
      | time =>
        simp [g0, g1, g5, g6, hmap, hmapE, root0, leafN]
        exact fin1 (rs := [.cell 6 26]) (by rfl) (by simp [resA, g6, ev]) (by simp [noF, noFs])
      | un o a =>
        have hv := hkv a 0 rfl
        have hacc1 : ∃ k, fr 8 = .ref (H.length + 2 + k) 1 ∧ J[k]? = some (.row true 2 [iv (ev xv t a)]) := by
          rcases hacc with ⟨h, _⟩ | ⟨k, h1, h2⟩
          · simp [kids] at h
          · exact ⟨k, by simpa [kids] using h1, by simpa [kids] using h2⟩
        obtain ⟨k, h8, hJ⟩ := hacc1
        rw [Nat.add_assoc] at h8
        have hJ2 : ∀ x y : ABlk, (x :: y :: J)[2 + k]? = some (.row true 2 [iv (ev xv t a)]) := fun x y => by
          rw [show 2 + k = k + 1 + 1 by omega]; simpa using hJ
        cases o with
        | neg =>
          simp [g0, g1, g5, g6, hmap, hmapE, root0, leafN, U.code, h8, hJ2]
          refine call_ret (rNeg _ hv _) ?_
          simp [g6]
          exact fin1 (rs := [.cell 6 26]) (by rfl) (by simp [resA, g6, ev, unV]) (by simp [noF, noFs])
        | sqr =>
          simp [g0, g1, g5, g6, hmap, hmapE, root0, leafN, U.code, h8, hJ2]
          refine call_ret (rSquare _ hv _) ?_
          simp [g6]
          exact fin1 (rs := [.cell 6 26]) (by rfl) (by simp [resA, g6, ev, unV]) (by simp [noF, noFs])
        | sqrt =>
          by_cases hlo : (ev xv t a).1 < 0
          · simp [g0, g1, g5, g6, hmap, hmapE, root0, leafN, U.code, h8, hJ2, hlo]
            refine call_ret (rEntire _) ?_
            simp [g6]
            exact fin1 (rs := [.cell 6 26]) (by rfl) (by simp [resA, g6, ev, unV, hlo]) (by simp [noF, noFs])
          · simp [g0, g1, g5, g6, hmap, hmapE, root0, leafN, U.code, h8, hJ2, hlo]
            refine call_ret (rSqrt _ hv (by have := vB_bounds hv; omega) _) ?_
            simp [g6]
            exact fin1 (rs := [.cell 6 26]) (by rfl) (by simp [resA, g6, ev, unV, hlo]) (by simp [noF, noFs])
      | bin o a b =>
        have hva := hkv a 0 rfl
        have hvb := hkv b 1 rfl
        have hacc1 : ∃ k, fr 8 = .ref (H.length + 2 + k) 2 ∧ J[k]? = some (.row true 2 [iv (ev xv t a), iv (ev xv t b)]) := by
          rcases hacc with ⟨h, _⟩ | ⟨k, h1, h2⟩
          · simp [kids] at h
          · exact ⟨k, by simpa [kids] using h1, by simpa [kids] using h2⟩
        obtain ⟨k, h8, hJ⟩ := hacc1
        rw [Nat.add_assoc] at h8
        have hJ2 : ∀ x y : ABlk, (x :: y :: J)[2 + k]? = some (.row true 2 [iv (ev xv t a), iv (ev xv t b)]) := fun x y => by
          rw [show 2 + k = k + 1 + 1 by omega]; simpa using hJ
        cases o with
        | add =>
          simp [g0, g1, g5, g6, hmap, hmapE, root0, leafN, B.code, h8, hJ2]
          refine callD_ret0 (fun Hx => rAdd _ _ hva hvb Hx) ?_
          simp [g6]
          refine endD [] (by rfl) (by simp [okW, note, Eff.triv, Eff.wr, Eff.none, upTo, newAt]; omega) ?_
          simp
          exact fin1 (rs := [.cell 6 26]) (by rfl) (by simp [resA, g6, ev, binV]) (by simp [noF, noFs])
        | sub =>
          simp [g0, g1, g5, g6, hmap, hmapE, root0, leafN, B.code, h8, hJ2]
          refine callD_ret0 (fun Hx => rSub _ _ hva hvb Hx) ?_
          simp [g6]
          refine endD [] (by rfl) (by simp [okW, note, Eff.triv, Eff.wr, Eff.none, upTo, newAt]; omega) ?_
          simp
          exact fin1 (rs := [.cell 6 26]) (by rfl) (by simp [resA, g6, ev, binV]) (by simp [noF, noFs])
        | mul =>
          simp [g0, g1, g5, g6, hmap, hmapE, root0, leafN, B.code, h8, hJ2]
          refine callD_ret0 (fun Hx => rMul _ _ hva hvb Hx) ?_
          simp [g6]
          refine endD [] (by rfl) (by simp [okW, note, Eff.triv, Eff.wr, Eff.none, upTo, newAt]; omega) ?_
          simp
          exact fin1 (rs := [.cell 6 26]) (by rfl) (by simp [resA, g6, ev, binV]) (by simp [noF, noFs])
        | div =>
          simp [g0, g1, g5, g6, hmap, hmapE, root0, leafN, B.code, h8, hJ2]
          refine callD_ret0 (fun Hx => rDiv _ _ hva hvb Hx) ?_
          simp [g6]
          refine endD [] (by rfl) (by simp [okW, note, Eff.triv, Eff.wr, Eff.none, upTo, newAt]; omega) ?_
          simp
          exact fin1 (rs := [.cell 6 26]) (by rfl) (by simp [resA, g6, ev, binV]) (by simp [noF, noFs])
end Go.Proofs.YtohmodcheahpgaaDoor.Arm

namespace Go.Proofs.YtohmodcheahpgaaDoor.Arm
open Go.Arm Go.Pl

def LRd (s : Sys) (xv : List I) (t : I) (H : AH) (i : Nat) (fr : AFr) (H' : AH) : Prop :=
  fr 1 = bx xv ∧ fr 3 = .ptr H.length 1 0 0 ∧ fr 5 = .ptr (H.length + 1) 1 0 0 ∧ fr 8 = .int .i64 i ∧ i ≤ s.f.length ∧ ∃ J, H' = H ++ [.row true 2 [sys s], .row true 2 [iv t]] ++ J ∧ Acc (H ++ [.row true 2 [sys s], .row true 2 [iv t]]) J (fr 7) 2 ((s.f.take i).map fun e => iv (ev xv t e)) (.slice [] true)
theorem r7Derivatives (s : Sys) (xv : List I) (t : I) (hxv : ∀ p ∈ xv, vB p = true) (hxl : xv.length ≤ 1000000000) (htv : vB t = true) (hf : ∀ e ∈ s.f, sz e ≤ 1000000000 ∧ wf xv.length e = true) (hn : s.f.length ≤ 1000000000) (H : AH) :
    Sound E 42 [sys s, bx xv, iv t] H (.ret (bx (s.f.map (ev xv t)))) H := by
  refine sound_of_awp tabOk mixed Tryd.func42 rfl (by rfl) Tryd.ntmps42 (by kernel_rfl) (by simp) ?_
  simp [sys]
  refine loop_count (LRd s xv t H) (fun i => s.f.length - i) 0 ⟨by simp [bx], by simp, by simp, by simp, by omega, [], by simp [sys, iv], .inl ⟨by simp, by simp⟩⟩ ?_
  rintro i fr H' ⟨g1, g3, g5, g8, hi, J, rfl, hacc⟩
  have hq3 : (H ++ [.row true 2 [sys s], .row true 2 [iv t]] ++ J)[H.length]? = some (.row true 2 [sys s]) := by simp
  have hq5 : (H ++ [.row true 2 [sys s], .row true 2 [iv t]] ++ J)[H.length + 1]? = some (.row true 2 [iv t]) := by simp
  generalize hB : H ++ [.row true 2 [sys s], .row true 2 [iv t]] = B at *
  have hlB : H.length + 2 = B.length := by rw [← hB]; simp
  simp [g3, g8, hq3, sys]
  refine branch (fun hc => ?_) (fun hc => ?_)
  · have hlt : i < s.f.length := by simpa using hc
    obtain ⟨e, hei⟩ := get_lt hlt
    have heE : ∀ h, s.f[i]'h = e := fun h => (List.getElem?_eq_some_iff.1 hei).2
    have hfe := hf e (List.mem_of_getElem? hei)
    have hft : s.f.take (i + 1) = s.f.take i ++ [e] := by rw [List.take_add_one, hei]; rfl
    have w2 : IntKind.i64.wrap ((i : Int) + 1) = ((i + 1 : Nat) : Int) := by rw [wrap64 (by omega) (by omega)]; omega
    simp [g1, g3, g5, g8, hei, heE, xs, bx, hq3, hq5, sys]
    refine callD_ret0 (fun Hx => r7Eval xv t hxv hxl htv (sz e) e (Nat.le_refl _) hfe.1 hfe.2 Hx) ?_
    rcases hacc with ⟨h0, h1⟩ | ⟨kk, h1, h2⟩
    · have ha := app_iv1 (H := B ++ J) (p := ev xv t e) (f := true)
      have hz : s.f.take i = [] := by simpa using h0
      simp [h1]
      simp only [iv] at ha
      refine bind_some ha ?_
      simp
      refine endD [] (by rfl) (by simp [okW, note, Eff.triv, Eff.wr, Eff.none, upTo, newAt]; omega) ?_
      simp [g8, w2]
      subst hB
      exact ⟨i + 1, by show s.f.length - (i + 1) < s.f.length - i; omega, by simp [g1, bx], by simp [g3], by simp [g5], by simp, by omega, J ++ [.row true 2 [iv (ev xv t e)]], by simp [iv, sys], .inr ⟨J.length, by rw [hft, hz]; simp, by rw [hft, hz]; simp⟩⟩
    · have ha := app_iv (H := B ++ J) (p := ev xv t e) (f := true) (n := i) (l := (s.f.take i).map fun e => iv (ev xv t e)) (wr := true) (b := B.length + kk) (by omega) (by rw [List.length_map, List.length_take]; omega) (by simpa using h2)
      rw [List.length_map, List.length_take, Nat.min_eq_left hi] at h1
      simp [h1, h2]
      simp only [iv] at ha
      refine bind_some ha ?_
      simp
      refine endD [] (by rfl) (by simp [okW, note, Eff.triv, Eff.wr, Eff.none, upTo, newAt]; omega) ?_
      simp [g8, w2]
      subst hB
      exact ⟨i + 1, by show s.f.length - (i + 1) < s.f.length - i; omega, by simp [g1, bx], by simp [g3], by simp [g5], by simp, by omega, J.set kk (.row true 2 ((s.f.take (i + 1)).map fun e => iv (ev xv t e))), by rw [hft]; simp [iv, sys], .inr ⟨kk, by simp; omega, by rw [List.getElem?_set_self (List.getElem?_eq_some_iff.1 h2).1]⟩⟩
  · have hi' : i = s.f.length := by have : ¬ i < s.f.length := by simpa using hc
                                    omega
    subst hi'
    rw [List.take_length] at hacc
    subst hB
    simp
    rw [show bx (s.f.map (ev xv t)) = .slice (s.f.map fun e => iv (ev xv t e)) false by simp [bx]]
    have hH : H ++ ABlk.row true 2 [sys s] :: ABlk.row true 2 [AV.agg [AV.int IntKind.i64 t.fst, AV.int IntKind.i64 t.snd]] :: J = H ++ ([.row true 2 [sys s], .row true 2 [iv t]] ++ J) := by simp
    rw [hH]
    exact finS (t := 6) (by rfl) (by simp) (accBase hacc) rfl (by have h := iv_noFs (s.f.map (ev xv t)) H.length; rw [List.map_map] at h; exact h)
end Go.Proofs.YtohmodcheahpgaaDoor.Arm

/- Expressions made out of raw nodes. -/
namespace Go.Pl

/-- x & m for a mask of low bits. -/
def low (x m : Int) : Int := x % (m + 1)
def bOp (x : Nd) : Int := 1 + low x.op 255 % 10
def nearI' (p : I) (w : Int) : I := (p.1.tmod 1048576, p.1.tmod 1048576 + (p.2.tmod w + w).tmod w)
def bNum (x : Nd) : Ex := .num (nearI' x.c (1 + low x.n 255 * low x.n 1))
def uOf (o : Int) : U := if o = 4 then .neg else if o = 5 then .sqr else .sqrt
def bOf (o : Int) : B := if o = 7 then .add else if o = 8 then .sub else if o = 9 then .mul else .div
/-- What the reference's builder makes at a depth, and the nodes that are left. -/
def bld (n : Nat) : Nat → List Nd → Ex × List Nd
  | _, [] => (number 1, [])
  | 0, x :: r => if bOp x = 2 then (.var (low x.n 255 % n).toNat, r) else if bOp x = 3 then (.time, r) else (bNum x, r)
  | d + 1, x :: r =>
    if bOp x = 1 then (bNum x, r)
    else if bOp x = 2 then (.var (low x.n 255 % n).toNat, r)
    else if bOp x = 3 then (.time, r)
    else if bOp x ≤ 6 then (.un (uOf (bOp x)) (bld n d r).1, (bld n d r).2)
    else (.bin (bOf (bOp x)) (bld n d r).1 (bld n d (bld n d r).2).1, (bld n d (bld n d r).2).2)
def mde (n : Nat) (raw : List Nd) (most : Nat) : Ex := (bld n 4 (raw.take most)).1

/-- The nodes of an expression for n state variables. -/
theorem ser_nodes {n : Nat} : ∀ {e : Ex}, wf n e = true → ∀ x ∈ ser e, (∃ c, x = ⟨1, 0, c⟩ ∧ vB c = true) ∨ (∃ k : Nat, k < n ∧ x = leafN 2 k) ∨ (∃ o : Int, x = leafN o 0 ∧ 3 ≤ o ∧ o ≤ 10)
  | .num c, h, x, hx => by simp [ser] at hx; exact .inl ⟨c, hx, h⟩
  | .var i, h, x, hx => by simp [ser] at hx; simp only [wf, decide_eq_true_eq] at h; exact .inr (.inl ⟨i, h, hx⟩)
  | .time, h, x, hx => by simp [ser] at hx; exact .inr (.inr ⟨3, hx, by decide, by decide⟩)
  | .un o a, h, x, hx => by
    simp only [ser, List.mem_cons] at hx
    rcases hx with rfl | hx
    · exact .inr (.inr ⟨o.code, rfl, by cases o <;> decide, by cases o <;> decide⟩)
    · exact ser_nodes (e := a) h x hx
  | .bin o a b, h, x, hx => by
    simp only [wf, Bool.and_eq_true] at h
    simp only [ser, List.mem_cons, List.mem_append] at hx
    rcases hx with rfl | hx | hx
    · exact .inr (.inr ⟨o.code, rfl, by cases o <;> decide, by cases o <;> decide⟩)
    · exact ser_nodes h.1 x hx
    · exact ser_nodes h.2 x hx

/-! ### What the builder makes is well-formed, at most 2^depth - 1 nodes -/
theorem low_bounds (x : Int) {m : Int} (h : 0 ≤ m) : 0 ≤ low x m ∧ low x m ≤ m := by
  unfold low
  have h1 := Int.emod_nonneg x (b := m + 1) (by omega)
  have h2 := Int.emod_lt_of_pos x (b := m + 1) (by omega)
  omega
theorem bOp_bounds (x : Nd) : 1 ≤ bOp x ∧ bOp x ≤ 10 := by unfold bOp; omega
theorem low_var (x : Int) {n : Nat} (h : 0 < n) : 0 ≤ low x 255 % n ∧ low x 255 % n < n := ⟨Int.emod_nonneg _ (by omega), Int.emod_lt_of_pos _ (by omega)⟩
theorem near_valid (p : I) {w : Int} (hw : 1 ≤ w ∧ w ≤ 1000000) : vB (nearI' p w) = true := by
  have h1 : -1048576 < p.1.tmod 1048576 ∧ p.1.tmod 1048576 < 1048576 := by
    obtain ⟨h1, h2⟩ := tmod_bounds p.1 (b := 1048576) (by decide)
    by_cases h : 0 ≤ p.1
    · have := h1 h; omega
    · have := h2 (by omega); omega
  have h2 : 0 ≤ (p.2.tmod w + w).tmod w ∧ (p.2.tmod w + w).tmod w < w := by
    have h3 : -w < p.2.tmod w := by
      obtain ⟨h1, h2⟩ := tmod_bounds p.2 (b := w) (by omega)
      by_cases h : 0 ≤ p.2
      · have := h1 h; omega
      · have := h2 (by omega); omega
    exact ⟨Int.tmod_nonneg _ (by omega), Int.tmod_lt_of_pos _ (by omega)⟩
  unfold vB nearI'
  rw [Bool.or_eq_true, Bool.and_eq_true, Bool.and_eq_true, numB_iff, numB_iff, decide_eq_true_iff]
  right; dsimp only; omega
theorem bW (x : Nd) : 1 ≤ 1 + low x.n 255 * low x.n 1 ∧ 1 + low x.n 255 * low x.n 1 ≤ 1000000 := by
  obtain ⟨a1, a2⟩ := low_bounds x.n (m := 255) (by decide)
  obtain ⟨b1, b2⟩ := low_bounds x.n (m := 1) (by decide)
  have h1 := Int.mul_nonneg a1 b1
  have h2 := Int.mul_le_mul a2 b2 b1 (by decide)
  omega
theorem bNum_wf (x : Nd) (n : Nat) : wf n (bNum x) = true := near_valid _ (bW x)
theorem bld_wf {n : Nat} (hn : 0 < n) : ∀ (d : Nat) (l : List Nd), wf n (bld n d l).1 = true
  | 0, [] => number_wf' 1 n
  | d + 1, [] => number_wf' 1 n
  | 0, x :: r => by
    simp only [bld]
    split
    · have := low_var x.n hn; simp only [wf, decide_eq_true_eq]; omega
    · split
      · rfl
      · exact bNum_wf x n
  | d + 1, x :: r => by
    simp only [bld]
    split
    · exact bNum_wf x n
    · split
      · have := low_var x.n hn; simp only [wf, decide_eq_true_eq]; omega
      · split
        · rfl
        · split
          · exact bld_wf hn d r
          · simp only [wf, Bool.and_eq_true]; exact ⟨bld_wf hn d r, bld_wf hn d _⟩
theorem bld_sz (n : Nat) : ∀ (d : Nat) (l : List Nd), sz (bld n d l).1 ≤ 2 ^ (d + 1) - 1
  | 0, [] => by simp [bld, number, sz_num]
  | d + 1, [] => by simp only [bld, number, sz_num]; have := Nat.one_lt_two_pow_iff.2 (show d + 1 + 1 ≠ 0 by omega); omega
  | 0, x :: r => by
    simp only [bld]
    split
    · simp [sz_var]
    · split
      · simp [sz_time]
      · simp [bNum, sz_num]
  | d + 1, x :: r => by
    have h1 := bld_sz n d r
    have h2 := bld_sz n d (bld n d r).2
    have h3 : 2 ^ (d + 1 + 1) = 2 * 2 ^ (d + 1) := by rw [Nat.pow_succ]; omega
    have h4 := Nat.one_lt_two_pow_iff.2 (show d + 1 ≠ 0 by omega)
    simp only [bld]
    split
    · simp only [bNum, sz_num]; omega
    · split
      · simp only [sz_var]; omega
      · split
        · simp only [sz_time]; omega
        · split
          · simp only [sz_un]; omega
          · simp only [sz_bin]; omega
theorem mde_wf {n : Nat} (hn : 0 < n) (raw : List Nd) (most : Nat) : wf n (mde n raw most) = true := bld_wf hn 4 _
theorem mde_sz (n : Nat) (raw : List Nd) (most : Nat) : sz (mde n raw most) ≤ 31 := bld_sz n 4 _
/-- Each raw node is used once; each missing one counts as a leaf. -/
theorem bld_len (n : Nat) : ∀ (d : Nat) (l : List Nd), (bld n d l).2.length ≤ l.length ∧ sz (bld n d l).1 ≤ 2 * (l.length - (bld n d l).2.length) + 1
  | 0, [] => by simp [bld, number, sz_num]
  | d + 1, [] => by simp [bld, number, sz_num]
  | 0, x :: r => by
    simp only [bld]
    split
    · simp [sz_var]
    · split
      · simp [sz_time]
      · simp [bNum, sz_num]
  | d + 1, x :: r => by
    have h1 := bld_len n d r
    have h2 := bld_len n d (bld n d r).2
    simp only [bld]
    split
    · simp [bNum, sz_num]
    · split
      · simp [sz_var]
      · split
        · simp [sz_time]
        · split
          · simp only [sz_un, List.length_cons]; omega
          · simp only [sz_bin, List.length_cons]; omega
end Go.Pl

namespace Go.Proofs.YtohmodcheahpgaaDoor.Arm
open Go.Arm Go.Pl

theorem and_low {m : Nat} (hm : m ≤ 8) (x : Int) : andA .i64 x ((2 ^ m - 1 : Nat) : Int) = low x ((2 ^ m - 1 : Nat) : Int) := by
  have h0 : (2 : Nat) ^ m ≤ 256 := Nat.pow_le_pow_right (n := 2) (by decide) hm
  have h00 : 0 < (2 : Nat) ^ m := Nat.pow_pos (by decide)
  unfold andA low
  have e1 : (BitVec.ofInt 64 ((2 ^ m - 1 : Nat) : Int)).toNat = 2 ^ m - 1 := by
    rw [BitVec.toNat_ofInt]; omega
  have e2 : ((BitVec.ofInt 64 x &&& BitVec.ofInt 64 ((2 ^ m - 1 : Nat) : Int)).toNat : Int) = x % ((2 ^ m : Nat) : Int) := by
    rw [BitVec.toNat_and, e1, Nat.and_two_pow_sub_one_eq_mod, BitVec.toNat_ofInt]
    rw [Int.natCast_emod, Int.toNat_of_nonneg (Int.emod_nonneg _ (by decide))]
    rw [Int.emod_emod_of_dvd]
    have : ((2 : Nat) ^ 64 : Int) = ((2 ^ m : Nat) : Int) * ((2 ^ (64 - m) : Nat) : Int) := by
      rw [← Int.natCast_mul, ← Nat.pow_add, show m + (64 - m) = 64 by omega]; rfl
    exact ⟨_, this⟩
  have e3 : IntKind.i64.bits = 64 := rfl
  rw [e3, e2]
  have e4 : ((2 ^ m - 1 : Nat) : Int) + 1 = ((2 ^ m : Nat) : Int) := by omega
  rw [e4]
  have h1 := Int.emod_nonneg x (b := ((2 ^ m : Nat) : Int)) (by omega)
  have h2 := Int.emod_lt_of_pos x (b := ((2 ^ m : Nat) : Int)) (by omega)
  exact wrap64 (by omega) (by omega)
theorem and255 (x : Int) : andA .i64 x 255 = low x 255 := and_low (m := 8) (by decide) x
theorem and1' (x : Int) : andA .i64 x 1 = low x 1 := and_low (m := 1) (by decide) x

def LVe (e : Ex) (n : Nat) (H : AH) (i : Nat) (fr : AFr) (H' : AH) : Prop :=
  fr 0 = xs (ser e) ∧ fr 1 = .int .i64 n ∧ fr 5 = .int .i64 i ∧ i ≤ sz e ∧ ∃ J, H' = H ++ J
set_option maxRecDepth 8000 in
theorem r7ValidExpr (e : Ex) (n : Nat) (hw : wf n e = true) (hs : sz e ≤ 1000000000) (hn : n ≤ 1000000000) (H : AH) : Sound E 17 [xs (ser e), .int .i64 n] H (.ret (.bool (decide (sz e ≤ 200)))) H := by
  refine sound_of_awp tabOk mixed Tryd.func17 rfl (by rfl) Tryd.ntmps17 (by kernel_rfl) (by simp) ?_
  have hlen : (ser e).length = sz e := rfl
  have hp := sz_pos e
  have h0 : ((sz e : Int) == 0) = false := by rw [beq_eq_false_iff_ne]; omega
  simp [xs, hlen, h0]
  by_cases hb : sz e ≤ 200
  · have hb1 : decide (200 < (sz e : Int)) = false := by simp; omega
    have hb2 : ¬ 200 < (sz e : Int) := by omega
    simp [hb1, hb2]
    refine loop_count (LVe e n H) (fun i => sz e - i) 0 ⟨by simp [xs], by simp, by simp, by omega, [], by simp⟩ ?_
    rintro i fr H' ⟨g0, g1, g5, hi, J, rfl⟩
    simp [g0, g5, xs, hlen]
    refine branch (fun hc => ?_) (fun hc => ?_)
    · have hlt : i < sz e := by simpa using hc
      obtain ⟨x, hx⟩ := get_lt (l := ser e) hlt
      have hxE : ∀ h, (ser e)[i]'h = x := fun h => (List.getElem?_eq_some_iff.1 hx).2
      have w2 : IntKind.i64.wrap ((i : Int) + 1) = ((i + 1 : Nat) : Int) := by rw [wrap64 (by omega) (by omega)]; omega
      rcases ser_nodes hw x (List.mem_of_getElem? hx) with ⟨c, rfl, hcv⟩ | ⟨k, hk, rfl⟩ | ⟨o, rfl, ho1, ho2⟩
      · simp [g0, g1, g5, xs, hx, hxE]
        refine call_ret (rValid c _) ?_
        rw [hcv]
        simp [g0, g1, g5, w2]
        exact ⟨i + 1, by show sz e - (i + 1) < sz e - i; omega, by simp [g0, xs], by simp [g1], by simp, by omega, J ++ [.row true 4 [nd ⟨1, 0, c⟩]], by simp⟩
      · have hk1 : ¬ (k : Int) < 0 := by omega
        have hk2 : ¬ (n : Int) ≤ (k : Int) := by omega
        simp [g0, g1, g5, xs, hx, hxE, leafN, hk1, hk2, w2]
        exact ⟨i + 1, by show sz e - (i + 1) < sz e - i; omega, by simp [g0, xs], by simp [g1], by simp, by omega, J ++ [.row true 4 [nd (leafN 2 k)]], by simp [leafN]⟩
      · have ho3 : (o == 1) = false := by rw [beq_eq_false_iff_ne]; omega
        have ho4 : (o == 2) = false := by rw [beq_eq_false_iff_ne]; omega
        have ho5 : (o != 1) = true := by simp [bne, ho3]
        have ho6 : (o != 2) = true := by simp [bne, ho4]
        simp [g0, g1, g5, xs, hx, hxE, leafN, ho3, ho4, ho5, ho6, w2]
        exact ⟨i + 1, by show sz e - (i + 1) < sz e - i; omega, by simp [g0, xs], by simp [g1], by simp, by omega, J ++ [.row true 4 [nd (leafN o 0)]], by simp [leafN]⟩
    · simp [g0, xs]
      have hS := r7ExprLen (sz e) e [] (Nat.le_refl _) (by simp; omega) (H ++ J)
      rw [List.append_nil] at hS
      refine call_ret hS ?_
      simp [g0, xs, hlen]
      exact fin1 (rs := [.tmp 4]) (by rfl) (by simp [resA, hb]) (by simp [noF])
  · have hb1 : decide (200 < (sz e : Int)) = true := by simp; omega
    have hb2 : 200 < (sz e : Int) := by omega
    simp [hb1, hb2]
    exact fin0 (rs := [.tmp 4]) (by rfl) (by simp [resA, hb])
end Go.Proofs.YtohmodcheahpgaaDoor.Arm
