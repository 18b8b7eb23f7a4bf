/- Part of a proof: what the functions of the program do to abstract states, step by step. -/
import Derived.Test.YtfjjckepnkkgjaaGreatDoorM3
set_option linter.unusedVariables false
set_option linter.unusedSimpArgs false
namespace Go.Proofs.YtfjjckepnkkgjaaGreatDoor.Arm.C1
open Go.Arm
theorem decEnd_ok {bs : List Int} {c : Cert} {r : List Int} (h : rdCert bs = (.ok c, r)) : decEnd bs = .tuple [crt c, .int .i64 0] := by unfold decEnd; rw [h]
theorem certOk_rng {c : Cert} (h : certOk c) : rngI c.t ∧ boxRng c.fr ∧ (∀ s ∈ c.l, rngI s.h ∧ rngI s.o ∧ boxRng s.pre ∧ boxRng s.to) ∧ c.l.length ≤ 1000 := by
  obtain ⟨h1, h2, h3, h4, h5, h6, h7⟩ := h
  have hb : ∀ b : Box, b.length ≤ 6 → boxIn b → boxRng b := fun b hl hi => ⟨by omega, fun p hp => by have := hi p hp; unfold endIn at this; unfold rngI; omega⟩
  refine ⟨by unfold numIn at h1; unfold rngI; omega, hb _ h3 h4, fun s hs => ?_, by omega⟩
  obtain ⟨g1, g2, g3, g4, g5, g6⟩ := h7 s hs
  exact ⟨by unfold numIn at g1; unfold rngI; omega, by unfold numIn at g2; unfold rngI; omega, hb _ (by omega) g5, hb _ (by omega) g6⟩
theorem certOk_len {c : Cert} (h : certOk c) : c.fr.length ≤ 9223372036854775807 ∧ (∀ s ∈ c.l, s.pre.length ≤ 9223372036854775807 ∧ s.to.length ≤ 9223372036854775807) ∧ c.l.length ≤ 9223372036854775807 := by
  obtain ⟨h1, h2, h3, h4, h5, h6, h7⟩ := h
  exact ⟨by omega, fun s hs => by obtain ⟨g1, g2, g3, g4, g5, g6⟩ := h7 s hs; omega, by omega⟩
theorem vb_len : ∀ (k u : Nat), u < 128 ^ k → (vb u).length ≤ max k 1
  | 0, u, h => by rw [vb_small (by simp at h; omega)]; simp
  | k + 1, u, h => by
    by_cases hu : u < 128
    · rw [vb_small hu]; simp
    · rw [vb_big hu]
      have := vb_len k (u / 128) (by rw [Nat.pow_succ] at h; omega)
      simp only [List.length_cons]
      cases k with
      | zero => simp at h; omega
      | succ k => omega
theorem varint_len {v : Int} (h : -9223372036854775808 ≤ v ∧ v < 9223372036854775808) : (varint v).length ≤ 10 := by
  have := vb_len 10 (zig v) (by have := zig_lt h.1 h.2; omega)
  unfold varint; omega
theorem boxBytes_len : ∀ {b : Box}, boxIn b → (boxBytes b).length ≤ 20 * b.length
  | [], h => by simp [boxBytes]
  | p :: r, h => by
    have h1 := h p (by simp)
    unfold endIn at h1
    have h2 := boxBytes_len (b := r) (fun q hq => h q (by simp [hq]))
    have h3 := varint_len (v := p.1) (by omega)
    have h4 := varint_len (v := p.2) (by omega)
    simp only [boxBytes, List.flatMap_cons, List.length_append, List.length_cons] at h2 ⊢
    omega
theorem stepsBytes_len : ∀ {l : List Step} {n : Nat}, n ≤ 6 → (∀ s ∈ l, stepOk n s) → (stepsBytes l).length ≤ 260 * l.length
  | [], n, hn, h => by simp [stepsBytes]
  | s :: r, n, hn, h => by
    obtain ⟨g1, g2, g3, g4, g5, g6⟩ := h s (by simp)
    have h2 := stepsBytes_len (l := r) hn (fun q hq => h q (by simp [hq]))
    unfold numIn at g1 g2
    have h3 := varint_len (v := s.h) (by omega)
    have h4 := varint_len (v := s.o) (by omega)
    have h5 := boxBytes_len g5
    have h6 := boxBytes_len g6
    simp only [stepsBytes, stepBytes, List.flatMap_cons, List.length_append, List.length_cons] at h2 ⊢
    omega
theorem encB_len {c : Cert} (h : certOk c) : (encB c).length ≤ 100000 := by
  obtain ⟨h1, h2, h3, h4, h5, h6, h7⟩ := h
  unfold numIn at h1
  have g1 := varint_len (v := c.t) (by omega)
  have g2 := varint_len (v := c.fr.length) (by omega)
  have g3 := varint_len (v := c.l.length) (by omega)
  have g4 := boxBytes_len h4
  have g5 := stepsBytes_len h3 h7
  simp only [encB, headBytes, List.length_append]
  omega
theorem v17 {c : Cert} (h : certOk c) (Hx : AH) : Sound E 44 [crt c] Hx (.ret (.slice ((encB c).map u8) false)) Hx :=
  have r := certOk_rng h
  s17 c r.1 r.2.1 r.2.2.1 r.2.2.2 (by have := encB_len h; omega) Hx
theorem v16 {c d : Cert} (h : certOk c) (Hx : AH) : Sound E 45 [crt c, crt d] Hx (.ret (.bool (decide (c = d)))) Hx :=
  have r := certOk_len h
  s16 c d r.1 r.2.1 r.2.2 Hx
theorem v20 {c : Cert} (h : certOk c) (hc : certB c = true) (Hx : AH) : Sound E 42 [crt c] Hx (.ret (.bool true)) Hx := by
  have r := certOk_len h
  rw [← hc]; exact s20 c r.1 r.2.1 Hx
theorem v18 {bs : List Int} (hb : byteL bs) (hl : bs.length ≤ 1000000000) {c : Cert} {e : Int} (h : decEnd bs = .tuple [crt c, .int .i64 e]) (Hx : AH) : Sound E 43 [.slice (bs.map u8) false] Hx (.ret (.tuple [crt c, .int .i64 e])) Hx := by
  rw [← h]; exact s18 Hx bs hb hl
end Go.Proofs.YtfjjckepnkkgjaaGreatDoor.Arm.C1

namespace Go.Proofs.YtfjjckepnkkgjaaGreatDoor.Arm
open Go.Arm Go.Pl
@[simp] theorem bin_iv (H : AH) (a b c d : Int) (z : Bool) : binOpA tab H .eql 54 (.agg [.int .i64 a, .int .i64 b]) (.agg [.int .i64 c, .int .i64 d]) z = some (.bool (a == c && b == d), H) := by
  simp [binOpA, binA, eqA, eqFs, nilI]
  by_cases h : a = c <;> by_cases h2 : b = d <;> simp [h, h2]
@[simp] theorem bin_iv_ne (H : AH) (a b c d : Int) (z : Bool) : binOpA tab H .neq 54 (.agg [.int .i64 a, .int .i64 b]) (.agg [.int .i64 c, .int .i64 d]) z = some (.bool (!(a == c && b == d)), H) := by
  simp [binOpA, binA, eqA, eqFs, nilI]
  by_cases h : a = c <;> by_cases h2 : b = d <;> simp [h, h2]
theorem iEntire (H : AH) : Sound E 107 [] H (.ret (iv ent)) H := by
  refine sound_of_awp tabOk mixed Tryz.func107 rfl (by rfl) Tryz.ntmps107 (by kernel_rfl) (by simp) ?_
  simp
  exact fin1 (rs := [.cell 0 54]) (by rfl) (by simp [resA, ent]) (by simp [noF, noFs])
theorem iIsEntire (p : I) (H : AH) : Sound E 127 [iv p] H (.ret (.bool (entB p))) H := by
  refine sound_of_awp tabOk mixed Tryz.func127 rfl (by rfl) Tryz.ntmps127 (by kernel_rfl) (by simp) ?_
  simp
  refine callD_ret (fun Hx => iEntire Hx) ?_
  simp
  refine endD [] (by rfl) (by simp [okW, note, Eff.triv, Eff.wr, Eff.none, upTo, newAt]) ?_
  simp [ent]
  exact fin1 (rs := [.tmp 2]) (by rfl) (by simp [resA, entB]) (by simp [noF])
theorem iNew (a b : Int) (H : AH) : Sound E 75 [.int .i64 a, .int .i64 b] H (.ret (iv (mk a b))) H := by
  refine sound_of_awp tabOk mixed Tryz.func75 rfl (by rfl) Tryz.ntmps75 (by kernel_rfl) (by simp) ?_
  have hN : ∀ x, numB x = (decide (-2147483648 < x) && decide (x < 2147483648)) := fun x => rfl
  have key : mk a b = if (decide (a ≤ -2147483648) || decide (2147483648 ≤ b) || decide (2147483648 ≤ a) || decide (b ≤ -2147483648)) = true then ent else (a, b) := by
    unfold mk
    simp only [hN, Bool.and_eq_true, decide_eq_true_eq, Bool.or_eq_true]
    by_cases h : (((a ≤ -2147483648 ∨ 2147483648 ≤ b) ∨ 2147483648 ≤ a) ∨ b ≤ -2147483648)
    · rw [if_pos h, if_neg (by omega)]
    · rw [if_neg h, if_pos (by omega)]
  by_cases h1 : a ≤ -2147483648
  · simp [h1]
    refine call_ret (iEntire _) ?_
    simp
    exact fin1 (rs := [.cell 4 54]) (by rfl) (by rw [key, if_pos (by simp; omega)]; simp [resA]) (by simp [noF, noFs])
  by_cases h2 : 2147483648 ≤ b
  · simp [h1, h2]
    refine call_ret (iEntire _) ?_
    simp
    exact fin1 (rs := [.cell 4 54]) (by rfl) (by rw [key, if_pos (by simp; omega)]; simp [resA]) (by simp [noF, noFs])
  by_cases h3 : 2147483648 ≤ a
  · simp [h1, h2, h3]
    refine call_ret (iEntire _) ?_
    simp
    exact fin1 (rs := [.cell 4 54]) (by rfl) (by rw [key, if_pos (by simp; omega)]; simp [resA]) (by simp [noF, noFs])
  by_cases h4 : b ≤ -2147483648
  · simp [h1, h2, h3, h4]
    refine call_ret (iEntire _) ?_
    simp
    exact fin1 (rs := [.cell 4 54]) (by rfl) (by rw [key, if_pos (by simp; omega)]; simp [resA]) (by simp [noF, noFs])
  simp [h1, h2, h3, h4]
  exact fin1 (rs := [.cell 4 54]) (by rfl) (by rw [key, if_neg (by simp; omega)]; simp [resA]) (by simp [noF, noFs])
theorem iPoint (x : Int) (H : AH) : Sound E 143 [.int .i64 x] H (.ret (iv (pt x))) H := by
  refine sound_of_awp tabOk mixed Tryz.func143 rfl (by rfl) Tryz.ntmps143 (by kernel_rfl) (by simp) ?_
  simp
  refine call_ret (iNew _ _ _) ?_
  simp
  exact fin1 (rs := [.cell 2 54]) (by rfl) (by simp [resA, pt]) (by simp [noF, noFs])
theorem iNeg (p : I) (h : vB p = true) (H : AH) : Sound E 184 [iv p] H (.ret (iv (neg p))) H := by
  refine sound_of_awp tabOk mixed Tryz.func184 rfl (by rfl) Tryz.ntmps184 (by kernel_rfl) (by simp) ?_
  have hb := vB_bounds h
  have w1 : IntKind.i64.wrap (-p.1) = -p.1 := wrap64 (by omega) (by omega)
  have w2 : IntKind.i64.wrap (-p.2) = -p.2 := wrap64 (by omega) (by omega)
  simp [w1, w2]
  exact fin1 (rs := [.cell 2 54]) (by rfl) (by simp [resA, neg]) (by simp [noF, noFs])
theorem iAdd (p q : I) (hp : vB p = true) (hq : vB q = true) (H : AH) : Sound E 175 [iv p, iv q] H (.ret (iv (add p q))) H := by
  refine sound_of_awp tabOk mixed Tryz.func175 rfl (by rfl) Tryz.ntmps175 (by kernel_rfl) (by simp) ?_
  have hb := vB_bounds hp
  have hc := vB_bounds hq
  have w1 : IntKind.i64.wrap (p.1 + q.1) = p.1 + q.1 := wrap64 (by omega) (by omega)
  have w2 : IntKind.i64.wrap (p.2 + q.2) = p.2 + q.2 := wrap64 (by omega) (by omega)
  simp
  refine call_ret (iIsEntire p _) ?_
  cases h1 : entB p with
  | true =>
    simp
    refine call_ret (iEntire _) ?_
    simp
    exact fin1 (rs := [.cell 4 54]) (by rfl) (by simp [resA, add, h1]) (by simp [noF, noFs])
  | false =>
    simp
    refine call_ret (iIsEntire q _) ?_
    cases h2 : entB q with
    | true =>
      simp
      refine call_ret (iEntire _) ?_
      simp
      exact fin1 (rs := [.cell 4 54]) (by rfl) (by simp [resA, add, h1, h2]) (by simp [noF, noFs])
    | false =>
      simp [w1, w2]
      refine call_ret (iNew _ _ _) ?_
      simp
      exact fin1 (rs := [.cell 4 54]) (by rfl) (by simp [resA, add, h1, h2]) (by simp [noF, noFs])
theorem iSub (p q : I) (hp : vB p = true) (hq : vB q = true) (H : AH) : Sound E 185 [iv p, iv q] H (.ret (iv (sub p q))) H := by
  refine sound_of_awp tabOk mixed Tryz.func185 rfl (by rfl) Tryz.ntmps185 (by kernel_rfl) (by simp) ?_
  simp
  refine callD_ret0 (fun Hx => iNeg q hq Hx) ?_
  simp
  refine callD_ret0 (fun Hx => iAdd p (neg q) hp (neg_valid hq) Hx) ?_
  simp
  refine endD [] (by rfl) (by simp [okW, note, Eff.triv, Eff.wr, Eff.none, upTo, newAt]) ?_
  simp
  exact fin1 (rs := [.cell 4 54]) (by rfl) (by simp [resA, sub]) (by simp [noF, noFs])
def sideI (p : I) : Int := if p.2 ≤ 0 then 0 else if 0 ≤ p.1 then 2 else 1
theorem iSide (p : I) (H : AH) : Sound E 193 [iv p] H (.ret (.int .i64 (sideI p))) H := by
  refine sound_of_awp tabOk mixed Tryz.func193 rfl (by rfl) Tryz.ntmps193 (by kernel_rfl) (by simp) ?_
  by_cases h1 : p.2 ≤ 0
  · simp [h1]
    exact fin1 (rs := [.tmp 2]) (by rfl) (by simp [resA, sideI, h1]) (by simp [noF])
  by_cases h2 : 0 ≤ p.1
  · simp [h1, h2]
    exact fin1 (rs := [.tmp 2]) (by rfl) (by simp [resA, sideI, h1, h2]) (by simp [noF])
  simp [h1, h2]
  exact fin1 (rs := [.tmp 2]) (by rfl) (by simp [resA, sideI, h1, h2]) (by simp [noF])
theorem iHH (p q : I) (H : AH) : Sound E 255 [iv p, iv q] H (.ret (.tuple [.int .i64 p.2, .int .i64 q.2])) H := by
  refine sound_of_awp tabOk mixed Tryz.func255 rfl (by rfl) Tryz.ntmps255 (by kernel_rfl) (by simp) ?_
  simp
  refine endD [] (by rfl) (by simp [okW, note, Eff.triv, Eff.wr, Eff.none, upTo, newAt]) ?_
  simp
  exact finC (rs := [.tmp 4, .tmp 5]) (vs := [.int .i64 p.2, .int .i64 q.2]) (vs' := [.int .i64 p.2, .int .i64 q.2]) (by rfl) (by simp [resA]) (by simp; rfl) (by simp [noF, noFs]) rfl
theorem iLL (p q : I) (H : AH) : Sound E 256 [iv p, iv q] H (.ret (.tuple [.int .i64 p.1, .int .i64 q.1])) H := by
  refine sound_of_awp tabOk mixed Tryz.func256 rfl (by rfl) Tryz.ntmps256 (by kernel_rfl) (by simp) ?_
  simp
  refine endD [] (by rfl) (by simp [okW, note, Eff.triv, Eff.wr, Eff.none, upTo, newAt]) ?_
  simp
  exact finC (rs := [.tmp 4, .tmp 5]) (vs := [.int .i64 p.1, .int .i64 q.1]) (vs' := [.int .i64 p.1, .int .i64 q.1]) (by rfl) (by simp [resA]) (by simp; rfl) (by simp [noF, noFs]) rfl
theorem iLH (p q : I) (H : AH) : Sound E 257 [iv p, iv q] H (.ret (.tuple [.int .i64 p.1, .int .i64 q.2])) H := by
  refine sound_of_awp tabOk mixed Tryz.func257 rfl (by rfl) Tryz.ntmps257 (by kernel_rfl) (by simp) ?_
  simp
  refine endD [] (by rfl) (by simp [okW, note, Eff.triv, Eff.wr, Eff.none, upTo, newAt]) ?_
  simp
  exact finC (rs := [.tmp 4, .tmp 5]) (vs := [.int .i64 p.1, .int .i64 q.2]) (vs' := [.int .i64 p.1, .int .i64 q.2]) (by rfl) (by simp [resA]) (by simp; rfl) (by simp [noF, noFs]) rfl
theorem iHL (p q : I) (H : AH) : Sound E 258 [iv p, iv q] H (.ret (.tuple [.int .i64 p.2, .int .i64 q.1])) H := by
  refine sound_of_awp tabOk mixed Tryz.func258 rfl (by rfl) Tryz.ntmps258 (by kernel_rfl) (by simp) ?_
  simp
  refine endD [] (by rfl) (by simp [okW, note, Eff.triv, Eff.wr, Eff.none, upTo, newAt]) ?_
  simp
  exact finC (rs := [.tmp 4, .tmp 5]) (vs := [.int .i64 p.2, .int .i64 q.1]) (vs' := [.int .i64 p.2, .int .i64 q.1]) (by rfl) (by simp [resA]) (by simp; rfl) (by simp [noF, noFs]) rfl
theorem iMag (p : I) (h : vB p = true) (H : AH) : Sound E 206 [iv p] H (.ret (.int .i64 (max p.2 (-p.1)))) H := by
  refine sound_of_awp tabOk mixed Tryz.func206 rfl (by rfl) Tryz.ntmps206 (by kernel_rfl) (by simp) ?_
  have hb := vB_bounds h
  have w1 : IntKind.i64.wrap (-p.1) = -p.1 := wrap64 (by omega) (by omega)
  simp [w1]
  exact fin1 (rs := [.tmp 2]) (by rfl) (by simp [resA]; omega) (by simp [noF])
theorem iPickInt (b : Bool) (x y : Int) (H : AH) : Sound E 218 [.bool b, .int .i64 x, .int .i64 y] H (.ret (.int .i64 (if b then x else y))) H := by
  refine sound_of_awp tabOk mixed Tryz.func218 rfl (by rfl) Tryz.ntmps218 (by kernel_rfl) (by simp) ?_
  cases b with
  | true =>
    simp
    exact fin0 (rs := [.tmp 6]) (by rfl) (by simp [resA])
  | false =>
    simp
    exact fin0 (rs := [.tmp 6]) (by rfl) (by simp [resA])
theorem iContains (p : I) (x : Int) (H : AH) : Sound E 217 [iv p, .int .i64 x] H (.ret (.bool (conB p x))) H := by
  refine sound_of_awp tabOk mixed Tryz.func217 rfl (by rfl) Tryz.ntmps217 (by kernel_rfl) (by simp) ?_
  simp
  refine call_ret (iIsEntire p _) ?_
  cases h1 : entB p with
  | true =>
    simp
    exact fin1 (rs := [.tmp 4]) (by rfl) (by simp [resA, conB, h1]) (by simp [noF])
  | false =>
    by_cases h2 : p.1 ≤ x
    · simp [h2]
      exact fin1 (rs := [.tmp 4]) (by rfl) (by simp [resA, conB, h1, h2]) (by simp [noF])
    · simp [h2]
      exact fin1 (rs := [.tmp 4]) (by rfl) (by simp [resA, conB, h1, h2]) (by simp [noF])
end Go.Proofs.YtfjjckepnkkgjaaGreatDoor.Arm

namespace Go.Proofs.YtfjjckepnkkgjaaGreatDoor.Arm
open Go.Arm Go.Pl
theorem prod_bounds {x y : Int} (hx : -2147483648 ≤ x ∧ x ≤ 2147483648) (hy : -2147483648 ≤ y ∧ y ≤ 2147483648) : -4611686018427387904 ≤ x * y ∧ x * y ≤ 4611686018427387904 := by
  have h1 : (x * y).natAbs ≤ 2147483648 * 2147483648 := by
    rw [Int.natAbs_mul]
    exact Nat.mul_le_mul (by omega) (by omega)
  omega
theorem sideI_cases (p : I) : (sideI p = 0 ∧ p.2 ≤ 0) ∨ (sideI p = 2 ∧ 0 ≤ p.1 ∧ 0 < p.2) ∨ (sideI p = 1 ∧ p.1 < 0 ∧ 0 < p.2) := by
  unfold sideI
  split
  · exact .inl ⟨rfl, by omega⟩
  · split
    · exact .inr (.inl ⟨rfl, by omega, by omega⟩)
    · exact .inr (.inr ⟨rfl, by omega, by omega⟩)
theorem mul_sel {p q : I} (h1 : entB p = false) (h2 : entB q = false) {a b : Int} (ha : min4 (p.1 * q.1) (p.1 * q.2) (p.2 * q.1) (p.2 * q.2) = a) (hb : max4 (p.1 * q.1) (p.1 * q.2) (p.2 * q.1) (p.2 * q.2) = b) :
    mul p q = mk (fl a 65536) (ce b 65536) := by simp [mul, h1, h2, ha, hb]
set_option maxHeartbeats 1000000 in
theorem iMul (p q : I) (hp : vB p = true) (hq : vB q = true) (H : AH) : Sound E 174 [iv p, iv q] H (.ret (iv (mul p q))) H := by
  refine sound_of_awp tabOk mixed Tryz.func174 rfl (by rfl) Tryz.ntmps174 (by kernel_rfl) (by simp) ?_
  simp
  refine call_ret (iIsEntire p _) ?_
  cases h1 : entB p with
  | true =>
    simp
    refine call_ret (iEntire _) ?_
    simp
    exact fin1 (rs := [.cell 4 54]) (by rfl) (by simp [resA, mul, h1]) (by simp [noF, noFs])
  | false =>
  simp
  refine call_ret (iIsEntire q _) ?_
  cases h2 : entB q with
  | true =>
    simp
    refine call_ret (iEntire _) ?_
    simp
    exact fin1 (rs := [.cell 4 54]) (by rfl) (by simp [resA, mul, h1, h2]) (by simp [noF, noFs])
  | false =>
  simp
  refine callD_ret0 (fun Hx => iSide p Hx) ?_
  simp
  refine callD_ret0 (fun Hx => iSide q Hx) ?_
  simp
  refine endD [] (by rfl) (by simp [okW, note, Eff.triv, Eff.wr, Eff.none, upTo, newAt]) ?_
  have hb := entB_false hp h1
  have hc := entB_false hq h2
  have w11 := prod_bounds (x := p.1) (y := q.1) (by omega) (by omega)
  have w12 := prod_bounds (x := p.1) (y := q.2) (by omega) (by omega)
  have w21 := prod_bounds (x := p.2) (y := q.1) (by omega) (by omega)
  have w22 := prod_bounds (x := p.2) (y := q.2) (by omega) (by omega)
  have he := mul_edges p q
  rcases sideI_cases p with ⟨s1, f1⟩ | ⟨s1, f1⟩ | ⟨s1, f1⟩ <;> rcases sideI_cases q with ⟨t1, g1⟩ | ⟨t1, g1⟩ | ⟨t1, g1⟩
  · have hm : mul p q = mk (fl (p.2 * q.2) 65536) (ce (p.1 * q.1) 65536) := mul_sel h1 h2 (by simp only [min4]; omega) (by simp only [max4]; omega)
    simp [s1, t1, prodT]
    refine call_ret (iHH p q _) ?_
    simp
    refine call_ret (fMul _ _ w22 _) ?_
    simp
    refine call_ret (iLL p q _) ?_
    simp
    refine call_ret (fMul _ _ w11 _) ?_
    simp
    refine call_ret (iNew _ _ _) ?_
    simp
    exact fin1 (rs := [.cell 4 54]) (by rfl) (by rw [hm]; simp [resA]) (by simp [noF, noFs])
  · have hm : mul p q = mk (fl (p.1 * q.2) 65536) (ce (p.2 * q.1) 65536) := mul_sel h1 h2 (by simp only [min4]; omega) (by simp only [max4]; omega)
    simp [s1, t1, prodT]
    refine call_ret (iLH p q _) ?_
    simp
    refine call_ret (fMul _ _ w12 _) ?_
    simp
    refine call_ret (iHL p q _) ?_
    simp
    refine call_ret (fMul _ _ w21 _) ?_
    simp
    refine call_ret (iNew _ _ _) ?_
    simp
    exact fin1 (rs := [.cell 4 54]) (by rfl) (by rw [hm]; simp [resA]) (by simp [noF, noFs])
  · have hm : mul p q = mk (fl (p.1 * q.2) 65536) (ce (p.1 * q.1) 65536) := mul_sel h1 h2 (by simp only [min4]; omega) (by simp only [max4]; omega)
    simp [s1, t1, prodT]
    refine call_ret (iLH p q _) ?_
    simp
    refine call_ret (fMul _ _ w12 _) ?_
    simp
    refine call_ret (iLL p q _) ?_
    simp
    refine call_ret (fMul _ _ w11 _) ?_
    simp
    refine call_ret (iNew _ _ _) ?_
    simp
    exact fin1 (rs := [.cell 4 54]) (by rfl) (by rw [hm]; simp [resA]) (by simp [noF, noFs])
  · have hm : mul p q = mk (fl (p.2 * q.1) 65536) (ce (p.1 * q.2) 65536) := mul_sel h1 h2 (by simp only [min4]; omega) (by simp only [max4]; omega)
    simp [s1, t1, prodT]
    refine call_ret (iHL p q _) ?_
    simp
    refine call_ret (fMul _ _ w21 _) ?_
    simp
    refine call_ret (iLH p q _) ?_
    simp
    refine call_ret (fMul _ _ w12 _) ?_
    simp
    refine call_ret (iNew _ _ _) ?_
    simp
    exact fin1 (rs := [.cell 4 54]) (by rfl) (by rw [hm]; simp [resA]) (by simp [noF, noFs])
  · have hm : mul p q = mk (fl (p.1 * q.1) 65536) (ce (p.2 * q.2) 65536) := mul_sel h1 h2 (by simp only [min4]; omega) (by simp only [max4]; omega)
    simp [s1, t1, prodT]
    refine call_ret (iLL p q _) ?_
    simp
    refine call_ret (fMul _ _ w11 _) ?_
    simp
    refine call_ret (iHH p q _) ?_
    simp
    refine call_ret (fMul _ _ w22 _) ?_
    simp
    refine call_ret (iNew _ _ _) ?_
    simp
    exact fin1 (rs := [.cell 4 54]) (by rfl) (by rw [hm]; simp [resA]) (by simp [noF, noFs])
  · have hm : mul p q = mk (fl (p.2 * q.1) 65536) (ce (p.2 * q.2) 65536) := mul_sel h1 h2 (by simp only [min4]; omega) (by simp only [max4]; omega)
    simp [s1, t1, prodT]
    refine call_ret (iHL p q _) ?_
    simp
    refine call_ret (fMul _ _ w21 _) ?_
    simp
    refine call_ret (iHH p q _) ?_
    simp
    refine call_ret (fMul _ _ w22 _) ?_
    simp
    refine call_ret (iNew _ _ _) ?_
    simp
    exact fin1 (rs := [.cell 4 54]) (by rfl) (by rw [hm]; simp [resA]) (by simp [noF, noFs])
  · have hm : mul p q = mk (fl (p.2 * q.1) 65536) (ce (p.1 * q.1) 65536) := mul_sel h1 h2 (by simp only [min4]; omega) (by simp only [max4]; omega)
    simp [s1, t1, prodT]
    refine call_ret (iHL p q _) ?_
    simp
    refine call_ret (fMul _ _ w21 _) ?_
    simp
    refine call_ret (iLL p q _) ?_
    simp
    refine call_ret (fMul _ _ w11 _) ?_
    simp
    refine call_ret (iNew _ _ _) ?_
    simp
    exact fin1 (rs := [.cell 4 54]) (by rfl) (by rw [hm]; simp [resA]) (by simp [noF, noFs])
  · have hm : mul p q = mk (fl (p.1 * q.2) 65536) (ce (p.2 * q.2) 65536) := mul_sel h1 h2 (by simp only [min4]; omega) (by simp only [max4]; omega)
    simp [s1, t1, prodT]
    refine call_ret (iLH p q _) ?_
    simp
    refine call_ret (fMul _ _ w12 _) ?_
    simp
    refine call_ret (iHH p q _) ?_
    simp
    refine call_ret (fMul _ _ w22 _) ?_
    simp
    refine call_ret (iNew _ _ _) ?_
    simp
    exact fin1 (rs := [.cell 4 54]) (by rfl) (by rw [hm]; simp [resA]) (by simp [noF, noFs])
  · have hm : mul p q = mk (min (fl (p.1 * q.2) 65536) (fl (p.2 * q.1) 65536)) (max (ce (p.1 * q.1) 65536) (ce (p.2 * q.2) 65536)) := by
      have e1 : min4 (p.1 * q.1) (p.1 * q.2) (p.2 * q.1) (p.2 * q.2) = min (p.1 * q.2) (p.2 * q.1) := by simp only [min4]; omega
      have e2 : max4 (p.1 * q.1) (p.1 * q.2) (p.2 * q.1) (p.2 * q.2) = max (p.1 * q.1) (p.2 * q.2) := by simp only [max4]; omega
      rw [mul_sel h1 h2 e1 e2]
      congr 1
      · simp only [fl]; split <;> omega
      · simp only [ce, fl]; split <;> omega
    simp [s1, t1]
    refine call_ret (fMul _ _ w12 _) ?_
    simp
    refine call_ret (fMul _ _ w21 _) ?_
    simp
    refine call_ret (fMul _ _ w11 _) ?_
    simp
    refine call_ret (fMul _ _ w22 _) ?_
    simp
    refine call_ret (iNew _ _ _) ?_
    simp
    exact fin1 (rs := [.cell 4 54]) (by rfl) (by rw [hm]; simp [resA, ite_min, ite_max]) (by simp [noF, noFs])
theorem sq_eq (p : I) (h : p.1 ≤ p.2) : (if p.1 ≤ 0 ∧ 0 ≤ p.2 then 0 else min (p.1 * p.1) (p.2 * p.2)) = max (max p.1 (-p.2)) 0 * max (max p.1 (-p.2)) 0 ∧ max (p.1 * p.1) (p.2 * p.2) = max p.2 (-p.1) * max p.2 (-p.1) := by
  obtain ⟨x, y⟩ := p
  simp only at h ⊢
  have e1 : 0 ≤ x → x * x ≤ y * y := fun h0 => Int.mul_le_mul h h h0 (by omega)
  have e2 : y ≤ 0 → y * y ≤ x * x := fun h0 => by
    have := Int.mul_le_mul (a := -y) (b := -y) (c := -x) (d := -x) (by omega) (by omega) (by omega) (by omega)
    simp only [Int.neg_mul_neg] at this; exact this
  have e3 : x ≤ 0 → 0 ≤ y → -x ≤ y → x * x ≤ y * y := fun h0 h1 h2 => by
    have := Int.mul_le_mul (a := -x) (b := -x) (c := y) (d := y) (by omega) (by omega) (by omega) (by omega)
    simp only [Int.neg_mul_neg] at this; exact this
  have e4 : x ≤ 0 → 0 ≤ y → y ≤ -x → y * y ≤ x * x := fun h0 h1 h2 => by
    have := Int.mul_le_mul (a := y) (b := y) (c := -x) (d := -x) (by omega) (by omega) (by omega) (by omega)
    simp only [Int.neg_mul_neg] at this; exact this
  have n1 : -x * -x = x * x := Int.neg_mul_neg x x
  have n2 : -y * -y = y * y := Int.neg_mul_neg y y
  constructor
  · split
    · rw [show max (max x (-y)) 0 = 0 by omega]; simp
    · rcases Int.lt_or_le 0 x with h0 | h0
      · rw [show max (max x (-y)) 0 = x by omega]; have := e1 (by omega); omega
      · rw [show max (max x (-y)) 0 = -y by omega, n2]; have := e2 (by omega); omega
  · rcases Int.le_total (-x) y with h0 | h0
    · rw [show max y (-x) = y by omega]
      rcases Int.le_total 0 x with h1 | h1
      · have := e1 h1; omega
      · have := e3 h1 (by omega) h0; omega
    · rw [show max y (-x) = -x by omega, n1]
      rcases Int.le_total y 0 with h1 | h1
      · have := e2 h1; omega
      · have := e4 (by omega) h1 h0; omega
theorem iSquare (p : I) (hp : vB p = true) (H : AH) : Sound E 186 [iv p] H (.ret (iv (sq p))) H := by
  refine sound_of_awp tabOk mixed Tryz.func186 rfl (by rfl) Tryz.ntmps186 (by kernel_rfl) (by simp) ?_
  simp
  refine call_ret (iIsEntire p _) ?_
  cases h1 : entB p with
  | true =>
    simp
    exact fin1 (rs := [.cell 2 54]) (by rfl) (by have e : sq p = p := (by simp only [sq, h1, if_true]; exact (entB_iff.1 h1).symm); rw [e]; simp [resA]) (by simp [noF, noFs])
  | false =>
  have hb := entB_false hp h1
  have w1 : IntKind.i64.wrap (-p.2) = -p.2 := wrap64 (by omega) (by omega)
  obtain ⟨e1, e2⟩ := sq_eq p hb.2.1
  have hs : sq p = mk (fl (max (max p.1 (-p.2)) 0 * max (max p.1 (-p.2)) 0) 65536) (ce (max p.2 (-p.1) * max p.2 (-p.1)) 65536) := by
    simp only [sq, h1]; rw [e1, e2]; simp
  rw [hs]
  clear hs e1 e2
  simp [w1, ite_max]
  refine callD_ret0 (fun Hx => iMag p hp Hx) ?_
  simp
  refine endD [] (by rfl) (by simp [okW, note, Eff.triv, Eff.wr, Eff.none, upTo, newAt]) ?_
  simp
  refine call_ret (fMul _ _ (prod_bounds (by omega) (by omega)) _) ?_
  simp
  refine call_ret (fMul _ _ (prod_bounds (by omega) (by omega)) _) ?_
  simp
  refine call_ret (iNew _ _ _) ?_
  simp
  exact fin1 (rs := [.cell 2 54]) (by rfl) (by simp [resA]) (by simp [noF, noFs])
theorem fDiv (a b : Int) (ha : -2147483648 ≤ a ∧ a ≤ 2147483648) (hb : b ≠ 0 ∧ -2147483648 ≤ b ∧ b ≤ 2147483648) (H : AH) :
    Sound E 219 [.int .i64 a, .int .i64 b] H (.ret (.tuple [.int .i64 (fl (a * 65536) b), .int .i64 (ce (a * 65536) b), .int .i64 0])) H := by
  refine sound_of_awp tabOk mixed Tryz.func219 rfl (by rfl) Tryz.ntmps219 (by kernel_rfl) (by simp) ?_
  have w1 : IntKind.i64.wrap (a * 65536) = a * 65536 := wrap64 (by omega) (by omega)
  have hb0 : (b == 0) = false := by simp [hb.1]
  simp [hb0, w1]
  refine call_ret (fDivide (a * 65536) b (by omega) (by omega) _) ?_
  simp
  exact finK (rs := [.tmp 4, .tmp 5, .tmp 6]) (vs := [.int .i64 (fl (a * 65536) b), .int .i64 (ce (a * 65536) b), .int .i64 0]) (by rfl) (by simp [resA]) rfl
end Go.Proofs.YtfjjckepnkkgjaaGreatDoor.Arm

namespace Go.Proofs.YtfjjckepnkkgjaaGreatDoor.Arm
open Go.Arm Go.Pl
theorem iDiv (p q : I) (hp : vB p = true) (hq : vB q = true) (H : AH) : Sound E 207 [iv p, iv q] H (.ret (iv (div p q))) H := by
  refine sound_of_awp tabOk mixed Tryz.func207 rfl (by rfl) Tryz.ntmps207 (by kernel_rfl) (by simp) ?_
  simp
  refine call_ret (iIsEntire p _) ?_
  cases h1 : entB p with
  | true =>
    simp
    refine call_ret (iEntire _) ?_
    simp
    exact fin1 (rs := [.cell 4 54]) (by rfl) (by simp [resA, div, h1]) (by simp [noF, noFs])
  | false =>
  simp
  refine call_ret (iIsEntire q _) ?_
  cases h2 : entB q with
  | true =>
    simp
    refine call_ret (iEntire _) ?_
    simp
    exact fin1 (rs := [.cell 4 54]) (by rfl) (by simp [resA, div, h1, h2]) (by simp [noF, noFs])
  | false =>
  simp
  refine call_ret (iContains q 0 _) ?_
  cases h3 : conB q 0 with
  | true =>
    simp
    refine call_ret (iEntire _) ?_
    simp
    exact fin1 (rs := [.cell 4 54]) (by rfl) (by simp only [conB, h2, Bool.false_or] at h3; simp [resA, div, h1, h2, h3]) (by simp [noF, noFs])
  | false =>
  have hb := entB_false hp h1
  have hc := entB_false hq h2
  have h3' : q.2 < 0 ∨ 0 < q.1 := by
    simp only [conB, h2, Bool.false_or, Bool.and_eq_false_iff, decide_eq_false_iff_not] at h3
    omega
  simp
  refine callD_ret0 (fun Hx => iSide p Hx) ?_
  simp
  refine callD_ret0 (fun Hx => iPickInt (decide (0 < q.1)) 1 0 Hx) ?_
  simp
  rcases sideI_cases p with ⟨s1, f1⟩ | ⟨s1, f1⟩ | ⟨s1, f1⟩ <;> rcases h3' with g1 | g1
  · rw [div_sel0n h1 h2 hb.2.1 hc.2.1 (by omega) g1]
    have g2 : ¬ 0 < q.1 := by omega
    simp [s1, g2, quotT]
    refine endD [(9, 10)] (by rfl) (by simp [okW, note, Eff.triv, Eff.wr, Eff.none, upTo, newAt]) ?_
    simp
    refine call_ret (iHL p q _) ?_
    simp
    refine call_ret (fDiv _ _ (by omega) (by omega) _) ?_
    simp
    refine call_ret (iLH p q _) ?_
    simp
    refine call_ret (fDiv _ _ (by omega) (by omega) _) ?_
    simp
    refine call_ret (iNew _ _ _) ?_
    simp
    exact fin1 (rs := [.cell 4 54]) (by rfl) (by simp [resA]) (by simp [noF, noFs])
  · rw [div_sel0p h1 h2 hb.2.1 hc.2.1 (by omega) g1]
    have g2 : 0 < q.1 := g1
    simp [s1, g2, quotT]
    refine endD [(9, 10)] (by rfl) (by simp [okW, note, Eff.triv, Eff.wr, Eff.none, upTo, newAt]) ?_
    simp
    refine call_ret (iLL p q _) ?_
    simp
    refine call_ret (fDiv _ _ (by omega) (by omega) _) ?_
    simp
    refine call_ret (iHH p q _) ?_
    simp
    refine call_ret (fDiv _ _ (by omega) (by omega) _) ?_
    simp
    refine call_ret (iNew _ _ _) ?_
    simp
    exact fin1 (rs := [.cell 4 54]) (by rfl) (by simp [resA]) (by simp [noF, noFs])
  · rw [div_sel2n h1 h2 hb.2.1 hc.2.1 (by omega) g1]
    have g2 : ¬ 0 < q.1 := by omega
    simp [s1, g2, quotT]
    refine endD [(9, 10)] (by rfl) (by simp [okW, note, Eff.triv, Eff.wr, Eff.none, upTo, newAt]) ?_
    simp
    refine call_ret (iHH p q _) ?_
    simp
    refine call_ret (fDiv _ _ (by omega) (by omega) _) ?_
    simp
    refine call_ret (iLL p q _) ?_
    simp
    refine call_ret (fDiv _ _ (by omega) (by omega) _) ?_
    simp
    refine call_ret (iNew _ _ _) ?_
    simp
    exact fin1 (rs := [.cell 4 54]) (by rfl) (by simp [resA]) (by simp [noF, noFs])
  · rw [div_sel2p h1 h2 hb.2.1 hc.2.1 (by omega) g1]
    have g2 : 0 < q.1 := g1
    simp [s1, g2, quotT]
    refine endD [(9, 10)] (by rfl) (by simp [okW, note, Eff.triv, Eff.wr, Eff.none, upTo, newAt]) ?_
    simp
    refine call_ret (iLH p q _) ?_
    simp
    refine call_ret (fDiv _ _ (by omega) (by omega) _) ?_
    simp
    refine call_ret (iHL p q _) ?_
    simp
    refine call_ret (fDiv _ _ (by omega) (by omega) _) ?_
    simp
    refine call_ret (iNew _ _ _) ?_
    simp
    exact fin1 (rs := [.cell 4 54]) (by rfl) (by simp [resA]) (by simp [noF, noFs])
  · rw [div_sel1n h1 h2 hb.2.1 hc.2.1 (by omega) g1]
    have g2 : ¬ 0 < q.1 := by omega
    simp [s1, g2, quotT]
    refine endD [(9, 10)] (by rfl) (by simp [okW, note, Eff.triv, Eff.wr, Eff.none, upTo, newAt]) ?_
    simp
    refine call_ret (iHH p q _) ?_
    simp
    refine call_ret (fDiv _ _ (by omega) (by omega) _) ?_
    simp
    refine call_ret (iLH p q _) ?_
    simp
    refine call_ret (fDiv _ _ (by omega) (by omega) _) ?_
    simp
    refine call_ret (iNew _ _ _) ?_
    simp
    exact fin1 (rs := [.cell 4 54]) (by rfl) (by simp [resA]) (by simp [noF, noFs])
  · rw [div_sel1p h1 h2 hb.2.1 hc.2.1 (by omega) g1]
    have g2 : 0 < q.1 := g1
    simp [s1, g2, quotT]
    refine endD [(9, 10)] (by rfl) (by simp [okW, note, Eff.triv, Eff.wr, Eff.none, upTo, newAt]) ?_
    simp
    refine call_ret (iLL p q _) ?_
    simp
    refine call_ret (fDiv _ _ (by omega) (by omega) _) ?_
    simp
    refine call_ret (iHL p q _) ?_
    simp
    refine call_ret (fDiv _ _ (by omega) (by omega) _) ?_
    simp
    refine call_ret (iNew _ _ _) ?_
    simp
    exact fin1 (rs := [.cell 4 54]) (by rfl) (by simp [resA]) (by simp [noF, noFs])
end Go.Proofs.YtfjjckepnkkgjaaGreatDoor.Arm

namespace Go.Proofs.YtfjjckepnkkgjaaGreatDoor.Arm
open Go.Arm Go.Pl
theorem withH_some' {H : AH} {x : Option AV} {v : AV} (h : x = some v) : withH H x = some (v, H) := by rw [h]; rfl
theorem map_u8 {x : Option UInt8} {k : Nat} (h : x.map UInt8.toNat = some k) : x.map (fun b => AV.int .u8 b.toNat) = some (.int .u8 k) := by
  cases x with
  | none => cases h
  | some b => simp at h; subst h; rfl
set_option maxRecDepth 100000 in
theorem bLen64 (x : Int) (h : 0 ≤ x ∧ x < 281474976710656) (H : AH) : Sound E 224 [.int .u64 x] H (.ret (.int .i64 (blen x))) H := by
  refine sound_of_awp tabOk mixed Tryz.func224 rfl (by rfl) Tryz.ntmps224 (by kernel_rfl) (by simp) ?_
  have fd : ∀ y : Int, y.fdiv (2 ^ min 32 IntKind.u64.bits) = y / 4294967296 ∧ y.fdiv (2 ^ min 16 IntKind.u64.bits) = y / 65536 ∧ y.fdiv (2 ^ min 8 IntKind.u64.bits) = y / 256 := fun y =>
    ⟨Int.fdiv_eq_ediv_of_nonneg _ (by decide), Int.fdiv_eq_ediv_of_nonneg _ (by decide), Int.fdiv_eq_ediv_of_nonneg _ (by decide)⟩
  obtain ⟨a, ha⟩ : ∃ a, a = (if 4294967296 ≤ x then (x / 4294967296, (32 : Int)) else (x, 0)) := ⟨_, rfl⟩
  obtain ⟨b, hb⟩ : ∃ b, b = (if 65536 ≤ a.1 then (a.1 / 65536, a.2 + 16) else a) := ⟨_, rfl⟩
  obtain ⟨c, hc⟩ : ∃ c, c = (if 256 ≤ b.1 then (b.1 / 256, b.2 + 8) else b) := ⟨_, rfl⟩
  have hbl : blen x = c.2 + len8 c.1.toNat := by rw [hc, hb, ha]; rfl
  rw [hbl]
  clear hbl
  have wc : IntKind.i64.wrap 40 = 40 ∧ IntKind.i64.wrap 32 = 32 ∧ IntKind.i64.wrap 24 = 24 ∧ IntKind.i64.wrap 16 = 16 ∧ IntKind.i64.wrap 8 = 8 := by decide
  by_cases h1 : 4294967296 ≤ x
  · simp only [h1, if_true] at ha
    subst ha
    have h2 : ¬ 65536 ≤ x / 4294967296 := by omega
    dsimp only at hb
    rw [if_neg h2] at hb
    subst hb
    simp [h1, h2, fd]
    by_cases h3 : 256 ≤ x / 4294967296
    · dsimp only at hc
      rw [if_pos h3] at hc
      subst hc
      simp [h3, fd]
      have hz : 0 ≤ x / 4294967296 / 256 ∧ x / 4294967296 / 256 < 256 := by omega
      generalize x / 4294967296 / 256 = z at *
      obtain ⟨k, rfl⟩ := Int.eq_ofNat_of_zero_le hz.1
      have hk : k < 256 := by omega
      have wk : IntKind.u8.wrap (k : Int) = k := wrap8 (by omega) (by omega)
      simp [wk]
      refine bind_some (withH_some' (map_u8 (k := len8 k) ?_)) ?_
      · clear wk hz h
        try clear h3
        try clear h2
        try clear h1
        revert hk
        revert k
        decide +kernel
      have h8 := (len8_spec k hk).2
      have wl : IntKind.i64.wrap (len8 k : Int) = len8 k := wrap64 (by omega) (by omega)
      have wm : IntKind.i64.wrap (40 + (len8 k : Int)) = 40 + len8 k := wrap64 (by omega) (by omega)
      simp [wl, wm, wc]
      exact fin0 (rs := [.tmp 2]) (by rfl) (by simp [resA])
    · dsimp only at hc
      rw [if_neg h3] at hc
      subst hc
      simp [h3, fd]
      have hz : 0 ≤ x / 4294967296 ∧ x / 4294967296 < 256 := by omega
      generalize x / 4294967296 = z at *
      obtain ⟨k, rfl⟩ := Int.eq_ofNat_of_zero_le hz.1
      have hk : k < 256 := by omega
      have wk : IntKind.u8.wrap (k : Int) = k := wrap8 (by omega) (by omega)
      simp [wk]
      refine bind_some (withH_some' (map_u8 (k := len8 k) ?_)) ?_
      · clear wk hz h
        try clear h3
        try clear h2
        try clear h1
        revert hk
        revert k
        decide +kernel
      have h8 := (len8_spec k hk).2
      have wl : IntKind.i64.wrap (len8 k : Int) = len8 k := wrap64 (by omega) (by omega)
      have wm : IntKind.i64.wrap (32 + (len8 k : Int)) = 32 + len8 k := wrap64 (by omega) (by omega)
      simp [wl, wm, wc]
      exact fin0 (rs := [.tmp 2]) (by rfl) (by simp [resA])
  · simp only [h1, if_false] at ha
    subst ha
    by_cases h2 : 65536 ≤ x
    · dsimp only at hb
      rw [if_pos h2] at hb
      subst hb
      simp [h1, h2, fd]
      by_cases h3 : 256 ≤ x / 65536
      · dsimp only at hc
        rw [if_pos h3] at hc
        subst hc
        simp [h3, fd]
        have hz : 0 ≤ x / 65536 / 256 ∧ x / 65536 / 256 < 256 := by omega
        generalize x / 65536 / 256 = z at *
        obtain ⟨k, rfl⟩ := Int.eq_ofNat_of_zero_le hz.1
        have hk : k < 256 := by omega
        have wk : IntKind.u8.wrap (k : Int) = k := wrap8 (by omega) (by omega)
        simp [wk]
        refine bind_some (withH_some' (map_u8 (k := len8 k) ?_)) ?_
        · clear wk hz h
          try clear h3
          try clear h2
          try clear h1
          revert hk
          revert k
          decide +kernel
        have h8 := (len8_spec k hk).2
        have wl : IntKind.i64.wrap (len8 k : Int) = len8 k := wrap64 (by omega) (by omega)
        have wm : IntKind.i64.wrap (24 + (len8 k : Int)) = 24 + len8 k := wrap64 (by omega) (by omega)
        simp [wl, wm, wc]
        exact fin0 (rs := [.tmp 2]) (by rfl) (by simp [resA])
      · dsimp only at hc
        rw [if_neg h3] at hc
        subst hc
        simp [h3, fd]
        have hz : 0 ≤ x / 65536 ∧ x / 65536 < 256 := by omega
        generalize x / 65536 = z at *
        obtain ⟨k, rfl⟩ := Int.eq_ofNat_of_zero_le hz.1
        have hk : k < 256 := by omega
        have wk : IntKind.u8.wrap (k : Int) = k := wrap8 (by omega) (by omega)
        simp [wk]
        refine bind_some (withH_some' (map_u8 (k := len8 k) ?_)) ?_
        · clear wk hz h
          try clear h3
          try clear h2
          try clear h1
          revert hk
          revert k
          decide +kernel
        have h8 := (len8_spec k hk).2
        have wl : IntKind.i64.wrap (len8 k : Int) = len8 k := wrap64 (by omega) (by omega)
        have wm : IntKind.i64.wrap (16 + (len8 k : Int)) = 16 + len8 k := wrap64 (by omega) (by omega)
        simp [wl, wm, wc]
        exact fin0 (rs := [.tmp 2]) (by rfl) (by simp [resA])
    · dsimp only at hb
      rw [if_neg h2] at hb
      subst hb
      simp [h1, h2, fd]
      by_cases h3 : 256 ≤ x
      · dsimp only at hc
        rw [if_pos h3] at hc
        subst hc
        simp [h3, fd]
        have hz : 0 ≤ x / 256 ∧ x / 256 < 256 := by omega
        generalize x / 256 = z at *
        obtain ⟨k, rfl⟩ := Int.eq_ofNat_of_zero_le hz.1
        have hk : k < 256 := by omega
        have wk : IntKind.u8.wrap (k : Int) = k := wrap8 (by omega) (by omega)
        simp [wk]
        refine bind_some (withH_some' (map_u8 (k := len8 k) ?_)) ?_
        · clear wk hz h
          try clear h3
          try clear h2
          try clear h1
          revert hk
          revert k
          decide +kernel
        have h8 := (len8_spec k hk).2
        have wl : IntKind.i64.wrap (len8 k : Int) = len8 k := wrap64 (by omega) (by omega)
        have wm : IntKind.i64.wrap (8 + (len8 k : Int)) = 8 + len8 k := wrap64 (by omega) (by omega)
        simp [wl, wm, wc]
        exact fin0 (rs := [.tmp 2]) (by rfl) (by simp [resA])
      · dsimp only at hc
        rw [if_neg h3] at hc
        subst hc
        simp [h3, fd]
        have hz : 0 ≤ x ∧ x < 256 := by omega
        generalize x = z at *
        obtain ⟨k, rfl⟩ := Int.eq_ofNat_of_zero_le hz.1
        have hk : k < 256 := by omega
        have wk : IntKind.u8.wrap (k : Int) = k := wrap8 (by omega) (by omega)
        simp [wk]
        refine bind_some (withH_some' (map_u8 (k := len8 k) ?_)) ?_
        · clear wk hz h
          try clear h3
          try clear h2
          try clear h1
          revert hk
          revert k
          decide +kernel
        have h8 := (len8_spec k hk).2
        have wl : IntKind.i64.wrap (len8 k : Int) = len8 k := wrap64 (by omega) (by omega)
        have wm : IntKind.i64.wrap (0 + (len8 k : Int)) = 0 + len8 k := wrap64 (by omega) (by omega)
        simp [wl, wm, wc]
        exact fin0 (rs := [.tmp 2]) (by rfl) (by simp [resA])
end Go.Proofs.YtfjjckepnkkgjaaGreatDoor.Arm

namespace Go.Proofs.YtfjjckepnkkgjaaGreatDoor.Arm
open Go.Arm Go.Pl
theorem root_lt {n : Int} {e : Nat} {b : Int} (hn : 0 ≤ n) (hb : 0 ≤ b) (h : n < 2 ^ b.toNat) (he : b ≤ 2 * e) : root n ≤ 2 ^ e := by
  obtain ⟨r0, r1, r2⟩ := root_spec hn
  rcases Int.lt_or_le (2 ^ e) (root n) with hlt | hle
  · have h0 : (0 : Int) ≤ 2 ^ e := by exact_mod_cast Nat.zero_le _
    have h1 : (2 ^ e : Int) * 2 ^ e ≤ root n * root n := Int.mul_le_mul (by omega) (by omega) h0 r0
    have h2 : (2 ^ b.toNat : Int) ≤ 2 ^ e * 2 ^ e := by
      rw [← Int.pow_add]
      have : (2 ^ b.toNat : Nat) ≤ 2 ^ (e + e) := Nat.pow_le_pow_right (by omega) (by omega)
      exact_mod_cast this
    omega
  · exact hle
def LSq (n : Int) (H : AH) (x : Int) (fr : AFr) (H' : AH) : Prop :=
  fr 5 = .int .i64 n ∧ fr 6 = .int .i64 x ∧ 0 < x ∧ root n ≤ x ∧ x ≤ 16777216 ∧ H' = H
theorem fSqrt (a : Int) (ha : 0 ≤ a ∧ a ≤ 2147483648) (H : AH) : Sound E 220 [.int .i64 a] H (.ret (.tuple [.int .i64 (root (a * 65536)), .int .i64 (rootU (a * 65536)), .int .i64 0])) H := by
  refine sound_of_awp tabOk mixed Tryz.func220 rfl (by rfl) Tryz.ntmps220 (by kernel_rfl) (by simp) ?_
  have e16 : (2 : Int) ^ min 16 IntKind.i64.bits = 65536 := by decide
  have w1 : IntKind.i64.wrap (a * 65536) = a * 65536 := wrap64 (by omega) (by omega)
  have hlt : ¬ a < 0 := by omega
  simp [hlt, e16, w1]
  obtain ⟨n, hn⟩ : ∃ n, n = a * 65536 := ⟨_, rfl⟩
  rw [← hn]
  have hn0 : 0 ≤ n ∧ n ≤ 140737488355328 := by omega
  clear hn w1
  by_cases hz : n = 0
  · subst hz
    simp
    exact finK (rs := [.tmp 2, .tmp 3, .tmp 4]) (vs := [.int .i64 (root 0), .int .i64 (rootU 0), .int .i64 0]) (by rfl) (by simp [resA]; decide) rfl
  have hz' : (n == 0) = false := by simp [hz]
  have wu : IntKind.u64.wrap n = n := wrapu64 (by omega) (by omega)
  simp [hz', wu]
  refine call_ret (bLen64 n (by omega) _) ?_
  obtain ⟨b0, b1, b2⟩ := blen_spec (x := n) (by omega)
  generalize blen n = b at *
  have wb : IntKind.i64.wrap (b + 1) = b + 1 := wrap64 (by omega) (by omega)
  have wt : (b + 1).tdiv 2 = (b + 1) / 2 := Int.tdiv_eq_ediv_of_nonneg (by omega)
  have wq : IntKind.i64.wrap ((b + 1) / 2) = (b + 1) / 2 := wrap64 (by omega) (by omega)
  obtain ⟨e, he⟩ : ∃ e : Nat, (b + 1) / 2 = (e : Int) := ⟨((b + 1) / 2).toNat, by omega⟩
  have he2 : e ≤ 24 := by omega
  have hneg : ¬ ((e : Int) < 0) := by omega
  have hmin : min e IntKind.i64.bits = e := by simp [IntKind.bits]; omega
  have hp : (2 : Int) ^ e ≤ 16777216 ∧ 0 < (2 : Int) ^ e := by
    have h1 : (2 : Nat) ^ e ≤ 2 ^ 24 := Nat.pow_le_pow_right (by omega) he2
    have h2 : 0 < (2 : Nat) ^ e := Nat.pow_pos (by omega)
    have h3 : (((2 : Nat) ^ e : Nat) : Int) = 2 ^ e := by simp
    have h4 : (2 : Nat) ^ 24 = 16777216 := by decide
    rw [h4] at h1
    rw [← h3]
    omega
  have wp : IntKind.i64.wrap ((2 : Int) ^ e) = 2 ^ e := wrap64 (by omega) (by omega)
  have we : IntKind.i64.wrap (e : Int) = e := wrap64 (by omega) (by omega)
  simp [wb, wt, we, he, hneg, hmin, wp]
  have hr1 : 1 ≤ root n := by
    obtain ⟨r0, r1, r2⟩ := root_spec hn0.1
    rcases Int.lt_or_le 0 (root n) with h | h
    · omega
    · have : root n = 0 := by omega
      rw [this] at r2; omega
  refine loop_count (LSq n H) (fun x => x.toNat) (2 ^ e) ⟨by simp, by simp, hp.2, root_lt hn0.1 b0 b2 (by omega), hp.1, rfl⟩ ?_
  rintro x fr H' ⟨h5, h6, h7, h8, h9, rfl⟩
  obtain ⟨n1, n2, n3⟩ := newton_step h7 h8 hn0.1
  have hx0 : x ≠ 0 := by omega
  have hq : n.tdiv x = n / x := Int.tdiv_eq_ediv_of_nonneg (by omega)
  have hqb : n / x ≤ n := Int.ediv_le_self _ hn0.1
  have wn : IntKind.i64.wrap (n / x) = n / x := wrap64 (by omega) (by omega)
  have ws : IntKind.i64.wrap (x + n / x) = x + n / x := wrap64 (by omega) (by omega)
  have wt2 : (x + n / x).tdiv 2 = (x + n / x) / 2 := Int.tdiv_eq_ediv_of_nonneg (by omega)
  have wy : IntKind.i64.wrap ((x + n / x) / 2) = (x + n / x) / 2 := wrap64 (by omega) (by omega)
  simp [h5, h6]
  refine bind_ifn hx0 ?_
  simp [h5, h6, hq, wn, ws, wt2, wy]
  refine branch (fun hc => ?_) (fun hc => ?_)
  · simp at hc
    have hxr := n2 hc
    obtain ⟨r0, r1, r2⟩ := root_spec hn0.1
    have hxx : x * x ≤ n := by rw [hxr]; exact r1
    have hx1 : 0 ≤ x * x := Int.mul_nonneg (by omega) (by omega)
    have wx : IntKind.i64.wrap (x * x) = x * x := wrap64 (by omega) (by omega)
    have wx1 : IntKind.i64.wrap (x + 1) = x + 1 := wrap64 (by omega) (by omega)
    simp [h5, h6, wx]
    refine branch (fun hd => ?_) (fun hd => ?_)
    · simp at hd
      simp [h6, wx1]
      exact finK (rs := [.tmp 2, .tmp 3, .tmp 4]) (vs := [.int .i64 (root n), .int .i64 (rootU n), .int .i64 0]) (by rfl) (by
        have : rootU n = x + 1 := by unfold rootU; rw [← hxr, if_pos hd]
        simp [resA, this, ← hxr]) rfl
    · simp at hd
      simp [h6]
      exact finK (rs := [.tmp 2, .tmp 3, .tmp 4]) (vs := [.int .i64 (root n), .int .i64 (rootU n), .int .i64 0]) (by rfl) (by
        have : rootU n = x := by unfold rootU; rw [← hxr, if_neg (by omega)]
        simp [resA, this, ← hxr]) rfl
  · simp at hc
    simp
    exact ⟨(x + n / x) / 2, by show ((x + n / x) / 2).toNat < x.toNat; omega, by simp [h5], by simp, by omega, n1, by omega, rfl⟩
theorem iSqrt (p : I) (hp : vB p = true) (h0 : 0 ≤ p.2) (H : AH) : Sound E 208 [iv p] H (.ret (.tuple [iv (sqrt p), .bool true])) H := by
  refine sound_of_awp tabOk mixed Tryz.func208 rfl (by rfl) Tryz.ntmps208 (by kernel_rfl) (by simp) ?_
  simp
  refine call_ret (iIsEntire p _) ?_
  cases h1 : entB p with
  | true =>
    simp
    exact finC (rs := [.cell 2 54, .tmp 3]) (vs := [iv (sqrt p), .bool true]) (vs' := [iv (sqrt p), .bool true]) (by rfl) (by have e : sqrt p = p := (by simp only [sqrt, h1, if_true]); rw [e]; simp [resA]) (by simp; rfl) (by simp [noF, noFs]) rfl
  | false =>
  have hb := entB_false hp h1
  have hlt : ¬ p.2 < 0 := by omega
  have e : sqrt p = mk (root (max p.1 0 * 65536)) (rootU (p.2 * 65536)) := by simp only [sqrt, h1, hlt, if_false]; simp
  rw [e]
  simp [hlt, ite_max]
  refine call_ret (fSqrt (max p.1 0) (by omega) _) ?_
  simp
  refine call_ret (fSqrt p.2 (by omega) _) ?_
  simp
  refine call_ret (iNew _ _ _) ?_
  simp
  exact finC (rs := [.cell 2 54, .tmp 3]) (vs := [iv (mk (root (max p.1 0 * 65536)) (rootU (p.2 * 65536))), .bool true]) (vs' := [iv (mk (root (max p.1 0 * 65536)) (rootU (p.2 * 65536))), .bool true]) (by rfl) (by simp [resA]) (by simp; rfl) (by simp [noF, noFs]) rfl
end Go.Proofs.YtfjjckepnkkgjaaGreatDoor.Arm

namespace Go.Proofs.YtfjjckepnkkgjaaGreatDoor.Arm
open Go.Arm Go.Pl
theorem rNumber (x : Int) (H : AH) : Sound E 36 [.int .i64 x] H (.ret (.bool (numB x))) H := by
  refine sound_of_awp tabOk mixed Tryz.func36 rfl (by rfl) Tryz.ntmps36 (by kernel_rfl) (by simp) ?_
  by_cases h1 : -2147483648 < x
  · simp [h1]
    exact fin0 (rs := [.tmp 2]) (by rfl) (by simp [resA, numB, h1])
  · simp [h1]
    exact fin0 (rs := [.tmp 2]) (by rfl) (by simp [resA, numB, h1])
theorem rEntire (H : AH) : Sound E 72 [] H (.ret (iv ent)) H := by
  refine sound_of_awp tabOk mixed Tryz.func72 rfl (by rfl) Tryz.ntmps72 (by kernel_rfl) (by simp) ?_
  simp
  exact fin1 (rs := [.cell 0 54]) (by rfl) (by simp [resA, ent]) (by simp [noF, noFs])
theorem rNew (a b : Int) (H : AH) : Sound E 66 [.int .i64 a, .int .i64 b] H (.ret (iv (mk a b))) H := by
  refine sound_of_awp tabOk mixed Tryz.func66 rfl (by rfl) Tryz.ntmps66 (by kernel_rfl) (by simp) ?_
  simp
  refine call_ret (rNumber _ _) ?_
  cases h1 : numB a with
  | false =>
    simp
    refine call_ret (rEntire _) ?_
    simp
    exact fin1 (rs := [.cell 4 54]) (by rfl) (by simp [resA, mk, h1]) (by simp [noF, noFs])
  | true =>
  simp
  refine call_ret (rNumber _ _) ?_
  cases h2 : numB b with
  | false =>
    simp
    refine call_ret (rEntire _) ?_
    simp
    exact fin1 (rs := [.cell 4 54]) (by rfl) (by simp [resA, mk, h1, h2]) (by simp [noF, noFs])
  | true =>
  simp
  exact fin1 (rs := [.cell 4 54]) (by rfl) (by simp [resA, mk, h1, h2]) (by simp [noF, noFs])
theorem rPoint (x : Int) (H : AH) : Sound E 25 [.int .i64 x] H (.ret (iv (pt x))) H := by
  refine sound_of_awp tabOk mixed Tryz.func25 rfl (by rfl) Tryz.ntmps25 (by kernel_rfl) (by simp) ?_
  simp
  refine call_ret (rNew _ _ _) ?_
  simp
  exact fin1 (rs := [.cell 2 54]) (by rfl) (by simp [resA, pt]) (by simp [noF, noFs])
end Go.Proofs.YtfjjckepnkkgjaaGreatDoor.Arm

namespace Go.Proofs.YtfjjckepnkkgjaaGreatDoor.Arm
open Go.Arm Go.Pl
def nearI (p : I) (w : Int) : I := (p.1.tmod 1048576, p.1.tmod 1048576 + (p.2.tmod w + w).tmod w)
theorem nearI_bounds (p : I) {w : Int} (hw : 1 ≤ w) : -1048576 < (nearI p w).1 ∧ (nearI p w).1 ≤ (nearI p w).2 ∧ (nearI p w).2 < 1048576 + w ∧ (w = 1 → (nearI p w).1 = (nearI p w).2) := by
  obtain ⟨h1, h2⟩ := tmod_bounds p.1 (b := 1048576) (by omega)
  obtain ⟨h3, h4⟩ := tmod_bounds p.2 (b := w) (by omega)
  obtain ⟨h5, h6⟩ := tmod_bounds (p.2.tmod w + w) (b := w) (by omega)
  have h7 : 0 ≤ p.2.tmod w + w := by
    rcases Int.lt_or_le p.2 0 with h | h
    · have := h4 h; omega
    · have := h3 h; omega
  have := h5 h7
  unfold nearI
  simp only
  rcases Int.lt_or_le p.1 0 with h | h
  · have := h2 h; omega
  · have := h1 h; omega
theorem rNear (p : I) (w : Int) (hw : 1 ≤ w ∧ w ≤ 1000000) (H : AH) : Sound E 68 [iv p, .int .i64 w] H (.ret (iv (nearI p w))) H := by
  refine sound_of_awp tabOk mixed Tryz.func68 rfl (by rfl) Tryz.ntmps68 (by kernel_rfl) (by simp) ?_
  have hb := nearI_bounds p hw.1
  have hw0 : w ≠ 0 := by omega
  obtain ⟨h3, h4⟩ := tmod_bounds p.2 (b := w) (by omega)
  have h7 : 0 ≤ p.2.tmod w + w ∧ p.2.tmod w + w < 2 * w := by
    rcases Int.lt_or_le p.2 0 with h | h
    · have := h4 h; omega
    · have := h3 h; omega
  have w1 : IntKind.i64.wrap (p.2.tmod w + w) = p.2.tmod w + w := wrap64 (by omega) (by omega)
  have w2 : IntKind.i64.wrap (p.1.tmod 1048576 + (p.2.tmod w + w).tmod w) = p.1.tmod 1048576 + (p.2.tmod w + w).tmod w := wrap64 (by have := hb; simp only [nearI] at this; omega) (by have := hb; simp only [nearI] at this; omega)
  simp [hw0, w1]
  refine endD [] (by rfl) (by simp [okW, note, Eff.triv, Eff.wr, Eff.none, upTo, newAt]) ?_
  simp [w2]
  exact fin1 (rs := [.cell 4 54]) (by rfl) (by simp [resA, nearI]) (by simp [noF, noFs])
end Go.Proofs.YtfjjckepnkkgjaaGreatDoor.Arm

namespace Go.Proofs.YtfjjckepnkkgjaaGreatDoor.Arm
open Go.Arm Go.Pl
end Go.Proofs.YtfjjckepnkkgjaaGreatDoor.Arm

namespace Go.Proofs.YtfjjckepnkkgjaaGreatDoor.Arm
open Go.Arm Go.Pl
end Go.Proofs.YtfjjckepnkkgjaaGreatDoor.Arm

namespace Go.Pl
structure Nd where
  op : Int
  n : Int
  c : I
  deriving DecidableEq
inductive U where
  | neg | sqr | sqrt
  deriving DecidableEq
inductive B where
  | add | sub | mul | div
  deriving DecidableEq
def U.code : U → Int
  | .neg => 4
  | .sqr => 5
  | .sqrt => 6
def B.code : B → Int
  | .add => 7
  | .sub => 8
  | .mul => 9
  | .div => 10
inductive Ex where
  | num (c : I)
  | var (i : Nat)
  | time
  | un (o : U) (a : Ex)
  | bin (o : B) (a b : Ex)
  deriving DecidableEq
def leafN (op n : Int) : Nd := ⟨op, n, (0, 0)⟩
def root0 : Ex → Nd
  | .num c => ⟨1, 0, c⟩
  | .var i => leafN 2 i
  | .time => leafN 3 0
  | .un o _ => leafN o.code 0
  | .bin o _ _ => leafN o.code 0
def ser : Ex → List Nd
  | .num c => [⟨1, 0, c⟩]
  | .var i => [leafN 2 i]
  | .time => [leafN 3 0]
  | .un o a => leafN o.code 0 :: ser a
  | .bin o a b => leafN o.code 0 :: (ser a ++ ser b)
def kids : Ex → List Ex
  | .num _ | .var _ | .time => []
  | .un _ a => [a]
  | .bin _ a b => [a, b]
def sz (e : Ex) : Nat := (ser e).length
def serL (l : List Ex) : List Nd := l.flatMap ser
theorem ser_eq (e : Ex) : ser e = root0 e :: serL (kids e) := by cases e <;> simp [ser, root0, serL, kids]
theorem sz_pos (e : Ex) : 0 < sz e := by rw [sz, ser_eq]; simp
theorem sz_un (o : U) (a : Ex) : sz (.un o a) = sz a + 1 := by simp [sz, ser]
theorem sz_bin (o : B) (a b : Ex) : sz (.bin o a b) = sz a + sz b + 1 := by simp [sz, ser]
theorem sz_num (c : I) : sz (.num c) = 1 := rfl
theorem sz_var (i : Nat) : sz (.var i) = 1 := rfl
theorem sz_time : sz .time = 1 := rfl
def arity (op : Int) : Int := if 1 ≤ op ∧ op ≤ 3 then 0 else if 4 ≤ op ∧ op ≤ 6 then 1 else if 7 ≤ op ∧ op ≤ 10 then 2 else -1
theorem arity_root (e : Ex) : arity (root0 e).op = (kids e).length := by
  cases e with
  | un o a => cases o <;> rfl
  | bin o a b => cases o <;> rfl
  | _ => rfl
def unV : U → I → I
  | .neg, v => neg v
  | .sqr, v => sq v
  | .sqrt, v => if v.1 < 0 then ent else sqrt v
def binV : B → I → I → I
  | .add => add
  | .sub => sub
  | .mul => mul
  | .div => div
def ev (x : List I) (t : I) : Ex → I
  | .num c => c
  | .var i => (x[i]?).getD (0, 0)
  | .time => t
  | .un o a => unV o (ev x t a)
  | .bin o a b => binV o (ev x t a) (ev x t b)
def wf (n : Nat) : Ex → Bool
  | .num c => vB c
  | .var i => decide (i < n)
  | .time => true
  | .un _ a => wf n a
  | .bin _ a b => wf n a && wf n b
def number (n : Int) : Ex := .num (pt (n * 65536))
theorem pt_valid (x : Int) : vB (pt x) = true := mk_valid (Int.le_refl _)
theorem number_wf' (n : Int) (k : Nat) : wf k (number n) = true := pt_valid _
end Go.Pl

namespace Go.Pl
def low (x m : Int) : Int := x % (m + 1)
def bOp (x : Nd) : Int := 1 + low x.op 255 % 10
def nearI' (p : I) (w : Int) : I := (p.1.tmod 1048576, p.1.tmod 1048576 + (p.2.tmod w + w).tmod w)
def bNum (x : Nd) : Ex := .num (nearI' x.c (1 + low x.n 255 * low x.n 1))
def uOf (o : Int) : U := if o = 4 then .neg else if o = 5 then .sqr else .sqrt
def bOf (o : Int) : B := if o = 7 then .add else if o = 8 then .sub else if o = 9 then .mul else .div
def bld (n : Nat) : Nat → List Nd → Ex × List Nd
  | _, [] => (number 1, [])
  | 0, x :: r => if bOp x = 2 then (.var (low x.n 255 % n).toNat, r) else if bOp x = 3 then (.time, r) else (bNum x, r)
  | d + 1, x :: r =>
    if bOp x = 1 then (bNum x, r)
    else if bOp x = 2 then (.var (low x.n 255 % n).toNat, r)
    else if bOp x = 3 then (.time, r)
    else if bOp x ≤ 6 then (.un (uOf (bOp x)) (bld n d r).1, (bld n d r).2)
    else (.bin (bOf (bOp x)) (bld n d r).1 (bld n d (bld n d r).2).1, (bld n d (bld n d r).2).2)
def mde (n : Nat) (raw : List Nd) (most : Nat) : Ex := (bld n 4 (raw.take most)).1
theorem low_bounds (x : Int) {m : Int} (h : 0 ≤ m) : 0 ≤ low x m ∧ low x m ≤ m := by
  unfold low
  have h1 := Int.emod_nonneg x (b := m + 1) (by omega)
  have h2 := Int.emod_lt_of_pos x (b := m + 1) (by omega)
  omega
theorem bOp_bounds (x : Nd) : 1 ≤ bOp x ∧ bOp x ≤ 10 := by unfold bOp; omega
theorem low_var (x : Int) {n : Nat} (h : 0 < n) : 0 ≤ low x 255 % n ∧ low x 255 % n < n := ⟨Int.emod_nonneg _ (by omega), Int.emod_lt_of_pos _ (by omega)⟩
theorem near_valid (p : I) {w : Int} (hw : 1 ≤ w ∧ w ≤ 1000000) : vB (nearI' p w) = true := by
  have h1 : -1048576 < p.1.tmod 1048576 ∧ p.1.tmod 1048576 < 1048576 := by
    obtain ⟨h1, h2⟩ := tmod_bounds p.1 (b := 1048576) (by decide)
    by_cases h : 0 ≤ p.1
    · have := h1 h; omega
    · have := h2 (by omega); omega
  have h2 : 0 ≤ (p.2.tmod w + w).tmod w ∧ (p.2.tmod w + w).tmod w < w := by
    have h3 : -w < p.2.tmod w := by
      obtain ⟨h1, h2⟩ := tmod_bounds p.2 (b := w) (by omega)
      by_cases h : 0 ≤ p.2
      · have := h1 h; omega
      · have := h2 (by omega); omega
    exact ⟨Int.tmod_nonneg _ (by omega), Int.tmod_lt_of_pos _ (by omega)⟩
  unfold vB nearI'
  rw [Bool.or_eq_true, Bool.and_eq_true, Bool.and_eq_true, numB_iff, numB_iff, decide_eq_true_iff]
  right; dsimp only; omega
theorem bW (x : Nd) : 1 ≤ 1 + low x.n 255 * low x.n 1 ∧ 1 + low x.n 255 * low x.n 1 ≤ 1000000 := by
  obtain ⟨a1, a2⟩ := low_bounds x.n (m := 255) (by decide)
  obtain ⟨b1, b2⟩ := low_bounds x.n (m := 1) (by decide)
  have h1 := Int.mul_nonneg a1 b1
  have h2 := Int.mul_le_mul a2 b2 b1 (by decide)
  omega
theorem bNum_wf (x : Nd) (n : Nat) : wf n (bNum x) = true := near_valid _ (bW x)
theorem bld_wf {n : Nat} (hn : 0 < n) : ∀ (d : Nat) (l : List Nd), wf n (bld n d l).1 = true
  | 0, [] => number_wf' 1 n
  | d + 1, [] => number_wf' 1 n
  | 0, x :: r => by
    simp only [bld]
    split
    · have := low_var x.n hn; simp only [wf, decide_eq_true_eq]; omega
    · split
      · rfl
      · exact bNum_wf x n
  | d + 1, x :: r => by
    simp only [bld]
    split
    · exact bNum_wf x n
    · split
      · have := low_var x.n hn; simp only [wf, decide_eq_true_eq]; omega
      · split
        · rfl
        · split
          · exact bld_wf hn d r
          · simp only [wf, Bool.and_eq_true]; exact ⟨bld_wf hn d r, bld_wf hn d _⟩
theorem bld_sz (n : Nat) : ∀ (d : Nat) (l : List Nd), sz (bld n d l).1 ≤ 2 ^ (d + 1) - 1
  | 0, [] => by simp [bld, number, sz_num]
  | d + 1, [] => by simp only [bld, number, sz_num]; have := Nat.one_lt_two_pow_iff.2 (show d + 1 + 1 ≠ 0 by omega); omega
  | 0, x :: r => by
    simp only [bld]
    split
    · simp [sz_var]
    · split
      · simp [sz_time]
      · simp [bNum, sz_num]
  | d + 1, x :: r => by
    have h1 := bld_sz n d r
    have h2 := bld_sz n d (bld n d r).2
    have h3 : 2 ^ (d + 1 + 1) = 2 * 2 ^ (d + 1) := by rw [Nat.pow_succ]; omega
    have h4 := Nat.one_lt_two_pow_iff.2 (show d + 1 ≠ 0 by omega)
    simp only [bld]
    split
    · simp only [bNum, sz_num]; omega
    · split
      · simp only [sz_var]; omega
      · split
        · simp only [sz_time]; omega
        · split
          · simp only [sz_un]; omega
          · simp only [sz_bin]; omega
theorem mde_wf {n : Nat} (hn : 0 < n) (raw : List Nd) (most : Nat) : wf n (mde n raw most) = true := bld_wf hn 4 _
theorem mde_sz (n : Nat) (raw : List Nd) (most : Nat) : sz (mde n raw most) ≤ 31 := bld_sz n 4 _
theorem bld_len (n : Nat) : ∀ (d : Nat) (l : List Nd), (bld n d l).2.length ≤ l.length ∧ sz (bld n d l).1 ≤ 2 * (l.length - (bld n d l).2.length) + 1
  | 0, [] => by simp [bld, number, sz_num]
  | d + 1, [] => by simp [bld, number, sz_num]
  | 0, x :: r => by
    simp only [bld]
    split
    · simp [sz_var]
    · split
      · simp [sz_time]
      · simp [bNum, sz_num]
  | d + 1, x :: r => by
    have h1 := bld_len n d r
    have h2 := bld_len n d (bld n d r).2
    simp only [bld]
    split
    · simp [bNum, sz_num]
    · split
      · simp [sz_var]
      · split
        · simp [sz_time]
        · split
          · simp only [sz_un, List.length_cons]; omega
          · simp only [sz_bin, List.length_cons]; omega
end Go.Pl

namespace Go.Pl
end Go.Pl

namespace Go.Pl
end Go.Pl

namespace Go.Pl
def Sb (a b : I) : Prop := b.1 ≤ a.1 ∧ a.2 ≤ b.2
theorem Sb.refl (a : I) : Sb a a := ⟨Int.le_refl _, Int.le_refl _⟩
theorem Sb.trans {a b c : I} (h : Sb a b) (k : Sb b c) : Sb a c := ⟨Int.le_trans k.1 h.1, Int.le_trans h.2 k.2⟩
theorem Sb.to {a b : I} (h : Sb a b) : subB a b = true := by simp [subB, h.1, h.2]
theorem Sb.ent {a : I} (h : vB a = true) : Sb a ent := by
  have := vB_bounds h
  exact ⟨this.1, this.2.2⟩
section
variable {a b a' b' : I}
end
end Go.Pl

namespace Go.Pl
structure Ins where
  op : Int
  a : Int
  b : Int
  c : I
  deriving DecidableEq
structure Tp where
  n : Nat
  L : List Ins
  out : List Nat
def insOk (n i : Nat) (x : Ins) : Prop :=
  (x.op = 1 ∧ vB x.c = true) ∨ (x.op = 2 ∧ 0 ≤ x.a ∧ x.a < n) ∨ x.op = 3 ∨ (4 ≤ x.op ∧ x.op ≤ 6 ∧ 0 ≤ x.a ∧ x.a < i ∧ x.b = 0) ∨ (7 ≤ x.op ∧ x.op ≤ 10 ∧ 0 ≤ x.a ∧ x.a < i ∧ 0 ≤ x.b ∧ x.b < i)
structure tpOk (t : Tp) : Prop where
  ins : ∀ i x, t.L[i]? = some x → insOk t.n i x
  len : t.out.length = t.n
  out : ∀ k ∈ t.out, k < t.L.length
  small : t.n ≤ 1000 ∧ t.L.length ≤ 100000
def at0 (l : List I) (k : Int) : I := (l[k.toNat]?).getD (0, 0)
def rootI (p : I) : I := if p.1 < 0 then ent else sqrt p
def opI (o : Int) (p q : I) : I :=
  if o = 4 then neg p else if o = 5 then sq p else if o = 6 then rootI p else if o = 7 then add p q else if o = 8 then sub p q else if o = 9 then mul p q else div p q
def insV (y : Ins) (l x : List I) (t : I) : I :=
  if y.op = 1 then y.c else if y.op = 2 then at0 x y.a else if y.op = 3 then t else opI y.op (at0 l y.a) (at0 l y.b)
def valsV (L : List Ins) (x : List I) (t : I) : List I := L.foldl (fun l y => l ++ [insV y l x t]) []
def evalT (T : Tp) (x : List I) (t : I) : List I := T.out.map fun k : Nat => at0 (valsV T.L x t) (k : Int)
theorem valsV_snoc (L : List Ins) (y : Ins) (x : List I) (t : I) : valsV (L ++ [y]) x t = valsV L x t ++ [insV y (valsV L x t) x t] := by simp [valsV]
theorem snoc_ind {α : Type} {P : List α → Prop} (h0 : P []) (h1 : ∀ l a, P l → P (l ++ [a])) (l : List α) : P l := by
  have : ∀ r : List α, P r.reverse := by
    intro r
    induction r with
    | nil => exact h0
    | cons a r ih => rw [List.reverse_cons]; exact h1 _ _ ih
  have := this l.reverse
  rwa [List.reverse_reverse] at this
theorem valsV_len (x : List I) (t : I) : ∀ L : List Ins, (valsV L x t).length = L.length := by
  intro L
  refine snoc_ind (P := fun L => (valsV L x t).length = L.length) rfl (fun L y ih => ?_) L
  rw [valsV_snoc]; simp [ih]
def allV (l : List I) : Prop := ∀ p ∈ l, vB p = true
theorem at0_valid {l : List I} (h : allV l) (k : Int) : vB (at0 l k) = true := by
  unfold at0
  cases hk : l[k.toNat]? with
  | none => decide
  | some p => exact h p (List.mem_of_getElem? hk)
theorem rootI_valid {p : I} (h : vB p = true) : vB (rootI p) = true := by
  unfold rootI; split
  · exact ent_valid
  · exact sqrt_valid h
theorem opI_valid {o : Int} {p q : I} (hp : vB p = true) (hq : vB q = true) : vB (opI o p q) = true := by
  unfold opI
  split
  · exact neg_valid hp
  split
  · exact sq_valid hp
  split
  · exact rootI_valid hp
  split
  · exact add_valid hp hq
  split
  · exact sub_valid hp hq
  split
  · exact mul_valid
  · exact div_valid hq
theorem insV_valid {y : Ins} {l x : List I} {t : I} (hc : y.op = 1 → vB y.c = true) (hl : allV l) (hx : allV x) (ht : vB t = true) : vB (insV y l x t) = true := by
  unfold insV
  split
  · exact hc ‹_›
  split
  · exact at0_valid hx _
  split
  · exact ht
  · exact opI_valid (at0_valid hl _) (at0_valid hl _)
theorem allV_snoc {l : List I} {p : I} (h : allV l) (hp : vB p = true) : allV (l ++ [p]) := by
  intro q hq
  rcases List.mem_append.1 hq with hq | hq
  · exact h q hq
  · simp at hq; subst hq; exact hp
theorem valsV_valid {x : List I} {t : I} (hx : allV x) (ht : vB t = true) : ∀ {L : List Ins}, (∀ y ∈ L, y.op = 1 → vB y.c = true) → allV (valsV L x t) := by
  intro L
  refine snoc_ind (P := fun L => (∀ y ∈ L, y.op = 1 → vB y.c = true) → allV (valsV L x t)) (fun _ p hp => by simp [valsV] at hp) (fun L y ih => ?_) L
  intro h
  rw [valsV_snoc]
  have := ih fun z hz => h z (by simp [hz])
  exact allV_snoc this (insV_valid (h y (by simp)) this hx ht)
theorem tpOk.num {T : Tp} (h : tpOk T) : ∀ y ∈ T.L, y.op = 1 → vB y.c = true := by
  intro y hy ho
  obtain ⟨i, hi⟩ := List.mem_iff_getElem?.1 hy
  rcases h.ins i y hi with h | h | h | h | h
  · exact h.2
  all_goals omega
theorem evalT_valid {T : Tp} (h : tpOk T) {x : List I} {t : I} (hx : allV x) (ht : vB t = true) : allV (evalT T x t) := by
  intro p hp
  obtain ⟨k, _, rfl⟩ := List.mem_map.1 hp
  exact at0_valid (valsV_valid hx ht h.num) _
theorem evalT_len {T : Tp} (h : tpOk T) {x : List I} {t : I} : (evalT T x t).length = T.n := by simp [evalT, h.len]
def emitS (l : List Ins) (x : Ins) : List Ins × Nat := match l.findIdx? (fun y => decide (y = x)) with
  | some i => (l, i)
  | none => (l ++ [x], l.length)
def cmpS : Ex → List Ins → List Ins × Nat
  | .num c, l => emitS l ⟨1, 0, 0, c⟩
  | .var i, l => emitS l ⟨2, i, 0, (0, 0)⟩
  | .time, l => emitS l ⟨3, 0, 0, (0, 0)⟩
  | .un o a, l => emitS (cmpS a l).1 ⟨o.code, ((cmpS a l).2 : Int), 0, (0, 0)⟩
  | .bin o a b, l => emitS (cmpS b (cmpS a l).1).1 ⟨o.code, ((cmpS a l).2 : Int), ((cmpS b (cmpS a l).1).2 : Int), (0, 0)⟩
def cmpAll : List Ex → List Ins × List Nat → List Ins × List Nat
  | [], s => s
  | e :: r, s => cmpAll r ((cmpS e s.1).1, s.2 ++ [(cmpS e s.1).2])
def cmpT (F : List Ex) : Tp := ⟨F.length, (cmpAll F ([], [])).1, (cmpAll F ([], [])).2⟩
def insAll (n : Nat) (l : List Ins) : Prop := ∀ i x, l[i]? = some x → insOk n i x
theorem emitS_ok {n : Nat} {l : List Ins} {x : Ins} (h : insAll n l) (hx : insOk n l.length x) : insAll n (emitS l x).1 ∧ (emitS l x).2 < (emitS l x).1.length ∧ l.length ≤ (emitS l x).1.length ∧ (emitS l x).1.length ≤ l.length + 1 := by
  unfold emitS
  cases hf : l.findIdx? (fun y => decide (y = x)) with
  | some i =>
    refine ⟨h, ?_, by simp, by simp⟩
    rw [List.findIdx?_eq_some_iff_getElem] at hf
    exact hf.1
  | none =>
    refine ⟨fun i y hi => ?_, by simp, by simp, by simp⟩
    simp only at hi
    rcases Nat.lt_or_ge i l.length with hlt | hge
    · rw [List.getElem?_append_left hlt] at hi; exact h i y hi
    · have : i = l.length := by have := (List.getElem?_eq_some_iff.1 hi).1; simp at this; omega
      subst this
      simp at hi; subst hi; exact hx
theorem U_code (o : U) : 4 ≤ o.code ∧ o.code ≤ 6 := by cases o <;> decide
theorem B_code (o : B) : 7 ≤ o.code ∧ o.code ≤ 10 := by cases o <;> decide
theorem cmpS_ok {n : Nat} : ∀ {e : Ex} {l : List Ins}, wf n e = true → insAll n l → insAll n (cmpS e l).1 ∧ (cmpS e l).2 < (cmpS e l).1.length ∧ l.length ≤ (cmpS e l).1.length ∧ (cmpS e l).1.length ≤ l.length + sz e
  | .num c, l, he, h => by
    have := emitS_ok (x := ⟨1, 0, 0, c⟩) h (.inl ⟨rfl, he⟩)
    rw [sz_num]; exact this
  | .var i, l, he, h => by
    simp only [wf, decide_eq_true_eq] at he
    have := emitS_ok (x := ⟨2, (i : Int), 0, (0, 0)⟩) h (.inr (.inl ⟨rfl, by simp, by simpa using he⟩))
    rw [sz_var]; exact this
  | .time, l, he, h => by
    have := emitS_ok (x := ⟨3, 0, 0, (0, 0)⟩) h (.inr (.inr (.inl rfl)))
    rw [sz_time]; exact this
  | .un o a, l, he, h => by
    obtain ⟨h1, h2, h3, h4⟩ := cmpS_ok (e := a) he h
    have := emitS_ok (x := ⟨o.code, ((cmpS a l).2 : Int), 0, (0, 0)⟩) h1 (.inr (.inr (.inr (.inl ⟨(U_code o).1, (U_code o).2, by simp, by simpa using h2, rfl⟩))))
    rw [sz_un]
    exact ⟨this.1, this.2.1, by show _ ≤ (emitS _ _).1.length; omega, by show (emitS _ _).1.length ≤ _; omega⟩
  | .bin o a b, l, he, h => by
    simp only [wf, Bool.and_eq_true] at he
    obtain ⟨h1, h2, h3, h4⟩ := cmpS_ok (e := a) he.1 h
    obtain ⟨g1, g2, g3, g4⟩ := cmpS_ok (e := b) he.2 h1
    have := emitS_ok (x := ⟨o.code, ((cmpS a l).2 : Int), ((cmpS b (cmpS a l).1).2 : Int), (0, 0)⟩) g1 (.inr (.inr (.inr (.inr ⟨(B_code o).1, (B_code o).2, by simp, by simp; omega, by simp, by simpa using g2⟩))))
    rw [sz_bin]
    exact ⟨this.1, this.2.1, by show _ ≤ (emitS _ _).1.length; omega, by show (emitS _ _).1.length ≤ _; omega⟩
theorem cmpAll_ok {n : Nat} : ∀ {F : List Ex} {s : List Ins × List Nat}, (∀ e ∈ F, wf n e = true) → insAll n s.1 → (∀ k ∈ s.2, k < s.1.length) →
    insAll n (cmpAll F s).1 ∧ (∀ k ∈ (cmpAll F s).2, k < (cmpAll F s).1.length) ∧ (cmpAll F s).2.length = s.2.length + F.length ∧ (cmpAll F s).1.length ≤ s.1.length + (F.map sz).sum
  | [], s, _, h, hk => ⟨h, hk, by simp [cmpAll], by simp [cmpAll]⟩
  | e :: r, s, he, h, hk => by
    obtain ⟨h1, h2, h3, h4⟩ := cmpS_ok (he e (by simp)) h
    have := cmpAll_ok (F := r) (s := ((cmpS e s.1).1, s.2 ++ [(cmpS e s.1).2])) (fun e' h' => he e' (by simp [h'])) h1 (fun k hk' => by
      rcases List.mem_append.1 hk' with hk' | hk'
      · exact Nat.lt_of_lt_of_le (hk k hk') h3
      · simp at hk'; subst hk'; exact h2)
    refine ⟨this.1, this.2.1, ?_, ?_⟩
    · have := this.2.2.1; simp only [cmpAll] at this ⊢; rw [this]; simp; omega
    · have := this.2.2.2; simp only [cmpAll, List.map_cons, List.sum_cons] at this ⊢; omega
def cmpK : List Ex → List Ins → List Ins × List Nat
  | [], l => (l, [])
  | e :: r, l => ((cmpK r (cmpS e l).1).1, (cmpS e l).2 :: (cmpK r (cmpS e l).1).2)
theorem cmpK_snoc : ∀ (r : List Ex) (e : Ex) (l : List Ins), cmpK (r ++ [e]) l = ((cmpS e (cmpK r l).1).1, (cmpK r l).2 ++ [(cmpS e (cmpK r l).1).2])
  | [], e, l => rfl
  | a :: r, e, l => by simp only [List.cons_append, cmpK, cmpK_snoc r e]
def insOf (e : Ex) (ks : List Nat) : Ins := ⟨(root0 e).op, if (root0 e).op = 2 then (root0 e).n else ((ks[0]?).getD 0 : Nat), ((ks[1]?).getD 0 : Nat), if (root0 e).op = 1 then (root0 e).c else (0, 0)⟩
theorem cmpS_eq (e : Ex) (l : List Ins) : cmpS e l = emitS (cmpK (kids e) l).1 (insOf e (cmpK (kids e) l).2) := by
  cases e with
  | num c => rfl
  | var i => rfl
  | time => rfl
  | un o a => cases o <;> rfl
  | bin o a b => cases o <;> rfl
theorem emitS_len (l : List Ins) (x : Ins) : (emitS l x).1.length ≤ l.length + 1 ∧ l.length ≤ (emitS l x).1.length := by
  unfold emitS; split <;> simp
theorem emitS_ne (l : List Ins) (x : Ins) : (emitS l x).1 ≠ [] := by
  unfold emitS
  split
  · rename_i i h
    rw [List.findIdx?_eq_some_iff_getElem] at h
    obtain ⟨h1, _⟩ := h
    intro e
    simp only at e
    rw [e] at h1; simp at h1
  · simp
theorem cmpS_len : ∀ (e : Ex) (l : List Ins), (cmpS e l).1.length ≤ l.length + sz e ∧ l.length ≤ (cmpS e l).1.length
  | .num c, l => emitS_len _ _
  | .var i, l => emitS_len _ _
  | .time, l => emitS_len _ _
  | .un o a, l => by
    have h1 := cmpS_len a l
    have h2 := emitS_len (cmpS a l).1 ⟨o.code, ((cmpS a l).2 : Int), 0, (0, 0)⟩
    rw [sz_un]; simp only [cmpS]; omega
  | .bin o a b, l => by
    have h1 := cmpS_len a l
    have h2 := cmpS_len b (cmpS a l).1
    have h3 := emitS_len (cmpS b (cmpS a l).1).1 ⟨o.code, ((cmpS a l).2 : Int), ((cmpS b (cmpS a l).1).2 : Int), (0, 0)⟩
    rw [sz_bin]; simp only [cmpS]; omega
theorem cmpK_len : ∀ (r : List Ex) (l : List Ins), (cmpK r l).1.length ≤ l.length + (serL r).length ∧ (cmpK r l).2.length = r.length
  | [], l => by simp [cmpK, serL]
  | e :: r, l => by
    have h1 := cmpS_len e l
    have h2 := cmpK_len r (cmpS e l).1
    simp only [cmpK, serL, List.flatMap_cons, List.length_append, List.length_cons] at h2 ⊢
    have : sz e = (ser e).length := rfl
    omega
end Go.Pl

namespace Go.Pl
def mulr (p : I) (n d : Int) : I := if entB p then p else mk (fl (p.1 * n) d) (ce (p.2 * n) d)
theorem mulr_valid {p : I} {n d : Int} (h : vB p = true) (hn : 0 ≤ n) (hd : 0 < d) : vB (mulr p n d) = true := by
  unfold mulr
  cases he : entB p with
  | true => simpa using h
  | false =>
    simp only [Bool.false_eq_true, if_false]
    have := entB_false h he
    exact mk_valid (fl_le_ce hd (Int.mul_le_mul_of_nonneg_right this.2.1 hn))
def atN (l : List I) (k : Nat) : I := (l[k]?).getD (0, 0)
theorem atN_valid {l : List I} (h : allV l) (k : Nat) : vB (atN l k) = true := by
  unfold atN
  cases hk : l[k]? with
  | none => decide
  | some p => exact h p (List.mem_of_getElem? hk)
def sumF (f : Nat → I) : Nat → I
  | 0 => (0, 0)
  | 1 => f 0
  | m + 2 => add (sumF f (m + 1)) (f (m + 1))
theorem sumF_valid {f : Nat → I} (h : ∀ i, vB (f i) = true) : ∀ m, vB (sumF f m) = true
  | 0 => (by decide : vB (0, 0) = true)
  | 1 => h 0
  | m + 2 => add_valid (sumF_valid h (m + 1)) (h _)
def convI (a b : List I) (frm m k : Nat) : I := sumF (fun i => mul (atN a (frm + i)) (atN b (k - (frm + i)))) m
theorem convI_valid (a b : List I) (frm m k : Nat) : vB (convI a b frm m k) = true := sumF_valid (fun _ => mul_valid) m
def nextQ (a b q : List I) : I :=
  if q.length = 0 then div (atN a 0) (atN b 0) else div (sub (atN a q.length) (convI b q 1 q.length q.length)) (atN b 0)
def nextR (a q : List I) : I :=
  if q.length = 0 then rootI (atN a 0) else div (sub (atN a q.length) (convI q q 1 (q.length - 1) q.length)) (mulr (atN q 0) 2 1)
theorem nextQ_valid {a b : List I} (ha : allV a) (hb : allV b) (q : List I) : vB (nextQ a b q) = true := by
  unfold nextQ; split
  · exact div_valid (atN_valid hb _)
  · exact div_valid (atN_valid hb _)
theorem nextR_valid {a q : List I} (ha : allV a) (hq : allV q) : vB (nextR a q) = true := by
  unfold nextR; split
  · exact rootI_valid (atN_valid ha _)
  · exact div_valid (mulr_valid (atN_valid hq _) (by decide) (by decide))
def rowN (l : List (List I)) (i : Int) : List I := (l[i.toNat]?).getD []
def nextC (x : Ins) (l : List (List I)) (own : List I) (t : I) : I :=
  let k := own.length
  if x.op = 4 then neg (atN (rowN l x.a) k)
  else if x.op = 7 then add (atN (rowN l x.a) k) (atN (rowN l x.b) k)
  else if x.op = 8 then sub (atN (rowN l x.a) k) (atN (rowN l x.b) k)
  else if x.op = 9 then convI (rowN l x.a) (rowN l x.b) 0 (k + 1) k
  else if x.op = 5 then (if k = 0 then sq (atN (rowN l x.a) 0) else convI (rowN l x.a) (rowN l x.a) 0 (k + 1) k)
  else if x.op = 10 then nextQ (rowN l x.a) (rowN l x.b) own
  else if x.op = 6 then nextR (rowN l x.a) own
  else if x.op = 1 then (if k = 0 then x.c else (0, 0))
  else if x.op = 3 then (if k = 0 then t else if k = 1 then (65536, 65536) else (0, 0))
  else (0, 0)
def hornS : List I → I → I
  | [], _ => (0, 0)
  | [a], _ => a
  | a :: r, h => add (mul (hornS r h) h) a
def evalS (l : List (List I)) (h : I) : List I := l.map fun s => hornS s h
def stepL (L : List Ins) (out : List (List I)) (t : I) (k : Nat) (l : List (List I)) : Nat → List (List I)
  | 0 => l
  | i + 1 =>
    let l' := stepL L out t k l i
    match L[i]? with
    | some x => l'.set i (rowN l' i ++ [if x.op = 2 then atN (rowN out x.a) k else nextC x l' (rowN l' i) t])
    | none => l'
def stepO (T : Tp) (l : List (List I)) (k : Nat) (out : List (List I)) : Nat → List (List I)
  | 0 => out
  | i + 1 =>
    let o' := stepO T l k out i
    match T.out[i]? with
    | some at' => o'.set i (rowN o' i ++ [mulr (atN (rowN l (at' : Int)) k) 1 (k + 1)])
    | none => o'
def expS (T : Tp) (x : List I) (t : I) : Nat → List (List I) × List (List I)
  | 0 => (List.replicate T.L.length [], (List.range T.n).map fun i => [atN x i])
  | k + 1 =>
    let q := expS T x t k
    let l := stepL T.L q.2 t k q.1 T.L.length
    (l, stepO T l k q.2 T.out.length)
def coefS (T : Tp) (x : List I) (t : I) (order : Nat) : List (List I) := (expS T x t order).2
end Go.Pl

namespace Go.Proofs.YtfjjckepnkkgjaaGreatDoor.Arm
open Go.Arm Go.Pl
theorem iWidth (p : I) (h : vB p = true) (H : AH) : Sound E 122 [iv p] H (.ret (.int .i64 (p.2 - p.1))) H := by
  refine sound_of_awp tabOk mixed Tryz.func122 rfl (by rfl) Tryz.ntmps122 (by kernel_rfl) (by simp) ?_
  have hb := vB_bounds h
  have w1 : IntKind.i64.wrap (p.2 - p.1) = p.2 - p.1 := wrap64 (by omega) (by omega)
  simp [w1]
  exact fin1 (rs := [.tmp 2]) (by rfl) (by simp [resA]) (by simp [noFs, noF])
theorem iHull (p q : I) (H : AH) : Sound E 130 [iv p, iv q] H (.ret (iv (hull p q))) H := by
  refine sound_of_awp tabOk mixed Tryz.func130 rfl (by rfl) Tryz.ntmps130 (by kernel_rfl) (by simp) ?_
  simp [ite_min, ite_max]
  exact fin1 (rs := [.cell 4 54]) (by rfl) (by simp [resA, hull]) (by simp [noFs, noF])
theorem iSubset (p q : I) (H : AH) : Sound E 163 [iv p, iv q] H (.ret (.bool (subB p q))) H := by
  refine sound_of_awp tabOk mixed Tryz.func163 rfl (by rfl) Tryz.ntmps163 (by kernel_rfl) (by simp) ?_
  simp
  refine gateT (fun h1 => ?_) (fun h1 => ?_)
  · have h1' : q.1 ≤ p.1 := by simpa using h1
    simp [h1']
    exact fin1 (rs := [.tmp 4]) (by rfl) (by simp [resA, subB, h1']) (by simp [noFs, noF])
  · have h1' : ¬ q.1 ≤ p.1 := by simpa using h1
    simp [h1']
    exact fin1 (rs := [.tmp 4]) (by rfl) (by simp [resA, subB, h1']) (by simp [noFs, noF])
theorem iPickI (b : Bool) (p q : I) (H : AH) : Sound E 192 [.bool b, iv p, iv q] H (.ret (iv (if b then p else q))) H := by
  refine sound_of_awp tabOk mixed Tryz.func192 rfl (by rfl) Tryz.ntmps192 (by kernel_rfl) (by simp) ?_
  cases b with
  | true =>
    simp
    exact fin1 (rs := [.cell 6 54]) (by rfl) (by simp [resA]) (by simp [noFs, noF])
  | false =>
    simp
    exact fin1 (rs := [.cell 6 54]) (by rfl) (by simp [resA]) (by simp [noFs, noF])
theorem iPick64 (b : Bool) (x y : Int) (H : AH) : Sound E 211 [.bool b, .int .i64 x, .int .i64 y] H (.ret (.int .i64 (if b then x else y))) H := by
  refine sound_of_awp tabOk mixed Tryz.func211 rfl (by rfl) Tryz.ntmps211 (by kernel_rfl) (by simp) ?_
  cases b with
  | true =>
    simp
    exact fin0 (rs := [.tmp 6]) (by rfl) (by simp [resA])
  | false =>
    simp
    exact fin0 (rs := [.tmp 6]) (by rfl) (by simp [resA])
theorem iIntersect (p q : I) (H : AH) : Sound E 171 [iv p, iv q] H (.ret (.tuple [iv (inter p q), .bool (interB p q)])) H := by
  refine sound_of_awp tabOk mixed Tryz.func171 rfl (by rfl) Tryz.ntmps171 (by kernel_rfl) (by simp) ?_
  simp [ite_min, ite_max]
  refine call_ret (iPickI (interB p q) (meet p q) (0, 0) _) ?_
  simp
  exact finC (rs := [.cell 4 54, .tmp 5]) (vs := [iv (inter p q), .bool (interB p q)]) (vs' := [iv (inter p q), .bool (interB p q)]) (by rfl) (by simp [resA, inter, interB]) (by simp; rfl) (by simp [noF, noFs]) rfl
theorem fMulRatio (a n d : Int) (ha : -2147483648 ≤ a ∧ a ≤ 2147483648) (hn : 0 ≤ n ∧ n ≤ 1073741824) (hd : 1 ≤ d ∧ d ≤ 1073741824) (H : AH) :
    Sound E 210 [.int .i64 a, .int .i64 n, .int .i64 d] H (.ret (.tuple [.int .i64 (fl (a * n) d), .int .i64 (ce (a * n) d), .int .i64 0])) H := by
  refine sound_of_awp tabOk mixed Tryz.func210 rfl (by rfl) Tryz.ntmps210 (by kernel_rfl) (by simp) ?_
  have hb : -2305843009213693952 ≤ a * n ∧ a * n ≤ 2305843009213693952 := by
    have h1 := Int.mul_le_mul_of_nonneg_right ha.2 hn.1
    have h2 := Int.mul_le_mul_of_nonneg_right ha.1 hn.1
    omega
  have w1 : IntKind.i64.wrap (a * n) = a * n := wrap64 (by omega) (by omega)
  have c1 : ¬ n < -1073741824 := by omega
  have c2 : ¬ 1073741824 < n := by omega
  have c3 : ¬ d < 1 := by omega
  have c4 : ¬ 1073741824 < d := by omega
  simp [c1, c2, c3, c4, w1]
  refine call_ret (fDivide (a * n) d (by omega) (by omega) _) ?_
  simp
  exact finK (rs := [.tmp 6, .tmp 7, .tmp 8]) (vs := [.int .i64 (fl (a * n) d), .int .i64 (ce (a * n) d), .int .i64 0]) (by rfl) (by simp [resA]) rfl
theorem iMulRatio (p : I) (n d : Int) (hp : vB p = true) (hn : 0 ≤ n ∧ n ≤ 1073741824) (hd : 1 ≤ d ∧ d ≤ 1073741824) (H : AH) : Sound E 190 [iv p, .int .i64 n, .int .i64 d] H (.ret (iv (mulr p n d))) H := by
  refine sound_of_awp tabOk mixed Tryz.func190 rfl (by rfl) Tryz.ntmps190 (by kernel_rfl) (by simp) ?_
  simp
  refine call_ret (iIsEntire p _) ?_
  have hb := vB_bounds hp
  simp
  refine branch (fun he => ?_) (fun he => ?_)
  · simp
    exact fin1 (rs := [.cell 6 54]) (by rfl) (by simp [resA, mulr, he]) (by simp [noFs, noF])
  · have c1 : ¬ n < 0 := by omega
    simp
    refine call_ret (iPick64 (decide (n < 0)) p.2 p.1 _) ?_
    simp [c1]
    refine call_ret (fMulRatio p.1 n d (by omega) hn hd _) ?_
    simp
    refine call_ret (iPick64 (decide (n < 0)) p.1 p.2 _) ?_
    simp [c1]
    refine call_ret (fMulRatio p.2 n d (by omega) hn hd _) ?_
    simp
    refine call_ret (iNew _ _ _) ?_
    simp
    exact fin1 (rs := [.cell 6 54]) (by rfl) (by simp [resA, mulr, he]) (by simp [noFs, noF])
end Go.Proofs.YtfjjckepnkkgjaaGreatDoor.Arm

namespace Go.Proofs.YtfjjckepnkkgjaaGreatDoor.Arm
open Go.Arm Go.Pl
theorem rSame2 (p q : I) (H : AH) : Sound E 49 [iv p, iv q] H (.ret (.bool (p == q))) H := by
  refine sound_of_awp tabOk mixed Tryz.func49 rfl (by rfl) Tryz.ntmps49 (by kernel_rfl) (by simp) ?_
  have e : (p == q) = (p.1 == q.1 && p.2 == q.2) := rfl
  simp
  refine gateT (fun h1 => ?_) (fun h1 => ?_)
  · simp [h1]
    exact fin1 (rs := [.tmp 4]) (by rfl) (by simp [resA, e, h1]) (by simp [noFs, noF])
  · simp [h1]
    exact fin1 (rs := [.tmp 4]) (by rfl) (by simp [resA, e, h1]) (by simp [noFs, noF])
end Go.Proofs.YtfjjckepnkkgjaaGreatDoor.Arm

namespace Go.Proofs.YtfjjckepnkkgjaaGreatDoor.Arm
open Go.Arm Go.Pl
def bx (l : List I) : AV := .slice (l.map iv) false
theorem accBase {H A J : AH} {v v0 : AV} {sz : Nat} {l : List AV} (h : Acc (H ++ A) J v sz l v0) : Acc H (A ++ J) v sz l v0 := by
  rcases h with h | ⟨k, h1, h2⟩
  · exact .inl h
  · exact .inr ⟨A.length + k, by rw [h1, List.length_append, Nat.add_assoc], by rw [List.getElem?_append_right (by omega), Nat.add_sub_cancel_left]; exact h2⟩
theorem iv_noFs (l : List I) (n : Nat) : noFs n (l.map iv) = true := noFs_iff.2 fun x hx => by obtain ⟨y, _, rfl⟩ := List.mem_map.1 hx; simp [noF, noFs]
theorem set_set_app {H J : AH} {b : Nat} {x y : ABlk} (h : b < H.length) : (H.set b x ++ J).set b y = H.set b y ++ J := by
  rw [List.set_append_left _ _ (by simpa using h), List.set_set]
theorem pushIv {H J : AH} {v v0 : AV} {l : List I} {p : I} (hacc : Acc H J v 2 (l.map iv) v0) (h0 : emptyA v0 = true) (hl : l.length ≤ 1000000000) :
    ∃ v' J', appendA tab (H ++ J) 26 v (.slice [iv p] true) = some (v', H ++ J') ∧ Acc H J' v' 2 ((l ++ [p]).map iv) v0 ∧ (∀ j y, J[j]? = some y → (∀ n, v ≠ .ref (H.length + j) n) → J'[j]? = some y) ∧ J.length ≤ J'.length := by
  obtain ⟨v', J', hap, hacc', hk, hle, _⟩ := Acc.push (T := tab) (t := 26) (e := 54) (x := .slice [iv p] true) (ys := [iv p]) hacc tab26 rfl tab54 h0 rfl (by simp [okc]) ⟨by decide, by simp⟩ (by simp; omega) (by simp; omega)
  exact ⟨v', J', hap, by simpa using hacc', hk, hle⟩
theorem and_low {m : Nat} (hm : m ≤ 16) (x : Int) : andA .i64 x ((2 ^ m - 1 : Nat) : Int) = low x ((2 ^ m - 1 : Nat) : Int) := by
  have h0 : (2 : Nat) ^ m ≤ 65536 := Nat.pow_le_pow_right (n := 2) (by decide) hm
  have h00 : 0 < (2 : Nat) ^ m := Nat.pow_pos (by decide)
  unfold andA low
  have e1 : (BitVec.ofInt 64 ((2 ^ m - 1 : Nat) : Int)).toNat = 2 ^ m - 1 := by
    rw [BitVec.toNat_ofInt]; omega
  have e2 : ((BitVec.ofInt 64 x &&& BitVec.ofInt 64 ((2 ^ m - 1 : Nat) : Int)).toNat : Int) = x % ((2 ^ m : Nat) : Int) := by
    rw [BitVec.toNat_and, e1, Nat.and_two_pow_sub_one_eq_mod, BitVec.toNat_ofInt]
    rw [Int.natCast_emod, Int.toNat_of_nonneg (Int.emod_nonneg _ (by decide))]
    rw [Int.emod_emod_of_dvd]
    have : ((2 : Nat) ^ 64 : Int) = ((2 ^ m : Nat) : Int) * ((2 ^ (64 - m) : Nat) : Int) := by
      rw [← Int.natCast_mul, ← Nat.pow_add, show m + (64 - m) = 64 by omega]; rfl
    exact ⟨_, this⟩
  have e3 : IntKind.i64.bits = 64 := rfl
  rw [e3, e2]
  have e4 : ((2 ^ m - 1 : Nat) : Int) + 1 = ((2 ^ m : Nat) : Int) := by omega
  rw [e4]
  have h1 := Int.emod_nonneg x (b := ((2 ^ m : Nat) : Int)) (by omega)
  have h2 := Int.emod_lt_of_pos x (b := ((2 ^ m : Nat) : Int)) (by omega)
  exact wrap64 (by omega) (by omega)
theorem and255 (x : Int) : andA .i64 x 255 = low x 255 := and_low (m := 8) (by decide) x
theorem and1' (x : Int) : andA .i64 x 1 = low x 1 := and_low (m := 1) (by decide) x
end Go.Proofs.YtfjjckepnkkgjaaGreatDoor.Arm

namespace Go.Proofs.YtfjjckepnkkgjaaGreatDoor.Arm
open Go.Arm Go.Pl
def insA (x : Ins) : AV := .agg [.int .i64 x.op, .int .i64 x.a, .int .i64 x.b, .int .i64 x.c.1, .int .i64 x.c.2]
def outA (l : List Nat) : AV := .slice (l.map fun k : Nat => .int .i64 (k : Int)) false
def tpA (t : Tp) : AV := .agg [.int .i64 (t.n : Int), .slice (t.L.map insA) false, outA t.out]
theorem tRoot (p : I) (h : vB p = true) (H : AH) : Sound E 259 [iv p] H (.ret (iv (rootI p))) H := by
  refine sound_of_awp tabOk mixed Tryz.func259 rfl (by rfl) Tryz.ntmps259 (by kernel_rfl) (by simp) ?_
  simp
  refine branch (fun hc => ?_) (fun hc => ?_)
  · have h0 : p.1 < 0 := by simpa using hc
    simp
    refine call_ret (iEntire _) ?_
    simp
    exact fin1 (rs := [.cell 2 54]) (by rfl) (by simp [resA, rootI, h0]) (by simp [noFs, noF])
  · have h0 : ¬ p.1 < 0 := by simpa using hc
    have hb := vB_bounds h
    simp
    refine call_ret (iSqrt p h (by omega) _) ?_
    simp
    exact fin1 (rs := [.cell 2 54]) (by rfl) (by simp [resA, rootI, h0]) (by simp [noFs, noF])
end Go.Proofs.YtfjjckepnkkgjaaGreatDoor.Arm

namespace Go.Proofs.YtfjjckepnkkgjaaGreatDoor.Arm
open Go.Arm Go.Pl
@[simp] theorem bin_one (g : Nat) (H : AH) (z : Bool) : binOpA tab H .neq 71 (.func (.func g) [] []) .nilfunc z = some (.bool true, H) := by simp [binOpA, binA, eqA, nilI]
@[simp] theorem bin_two (H : AH) (z : Bool) : binOpA tab H .neq 71 .nilfunc .nilfunc z = some (.bool false, H) := by simp [binOpA, binA, eqA, nilI]
def padI (l : List I) (n : Nat) : List AV := (l ++ List.replicate (n - l.length) (0, 0)).map iv
theorem padI_len {l : List I} {n : Nat} (h : l.length ≤ n) : (padI l n).length = n := by simp [padI]; omega
theorem padI_get {l : List I} {n k : Nat} {p : I} (h : l[k]? = some p) : (padI l n)[k]? = some (iv p) := by
  unfold padI
  rw [List.getElem?_map, List.getElem?_append_left (List.getElem?_eq_some_iff.1 h).1, h]; rfl
theorem padI_set {l : List I} {n : Nat} {p : I} (h : l.length < n) : (padI l n).set l.length (iv p) = padI (l ++ [p]) n := by
  unfold padI
  have e : List.replicate (n - l.length) ((0, 0) : I) = (0, 0) :: List.replicate (n - (l ++ [p]).length) (0, 0) := by
    rw [show n - l.length = (n - (l ++ [p]).length) + 1 by simp; omega, List.replicate_succ]
  rw [e]
  simp
theorem padI_zero {l : List I} {n k : Nat} (h : l.length ≤ k) (hk : k < n) : (padI l n)[k]? = some (iv (0, 0)) := by
  unfold padI
  rw [List.getElem?_map, List.getElem?_append_right h, List.getElem?_replicate, if_pos (by omega)]; rfl
theorem padI_all {l : List I} {n : Nat} (h : l.length = n) : padI l n = l.map iv := by simp [padI, h]
theorem padI_nil (n : Nat) : padI [] n = List.replicate n (iv (0, 0)) := by simp [padI]
def LTe (T : Tp) (x : List I) (t : I) (H : AH) (i : Nat) (fr : AFr) (H' : AH) : Prop :=
  fr 1 = bx x ∧ fr 3 = .ptr H.length 1 0 0 ∧ fr 5 = .ptr (H.length + 1) 1 0 0 ∧ fr 7 = .ref (H.length + 2) T.L.length ∧ fr 19 = .slice (T.L.map insA) false ∧ fr 20 = .int .i64 T.L.length ∧ fr 21 = .int .i64 i ∧ i ≤ T.L.length ∧
  ∃ J, H' = H ++ J ∧ J[0]? = some (.row true 3 [tpA T]) ∧ J[1]? = some (.row true 2 [iv t]) ∧ J[2]? = some (.row true 2 (padI (valsV (T.L.take i) x t) T.L.length))
def LTo (T : Tp) (l : List I) (H : AH) (b : Nat) (i : Nat) (fr : AFr) (H' : AH) : Prop :=
  fr 7 = .ref (H.length + 2) T.L.length ∧ fr 11 = .ref b T.out.length ∧ fr 96 = outA T.out ∧ fr 97 = .int .i64 T.out.length ∧ fr 98 = .int .i64 i ∧ i ≤ T.out.length ∧
  ∃ J k, H' = H ++ J ∧ b = H.length + k ∧ k ≠ 2 ∧ J[2]? = some (.row true 2 (l.map iv)) ∧ J[k]? = some (.row true 2 (padI ((T.out.take i).map fun k : Nat => at0 l k) T.out.length))
theorem LTe_next {T : Tp} {x : List I} {t : I} {H J : AH} {i : Nat} {W : List AV} {p : AV} (hJ0 : J[0]? = some (.row true 3 [tpA T])) (hJ1 : J[1]? = some (.row true 2 [iv t])) (hJ2 : J[2]? = some (.row true 2 W)) (e : W.set i p = padI (valsV (T.L.take (i + 1)) x t) T.L.length) (L : AH) :
    ∃ J', H ++ (J.set 2 (.row true 2 (W.set i p)) ++ L) = H ++ J' ∧ J'[0]? = some (.row true 3 [tpA T]) ∧ J'[1]? = some (.row true 2 [iv t]) ∧ J'[2]? = some (.row true 2 (padI (valsV (T.L.take (i + 1)) x t) T.L.length)) := by
  refine ⟨_, rfl, get_old ?_, get_old ?_, ?_⟩
  · rw [List.getElem?_set_ne (by omega)]; exact hJ0
  · rw [List.getElem?_set_ne (by omega)]; exact hJ1
  · rw [e]; exact set_get' hJ2
theorem tEval (T : Tp) (x : List I) (t : I) (hT : tpOk T) (hx : allV x) (hxn : x.length = T.n) (ht : vB t = true) (H : AH) : Sound E 181 [tpA T, bx x, iv t] H (.ret (bx (evalT T x t))) H := by
  refine sound_of_awp tabOk mixed Tryz.func181 rfl (by rfl) Tryz.ntmps181 (by kernel_rfl) (by simp) ?_
  have hsm := hT.small
  simp [tpA]
  refine bind_if (by omega) ?_
  simp
  refine loop_count (LTe T x t H) (fun i => T.L.length - i) 0 ⟨by simp, by simp, by simp, by simp, by simp, by simp, by simp, by omega, _, rfl, by simp [tpA], by simp, by simp [valsV, padI_nil]⟩ ?_
  rintro i fr H' ⟨g1, g3, g5, g7, g19, g20, g21, hi, J, rfl, hJ0, hJ1, hJ2⟩
  simp [g20, g21]
  refine branch (fun hc => ?_) (fun hc => ?_)
  · have hlt : i < T.L.length := by simpa using hc
    obtain ⟨y, hy⟩ := get_lt hlt
    have hins := hT.ins i y hy
    have hnext : valsV (T.L.take (i + 1)) x t = valsV (T.L.take i) x t ++ [insV y (valsV (T.L.take i) x t) x t] := by rw [List.take_add_one, hy]; exact valsV_snoc _ _ _ _
    have hlen : (valsV (T.L.take i) x t).length = i := by rw [valsV_len]; simp; omega
    have hval : allV (valsV (T.L.take i) x t) := valsV_valid hx ht fun z hz => hT.num z (List.mem_of_mem_take hz)
    have w2 : IntKind.i64.wrap ((i : Int) + 1) = ((i + 1 : Nat) : Int) := by rw [wrap64 (by omega) (by omega)]; omega
    have hmap : (T.L.map insA)[i]? = some (insA y) := by rw [List.getElem?_map, hy]; rfl
    have hmapE : ∀ h, (T.L.map insA)[i]'h = insA y := fun h => (List.getElem?_eq_some_iff.1 hmap).2
    have hyE : ∀ h, T.L[i]'h = y := fun h => (List.getElem?_eq_some_iff.1 hy).2
    obtain ⟨W, hW⟩ : ∃ W, W = padI (valsV (T.L.take i) x t) T.L.length := ⟨_, rfl⟩
    have hWl : W.length = T.L.length := by rw [hW]; exact padI_len (by omega)
    have hJl : 2 < J.length := (List.getElem?_eq_some_iff.1 hJ2).1
    have hW0 : W[i]? = some (iv (0, 0)) := by rw [hW]; exact padI_zero (by omega) hlt
    have hW0E : ∀ h, W[i]'h = iv (0, 0) := fun h => (List.getElem?_eq_some_iff.1 hW0).2
    rw [← hW] at hJ2
    have hWset : ∀ p, insV y (valsV (T.L.take i) x t) x t = p → W.set i (iv p) = padI (valsV (T.L.take (i + 1)) x t) T.L.length := by
      intro p hp
      rw [hnext, hp, hW]
      have := padI_set (l := valsV (T.L.take i) x t) (n := T.L.length) (p := p) (by omega)
      rw [hlen] at this
      exact this
    obtain ⟨o, a, b, c⟩ := y
    rcases hins with ⟨h1, h2⟩ | ⟨h1, h2⟩ | h1 | h1 | h1
    · simp only at h1
      subst h1
      simp [g1, g3, g5, g7, g19, g21, hy, hyE, insA, tapT, hJ2, hWl, hlt, hW0, hW0E, old hJ2, olds hJ2, w2]
      exact ⟨i + 1, by show T.L.length - (i + 1) < T.L.length - i; omega, by simp [g1], by simp [g3], by simp [g5], by simp [g7], by simp [g19, insA], by simp [g20], by simp, by omega, LTe_next hJ0 hJ1 hJ2 (hWset c (by simp [insV])) _⟩
    · simp only at h1 h2
      subst h1
      obtain ⟨k, rfl⟩ : ∃ k : Nat, a = k := ⟨a.toNat, by omega⟩
      obtain ⟨p, hp⟩ := get_lt (l := x) (i := k) (by omega)
      have hpE : ∀ h, x[k]'h = p := fun h => (List.getElem?_eq_some_iff.1 hp).2
      simp [g1, g3, g5, g7, g19, g21, hy, hyE, insA, tapT, hJ2, hWl, hlt, hW0, hW0E, old hJ2, olds hJ2, w2, bx, hp, hpE]
      exact ⟨i + 1, by show T.L.length - (i + 1) < T.L.length - i; omega, by simp [g1, bx], by simp [g3], by simp [g5], by simp [g7], by simp [g19, insA], by simp [g20], by simp, by omega, LTe_next hJ0 hJ1 hJ2 (hWset p (by simp [insV, at0, hp])) _⟩
    · simp only at h1
      subst h1
      simp [g1, g3, g5, g7, g19, g21, hy, hyE, insA, tapT, hJ2, hWl, hlt, hW0, hW0E, old hJ2, olds hJ2, ↓old hJ1, w2]
      exact ⟨i + 1, by show T.L.length - (i + 1) < T.L.length - i; omega, by simp [g1], by simp [g3], by simp [g5], by simp [g7], by simp [g19, insA], by simp [g20], by simp, by omega, LTe_next hJ0 hJ1 hJ2 (hWset t (by simp [insV])) _⟩
    · simp only at h1
      obtain ⟨h1, h2, h3, h4, rfl⟩ := h1
      obtain ⟨k, rfl⟩ : ∃ k : Nat, a = k := ⟨a.toNat, by omega⟩
      obtain ⟨p, hp⟩ := get_lt (l := valsV (T.L.take i) x t) (i := k) (by omega)
      have hpv := hval p (List.mem_of_getElem? hp)
      have hWk : W[k]? = some (iv p) := by rw [hW]; exact padI_get hp
      have hWkE : ∀ h, W[k]'h = iv p := fun h => (List.getElem?_eq_some_iff.1 hWk).2
      have hk : k < T.L.length := by omega
      have ho : o = 4 ∨ o = 5 ∨ o = 6 := by omega
      have fin : ∀ q, insV ⟨o, k, 0, c⟩ (valsV (T.L.take i) x t) x t = q → ∀ L, ∃ J', H ++ (J.set 2 (.row true 2 (W.set i (iv q))) ++ L) = H ++ J' ∧ J'[0]? = some (.row true 3 [tpA T]) ∧ J'[1]? = some (.row true 2 [iv t]) ∧ J'[2]? = some (.row true 2 (padI (valsV (T.L.take (i + 1)) x t) T.L.length)) := fun q hq L => LTe_next hJ0 hJ1 hJ2 (hWset q hq) L
      rcases ho with rfl | rfl | rfl
      · simp [g1, g3, g5, g7, g19, g21, hy, hyE, insA, tapT, fnA, hJ2, hWl, hlt, hW0, hW0E, hk, hWk, hWkE, old hJ2, olds hJ2, w2]
        refine callD_ret0 (fun Hx => iNeg p hpv Hx) ?_
        simp [g7, hJ2, hWl, hlt, hW0, hW0E, hk, hWk, hWkE, old hJ2, olds hJ2]
        refine endD [(7, 11), (8, 11), (10, 11)] (by rfl) (by simp [okW, note, Eff.triv, Eff.wr, Eff.none, upTo, newAt]; omega) ?_
        simp [g21, w2]
        exact ⟨i + 1, by show T.L.length - (i + 1) < T.L.length - i; omega, by simp [g1], by simp [g3], by simp [g5], by simp [g7], by simp [g19, insA], by simp [g20], by simp, by omega, fin _ (by simp [insV, opI, at0, hp]) _⟩
      · simp [g1, g3, g5, g7, g19, g21, hy, hyE, insA, tapT, fnA, hJ2, hWl, hlt, hW0, hW0E, hk, hWk, hWkE, old hJ2, olds hJ2, w2]
        refine callD_ret0 (fun Hx => iSquare p hpv Hx) ?_
        simp [g7, hJ2, hWl, hlt, hW0, hW0E, hk, hWk, hWkE, old hJ2, olds hJ2]
        refine endD [(7, 11), (8, 11), (10, 11)] (by rfl) (by simp [okW, note, Eff.triv, Eff.wr, Eff.none, upTo, newAt]; omega) ?_
        simp [g21, w2]
        exact ⟨i + 1, by show T.L.length - (i + 1) < T.L.length - i; omega, by simp [g1], by simp [g3], by simp [g5], by simp [g7], by simp [g19, insA], by simp [g20], by simp, by omega, fin _ (by simp [insV, opI, at0, hp]) _⟩
      · simp [g1, g3, g5, g7, g19, g21, hy, hyE, insA, tapT, fnA, hJ2, hWl, hlt, hW0, hW0E, hk, hWk, hWkE, old hJ2, olds hJ2, w2]
        refine callD_ret0 (fun Hx => tRoot p hpv Hx) ?_
        simp [g7, hJ2, hWl, hlt, hW0, hW0E, hk, hWk, hWkE, old hJ2, olds hJ2]
        refine endD [(7, 11), (8, 11), (10, 11)] (by rfl) (by simp [okW, note, Eff.triv, Eff.wr, Eff.none, upTo, newAt]; omega) ?_
        simp [g21, w2]
        exact ⟨i + 1, by show T.L.length - (i + 1) < T.L.length - i; omega, by simp [g1], by simp [g3], by simp [g5], by simp [g7], by simp [g19, insA], by simp [g20], by simp, by omega, fin _ (by simp [insV, opI, at0, hp]) _⟩
    · simp only at h1
      obtain ⟨h1, h2, h3, h4, h5, h6⟩ := h1
      obtain ⟨k, rfl⟩ : ∃ k : Nat, a = k := ⟨a.toNat, by omega⟩
      obtain ⟨m, rfl⟩ : ∃ m : Nat, b = m := ⟨b.toNat, by omega⟩
      obtain ⟨p, hp⟩ := get_lt (l := valsV (T.L.take i) x t) (i := k) (by omega)
      obtain ⟨q, hq⟩ := get_lt (l := valsV (T.L.take i) x t) (i := m) (by omega)
      have hpv := hval p (List.mem_of_getElem? hp)
      have hqv := hval q (List.mem_of_getElem? hq)
      have hWk : W[k]? = some (iv p) := by rw [hW]; exact padI_get hp
      have hWkE : ∀ h, W[k]'h = iv p := fun h => (List.getElem?_eq_some_iff.1 hWk).2
      have hWm : W[m]? = some (iv q) := by rw [hW]; exact padI_get hq
      have hWmE : ∀ h, W[m]'h = iv q := fun h => (List.getElem?_eq_some_iff.1 hWm).2
      have hk : k < T.L.length := by omega
      have hk2 : m < T.L.length := by omega
      have ho : o = 7 ∨ o = 8 ∨ o = 9 ∨ o = 10 := by omega
      have fin : ∀ r, insV ⟨o, k, m, c⟩ (valsV (T.L.take i) x t) x t = r → ∀ L, ∃ J', H ++ (J.set 2 (.row true 2 (W.set i (iv r))) ++ L) = H ++ J' ∧ J'[0]? = some (.row true 3 [tpA T]) ∧ J'[1]? = some (.row true 2 [iv t]) ∧ J'[2]? = some (.row true 2 (padI (valsV (T.L.take (i + 1)) x t) T.L.length)) := fun r hr L => LTe_next hJ0 hJ1 hJ2 (hWset r hr) L
      rcases ho with rfl | rfl | rfl | rfl
      · simp [g1, g3, g5, g7, g19, g21, hy, hyE, insA, tapT, fnA, hJ2, hWl, hlt, hW0, hW0E, hk, hWk, hWkE, hk2, hWm, hWmE, old hJ2, olds hJ2, w2]
        refine callD_ret0 (fun Hx => iAdd p q hpv hqv Hx) ?_
        simp [g7, hJ2, hWl, hlt, hW0, hW0E, hk, hWk, hWkE, old hJ2, olds hJ2]
        refine endD [(7, 16), (8, 16), (12, 16), (13, 16), (15, 16)] (by rfl) (by simp [okW, note, Eff.triv, Eff.wr, Eff.none, upTo, newAt]; omega) ?_
        simp [g21, w2]
        exact ⟨i + 1, by show T.L.length - (i + 1) < T.L.length - i; omega, by simp [g1], by simp [g3], by simp [g5], by simp [g7], by simp [g19, insA], by simp [g20], by simp, by omega, fin _ (by simp [insV, opI, at0, hp, hq]) _⟩
      · simp [g1, g3, g5, g7, g19, g21, hy, hyE, insA, tapT, fnA, hJ2, hWl, hlt, hW0, hW0E, hk, hWk, hWkE, hk2, hWm, hWmE, old hJ2, olds hJ2, w2]
        refine callD_ret0 (fun Hx => iSub p q hpv hqv Hx) ?_
        simp [g7, hJ2, hWl, hlt, hW0, hW0E, hk, hWk, hWkE, old hJ2, olds hJ2]
        refine endD [(7, 16), (8, 16), (12, 16), (13, 16), (15, 16)] (by rfl) (by simp [okW, note, Eff.triv, Eff.wr, Eff.none, upTo, newAt]; omega) ?_
        simp [g21, w2]
        exact ⟨i + 1, by show T.L.length - (i + 1) < T.L.length - i; omega, by simp [g1], by simp [g3], by simp [g5], by simp [g7], by simp [g19, insA], by simp [g20], by simp, by omega, fin _ (by simp [insV, opI, at0, hp, hq]) _⟩
      · simp [g1, g3, g5, g7, g19, g21, hy, hyE, insA, tapT, fnA, hJ2, hWl, hlt, hW0, hW0E, hk, hWk, hWkE, hk2, hWm, hWmE, old hJ2, olds hJ2, w2]
        refine callD_ret0 (fun Hx => iMul p q hpv hqv Hx) ?_
        simp [g7, hJ2, hWl, hlt, hW0, hW0E, hk, hWk, hWkE, old hJ2, olds hJ2]
        refine endD [(7, 16), (8, 16), (12, 16), (13, 16), (15, 16)] (by rfl) (by simp [okW, note, Eff.triv, Eff.wr, Eff.none, upTo, newAt]; omega) ?_
        simp [g21, w2]
        exact ⟨i + 1, by show T.L.length - (i + 1) < T.L.length - i; omega, by simp [g1], by simp [g3], by simp [g5], by simp [g7], by simp [g19, insA], by simp [g20], by simp, by omega, fin _ (by simp [insV, opI, at0, hp, hq]) _⟩
      · simp [g1, g3, g5, g7, g19, g21, hy, hyE, insA, tapT, fnA, hJ2, hWl, hlt, hW0, hW0E, hk, hWk, hWkE, hk2, hWm, hWmE, old hJ2, olds hJ2, w2]
        refine callD_ret0 (fun Hx => iDiv p q hpv hqv Hx) ?_
        simp [g7, hJ2, hWl, hlt, hW0, hW0E, hk, hWk, hWkE, old hJ2, olds hJ2]
        refine endD [(7, 16), (8, 16), (12, 16), (13, 16), (15, 16)] (by rfl) (by simp [okW, note, Eff.triv, Eff.wr, Eff.none, upTo, newAt]; omega) ?_
        simp [g21, w2]
        exact ⟨i + 1, by show T.L.length - (i + 1) < T.L.length - i; omega, by simp [g1], by simp [g3], by simp [g5], by simp [g7], by simp [g19, insA], by simp [g20], by simp, by omega, fin _ (by simp [insV, opI, at0, hp, hq]) _⟩
  · have hi' : i = T.L.length := by have : ¬ i < T.L.length := by simpa using hc
                                    omega
    subst hi'
    rw [List.take_length, padI_all (valsV_len _ _ _)] at hJ2
    have hol : T.out.length ≤ 1000 := by rw [hT.len]; exact hsm.1
    have hlen := valsV_len x t T.L
    have hval : allV (valsV T.L x t) := valsV_valid hx ht hT.num
    have hev : evalT T x t = T.out.map fun k : Nat => at0 (valsV T.L x t) (k : Int) := rfl
    have hJl : 2 < J.length := (List.getElem?_eq_some_iff.1 hJ2).1
    rw [hev]
    generalize valsV T.L x t = l at *
    simp [g3, ↓old hJ0, hJ0, tpA, outA]
    refine bind_if (by omega) ?_
    simp [g3, ↓old hJ0, hJ0, tpA, outA]
    refine loop_count (LTo T l H (H.length + J.length)) (fun i => T.out.length - i) 0 ⟨by simp [g7], by simp, by simp [outA], by simp, by simp, by omega, J ++ [.row true 2 (List.replicate T.out.length (iv (0, 0)))], J.length, by simp, rfl, by omega, get_old hJ2, by simp [padI_nil]⟩ ?_
    clear hJ0 hJ1 hJ2 hJl g1 g3 g5 g7 g19 g20 g21 hi hc
    rintro i fr H' ⟨g7, g11, g96, g97, g98, hi, J', k, rfl, hbk, hk2, hJ2, hJk⟩
    simp [g97, g98]
    refine branch (fun hc => ?_) (fun hc => ?_)
    · have hlt : i < T.out.length := by simpa using hc
      obtain ⟨o, ho⟩ := get_lt hlt
      have hoE : ∀ h, T.out[i]'h = o := fun h => (List.getElem?_eq_some_iff.1 ho).2
      have hol2 : o < T.L.length := hT.out o (List.mem_of_getElem? ho)
      obtain ⟨p, hp⟩ := get_lt (l := l) (i := o) (by omega)
      have hpE : ∀ h, l[o]'h = p := fun h => (List.getElem?_eq_some_iff.1 hp).2
      have w2 : IntKind.i64.wrap ((i : Int) + 1) = ((i + 1 : Nat) : Int) := by rw [wrap64 (by omega) (by omega)]; omega
      obtain ⟨W, hW⟩ : ∃ W, W = padI ((T.out.take i).map fun k : Nat => at0 l k) T.out.length := ⟨_, rfl⟩
      have hil : ((T.out.take i).map fun k : Nat => at0 l k).length = i := by simp; omega
      have hWl : W.length = T.out.length := by rw [hW]; exact padI_len (by omega)
      have hW0 : W[i]? = some (iv (0, 0)) := by rw [hW]; exact padI_zero (by omega) hlt
      have hW0E : ∀ h, W[i]'h = iv (0, 0) := fun h => (List.getElem?_eq_some_iff.1 hW0).2
      have hWset : W.set i (iv p) = padI ((T.out.take (i + 1)).map fun k : Nat => at0 l k) T.out.length := by
        have := padI_set (l := (T.out.take i).map fun k : Nat => at0 l k) (n := T.out.length) (p := p) (by omega)
        rw [hil] at this
        rw [hW, this, List.take_add_one, ho]
        simp [at0, hp]
      rw [← hW] at hJk
      obtain rfl : k = J.length := by omega
      simp [g7, g11, g96, g98, outA, ho, hoE, hJ2, hJk, hlen, hol2, hp, hpE, hWl, hlt, hW0, hW0E, w2]
      refine ⟨i + 1, by show T.out.length - (i + 1) < T.out.length - i; omega, by simp [g7], by simp [g11], by simp [g96, outA], by simp [g97], by simp, by omega, J'.set J.length (.row true 2 (W.set i (iv p))), J.length, by simp, rfl, hk2, ?_, ?_⟩
      · rw [List.getElem?_set_ne hk2]; exact hJ2
      · rw [hWset]; exact set_get hJk
    · have hi' : i = T.out.length := by have : ¬ i < T.out.length := by simpa using hc
                                        omega
      subst hi'
      rw [List.take_length, padI_all (by simp)] at hJk
      simp
      obtain rfl : k = J.length := by omega
      exact finS (t := 6) (v := .ref (H.length + J.length) T.out.length) (v0 := .nilslice) (sz := 2) (xs := (T.out.map fun k : Nat => at0 l k).map iv) (by rfl) (by simp [g11]) (.inr ⟨J.length, by simp, hJk⟩) rfl (iv_noFs _ _)
end Go.Proofs.YtfjjckepnkkgjaaGreatDoor.Arm

namespace Go.Proofs.YtfjjckepnkkgjaaGreatDoor.Arm
open Go.Arm Go.Pl
theorem app_row {H : AH} {t e : TypeId} {i ie : TI} {x : AV} {l : List AV} {b n sz : Nat} {f : Bool} (hi : tab t = some i) (hd : i.d = .slice e) (he : tab e = some ie) (h1 : ie.size = sz) (h0 : 0 < sz) (hx : ([x].all fun y => y.cells.length == sz && y.cells.all okc) = true) (hz : (vcells ie.zero).map List.length = some sz) (hb : ie.bytes ≤ 1000) (hn : l.length = n) (hnb : n ≤ 1000000000) (hH : H[b]? = some (.row true sz l)) :
    appendA tab H t (.ref b n) (.slice [x] f) = some (.ref b (n + 1), H.set b (.row true sz (l ++ [x]))) := by
  subst hn
  have h2 : appendA tab H t (.ref b l.length) (.slice [x] f) = growA ie H (.ref b l.length) [x] := by
    simp only [appendA, hi, hd, he, els]
    rw [if_neg (by simp), if_pos ⟨by omega, by rw [h1]; exact hz, by rw [h1]; exact hx⟩]
  have hk : (l.length + 1) * ie.bytes ≤ 1000000001 * 1000 := Nat.mul_le_mul (by omega) hb
  rw [h2]
  simp only [growA, hH]
  rw [if_pos (by simp [h1]; omega)]
  simp [h1]
theorem app_iv {H : AH} {p : I} {l : List AV} {b n : Nat} {f : Bool} (hn : l.length = n) (hnb : n ≤ 1000000000) (hH : H[b]? = some (.row true 2 l)) :
    appendA tab H 26 (.ref b n) (.slice [iv p] f) = some (.ref b (n + 1), H.set b (.row true 2 (l ++ [iv p]))) :=
  app_row tab26 rfl tab54 rfl (by decide) (by simp [okc]) (by simp) (by decide) hn hnb hH
end Go.Proofs.YtfjjckepnkkgjaaGreatDoor.Arm

namespace Go.Proofs.YtfjjckepnkkgjaaGreatDoor.Arm
open Go.Arm Go.Pl
theorem r8Arity (op : Int) (H : AH) : Sound E 90 [.int .i64 op] H (.ret (.int .i64 (arity op))) H := by
  refine sound_of_awp tabOk mixed Tryz.func90 rfl (by rfl) Tryz.ntmps90 (by kernel_rfl) (by simp) ?_
  by_cases h1 : 1 ≤ op
  · by_cases h3 : op ≤ 3
    · have e : arity op = 0 := by unfold arity; rw [if_pos (by omega)]
      simp [h1, h3]
      exact fin0 (rs := [.tmp 2]) (by rfl) (by simp [resA, e])
    · by_cases h4 : op ≤ 6
      · have e : arity op = 1 := by unfold arity; rw [if_neg (by omega), if_pos (by omega)]
        have h5 : 4 ≤ op := by omega
        simp [h1, h3, h4, h5]
        exact fin0 (rs := [.tmp 2]) (by rfl) (by simp [resA, e])
      · by_cases h6 : op ≤ 10
        · have e : arity op = 2 := by unfold arity; rw [if_neg (by omega), if_neg (by omega), if_pos (by omega)]
          have h5 : 4 ≤ op := by omega
          have h7 : 7 ≤ op := by omega
          simp [h1, h3, h4, h5, h6, h7]
          exact fin0 (rs := [.tmp 2]) (by rfl) (by simp [resA, e])
        · have e : arity op = -1 := by unfold arity; rw [if_neg (by omega), if_neg (by omega), if_neg (by omega)]
          have h5 : 4 ≤ op := by omega
          have h7 : 7 ≤ op := by omega
          simp [h1, h3, h4, h5, h6, h7]
          exact fin0 (rs := [.tmp 2]) (by rfl) (by simp [resA, e])
  · have e : arity op = -1 := by unfold arity; rw [if_neg (by omega), if_neg (by omega), if_neg (by omega)]
    have h5 : ¬ 4 ≤ op := by omega
    have h7 : ¬ 7 ≤ op := by omega
    simp [h1, h5, h7]
    exact fin0 (rs := [.tmp 2]) (by rfl) (by simp [resA, e])
theorem r8Same (x y : Ins) (H : AH) : Sound E 131 [insA x, insA y] H (.ret (.bool (decide (x = y)))) H := by
  refine sound_of_awp tabOk mixed Tryz.func131 rfl (by rfl) Tryz.ntmps131 (by kernel_rfl) (by simp) ?_
  have e : decide (x = y) = ((x.op == y.op && x.a == y.a) && x.b == y.b && x.c == y.c) := by
    rw [Bool.eq_iff_iff]; cases x; cases y; simp [and_assoc]
  rw [e]
  simp [insA]
  refine gateT (fun h1 => ?_) (fun h1 => ?_)
  · simp [h1]
    refine gateT (fun h2 => ?_) (fun h2 => ?_)
    · simp [h2]
      refine gateT (fun h3 => ?_) (fun h3 => ?_)
      · simp [h3]
        refine call_ret (rSame2 x.c y.c _) ?_
        simp
        exact fin1 (rs := [.tmp 4]) (by rfl) (by simp [resA, h1, h2, h3]) (by simp [noFs, noF])
      · simp [h3]
        exact fin1 (rs := [.tmp 4]) (by rfl) (by simp [resA, h1, h2, h3]) (by simp [noFs, noF])
    · simp [h2]
      exact fin1 (rs := [.tmp 4]) (by rfl) (by simp [resA, h1, h2]) (by simp [noFs, noF])
  · simp [h1]
    exact fin1 (rs := [.tmp 4]) (by rfl) (by simp [resA, h1]) (by simp [noFs, noF])
def lA (l : List Ins) : AV := if l = [] then .nilslice else .slice (l.map insA) false
theorem ins_noFs (l : List Ins) (n : Nat) : noFs n (l.map insA) = true := noFs_iff.2 fun x hx => by obtain ⟨y, _, rfl⟩ := List.mem_map.1 hx; simp [insA, noF, noFs]
def LEm (l : List Ins) (x : Ins) (v : AV) (H : AH) (i : Nat) (fr : AFr) (H' : AH) : Prop :=
  fr 0 = v ∧ fr 3 = .ptr H.length 1 0 0 ∧ fr 6 = .int .i64 i ∧ i ≤ l.length ∧ (∀ j y, j < i → l[j]? = some y → y ≠ x) ∧ H' = H ++ [.row true 5 [insA x]]
theorem r8Emit (l : List Ins) (x : Ins) (hl : l.length ≤ 100000) (H : AH) : Sound E 110 [lA l, insA x] H (.ret (.tuple [lA (emitS l x).1, .int .i64 (emitS l x).2])) H := by
  refine sound_of_awp tabOk mixed Tryz.func110 rfl (by rfl) Tryz.ntmps110 (by kernel_rfl) (by simp) ?_
  simp
  refine loop_count (LEm l x (lA l) H) (fun i => l.length - i) 0 ⟨by simp, by simp, by simp, by omega, by intro j y hj; omega, by simp [insA]⟩ ?_
  rintro i fr H' ⟨g0, g3, g6, hi, hno, rfl⟩
  have hend : ∀ (fr : AFr), fr 0 = lA l → fr 3 = .ptr H.length 1 0 0 → fr 6 = .int .i64 l.length → (∀ j y, j < l.length → l[j]? = some y → y ≠ x) → ∀ J0 : AH, J0 = [.row true 5 [insA x]] →
      ∃ v' J', (∃ v1 J1, appendA tab (H ++ J0) 22 (.slice [] true) (lA l) = some (v1, H ++ J1) ∧ J1[0]? = some (.row true 5 [insA x]) ∧ appendA tab (H ++ J1) 22 v1 (.slice [insA x] true) = some (v', H ++ J')) ∧
        Acc H J' v' 5 ((l ++ [x]).map insA) (.slice [] true) := by
    intro fr g0 g3 g6 hno J0 hJ0
    subst hJ0
    have hels : els (H ++ [.row true 5 [insA x]]) (lA l) = some (l.map insA) := by
      unfold lA; split
      · rename_i h; subst h; rfl
      · rfl
    obtain ⟨v1, J1, hap, hacc, hk, _, hnew⟩ := Acc.push (T := tab) (t := 22) (e := 63) (H := H) (J := [.row true 5 [insA x]]) (v := .slice [] true) (v0 := .slice [] true) (xs := []) (.inl ⟨rfl, rfl⟩) tab22 rfl tab63 rfl hels (by rw [List.all_eq_true]; intro z hz; obtain ⟨y, _, rfl⟩ := List.mem_map.1 hz; simp [insA, okc]) ⟨by decide, by simp⟩ (by simp; omega) (by simp; omega)
    have hJ10 : J1[0]? = some (.row true 5 [insA x]) := hk 0 _ rfl (by simp)
    obtain ⟨v2, J2, hap2, hacc2, _⟩ := Acc.push (T := tab) (t := 22) (e := 63) (x := .slice [insA x] true) (ys := [insA x]) hacc tab22 rfl tab63 rfl rfl (by simp [insA, okc]) ⟨by decide, by simp⟩ (by simp; omega) (by simp; omega)
    exact ⟨v2, J2, ⟨v1, J1, hap, hJ10, hap2⟩, by simpa using hacc2⟩
  by_cases hl0 : l = []
  · subst hl0
    have hi0 : i = 0 := by simpa using hi
    subst hi0
    have hlA : lA [] = .nilslice := rfl
    have he : emitS [] x = ([x], 0) := rfl
    obtain ⟨v', J', ⟨v1, J1, ha1, hld, ha2⟩, hacc⟩ := hend fr g0 g3 g6 (by simp) _ rfl
    have hJ1l : 0 < J1.length := (List.getElem?_eq_some_iff.1 hld).1
    rw [he]
    simp [g0, g3, g6, hlA]
    refine bind_some (by simpa [insA, hlA] using ha1) ?_
    simp [g3, hld, insA]
    refine bind_some (by simpa [insA] using ha2) ?_
    simp [g0, hlA]
    rcases hacc with ⟨h0, _⟩ | ⟨kk, hv, hJk⟩
    · simp at h0
    subst hv
    have hnl : lA [x] = .slice ([x].map insA) false := by unfold lA; rw [if_neg (by simp)]
    rw [hnl]
    exact finC (J := J') (J' := J'.set kk (.row false 5 ([x].map insA))) (rs := [.tmp 4, .tmp 5]) (vs := [.ref (H.length + kk) ([x].map insA).length, .int .i64 0]) (vs' := [.slice ([x].map insA) false, .int .i64 0]) (by rfl) (by simp [resA]) (by simp [hJk] <;> simpa using hJk) (by simp [noFs, noF, insA]) rfl
  have hlA : lA l = .slice (l.map insA) false := by unfold lA; rw [if_neg hl0]
  simp [g0, g3, g6, hlA]
  refine branch (fun hc => ?_) (fun hc => ?_)
  · have hlt : i < l.length := by simpa using hc
    obtain ⟨y, hy⟩ := get_lt hlt
    have hyE : ∀ h, l[i]'h = y := fun h => (List.getElem?_eq_some_iff.1 hy).2
    have w2 : IntKind.i64.wrap ((i : Int) + 1) = ((i + 1 : Nat) : Int) := by rw [wrap64 (by omega) (by omega)]; omega
    simp [g0, g3, g6, hlA, hy, hyE, insA]
    refine callD_ret0 (fun Hx => r8Same y x Hx) ?_
    simp
    refine endD [] (by rfl) (by simp [okW, note, Eff.triv, Eff.wr, Eff.none, upTo, newAt]) ?_
    simp
    refine branch (fun hq => ?_) (fun hq => ?_)
    · have hq' : y = x := by simpa using hq
      subst hq'
      have he : emitS l y = (l, i) := by
        unfold emitS
        rw [show l.findIdx? (fun z => decide (z = y)) = some i from by
          rw [List.findIdx?_eq_some_iff_getElem]
          refine ⟨hlt, by simp [hyE], fun j hj => ?_⟩
          simpa using hno j _ hj (List.getElem?_eq_getElem (by omega))]
      rw [he]
      simp [g0, g6, hlA]
      exact finC (J := [.row true 5 [insA y]]) (rs := [.tmp 4, .tmp 5]) (vs := [.slice (l.map insA) false, .int .i64 i]) (vs' := [.slice (l.map insA) false, .int .i64 i]) (by rfl) (by simp [resA, g0, g6, hlA]) (by simp; rfl) (by simp [noFs, noF, ins_noFs]) rfl
    · have hq' : ¬ y = x := by simpa using hq
      simp [g6, w2]
      refine ⟨i + 1, by show l.length - (i + 1) < l.length - i; omega, by simp [g0, hlA], by simp [g3], by simp, by omega, fun j z hj hz => ?_, by simp [insA]⟩
      by_cases hji : j = i
      · subst hji; rw [hy] at hz; cases hz; exact hq'
      · exact hno j z (by omega) hz
  · have hi' : i = l.length := by have : ¬ i < l.length := by simpa using hc
                                  omega
    subst hi'
    have he : emitS l x = (l ++ [x], l.length) := by
      unfold emitS
      rw [show l.findIdx? (fun z => decide (z = x)) = none from by
        rw [List.findIdx?_eq_none_iff]
        intro z hz
        obtain ⟨j, hj⟩ := List.mem_iff_getElem?.1 hz
        simpa using hno j z (List.getElem?_eq_some_iff.1 hj).1 hj]
    rw [he]
    obtain ⟨v', J', ⟨v1, J1, ha1, hld, ha2⟩, hacc⟩ := hend fr g0 g3 g6 hno _ rfl
    simp [g0, g3, g6, hlA]
    refine bind_some (by simpa [insA, hlA] using ha1) ?_
    have hJ1l : 0 < J1.length := (List.getElem?_eq_some_iff.1 hld).1
    simp [g3, hld, insA]
    refine bind_some (by simpa [insA] using ha2) ?_
    simp [g0, hlA]
    rcases hacc with ⟨h0, _⟩ | ⟨kk, hv, hJk⟩
    · simp at h0
    subst hv
    have hnl : lA (l ++ [x]) = .slice ((l ++ [x]).map insA) false := by unfold lA; rw [if_neg (by simp)]
    rw [hnl]
    exact finC (J := J') (J' := J'.set kk (.row false 5 ((l ++ [x]).map insA))) (rs := [.tmp 4, .tmp 5]) (vs := [.ref (H.length + kk) ((l ++ [x]).map insA).length, .int .i64 l.length]) (vs' := [.slice ((l ++ [x]).map insA) false, .int .i64 l.length]) (by rfl) (by simp [resA]) (by simp [hJk]) (by simp only [noFs, noF, ins_noFs, Bool.and_self]) rfl
end Go.Proofs.YtfjjckepnkkgjaaGreatDoor.Arm

namespace Go.Proofs.YtfjjckepnkkgjaaGreatDoor.Arm
open Go.Arm Go.Pl
def nd (x : Nd) : AV := .agg [.int .i64 x.op, .int .i64 x.n, .int .i64 x.c.1, .int .i64 x.c.2]
@[simp] theorem nd_eq (x : Nd) : nd x = .agg [.int .i64 x.op, .int .i64 x.n, .int .i64 x.c.1, .int .i64 x.c.2] := rfl
def xs (l : List Nd) : AV := .slice (l.map nd) false
@[simp] theorem bin_nd (H : AH) (a b : Int) (x y c d u v : Int) (z : Bool) : binOpA tab H .eql 167 (.agg [.int .i64 a, .int .i64 b, .int .i64 x, .int .i64 y]) (.agg [.int .i64 c, .int .i64 d, .int .i64 u, .int .i64 v]) z = some (.bool (a == c && b == d && (x == u && y == v)), H) := by
  simp [binOpA, binA, eqA, eqFs, nilI]
  by_cases h : a = c <;> by_cases h2 : b = d <;> by_cases h3 : x = u <;> by_cases h4 : y = v <;> simp [h, h2, h3, h4]
@[simp] theorem bin_nd_ne (H : AH) (a b : Int) (x y c d u v : Int) (z : Bool) : binOpA tab H .neq 167 (.agg [.int .i64 a, .int .i64 b, .int .i64 x, .int .i64 y]) (.agg [.int .i64 c, .int .i64 d, .int .i64 u, .int .i64 v]) z = some (.bool (!(a == c && b == d && (x == u && y == v))), H) := by
  simp [binOpA, binA, eqA, eqFs, nilI]
  by_cases h : a = c <;> by_cases h2 : b = d <;> by_cases h3 : x = u <;> by_cases h4 : y = v <;> simp [h, h2, h3, h4]
theorem r7Arity (op : Int) (H : AH) : Sound E 133 [.int .i64 op] H (.ret (.int .i64 (arity op))) H := by
  refine sound_of_awp tabOk mixed Tryz.func133 rfl (by rfl) Tryz.ntmps133 (by kernel_rfl) (by simp) ?_
  simp
  by_cases h1 : op < 1
  · have e : arity op = -1 := by unfold arity; rw [if_neg (by omega), if_neg (by omega), if_neg (by omega)]
    simp [h1]
    exact fin0 (rs := [.tmp 2]) (by rfl) (by simp [resA, e])
  by_cases h2 : 10 < op
  · have e : arity op = -1 := by unfold arity; rw [if_neg (by omega), if_neg (by omega), if_neg (by omega)]
    simp [h1, h2]
    exact fin0 (rs := [.tmp 2]) (by rfl) (by simp [resA, e])
  by_cases h3 : op ≤ 3
  · have e : arity op = 0 := by unfold arity; rw [if_pos (by omega)]
    simp [h1, h2, h3]
    exact fin0 (rs := [.tmp 2]) (by rfl) (by simp [resA, e])
  by_cases h4 : op ≤ 6
  · have e : arity op = 1 := by unfold arity; rw [if_neg (by omega), if_pos (by omega)]
    simp [h1, h2, h3, h4]
    exact fin0 (rs := [.tmp 2]) (by rfl) (by simp [resA, e])
  have e : arity op = 2 := by unfold arity; rw [if_neg (by omega), if_neg (by omega), if_pos (by omega)]
  simp [h1, h2, h3, h4]
  exact fin0 (rs := [.tmp 2]) (by rfl) (by simp [resA, e])
theorem kids_le (e : Ex) : (kids e).length ≤ 2 := by cases e <;> simp [kids]
end Go.Proofs.YtfjjckepnkkgjaaGreatDoor.Arm

namespace Go.Proofs.YtfjjckepnkkgjaaGreatDoor.Arm
open Go.Arm Go.Pl
theorem kid_sz {a k : Ex} {i : Nat} (h : (kids a)[i]? = some k) : sz k < sz a := by
  cases a with
  | num c => simp [kids] at h
  | var c => simp [kids] at h
  | time => simp [kids] at h
  | un o a =>
    cases i with
    | zero => simp [kids] at h; subst h; rw [sz_un]; omega
    | succ i => simp [kids] at h
  | bin o a b =>
    rw [sz_bin]
    match i, h with
    | 0, h => simp [kids] at h; subst h; omega
    | 1, h => simp [kids] at h; subst h; omega
    | i + 2, h => simp [kids] at h
theorem serL_split (l : List Ex) (i : Nat) : serL l = serL (l.take i) ++ serL (l.drop i) := by
  rw [serL, serL, serL, ← List.flatMap_append, List.take_append_drop]
theorem serL_drop {l : List Ex} {i : Nat} {k : Ex} (h : l[i]? = some k) : serL (l.drop i) = ser k ++ serL (l.drop (i + 1)) := by
  have hl := (List.getElem?_eq_some_iff.1 h).1
  rw [List.drop_eq_getElem_cons hl, (List.getElem?_eq_some_iff.1 h).2]; rfl
theorem sz_kids (a : Ex) : sz a = 1 + (serL (kids a)).length := by rw [sz, ser_eq]; simp; omega
end Go.Proofs.YtfjjckepnkkgjaaGreatDoor.Arm

namespace Go.Proofs.YtfjjckepnkkgjaaGreatDoor.Arm
open Go.Arm Go.Pl
theorem nd_all (l : List Nd) : (l.map nd).all (fun y => y.cells.length == 4 && y.cells.all okc) = true := by
  rw [List.all_eq_true]
  intro x hx
  obtain ⟨y, _, rfl⟩ := List.mem_map.1 hx
  rfl
theorem app_full {H : AH} {l m : List Nd} (hm : m ≠ []) (hb : l.length + m.length ≤ 1000000000) {f : Bool} :
    appendA tab H 136 (.slice (l.map nd) true) (.slice (m.map nd) f) = some (.ref H.length (l.length + m.length), H ++ [.row true 4 ((l ++ m).map nd)]) := by
  have h1 := nd_all m
  have h2 : (l.map nd).all (fun y => y.cells.length == 4) = true := by
    rw [List.all_eq_true]
    intro x hx
    obtain ⟨y, _, rfl⟩ := List.mem_map.1 hx
    rfl
  have h3 : (m.map nd).isEmpty = false := by simpa using hm
  simp only [appendA, tab136, tab167, els, h3, vcells, AV.cells, growA, growNew, h1, h2, List.length_map]
  simp
  omega
theorem app_ref {H : AH} {l m : List Nd} {b : Nat} {wr : Bool} (hm : m ≠ []) (hb : l.length + m.length ≤ 1000000000) {f : Bool} (hH : H[b]? = some (.row wr 4 (l.map nd))) :
    appendA tab H 136 (.ref b l.length) (.slice (m.map nd) f) = some (.ref b (l.length + m.length), H.set b (.row wr 4 ((l ++ m).map nd))) := by
  have h1 := nd_all m
  have h3 : (m.map nd).isEmpty = false := by simpa using hm
  simp only [appendA, tab136, tab167, els, h3, vcells, AV.cells, growA, hH, h1, List.length_map]
  simp
  omega
theorem r7Const (c : I) (H : AH) : Sound E 132 [iv c] H (.ret (xs (ser (.num c)))) H := by
  refine sound_of_awp tabOk mixed Tryz.func132 rfl (by rfl) Tryz.ntmps132 (by kernel_rfl) (by simp) ?_
  simp
  exact finC (rs := [.tmp 2]) (vs := [.slice [nd ⟨1, 0, c⟩] true]) (vs' := [.slice [nd ⟨1, 0, c⟩] false]) (by rfl) (by simp [resA]) (by simp; rfl) (by simp [noF, noFs]) rfl
theorem r7Unary (op : Int) (l : List Nd) (hl : l ≠ []) (hb : l.length ≤ 500000000) (H : AH) : Sound E 134 [.int .i64 op, xs l] H (.ret (xs (leafN op 0 :: l))) H := by
  refine sound_of_awp tabOk mixed Tryz.func134 rfl (by rfl) Tryz.ntmps134 (by kernel_rfl) (by simp) ?_
  unfold xs
  simp
  refine bind_some (app_full (l := [leafN op 0]) hl (by simp; omega)) ?_
  simp
  exact finC (rs := [.tmp 4]) (vs := [.ref H.length (1 + l.length)]) (vs' := [.slice ((leafN op 0 :: l).map nd) false]) (J' := [.row false 4 ((leafN op 0 :: l).map nd)]) (by rfl) (by simp [resA]) (by simp [Nat.add_comm]) (by
    simp only [noFs, noF, Bool.and_true]
    exact noFs_iff.2 fun x hx => by obtain ⟨y, _, rfl⟩ := List.mem_map.1 hx; rfl) rfl
end Go.Proofs.YtfjjckepnkkgjaaGreatDoor.Arm

namespace Go.Arm
open Go.RowKit
theorem Wk.full {xs : List AV} : Wk (.slice xs true) (.slice xs false) := fun G w v hv => by
  cases hv with
  | slice0 hf => exact .slice0 (fun h => by cases h)
  | slice vals hB hs hc hr hl hcap hf => exact .slice vals hB hs hc hr hl hcap (fun h => by cases h)
end Go.Arm

namespace Go.Proofs.YtfjjckepnkkgjaaGreatDoor.Arm
open Go.Arm Go.Pl
theorem nd_noFs (l : List Nd) (n : Nat) : noFs n (l.map nd) = true := noFs_iff.2 fun x hx => by obtain ⟨y, _, rfl⟩ := List.mem_map.1 hx; rfl
theorem xs_noF (l : List Nd) (n : Nat) : noF n (xs l) = true := by simp only [xs, noF]; exact nd_noFs l n
theorem r7Binary (op : Int) (l m : List Nd) (hl : l ≠ []) (hm : m ≠ []) (hb : l.length + m.length ≤ 500000000) (H : AH) : Sound E 135 [.int .i64 op, xs l, xs m] H (.ret (xs (leafN op 0 :: (l ++ m)))) H := by
  refine sound_of_awp tabOk mixed Tryz.func135 rfl (by rfl) Tryz.ntmps135 (by kernel_rfl) (by simp) ?_
  unfold xs
  simp
  refine bind_some (app_full (l := [leafN op 0]) hl (by simp; omega)) ?_
  have hr := fun Hx : AH => app_ref (H := Hx ++ [.row true 4 ((leafN op 0 :: l).map nd)]) (l := leafN op 0 :: l) (m := m) (b := Hx.length) (wr := true) (f := false) hm (by simp; omega) (by simp)
  have hr' := hr H
  rw [List.length_cons, Nat.add_comm l.length 1] at hr'
  simp
  simp at hr'
  refine bind_some hr' ?_
  simp
  exact finC (rs := [.tmp 6]) (vs := [.ref H.length (l.length + m.length + 1)]) (vs' := [.slice ((leafN op 0 :: (l ++ m)).map nd) false]) (J' := [.row false 4 ((leafN op 0 :: (l ++ m)).map nd)]) (by rfl) (by simp [resA]; omega) (by simp) (by
    simp only [noFs, noF, Bool.and_true]; exact nd_noFs _ _) (by simp [one])
end Go.Proofs.YtfjjckepnkkgjaaGreatDoor.Arm

namespace Go.Proofs.YtfjjckepnkkgjaaGreatDoor.Arm
open Go.Arm Go.Pl
end Go.Proofs.YtfjjckepnkkgjaaGreatDoor.Arm

namespace Go.Proofs.YtfjjckepnkkgjaaGreatDoor.Arm
open Go.Arm Go.Pl
structure Sys where
  names : List ByteArray
  f : List Ex
def sys (s : Sys) : AV := .agg [.slice (s.names.map .str) false, .slice (s.f.map fun e => xs (ser e)) false]
end Go.Proofs.YtfjjckepnkkgjaaGreatDoor.Arm

namespace Go.Proofs.YtfjjckepnkkgjaaGreatDoor.Arm
open Go.Arm Go.Pl
end Go.Proofs.YtfjjckepnkkgjaaGreatDoor.Arm

namespace Go.Proofs.YtfjjckepnkkgjaaGreatDoor.Arm
open Go.Arm Go.Pl
end Go.Proofs.YtfjjckepnkkgjaaGreatDoor.Arm

namespace Go.Proofs.YtfjjckepnkkgjaaGreatDoor.Arm
open Go.Arm Go.Pl
end Go.Proofs.YtfjjckepnkkgjaaGreatDoor.Arm

namespace Go.Proofs.YtfjjckepnkkgjaaGreatDoor.Arm
open Go.Arm Go.Pl
def bst (l : List Nd) (n : Nat) : ABlk := .row true 2 [.agg [xs l, .int .i64 n]]
theorem uOf_code {o : Int} (h : 4 ≤ o) (k : o ≤ 6) : (uOf o).code = o := by
  unfold uOf
  split
  · simp [U.code, *]
  · split
    · simp [U.code, *]
    · simp only [U.code]; omega
theorem bOf_code {o : Int} (h : 7 ≤ o) (k : o ≤ 10) : (bOf o).code = o := by
  unfold bOf
  split
  · simp [B.code, *]
  · split
    · simp [B.code, *]
    · split
      · simp [B.code, *]
      · simp only [B.code]; omega
theorem rBuild (n : Nat) (hn : 0 < n ∧ n ≤ 1000000) : ∀ (d : Nat) (l : List Nd) (b : Nat) (H : AH), d ≤ 20 → l.length ≤ 1000000000 → H[b]? = some (bst l n) →
    Sound E 111 [.ptr b 1 0 0, .int .i64 ((d : Int) + 1)] H (.ret (xs (ser (bld n d l).1))) (H.set b (bst (bld n d l).2 n)) := by
  intro d
  induction d using Nat.strongRecOn with
  | _ d ih =>
  intro l b H hd hl hb
  refine sound_of_awp tabOk mixed Tryz.func111 rfl (by rfl) Tryz.ntmps111 (by kernel_rfl) (by simp) ?_
  have hbl : b < H.length := (List.getElem?_eq_some_iff.1 hb).1
  have w1 : IntKind.i64.wrap ((d : Int) + 1 - 1) = (d : Int) := by rw [wrap64 (by omega) (by omega)]; omega
  cases l with
  | nil =>
    simp [hb, bst, xs]
    refine call_ret (rPoint _ _) ?_
    simp
    refine call_ret (r7Const _ _) ?_
    simp [bld]
    have hset : H.set b (.row true 2 [.agg [.slice [] false, .int .i64 n]]) = H := by
      apply List.ext_getElem?
      intro c
      by_cases hc : b = c
      · subst hc; rw [List.getElem?_set_self hbl, hb]; rfl
      · rw [List.getElem?_set_ne hc]
    have e1 : (bld n d []).1 = number 1 := by cases d <;> rfl
    have e2 : (bld n d []).2 = [] := by cases d <;> rfl
    have e3 : ∀ v, bodyK E Tryz.f111 H v H .ret = bodyK E Tryz.f111 H v (H.set b (.row true 2 [.agg [.slice [] false, .int .i64 n]])) .ret := by intro v; rw [hset]
    try rw [e1]
    try rw [e2]
    try simp only [bst, xs, List.map_nil]
    rw [hset]
    exact fin0 (rs := [.tmp 4]) (by rfl) (by simp [resA, number, xs])
  | cons x r =>
    have hne : ((r.length : Int) + 1 == 0) = false := by rw [beq_eq_false_iff_ne]; omega
    have hb' := hb
    unfold bst at hb'
    have hop := bOp_bounds x
    have hwop : IntKind.i64.wrap (1 + (andA .i64 x.op 255).tmod 10) = bOp x := by
      obtain ⟨l1, l2⟩ := low_bounds x.op (m := 255) (by decide)
      rw [and255, Int.tmod_eq_emod_of_nonneg l1]
      unfold bOp at hop ⊢
      exact wrap64 (by omega) (by omega)
    have hwn : IntKind.i64.wrap (1 + IntKind.i64.wrap (andA .i64 x.n 255 * andA .i64 x.n 1)) = 1 + low x.n 255 * low x.n 1 := by
      have hw := bW x
      rw [and255, and1']
      rw [wrap64 (n := low x.n 255 * low x.n 1) (by omega) (by omega), wrap64 (by omega) (by omega)]
    obtain ⟨v1, v2⟩ := low_var x.n hn.1
    have hvn : (andA .i64 x.n 255).tmod n = low x.n 255 % n := by
      obtain ⟨l1, l2⟩ := low_bounds x.n (m := 255) (by decide)
      rw [and255, Int.tmod_eq_emod_of_nonneg l1]
    have htk : List.take r.length (List.map nd r) = List.map nd r := List.take_of_length_le (by simp)
    simp [hb', xs, hne, old hb', olds hb']
    refine bind_if (by omega) ?_
    rw [htk]
    have hb1 : (H.set b (bst r n))[b]? = some (bst r n) := List.getElem?_set_self hbl
    have hset : ∀ l, (H.set b (bst r n)).set b (bst l n) = H.set b (bst l n) := fun l => List.set_set ..
    simp [old hb', olds hb', hwop]
    have hfold : H.set b (.row true 2 [.agg [.slice (List.map nd r) false, .int .i64 n]]) = H.set b (bst r n) := rfl
    have fin : ∀ (fr : AFr) (e : Ex) (q : List Nd) (J : AH) (x : AExit), fr 4 = xs (ser e) → (x = .ret ∨ x = .normal) →
        bodyK E Tryz.f111 H (.ret (xs (ser e))) (H.set b (bst q n)) x fr (H.set b (bst q n) ++ J) := by
      intro fr e q J x h4 hx
      exact finU (rs := [.tmp 4]) (by rfl) (by simp [resA, h4]) (by simp) (set_blocks (by simp [bst, noFB, noF, noFs, xs_noF])) (xs_noF _ _) hx
    have fin2 : ∀ (fr : AFr) (e : Ex) (q : List Nd) (J : AH) (x : AExit), fr 4 = .slice ((ser e).map nd) true → (x = .ret ∨ x = .normal) →
        bodyK E Tryz.f111 H (.ret (xs (ser e))) (H.set b (bst q n)) x fr (H.set b (bst q n) ++ J) := by
      intro fr e q J x h4 hx
      exact finG (rs := [.tmp 4]) (vs := [.slice ((ser e).map nd) true]) (vs' := [xs (ser e)]) (J' := J) (by rfl) (by simp [resA, h4]) (by simp [xs]) (by simp) (set_blocks (by simp [bst, noFB, noF, noFs, xs_noF])) (by simp only [noFs, Bool.and_true]; exact xs_noF _ _) (by simp [one]) hx
    try rw [hfold]
    obtain ⟨H1, hH1⟩ : ∃ H1, H1 = H.set b (bst r n) := ⟨_, rfl⟩
    have hl1 : H1.length = H.length := by rw [hH1]; simp
    rw [← hH1, ← hl1]
    rw [← hH1] at hb1
    have hb1' := hb1
    unfold bst at hb1'
    by_cases h1 : bOp x = 1
    · have e1 : bld n d (x :: r) = (bNum x, r) := by cases d <;> simp [bld, h1]
      rw [e1]
      simp [h1]
      refine call_ret (rNear _ _ (by rw [hwn]; exact bW x) _) ?_
      rw [hwn]
      simp
      refine call_ret (r7Const _ _) ?_
      simp
      rw [hH1]
      exact fin _ _ _ _ _ (by simp [bNum, nearI', nearI]) (by simp)
    have h1' : (bOp x == 1) = false := by simp [h1]
    by_cases h2 : bOp x = 2
    · have e1 : bld n d (x :: r) = (.var (low x.n 255 % n).toNat, r) := by cases d <;> simp [bld, h2]
      rw [e1]
      simp [h2]
      refine call_ret (r7Arity _ _) ?_
      simp [arity, h2, old hb1']
      refine bind_ifn (by omega) ?_
      simp [hvn]
      refine endD [] (by rfl) (by simp [okW, note, Eff.triv, Eff.wr, Eff.none, upTo, newAt]) ?_
      simp
      rw [hH1]
      exact fin2 _ _ _ _ _ (by simp [ser, leafN]; omega) (by simp)
    have h2' : (bOp x == 2) = false := by simp [h2]
    by_cases h3 : bOp x = 3
    · have e1 : bld n d (x :: r) = (.time, r) := by cases d <;> simp [bld, h3]
      rw [e1]
      simp [h3]
      refine call_ret (r7Arity _ _) ?_
      simp [arity, h3, old hb1']
      rw [hH1]
      exact fin2 _ _ _ _ _ (by simp [ser, leafN]) (by simp)
    have h3' : (bOp x == 3) = false := by simp [h3]
    have har : arity (bOp x) = if bOp x ≤ 6 then 1 else 2 := by
      unfold arity
      rw [if_neg (by omega)]
      by_cases h6 : bOp x ≤ 6
      · rw [if_pos (by omega), if_pos h6]
      · rw [if_neg (by omega), if_pos (by omega), if_neg h6]
    have hpos : 0 < arity (bOp x) := by rw [har]; split <;> omega
    cases d with
    | zero =>
      have e1 : bld n 0 (x :: r) = (bNum x, r) := by simp [bld, h2, h3]
      rw [e1]
      simp [h1']
      refine call_ret (r7Arity _ _) ?_
      simp [hpos]
      refine call_ret (rNear _ _ (by rw [hwn]; exact bW x) _) ?_
      rw [hwn]
      simp
      refine call_ret (r7Const _ _) ?_
      simp
      rw [hH1]
      exact fin _ _ _ _ _ (by simp [bNum, nearI', nearI]) (by simp)
    | succ d =>
      have hd2 : ¬ ((d + 1 : Nat) : Int) + 1 < 2 := by omega
      have hd2' : decide ((d : Int) + 1 + 1 < 2) = false := by simp; omega
      simp [h1']
      refine call_ret (r7Arity _ _) ?_
      simp [hpos, h2', h3', hd2']
      refine call_ret (r7Arity _ _) ?_
      rw [har]
      have hs1 := bld_sz n d r
      have hs2 := bld_sz n d (bld n d r).2
      have hp2 : 2 ^ (d + 1) ≤ 2 ^ 21 := Nat.pow_le_pow_right (by decide) (by omega)
      have hq1 := bld_len n d r
      have w1' : IntKind.i64.wrap ((d : Int) + 1) = (d : Int) + 1 := wrap64 (by omega) (by omega)
      have hne1 : ∀ e : Ex, ser e ≠ [] := fun e h => by have := sz_pos e; rw [sz, h] at this; simp at this
      have hsz : ∀ e : Ex, (ser e).length = sz e := fun _ => rfl
      have rec1 : ∀ (l : List Nd) (J : AH), l.length ≤ 1000000000 → Sound E 111 [.ptr b 1 0 0, .int .i64 ((d : Int) + 1)] (H.set b (bst l n) ++ J) (.ret (xs (ser (bld n d l).1))) (H.set b (bst (bld n d l).2 n) ++ J) := by
        intro l J hl
        have h := ih d (by omega) l b (H.set b (bst l n) ++ J) (by omega) hl (get_old (List.getElem?_set_self hbl))
        rwa [set_set_app hbl] at h
      by_cases h6 : bOp x ≤ 6
      · have e1 : bld n (d + 1) (x :: r) = (.un (uOf (bOp x)) (bld n d r).1, (bld n d r).2) := by simp [bld, h1, h2, h3, h6]
        rw [e1]
        simp [h6, w1']
        rw [hH1]
        refine call_ret (rec1 r _ (by simp at hl; omega)) ?_
        simp
        refine call_ret (r7Unary _ _ (hne1 _) (by rw [hsz]; omega) _) ?_
        simp
        exact fin _ _ _ _ _ (by simp [ser, uOf_code (show 4 ≤ bOp x by omega) h6]) (by simp)
      · have e1 : bld n (d + 1) (x :: r) = (.bin (bOf (bOp x)) (bld n d r).1 (bld n d (bld n d r).2).1, (bld n d (bld n d r).2).2) := by simp [bld, h1, h2, h3, h6]
        rw [e1]
        simp [h6, w1']
        rw [hH1]
        refine call_ret (rec1 r _ (by simp at hl; omega)) ?_
        simp [w1']
        refine call_ret (rec1 (bld n d r).2 _ (by simp at hl; omega)) ?_
        simp
        refine call_ret (r7Binary _ _ _ (hne1 _) (hne1 _) (by rw [hsz, hsz]; omega) _) ?_
        simp
        exact fin _ _ _ _ _ (by simp [ser, bOf_code (show 7 ≤ bOp x by omega) hop.2]) (by simp)
theorem r7Made (l : List Nd) (most n : Nat) (hn : 0 < n ∧ n ≤ 1000000) (hl : l.length ≤ 200000000000000) (hm : most ≤ 1000000000) (H : AH) : Sound E 82 [xs l, .int .i64 most, .int .i64 n] H (.ret (xs (ser (mde n l most)))) H := by
  refine sound_of_awp tabOk mixed Tryz.func82 rfl (by rfl) Tryz.ntmps82 (by kernel_rfl) (by simp) ?_
  have hmin : (if (most : Int) < (l.length : Int) then (most : Int) else (l.length : Int)) = ((min most l.length : Nat) : Int) := by split <;> omega
  have hmin2 : (if most < l.length then (most : Int) else (l.length : Int)) = ((min most l.length : Nat) : Int) := by split <;> omega
  simp [xs]
  refine bind_if (szOk_map fun _ => rfl) ?_
  rw [hmin2]
  refine bind_if (by omega) ?_
  have htk : List.take ((min most l.length : Nat) : Int).toNat (l.map nd) = (l.take most).map nd := by
    rw [Int.toNat_natCast, List.map_take]
    by_cases h : most ≤ l.length
    · rw [Nat.min_eq_left h]
    · rw [Nat.min_eq_right (by omega), List.take_of_length_le (by simp), List.take_of_length_le (by simp; omega)]
  rw [htk]
  simp
  have h := rBuild n hn 4 (l.take most) H.length (H ++ [bst (l.take most) n]) (by decide) (by rw [List.length_take]; omega) (by simp)
  simp only [bst, xs] at h
  simp at h
  refine call_ret h ?_
  simp
  exact fin1 (rs := [.tmp 6]) (by rfl) (by simp [resA, xs, mde]) (xs_noF _ _)
end Go.Proofs.YtfjjckepnkkgjaaGreatDoor.Arm

namespace Go.Proofs.YtfjjckepnkkgjaaGreatDoor.Arm
open Go.Arm Go.Pl
end Go.Proofs.YtfjjckepnkkgjaaGreatDoor.Arm

namespace Go.Proofs.YtfjjckepnkkgjaaGreatDoor.Arm
open Go.Arm Go.Pl
def ix (l : List Int) : AV := .slice (l.map (.int .i64)) false
end Go.Proofs.YtfjjckepnkkgjaaGreatDoor.Arm

namespace Go.Proofs.YtfjjckepnkkgjaaGreatDoor.Arm
open Go.Arm Go.Pl
end Go.Proofs.YtfjjckepnkkgjaaGreatDoor.Arm

namespace Go.Proofs.YtfjjckepnkkgjaaGreatDoor.Arm
open Go.Arm Go.Pl
theorem app_gen0 {H : AH} {t e : TypeId} {i ie : TI} {x : AV} {f : Bool} (hi : tab t = some i) (hd : i.d = .slice e) (he : tab e = some ie) (h1 : ie.size = 1) (hx : ([x].all fun y => y.cells.length == 1 && y.cells.all okc) = true) (hz : (vcells ie.zero).map List.length = some 1) (hb : ie.bytes ≤ 1000) :
    appendA tab H t .nilslice (.slice [x] f) = some (.ref H.length 1, H ++ [.row true 1 [x]]) := by
  obtain ⟨v', J', hap, hacc', _⟩ := Acc.push (T := tab) (t := t) (e := e) (H := H) (J := []) (v := .nilslice) (v0 := .nilslice) (x := .slice [x] f) (ys := [x]) (xs := []) (.inl ⟨rfl, rfl⟩) hi hd he rfl rfl (by rw [h1]; exact hx) ⟨by omega, by rw [h1]; exact hz⟩ (by simp; omega) (by simp)
  rw [List.append_nil] at hap
  have h2 : appendA tab H t .nilslice (.slice [x] f) = growA ie H .nilslice [x] := by
    simp only [appendA, hi, hd, he, els]
    rw [if_neg (by simp), if_pos ⟨by omega, by rw [h1]; exact hz, by rw [h1]; exact hx⟩]
  have h3 : growA ie H .nilslice [x] = (growNew ie .nilslice [x]).map fun zs => (.ref H.length zs.length, H ++ [.row true ie.size zs]) := rfl
  rw [h2, h3, growNew]
  rw [if_pos (by simp; omega)]
  simp [h1]
theorem app_gen {H : AH} {t e : TypeId} {i ie : TI} {x : AV} {l : List AV} {b n : Nat} {f : Bool} (hi : tab t = some i) (hd : i.d = .slice e) (he : tab e = some ie) (h1 : ie.size = 1) (hx : ([x].all fun y => y.cells.length == 1 && y.cells.all okc) = true) (hz : (vcells ie.zero).map List.length = some 1) (hb : ie.bytes ≤ 1000) (hn : l.length = n) (hnb : n ≤ 1000000000) (hH : H[b]? = some (.row true 1 l)) :
    appendA tab H t (.ref b n) (.slice [x] f) = some (.ref b (n + 1), H.set b (.row true 1 (l ++ [x]))) := by
  subst hn
  have h2 : appendA tab H t (.ref b l.length) (.slice [x] f) = growA ie H (.ref b l.length) [x] := by
    simp only [appendA, hi, hd, he, els]
    rw [if_neg (by simp), if_pos ⟨by omega, by rw [h1]; exact hz, by rw [h1]; exact hx⟩]
  have hk : (l.length + 1) * ie.bytes ≤ 1000000001 * 1000 := Nat.mul_le_mul (by omega) hb
  rw [h2]
  simp only [growA, hH]
  rw [if_pos (by simp [h1]; omega)]
  simp [h1]
end Go.Proofs.YtfjjckepnkkgjaaGreatDoor.Arm

namespace Go.Proofs.YtfjjckepnkkgjaaGreatDoor.Arm
open Go.Arm Go.Pl
def nms : List ByteArray := [⟨#[120]⟩, ⟨#[121]⟩, ⟨#[118, 120]⟩, ⟨#[118, 121]⟩, ⟨#[97, 49]⟩, ⟨#[122, 122]⟩]
def mds (l : List (List Nd)) (most n i : Nat) : List Ex := (List.range i).map fun k => mde n ((l[k]?).getD []) most
theorem mds_succ (l : List (List Nd)) (most n i : Nat) : mds l most n (i + 1) = mds l most n i ++ [mde n ((l[i]?).getD []) most] := by simp [mds, List.range_succ]
theorem mds_len (l : List (List Nd)) (most n i : Nat) : (mds l most n i).length = i := by simp [mds]
def LMs (l : List (List Nd)) (most n : Nat) (H : AH) (i : Nat) (fr : AFr) (H' : AH) : Prop :=
  fr 0 = .slice (l.map xs) false ∧ fr 1 = .int .i64 most ∧ fr 2 = .int .i64 n ∧ fr 6 = .ptr H.length 1 0 0 ∧ fr 7 = .ptr (H.length + 1) 1 0 0 ∧ fr 8 = .slice (nms.map .str) true ∧ fr 9 = .int .i64 i ∧ i ≤ n ∧
  ((i = 0 ∧ H' = H ++ [.row true 2 [.agg [.nilslice, .nilslice]], .row true 2 [.agg [.nilslice, .nilslice]]]) ∨
   ∃ J a b, a ≠ b ∧ J[a]? = some (.row true 1 ((nms.take i).map .str)) ∧ J[b]? = some (.row true 1 ((mds l most n i).map fun e => xs (ser e))) ∧ 0 < i ∧
     H' = H ++ .row true 2 [.agg [.nilslice, .nilslice]] :: .row true 2 [.agg [.ref (H.length + (a + 2)) i, .ref (H.length + (b + 2)) i]] :: J)
theorem r7MadeSystem (l : List (List Nd)) (most n : Nat) (hn : 0 < n ∧ n ≤ 6) (hm : most ≤ 1000000000) (hl : ∀ r ∈ l, r.length ≤ 200000000000000) (hl2 : l.length ≤ 200000000000000) (H : AH) : Sound E 39 [.slice (l.map xs) false, .int .i64 most, .int .i64 n] H (.ret (sys ⟨nms.take n, mds l most n n⟩)) H := by
  refine sound_of_awp tabOk mixed Tryz.func39 rfl (by rfl) Tryz.ntmps39 (by kernel_rfl) (by simp) ?_
  simp
  refine loop_count (LMs l most n H) (fun i => n - i) 0 ⟨by simp, by simp, by simp, by simp, by simp, by simp [nms], by simp, by omega, .inl ⟨rfl, by simp⟩⟩ ?_
  rintro i fr H' ⟨g0, g1, g2, g6, g7, g8, g9, hi, hmem⟩
  have hnl : nms.length = 6 := rfl
  simp [g2, g9]
  refine branch (fun hc => ?_) (fun hc => ?_)
  · have hlt : i < n := by simpa using hc
    have w2 : IntKind.i64.wrap ((i : Int) + 1) = ((i + 1 : Nat) : Int) := by rw [wrap64 (by omega) (by omega)]; omega
    obtain ⟨s, hs⟩ := get_lt (l := nms) (i := i) (by omega)
    have hsE : ∀ h, nms[i]'h = s := fun h => (List.getElem?_eq_some_iff.1 hs).2
    have hst : nms.take (i + 1) = nms.take i ++ [s] := by rw [List.take_add_one, hs]; rfl
    have main : ∀ r : List Nd, r = (l[i]?).getD [] → r.length ≤ 200000000000000 → True := fun _ _ _ => trivial
    simp [g0, g9]
    refine branch (fun hc2 => ?_) (fun hc2 => ?_)
    · have hlt2 : i < l.length := by simpa using hc2
      obtain ⟨r, hr⟩ := get_lt hlt2
      have hrE : ∀ h, l[i]'h = r := fun h => (List.getElem?_eq_some_iff.1 hr).2
      rcases hmem with ⟨rfl, rfl⟩ | ⟨J, a, b, hab, ha, hb, hpos, rfl⟩
      · simp [hr, hrE, xs, g0, g7, g8, g9, hs, hsE]
        refine bind_some (app_gen0 (x := .str s) tab89 rfl tab9 rfl (by simp [okc]) rfl (by decide)) ?_
        simp [g7]
        refine endD [(1, 9)] (by rfl) (by simp [okW, note, Eff.triv, Eff.wr, Eff.none, upTo, newAt]) ?_
        simp [g1, g2, g7]
        refine callD_ret0 (fun Hx => r7Made r most n ⟨hn.1, by omega⟩ (hl r (List.mem_of_getElem? hr)) hm Hx) ?_
        simp [g7, xs]
        refine bind_some (app_gen0 (x := xs (ser (mde n (r) most))) tab85 rfl tab136 rfl (by simp [okc, xs]) rfl (by decide)) ?_
        simp [g7]
        refine endD [(1, 9)] (by rfl) (by simp [okW, note, Eff.triv, Eff.wr, Eff.none, upTo, newAt]) ?_
        have w3 : IntKind.i64.wrap 1 = 1 := wrap64 (by decide) (by decide)
        simp [g9, w3]
        refine ⟨1, by show n - 1 < n - 0; omega, by simp [g0], by simp [g1], by simp [g2], by simp [g6], by simp [g7], by simp [g8], by simp, by omega, .inr ⟨[.row true 1 [.str s], .row true 1 [xs (ser (mde n (r) most))]], 0, 1, by decide, ?_, ?_, by decide, ?_⟩⟩
        · rw [hst]; simp
        · rw [mds_succ]; simp [mds, hr, hrE, xs, xs]
        · simp
      · simp [hr, hrE, xs, g0, g7, g8, g9, hs, hsE]
        refine bind_some (app_gen (x := .str s) (l := (nms.take i).map .str) tab89 rfl tab9 rfl (by simp [okc]) rfl (by decide) (by simp; omega) (by omega) (by simp [ha])) ?_
        simp [g7]
        refine endD [(1, 9)] (by rfl) (by simp [okW, note, Eff.triv, Eff.wr, Eff.none, upTo, newAt]) ?_
        simp [g1, g2, g7]
        refine callD_ret0 (fun Hx => r7Made r most n ⟨hn.1, by omega⟩ (hl r (List.mem_of_getElem? hr)) hm Hx) ?_
        simp [g7, xs]
        refine bind_some (app_gen (n := i) (x := xs (ser (mde n (r) most))) (l := (mds l most n i).map fun e => xs (ser e)) tab85 rfl tab136 rfl (by simp [okc, xs]) rfl (by decide) (by simp [mds_len]) (by omega) (by simp [hb, List.getElem?_set_ne hab])) ?_
        simp [g7]
        refine endD [(1, 9)] (by rfl) (by simp [okW, note, Eff.triv, Eff.wr, Eff.none, upTo, newAt]) ?_
        simp [g9, w2]
        refine ⟨i + 1, by show n - (i + 1) < n - i; omega, by simp [g0], by simp [g1], by simp [g2], by simp [g6], by simp [g7], by simp [g8], by simp, by omega, .inr ⟨(J.set a (.row true 1 ((nms.take i).map .str ++ [.str s]))).set b (.row true 1 (((mds l most n i).map fun e => xs (ser e)) ++ [xs (ser (mde n (r) most))])), a, b, hab, ?_, ?_, by omega, ?_⟩⟩
        · rw [hst, List.getElem?_set_ne (Ne.symm hab), List.getElem?_set_self (List.getElem?_eq_some_iff.1 ha).1]; simp
        · rw [mds_succ, List.getElem?_set_self (by rw [List.length_set]; exact (List.getElem?_eq_some_iff.1 hb).1)]; simp [hr, hrE, xs, xs]
        · simp
    · have hr : l[i]? = none := by
        have : ¬ i < l.length := by simpa using hc2
        rw [List.getElem?_eq_none_iff]; omega
      rcases hmem with ⟨rfl, rfl⟩ | ⟨J, a, b, hab, ha, hb, hpos, rfl⟩
      · simp [hr, g0, g7, g8, g9, hs, hsE]
        refine bind_some (app_gen0 (x := .str s) tab89 rfl tab9 rfl (by simp [okc]) rfl (by decide)) ?_
        simp [g7]
        refine endD [(1, 9)] (by rfl) (by simp [okW, note, Eff.triv, Eff.wr, Eff.none, upTo, newAt]) ?_
        simp [g1, g2, g7]
        refine callD_conv0 (args' := [xs [], .int .i64 most, .int .i64 n]) (fun Hx => r7Made [] most n ⟨hn.1, by omega⟩ (by simp) hm Hx) (by simp [xs]) ?_
        simp [g7, xs]
        refine bind_some (app_gen0 (x := xs (ser (mde n ([]) most))) tab85 rfl tab136 rfl (by simp [okc, xs]) rfl (by decide)) ?_
        simp [g7]
        refine endD [(1, 9)] (by rfl) (by simp [okW, note, Eff.triv, Eff.wr, Eff.none, upTo, newAt]) ?_
        have w3 : IntKind.i64.wrap 1 = 1 := wrap64 (by decide) (by decide)
        simp [g9, w3]
        refine ⟨1, by show n - 1 < n - 0; omega, by simp [g0], by simp [g1], by simp [g2], by simp [g6], by simp [g7], by simp [g8], by simp, by omega, .inr ⟨[.row true 1 [.str s], .row true 1 [xs (ser (mde n ([]) most))]], 0, 1, by decide, ?_, ?_, by decide, ?_⟩⟩
        · rw [hst]; simp
        · rw [mds_succ]; simp [mds, hr, xs]
        · simp
      · simp [hr, g0, g7, g8, g9, hs, hsE]
        refine bind_some (app_gen (x := .str s) (l := (nms.take i).map .str) tab89 rfl tab9 rfl (by simp [okc]) rfl (by decide) (by simp; omega) (by omega) (by simp [ha])) ?_
        simp [g7]
        refine endD [(1, 9)] (by rfl) (by simp [okW, note, Eff.triv, Eff.wr, Eff.none, upTo, newAt]) ?_
        simp [g1, g2, g7]
        refine callD_conv0 (args' := [xs [], .int .i64 most, .int .i64 n]) (fun Hx => r7Made [] most n ⟨hn.1, by omega⟩ (by simp) hm Hx) (by simp [xs]) ?_
        simp [g7, xs]
        refine bind_some (app_gen (n := i) (x := xs (ser (mde n ([]) most))) (l := (mds l most n i).map fun e => xs (ser e)) tab85 rfl tab136 rfl (by simp [okc, xs]) rfl (by decide) (by simp [mds_len]) (by omega) (by simp [hb, List.getElem?_set_ne hab])) ?_
        simp [g7]
        refine endD [(1, 9)] (by rfl) (by simp [okW, note, Eff.triv, Eff.wr, Eff.none, upTo, newAt]) ?_
        simp [g9, w2]
        refine ⟨i + 1, by show n - (i + 1) < n - i; omega, by simp [g0], by simp [g1], by simp [g2], by simp [g6], by simp [g7], by simp [g8], by simp, by omega, .inr ⟨(J.set a (.row true 1 ((nms.take i).map .str ++ [.str s]))).set b (.row true 1 (((mds l most n i).map fun e => xs (ser e)) ++ [xs (ser (mde n ([]) most))])), a, b, hab, ?_, ?_, by omega, ?_⟩⟩
        · rw [hst, List.getElem?_set_ne (Ne.symm hab), List.getElem?_set_self (List.getElem?_eq_some_iff.1 ha).1]; simp
        · rw [mds_succ, List.getElem?_set_self (by rw [List.length_set]; exact (List.getElem?_eq_some_iff.1 hb).1)]; simp [hr, xs]
        · simp
  · have hge : n ≤ i := by simpa using hc
    have hi' : i = n := by omega
    subst hi'
    rcases hmem with ⟨rfl, rfl⟩ | ⟨J, a, b, hab, ha, hb, hpos, rfl⟩
    · omega
    · simp [g6, g7]
      exact finC (rs := [.cell 6 91]) (vs := [.agg [.ref (H.length + (a + 2)) i, .ref (H.length + (b + 2)) i]]) (vs' := [sys ⟨nms.take i, mds l most i i⟩]) (J' := .row true 2 [.agg [.ref (H.length + (a + 2)) i, .ref (H.length + (b + 2)) i]] :: .row true 2 [.agg [.ref (H.length + (a + 2)) i, .ref (H.length + (b + 2)) i]] :: (J.set a (.row false 1 ((nms.take i).map .str))).set b (.row false 1 ((mds l most i i).map fun e => xs (ser e)))) (by rfl) (by simp [resA, g6]) (by simp [ha, hb, List.getElem?_set_ne hab, sys, show min i nms.length = i by omega, mds_len]) (by simp only [noFs, sys, noF, Bool.and_true, Bool.and_eq_true]; exact ⟨noFs_iff.2 fun x hx => by obtain ⟨y, _, rfl⟩ := List.mem_map.1 hx; rfl, noFs_iff.2 fun x hx => by obtain ⟨y, _, rfl⟩ := List.mem_map.1 hx; exact xs_noF _ _⟩) rfl
end Go.Proofs.YtfjjckepnkkgjaaGreatDoor.Arm

namespace Go.Proofs.YtfjjckepnkkgjaaGreatDoor.Arm
open Go.Arm Go.Pl
def mx (A : List (List I)) : AV := .slice (A.map bx) false
end Go.Proofs.YtfjjckepnkkgjaaGreatDoor.Arm

namespace Go.Proofs.YtfjjckepnkkgjaaGreatDoor.Arm
open Go.Arm Go.Pl
def at2 (ks : List Nat) : AV := .agg [.int .i64 ((ks[0]?).getD 0 : Nat), .int .i64 ((ks[1]?).getD 0 : Nat)]
def LCm (a : Ex) (r : List Nd) (l : List Ins) (H : AH) (i : Nat) (fr : AFr) (H' : AH) : Prop :=
  fr 0 = xs (serL ((kids a).drop i) ++ r) ∧ fr 1 = lA (cmpK ((kids a).take i) l).1 ∧ fr 7 = .ptr H.length 1 0 0 ∧ fr 8 = .ptr (H.length + 1) 1 0 0 ∧ fr 9 = .ptr (H.length + 2) 1 0 0 ∧ fr 10 = .int .i64 i ∧ i ≤ (kids a).length ∧
  H' = H ++ [.row true 4 [nd (root0 a)], .row true 5 [insA ⟨(root0 a).op, 0, 0, (0, 0)⟩], .row true 2 [at2 (cmpK ((kids a).take i) l).2]]
theorem r8compile : ∀ (n : Nat) (a : Ex) (r : List Nd) (l : List Ins), sz a ≤ n → sz a + r.length ≤ 1000000 → l.length + sz a ≤ 100000 → ∀ H, Sound E 81 [xs (ser a ++ r), lA l] H (.ret (.tuple [lA (cmpS a l).1, .int .i64 (cmpS a l).2, xs r])) H
  | 0, a, r, l, hn, hl, hll, H => by have := sz_pos a; omega
  | n + 1, a, r, l, hn, hl, hll, H => by
    refine sound_of_awp tabOk mixed Tryz.func81 rfl (by rfl) Tryz.ntmps81 (by kernel_rfl) (by simp) ?_
    have hp := sz_pos a
    have hget : (ser a ++ r)[0]? = some (root0 a) := by rw [ser_eq]; rfl
    have hmap : ((ser a ++ r).map nd)[0]? = some (nd (root0 a)) := by rw [List.getElem?_map, hget]; rfl
    have hmapE : ∀ h, ((ser a ++ r).map nd)[0]'h = nd (root0 a) := fun h => (List.getElem?_eq_some_iff.1 hmap).2
    have hlen : (ser a ++ r).length = sz a + r.length := by simp [sz]
    have hk := kids_le a
    have har := arity_root a
    have hsk := sz_kids a
    have hd1 : (ser a ++ r).drop 1 = serL (kids a) ++ r := by rw [ser_eq]; simp
    have ih : ∀ (k : Ex) (i : Nat) (r' : List Nd) (l' : List Ins), (kids a)[i]? = some k → sz k + r'.length ≤ 1000000 → l'.length + sz k ≤ 100000 → ∀ H, Sound E 81 [xs (ser k ++ r'), lA l'] H (.ret (.tuple [lA (cmpS k l').1, .int .i64 (cmpS k l').2, xs r'])) H := fun k i r' l' hi hb hb2 H =>
      r8compile n k r' l' (by have := kid_sz hi; omega) hb hb2 H
    unfold xs
    generalize hL : ser a ++ r = L at *
    simp [hmap, hmapE]
    refine endD [(9, 12), (10, 13), (11, 14)] (by rfl) (by simp [okW, note, Eff.triv, Eff.wr, Eff.none, upTo, newAt]) ?_
    simp
    refine bind_if (szOk_map fun _ => rfl) ?_
    refine bind_if (by omega) ?_
    have htail : (List.take L.length (L.map nd)).tail = (serL (kids a) ++ r).map nd := by rw [List.take_of_length_le (by simp), ← List.drop_one, ← List.map_drop, hd1]
    rw [htail]
    simp
    refine loop_count (LCm a r l H) (fun i => (kids a).length - i) 0 ⟨by simp [xs], by simp [cmpK], by simp, by simp, by simp, by simp, by omega, by simp [insA, at2, cmpK, nd]⟩ ?_
    rintro i fr H' ⟨g0, g1, g7, g8, g9, g10, hi, rfl⟩
    simp [g7, g10, nd]
    refine call_ret (r8Arity _ _) ?_
    rw [har]
    simp [g10]
    refine branch (fun hc => ?_) (fun hc => ?_)
    · have hlt : i < (kids a).length := by simpa using hc
      obtain ⟨k, hki⟩ := get_lt hlt
      have hd := serL_drop hki
      have htk : (kids a).take (i + 1) = (kids a).take i ++ [k] := by rw [List.take_add_one, hki]; rfl
      have w2 : IntKind.i64.wrap ((i : Int) + 1) = ((i + 1 : Nat) : Int) := by rw [wrap64 (by omega) (by omega)]; omega
      have hcl := cmpK_len ((kids a).take i) l
      have hsl : (serL ((kids a).take i)).length + (ser k).length + (serL ((kids a).drop (i + 1))).length ≤ sz a := by
        have h1 := congrArg List.length (serL_split (kids a) i)
        rw [hd] at h1
        simp only [List.length_append] at h1
        omega
      have hszk : sz k = (ser k).length := rfl
      simp [g0, g1, g10]
      have hS := ih k i (serL ((kids a).drop (i + 1)) ++ r) (cmpK ((kids a).take i) l).1 hki (by simp only [List.length_append]; omega) (by omega)
      rw [← List.append_assoc, ← hd] at hS
      have hsn := cmpK_snoc ((kids a).take i) k l
      have hql : (cmpK ((kids a).take i) l).2.length = i := by rw [hcl.2]; simp; omega
      rw [← htk] at hsn
      refine call_ret (hS _) ?_
      have wr1 : IntKind.i64.wrap 1 = 1 := wrap64 (by decide) (by decide)
      have wr2 : IntKind.i64.wrap 2 = 2 := wrap64 (by decide) (by decide)
      have hi01 : i = 0 ∨ i = 1 := by omega
      rcases hi01 with rfl | rfl
      · simp only [List.take_zero] at hsn hql ⊢
        simp [g9, g10, at2, cmpK, wr1]
        refine ⟨1, by show (kids a).length - 1 < (kids a).length - 0; omega, by simp [xs], by simp [hsn, cmpK], by simp [g7], by simp [g8], by simp [g9], by simp, by omega, ?_⟩
        simp [hsn, cmpK, at2]
      · generalize cmpK ((kids a).take 1) l = q at *
        obtain ⟨q1, q2⟩ := q
        simp only at hql hsn ⊢
        obtain ⟨k0, rfl⟩ : ∃ k0, q2 = [k0] := by
          match q2, hql with
          | [k0], _ => exact ⟨k0, rfl⟩
        simp [g9, g10, at2, wr2]
        refine ⟨2, by show (kids a).length - 2 < (kids a).length - 1; omega, by simp [xs], by simp [hsn], by simp [g7], by simp [g8], by simp [g9], by simp, by omega, ?_⟩
        simp [hsn, at2]
    · have hi' : i = (kids a).length := by have : ¬ i < (kids a).length := by simpa using hc
                                           omega
      subst hi'
      rw [List.take_length] at g1
      rw [List.drop_length] at g0
      have hce := cmpS_eq a l
      have hcl := cmpK_len (kids a) l
      simp only [List.take_length]
      generalize cmpK (kids a) l = q at *
      obtain ⟨q1, q2⟩ := q
      simp only at hce hcl g1 ⊢
      have hq1 : q1.length ≤ 100000 := by omega
      have hfin : ∀ (fr : AFr) (J : AH), fr 0 = xs r → fr 4 = lA (emitS q1 (insOf a q2)).1 → fr 5 = .int .i64 (emitS q1 (insOf a q2)).2 → fr 6 = xs r →
          bodyK E Tryz.f81 H (.ret (.tuple [lA (cmpS a l).1, .int .i64 (cmpS a l).2, xs r])) H .ret fr (H ++ J) := by
        intro fr J h0 h4 h5 h6
        rw [hce]
        have hsl : lA (emitS q1 (insOf a q2)).1 = .slice ((emitS q1 (insOf a q2)).1.map insA) false := by unfold lA; rw [if_neg (emitS_ne _ _)]
        rw [hsl] at h4 ⊢
        exact finC (J := J) (J' := J) (rs := [.tmp 4, .tmp 5, .tmp 6]) (vs := [.slice ((emitS q1 (insOf a q2)).1.map insA) false, .int .i64 (emitS q1 (insOf a q2)).2, xs r]) (vs' := [.slice ((emitS q1 (insOf a q2)).1.map insA) false, .int .i64 (emitS q1 (insOf a q2)).2, xs r]) (by rfl) (by simp [resA, h4, h5, h6]) (by simp [xs]) (by simp [noFs, noF, ins_noFs, xs, noFs_iff, nd]) rfl
      have hE : ∀ v, v = insA (insOf a q2) → ∀ H, Sound E 110 ([lA q1, v] ++ []) H (.ret (.tuple [lA (emitS q1 (insOf a q2)).1, .int .i64 (emitS q1 (insOf a q2)).2])) H := fun v hv H => by subst hv; exact r8Emit q1 (insOf a q2) hq1 H
      by_cases o1 : (root0 a).op = 1
      · simp [g1, g7, g8, g9, at2, insA, o1]
        refine call_ret (hE _ ?_ _) ?_
        · simp [insA, insOf, o1]
        simp [g0]
        exact hfin _ _ (by simp [g0, serL, xs]) (by simp) (by simp) (by simp [g0, serL, xs])
      · by_cases o2 : (root0 a).op = 2
        · simp [g1, g7, g8, g9, at2, insA, o1, o2]
          refine call_ret (hE _ ?_ _) ?_
          · simp [insA, insOf, o1, o2]
          simp [g0]
          exact hfin _ _ (by simp [g0, serL, xs]) (by simp) (by simp) (by simp [g0, serL, xs])
        · have o1' : ((root0 a).op == 1) = false := by simp [o1]
          have o2' : ((root0 a).op == 2) = false := by simp [o2]
          simp [g1, g7, g8, g9, at2, insA, o1', o2']
          refine call_ret (hE _ ?_ _) ?_
          · simp [insA, insOf, o1, o2]
          simp [g0]
          exact hfin _ _ (by simp [g0, serL, xs]) (by simp) (by simp) (by simp [g0, serL, xs])
end Go.Proofs.YtfjjckepnkkgjaaGreatDoor.Arm

namespace Go.Proofs.YtfjjckepnkkgjaaGreatDoor.Arm
open Go.Arm Go.Pl
theorem cmpAll_snoc : ∀ (F : List Ex) (e : Ex) (s : List Ins × List Nat), cmpAll (F ++ [e]) s = ((cmpS e (cmpAll F s).1).1, (cmpAll F s).2 ++ [(cmpS e (cmpAll F s).1).2])
  | [], e, s => rfl
  | a :: F, e, s => by simp only [List.cons_append, cmpAll, cmpAll_snoc F e]
theorem cmpAll_len : ∀ (F : List Ex) (s : List Ins × List Nat), (cmpAll F s).1.length ≤ s.1.length + (F.map sz).sum ∧ (cmpAll F s).2.length = s.2.length + F.length
  | [], s => by simp [cmpAll]
  | e :: r, s => by
    have h1 := cmpS_len e s.1
    have h2 := cmpAll_len r ((cmpS e s.1).1, s.2 ++ [(cmpS e s.1).2])
    simp only [cmpAll, List.map_cons, List.sum_cons, List.length_append, List.length_cons, List.length_nil] at h2 ⊢
    omega
theorem cmpS_ne (e : Ex) (l : List Ins) : (cmpS e l).1 ≠ [] := by rw [cmpS_eq]; exact emitS_ne _ _
theorem lA_cmp (e : Ex) (l : List Ins) : lA (cmpS e l).1 = .slice ((cmpS e l).1.map insA) false := by unfold lA; rw [if_neg (cmpS_ne _ _)]
def cSt (s : Sys) (q : List Ins × List Nat) (o : AV) : AV := .agg [.int .i64 s.f.length, lA q.1, o]
def LCp (s : Sys) (H : AH) (i : Nat) (fr : AFr) (H' : AH) : Prop :=
  fr 1 = .ptr H.length 1 0 0 ∧ fr 2 = .ptr (H.length + 1) 1 0 0 ∧ fr 3 = .ptr (H.length + 2) 1 0 0 ∧ fr 4 = .int .i64 i ∧ i ≤ s.f.length ∧
  ((i = 0 ∧ H' = H ++ [.row true 2 [sys s], .row true 3 [.agg [.int .i64 0, .nilslice, .nilslice]], .row true 3 [cSt s ([], []) .nilslice]]) ∨
   (0 < i ∧ H' = H ++ [.row true 2 [sys s], .row true 3 [.agg [.int .i64 0, .nilslice, .nilslice]], .row true 3 [cSt s (cmpAll (s.f.take i) ([], [])) (.ref (H.length + 3) i)], .row true 1 ((cmpAll (s.f.take i) ([], [])).2.map fun k : Nat => .int .i64 (k : Int))]))
theorem r8Compile (s : Sys) (hn : 0 < s.f.length ∧ s.f.length ≤ 6) (hf : ∀ e ∈ s.f, sz e ≤ 31) (H : AH) : Sound E 38 [sys s] H (.ret (tpA (cmpT s.f))) H := by
  refine sound_of_awp tabOk mixed Tryz.func38 rfl (by rfl) Tryz.ntmps38 (by kernel_rfl) (by simp) ?_
  simp [sys]
  refine loop_count (LCp s H) (fun i => s.f.length - i) 0 ⟨by simp, by simp, by simp, by simp, by omega, .inl ⟨rfl, by simp [sys, cSt, lA]⟩⟩ ?_
  rintro i fr H' ⟨g1, g2, g3, g4, hi, hmem⟩
  have hsum : ∀ j, ((s.f.take j).map sz).sum ≤ 31 * j := by
    intro j
    have : ∀ (l : List Ex), (∀ e ∈ l, sz e ≤ 31) → (l.map sz).sum ≤ 31 * l.length := by
      intro l
      induction l with
      | nil => intro _; simp
      | cons a r ih => intro h; have := ih fun e he => h e (by simp [he]); have := h a (by simp); simp; omega
    have h1 := this (s.f.take j) fun e he => hf e (List.mem_of_mem_take he)
    have h2 : (s.f.take j).length ≤ j := by simp; omega
    omega
  have hcl := cmpAll_len (s.f.take i) ([], [])
  have hsi := hsum i
  simp only [List.length_nil, Nat.zero_add] at hcl
  rcases hmem with ⟨rfl, rfl⟩ | ⟨hpos, rfl⟩
  · obtain ⟨e, he⟩ := get_lt (l := s.f) (i := 0) hn.1
    have heE : ∀ h, s.f[0]'h = e := fun h => (List.getElem?_eq_some_iff.1 he).2
    have hft : s.f.take 1 = [e] := by rw [List.take_add_one, he]; rfl
    have hc0 : (decide ((0 : Int) < (s.f.length : Int))) = true := by simp; omega
    have hS := r8compile (sz e) e [] [] (Nat.le_refl _) (by have := hf e (List.mem_of_getElem? he); simp; omega) (by have := hf e (List.mem_of_getElem? he); simp; omega)
    rw [List.append_nil, lA_cmp] at hS
    have hcf : cmpAll [e] ([], []) = ((cmpS e []).1, [(cmpS e []).2]) := rfl
    have wr1 : IntKind.i64.wrap 1 = 1 := wrap64 (by decide) (by decide)
    simp [g1, g3, g4, sys, hn.1, he, heE, cSt, lA, xs]
    refine callD_ret0 (fun Hx => by simpa [xs, show lA [] = AV.nilslice from rfl] using hS Hx) ?_
    simp
    refine endD [] (by rfl) (by simp [okW, note, Eff.triv, Eff.wr, Eff.none, upTo, newAt]) ?_
    simp [g3]
    refine bind_some (app_gen0 (x := .int .i64 (cmpS e []).2) tab23 rfl tab3 rfl (by simp [okc]) rfl (by decide)) ?_
    simp [g3, g4, wr1]
    refine ⟨1, by show s.f.length - 1 < s.f.length - 0; omega, by simp [g1], by simp [g2], by simp [g3], by simp, by omega, .inr ⟨by decide, ?_⟩⟩
    rw [hft, hcf]
    simp [sys, cSt, lA_cmp, xs]
  · simp [g1, g3, g4, sys, cSt]
    refine branch (fun hc => ?_) (fun hc => ?_)
    · have hlt : i < s.f.length := by simpa using hc
      obtain ⟨e, he⟩ := get_lt hlt
      have heE : ∀ h, s.f[i]'h = e := fun h => (List.getElem?_eq_some_iff.1 he).2
      have hft : s.f.take (i + 1) = s.f.take i ++ [e] := by rw [List.take_add_one, he]; rfl
      have hsz := hf e (List.mem_of_getElem? he)
      have w2 : IntKind.i64.wrap ((i : Int) + 1) = ((i + 1 : Nat) : Int) := by rw [wrap64 (by omega) (by omega)]; omega
      have hsn := cmpAll_snoc (s.f.take i) e ([], [])
      rw [← hft] at hsn
      have hq2 : (cmpAll (s.f.take i) ([], [])).2.length = i := by rw [hcl.2]; simp; omega
      generalize cmpAll (s.f.take i) ([], []) = q at *
      have hS := r8compile (sz e) e [] q.1 (Nat.le_refl _) (by simp; omega) (by omega)
      rw [List.append_nil, lA_cmp] at hS
      simp [g1, g3, g4, sys, he, heE, cSt, xs]
      refine callD_ret0 (fun Hx => by simpa [xs] using hS Hx) ?_
      simp
      refine endD [] (by rfl) (by simp [okW, note, Eff.triv, Eff.wr, Eff.none, upTo, newAt]) ?_
      simp [g3]
      refine bind_some (app_gen (n := i) (x := .int .i64 (cmpS e q.1).2) (l := q.2.map fun k : Nat => .int .i64 (k : Int)) tab23 rfl tab3 rfl (by simp [okc]) rfl (by decide) (by simp [hq2]) (by omega) (by simp)) ?_
      simp [g3, g4, w2]
      refine ⟨i + 1, by show s.f.length - (i + 1) < s.f.length - i; omega, by simp [g1], by simp [g2], by simp [g3], by simp, by omega, .inr ⟨by omega, ?_⟩⟩
      rw [hsn]
      simp [sys, cSt, lA_cmp, xs]
    · have hi' : i = s.f.length := by have : ¬ i < s.f.length := by simpa using hc
                                      omega
      subst hi'
      rw [List.take_length] at hcl hsi ⊢
      have hq2 := hcl.2
      have hct : cmpT s.f = ⟨s.f.length, (cmpAll s.f ([], [])).1, (cmpAll s.f ([], [])).2⟩ := rfl
      rw [hct]
      have hql : (cmpAll s.f ([], [])).1.length ≤ 400 := by omega
      have hqe : (cmpAll s.f ([], [])).1 ≠ [] := by
        intro h0
        obtain ⟨F, e, hFe⟩ : ∃ F e, s.f = F ++ [e] := ⟨s.f.dropLast, s.f.getLast (by intro h; rw [h] at hn; simp at hn), (List.dropLast_concat_getLast _).symm⟩
        rw [hFe, cmpAll_snoc] at h0
        simp only [cmpS_eq] at h0
        exact emitS_ne _ _ h0
      generalize cmpAll s.f ([], []) = q at *
      have hlq : lA q.1 = .slice (q.1.map insA) false := by unfold lA; rw [if_neg hqe]
      have hgt : ¬ (400 : Int) < (q.1.length : Int) := by omega
      simp [g2, g3, hlq, hgt]
      exact finC (rs := [.cell 2 25]) (vs := [.agg [.int .i64 s.f.length, .slice (q.1.map insA) false, .ref (H.length + 3) s.f.length]]) (vs' := [tpA ⟨s.f.length, q.1, q.2⟩]) (by rfl) (by simp [resA, g2]) (by simp [tpA, outA, hq2]; rfl) (by simp [tpA, outA, noFs, noF, ins_noFs, noFs_iff]) rfl
end Go.Proofs.YtfjjckepnkkgjaaGreatDoor.Arm

namespace Go.Proofs.YtfjjckepnkkgjaaGreatDoor.Arm
open Go.Arm Go.Pl
def nrb (l : List I) (w : Int) (n : Nat) : List I := (List.range n).map fun k => nearI ((l[k]?).getD (0, 0)) w
theorem nrb_succ (l : List I) (w : Int) (n : Nat) : nrb l w (n + 1) = nrb l w n ++ [nearI ((l[n]?).getD (0, 0)) w] := by simp [nrb, List.range_succ]
theorem nrb_len (l : List I) (w : Int) (n : Nat) : (nrb l w n).length = n := by simp [nrb]
theorem nearI_valid (p : I) {w : Int} (hw : 1 ≤ w ∧ w ≤ 1000000) : vB (nearI p w) = true := near_valid p hw
theorem nrb_valid (l : List I) {w : Int} (hw : 1 ≤ w ∧ w ≤ 1000000) (n : Nat) : allV (nrb l w n) := fun p hp => by
  obtain ⟨k, _, rfl⟩ := List.mem_map.1 hp; exact nearI_valid _ hw
def LBo (l : List I) (w : Int) (n : Nat) (H : AH) (i : Nat) (fr : AFr) (H' : AH) : Prop :=
  fr 0 = bx l ∧ fr 1 = .int .i64 n ∧ fr 2 = .int .i64 w ∧ fr 8 = .int .i64 i ∧ i ≤ n ∧ ∃ J, H' = H ++ J ∧ Acc H J (fr 7) 2 ((nrb l w i).map iv) (.slice [] true)
theorem r8Boxes (l : List I) (n : Nat) (w : Int) (hn : n ≤ 1000000) (hw : 1 ≤ w ∧ w ≤ 1000000) (hl : l.length ≤ 200000000000000) (H : AH) : Sound E 28 [bx l, .int .i64 n, .int .i64 w] H (.ret (bx (nrb l w n))) H := by
  refine sound_of_awp tabOk mixed Tryz.func28 rfl (by rfl) Tryz.ntmps28 (by kernel_rfl) (by simp) ?_
  simp [bx]
  refine loop_count (LBo l w n H) (fun i => n - i) 0 ⟨by simp [bx], by simp, by simp, by simp, by omega, [], by simp, .inl ⟨by simp [nrb], by simp⟩⟩ ?_
  rintro i fr H' ⟨g0, g1, g2, g8, hi, J, rfl, hacc⟩
  simp [g1, g8]
  refine branch (fun hc => ?_) (fun hc => ?_)
  · have hlt : i < n := by simpa using hc
    have w2 : IntKind.i64.wrap ((i : Int) + 1) = ((i + 1 : Nat) : Int) := by rw [wrap64 (by omega) (by omega)]; omega
    simp [g0, g8, bx]
    refine branch (fun hc2 => ?_) (fun hc2 => ?_)
    · have hlt2 : i < l.length := by simpa using hc2
      obtain ⟨p, hp⟩ := get_lt hlt2
      have hpE : ∀ h, l[i]'h = p := fun h => (List.getElem?_eq_some_iff.1 hp).2
      simp [g0, g2, g8, bx, hp, hpE]
      refine call_ret (rNear p w hw _) ?_
      simp
      obtain ⟨v', J', hap, hacc', _⟩ := pushIv (p := nearI p w) (hacc.len (L := [.row true 2 [iv p]])) rfl (by rw [nrb_len]; omega)
      refine bind_some (by simpa [iv] using hap) ?_
      simp [g8, w2]
      exact ⟨i + 1, by show n - (i + 1) < n - i; omega, by simp [g0, bx], by simp [g1], by simp [g2], by simp, by omega, J', rfl, by rw [nrb_succ]; simpa [hp] using hacc'⟩
    · have hlt2 : l[i]? = none := by
        have : ¬ i < l.length := by simpa using hc2
        rw [List.getElem?_eq_none_iff]; omega
      simp [g2]
      refine call_ret (rNear (0, 0) w hw _) ?_
      simp
      obtain ⟨v', J', hap, hacc', _⟩ := pushIv (p := nearI (0, 0) w) (hacc.len (L := [.row true 2 [iv (0, 0)]])) rfl (by rw [nrb_len]; omega)
      refine bind_some (by simpa [iv] using hap) ?_
      simp [g8, w2]
      exact ⟨i + 1, by show n - (i + 1) < n - i; omega, by simp [g0, bx], by simp [g1], by simp [g2], by simp, by omega, J', rfl, by rw [nrb_succ]; simpa [hlt2] using hacc'⟩
  · have hi' : i = n := by have : ¬ i < n := by simpa using hc
                           omega
    subst hi'
    simp
    exact finS (t := 6) (by rfl) (by simp) hacc rfl (iv_noFs _ _)
end Go.Proofs.YtfjjckepnkkgjaaGreatDoor.Arm

namespace Go.Proofs.YtfjjckepnkkgjaaGreatDoor.Arm
open Go.Arm Go.Pl
theorem iSqrtN (p : I) (h0 : p.2 < 0) (H : AH) : Sound E 208 [iv p] H (.ret (.tuple [iv (0, 0), .bool false])) H := by
  refine sound_of_awp tabOk mixed Tryz.func208 rfl (by rfl) Tryz.ntmps208 (by kernel_rfl) (by simp) ?_
  have h1 : entB p = false := by
    cases h : entB p with
    | false => rfl
    | true => rw [entB_iff] at h; subst h; simp [ent] at h0
  simp
  refine call_ret (iIsEntire p _) ?_
  simp [h1, h0]
  exact finC (rs := [.cell 2 54, .tmp 3]) (vs := [iv (0, 0), .bool false]) (vs' := [iv (0, 0), .bool false]) (by rfl) (by simp [resA]) (by simp; rfl) (by simp [noF, noFs]) rfl
def sqrtR (p : I) : I := if p.2 < 0 then (0, 0) else sqrt p
theorem iSqrtA (p : I) (hp : vB p = true) (H : AH) : Sound E 208 [iv p] H (.ret (.tuple [iv (sqrtR p), .bool (decide (0 ≤ p.2))])) H := by
  by_cases h : p.2 < 0
  · have e : sqrtR p = (0, 0) := by simp [sqrtR, h]
    have e2 : decide (0 ≤ p.2) = false := by simp; omega
    rw [e, e2]; exact iSqrtN p h H
  · have e : sqrtR p = sqrt p := by simp [sqrtR, h]
    have e2 : decide (0 ≤ p.2) = true := by simp; omega
    rw [e, e2]; exact iSqrt p hp (by omega) H
theorem rootI_nonneg {p : I} (hp : vB p = true) (h : 0 ≤ p.1) : sqrtR p = rootI p := by
  have := vB_bounds hp
  have h1 : ¬ p.2 < 0 := by omega
  have h2 : ¬ p.1 < 0 := by omega
  simp [sqrtR, rootI, h1, h2]
theorem sUnit (H : AH) : Sound E 212 [] H (.ret (iv (65536, 65536))) H := by
  refine sound_of_awp tabOk mixed Tryz.func212 rfl (by rfl) Tryz.ntmps212 (by kernel_rfl) (by simp) ?_
  simp
  refine call_ret (iPoint _ _) ?_
  simp
  exact fin1 (rs := [.cell 0 54]) (by rfl) (by simp [resA, pt, mk, numB]) (by simp [noFs, noF])
theorem sNum (p : I) (H : AH) : Sound E 183 [iv p] H (.ret (iv p)) H := by
  refine sound_of_awp tabOk mixed Tryz.func183 rfl (by rfl) Tryz.ntmps183 (by kernel_rfl) (by simp) ?_
  simp
  exact fin1 (rs := [.cell 2 54]) (by rfl) (by simp [resA]) (by simp [noFs, noF])
theorem sDivide (p : I) (k : Int) (hp : vB p = true) (hk : 1 ≤ k ∧ k ≤ 1000000) (H : AH) : Sound E 189 [iv p, .int .i64 k] H (.ret (iv (mulr p 1 k))) H := by
  refine sound_of_awp tabOk mixed Tryz.func189 rfl (by rfl) Tryz.ntmps189 (by kernel_rfl) (by simp) ?_
  have w1 : IntKind.i64.wrap k = k := wrap64 (by omega) (by omega)
  simp [w1]
  refine call_ret (iMulRatio p 1 k hp (by omega) (by omega) _) ?_
  simp
  exact fin1 (rs := [.cell 4 54]) (by rfl) (by simp [resA]) (by simp [noFs, noF])
def algA : AV := .agg [fnA 183, fnA 184, fnA 175, fnA 185, fnA 174, fnA 186, fnA 187, fnA 188, fnA 189]
theorem sIntervals (H : AH) : Sound E 166 [] H (.ret algA) H := by
  refine sound_of_awp tabOk mixed Tryz.func166 rfl (by rfl) Tryz.ntmps166 (by kernel_rfl) (by simp) ?_
  simp
  exact fin1 (rs := [.cell 0 222]) (by rfl) (by simp [resA, algA, fnA]) (by simp [noFs, noF, algA, fnA])
end Go.Proofs.YtfjjckepnkkgjaaGreatDoor.Arm

namespace Go.Proofs.YtfjjckepnkkgjaaGreatDoor.Arm
open Go.Arm Go.Pl
theorem convI_zero (a b : List I) (frm k : Nat) : convI a b frm 0 k = (0, 0) := rfl
theorem convI_one (a b : List I) (frm k : Nat) : convI a b frm 1 k = mul (atN a frm) (atN b (k - frm)) := rfl
theorem convI_succ (a b : List I) (frm m k : Nat) (hm : 0 < m) : convI a b frm (m + 1) k = add (convI a b frm m k) (mul (atN a (frm + m)) (atN b (k - (frm + m)))) := by
  cases m with
  | zero => omega
  | succ m => rfl
def LCv (a b : List I) (b1 b2 frm tt k : Nat) (H : AH) (i : Nat) (fr : AFr) (H' : AH) : Prop :=
  fr 1 = .ref b1 a.length ∧ fr 2 = .ref b2 b.length ∧ fr 3 = .int .i64 frm ∧ fr 4 = .int .i64 ((tt : Int) - 1) ∧ fr 5 = .int .i64 k ∧ fr 6 = .ptr H.length 1 0 0 ∧ fr 12 = .ptr (H.length + 1) 1 0 0 ∧ fr 13 = .ptr (H.length + 2) 1 0 0 ∧ fr 14 = .int .i64 i ∧ frm ≤ i ∧ i ≤ tt ∧
  ∃ J, H' = H ++ J ∧ J[0]? = some (.row true 9 [algA]) ∧ J[1]? = some (.row true 2 [iv (0, 0)]) ∧ J[2]? = some (.row true 2 [iv (convI a b frm (i - frm) k)])
theorem sConvolve (a b : List I) (b1 b2 frm tt k : Nat) (w1 w2 : Bool) (ha : allV a) (hb : allV b) (hft : frm ≤ tt) (hta : tt ≤ a.length) (htk : tt ≤ k + 1) (hkb : tt = frm ∨ k - frm < b.length) (hk : k ≤ 1000000) (H : AH) (hb1 : H[b1]? = some (.row w1 2 (a.map iv))) (hb2 : H[b2]? = some (.row w2 2 (b.map iv))) :
    Sound E 209 [algA, .ref b1 a.length, .ref b2 b.length, .int .i64 frm, .int .i64 ((tt : Int) - 1), .int .i64 k] H (.ret (iv (convI a b frm (tt - frm) k))) H := by
  refine sound_of_awp tabOk mixed Tryz.func209 rfl (by rfl) Tryz.ntmps209 (by kernel_rfl) (by simp) ?_
  have hl1 := (List.getElem?_eq_some_iff.1 hb1).1
  have hl2 := (List.getElem?_eq_some_iff.1 hb2).1
  simp [algA, fnA]
  refine call_ret (sNum (0, 0) _) ?_
  simp
  refine loop_count (LCv a b b1 b2 frm tt k H) (fun i => tt - i) frm ⟨by simp, by simp, by simp, by simp, by simp, by simp, by simp, by simp, by simp, by omega, hft, _, rfl, by simp [algA, fnA], by simp, by simp [convI_zero]⟩ ?_
  rintro i fr H' ⟨g1, g2, g3, g4, g5, g6, g12, g13, g14, hfi, hi, J, rfl, hJ0, hJ1, hJ2⟩
  have hJl : 2 < J.length := (List.getElem?_eq_some_iff.1 hJ2).1
  simp [g4, g14]
  refine branch (fun hc => ?_) (fun hc => ?_)
  · have hlt : i < tt := by simp at hc; omega
    obtain ⟨p, hp⟩ := get_lt (l := a) (i := i) (by omega)
    obtain ⟨q, hq⟩ := get_lt (l := b) (i := k - i) (by omega)
    have hpE : ∀ h, a[i]'h = p := fun h => (List.getElem?_eq_some_iff.1 hp).2
    have hqE : ∀ h, b[k - i]'h = q := fun h => (List.getElem?_eq_some_iff.1 hq).2
    have hpv := ha p (List.mem_of_getElem? hp)
    have hqv := hb q (List.mem_of_getElem? hq)
    have wk : IntKind.i64.wrap ((k : Int) - (i : Int)) = ((k - i : Nat) : Int) := by rw [wrap64 (by omega) (by omega)]; omega
    have wi : IntKind.i64.wrap ((i : Int) + 1) = ((i + 1 : Nat) : Int) := by rw [wrap64 (by omega) (by omega)]; omega
    have hia : i < a.length := by omega
    have hkb2 : k - i < b.length := by omega
    simp [g1, g2, g3, g5, g6, g14, ↓old hJ0, hJ0, algA, fnA, hb1, hb2, get_old hb1, get_old hb2, hp, hpE, hq, hqE, wk, hia, hkb2]
    refine callD_ret0 (fun Hx => iMul p q hpv hqv Hx) ?_
    simp
    refine endD [(13, 14)] (by rfl) (by simp [okW, note, Eff.triv, Eff.wr, Eff.none, upTo, newAt]; exact ⟨fun h => by rw [h] at hJl; simp at hJl, by omega, by omega⟩) ?_
    simp [g3, g14]
    have hm : mul p q = mul (atN a i) (atN b (k - i)) := by simp [atN, hp, hq]
    have fin : ∀ (r : I) (K : AH), r = convI a b frm (i + 1 - frm) k → ∃ J2, H ++ ((J.set 2 (.row true 2 [iv r])) ++ K) = H ++ J2 ∧ J2[0]? = some (.row true 9 [algA]) ∧ J2[1]? = some (.row true 2 [iv (0, 0)]) ∧ J2[2]? = some (.row true 2 [iv (convI a b frm (i + 1 - frm) k)]) := by
      intro r K hr
      refine ⟨_, rfl, get_old ?_, get_old ?_, ?_⟩
      · rw [List.getElem?_set_ne (by omega)]; exact hJ0
      · rw [List.getElem?_set_ne (by omega)]; exact hJ1
      · rw [hr]; exact set_get' hJ2
    refine branch (fun hq2 => ?_) (fun hq2 => ?_)
    · have hgt : frm < i := by simp at hq2; omega
      have hcs : add (convI a b frm (i - frm) k) (mul p q) = convI a b frm (i + 1 - frm) k := by
        rw [show i + 1 - frm = (i - frm) + 1 by omega, convI_succ _ _ _ _ _ (by omega), show frm + (i - frm) = i by omega, hm]
      have hcv := convI_valid a b frm (i - frm) k
      simp [g6, g13, ↓old hJ0, algA, fnA, ↓old hJ2, olds hJ2]
      refine call_ret (iAdd _ _ hcv mul_valid _) ?_
      simp [g13, g14, wi, ↓old hJ2, olds hJ2]
      exact ⟨i + 1, by show tt - (i + 1) < tt - i; omega, by simp [g1], by simp [g2], by simp [g3], by simp [g4], by simp [g5], by simp [g6], by simp [g12], by simp [g13], by simp, by omega, by omega, fin _ _ hcs⟩
    · have heq : i = frm := by simp at hq2; omega
      subst heq
      have hcs : mul p q = convI a b i (i + 1 - i) k := by
        rw [show i + 1 - i = 1 by omega, convI_one, hm]
      simp [g13, g14, wi, ↓old hJ2, olds hJ2]
      exact ⟨i + 1, by show tt - (i + 1) < tt - i; omega, by simp [g1], by simp [g2], by simp [g3], by simp [g4], by simp [g5], by simp [g6], by simp [g12], by simp [g13], by simp, by omega, by omega, fin _ _ hcs⟩
  · have hi' : i = tt := by simp at hc; omega
    subst hi'
    simp [g12, g13, hJ1, hJ2]
    exact fin1 (rs := [.cell 12 54]) (by rfl) (by simp [resA, g12, set_get hJ1]) (by simp [noFs, noF])
end Go.Proofs.YtfjjckepnkkgjaaGreatDoor.Arm

namespace Go.Proofs.YtfjjckepnkkgjaaGreatDoor.Arm
open Go.Arm Go.Pl
def Own (H : AH) (v : AV) (q : List I) : Prop := (q = [] ∧ (v = .nilslice ∨ v = .slice [] true)) ∨ ∃ b w, v = .ref b q.length ∧ H[b]? = some (.row w 2 (q.map iv))
def LNq (a b q : List I) (ba bb bq : Nat) (H : AH) (i : Nat) (fr : AFr) (H' : AH) : Prop :=
  fr 0 = .ref ba a.length ∧ fr 1 = .ref bb b.length ∧ fr 2 = .ref bq q.length ∧ fr 6 = .ptr H.length 1 0 0 ∧ fr 7 = .int .i64 q.length ∧ fr 8 = .ptr (H.length + 1) 1 0 0 ∧ fr 9 = .int .i64 i ∧ 1 ≤ i ∧ i ≤ q.length + 1 ∧
  ∃ J, H' = H ++ J ∧ J[0]? = some (.row true 2 [iv (0, 0)]) ∧ J[1]? = some (.row true 2 [iv (convI b q 1 (i - 1) q.length)])
theorem sNextQuotient (a b q : List I) (ba bb : Nat) (w1 w2 : Bool) (v : AV) (ha : allV a) (hb : allV b) (hq : allV q) (hal : q.length < a.length) (hbl : q.length < b.length) (hk : q.length ≤ 1000000) (H : AH) (hba : H[ba]? = some (.row w1 2 (a.map iv))) (hbb : H[bb]? = some (.row w2 2 (b.map iv))) (hv : Own H v q) :
    Sound E 187 [.ref ba a.length, .ref bb b.length, v] H (.ret (iv (nextQ a b q))) H := by
  refine sound_of_awp tabOk mixed Tryz.func187 rfl (by rfl) Tryz.ntmps187 (by kernel_rfl) (by simp) ?_
  have hl1 := (List.getElem?_eq_some_iff.1 hba).1
  have hl2 := (List.getElem?_eq_some_iff.1 hbb).1
  obtain ⟨a0, ha0⟩ := get_lt (l := a) (i := 0) (by omega)
  obtain ⟨b0, hb0⟩ := get_lt (l := b) (i := 0) (by omega)
  have ha0E : ∀ h, a[0]'h = a0 := fun h => (List.getElem?_eq_some_iff.1 ha0).2
  have hb0E : ∀ h, b[0]'h = b0 := fun h => (List.getElem?_eq_some_iff.1 hb0).2
  have ha0v := ha a0 (List.mem_of_getElem? ha0)
  have hb0v := hb b0 (List.mem_of_getElem? hb0)
  have hap : 0 < a.length := by omega
  have hbp : 0 < b.length := by omega
  rcases hv with ⟨rfl, rfl | rfl⟩ | ⟨bq, w, rfl, hbq⟩
  · simp [hba, hbb, get_old hba, get_old hbb, ha0, ha0E, hb0, hb0E, hap, hbp]
    refine callD_ret0 (fun Hx => iDiv a0 b0 ha0v hb0v Hx) ?_
    simp
    refine endD [] (by rfl) (by simp [okW, note, Eff.triv, Eff.wr, Eff.none, upTo, newAt]; omega) ?_
    simp
    exact fin1 (rs := [.cell 6 54]) (by rfl) (by simp [resA, nextQ, atN, ha0, hb0]) (by simp [noFs, noF])
  · simp [hba, hbb, get_old hba, get_old hbb, ha0, ha0E, hb0, hb0E, hap, hbp]
    refine callD_ret0 (fun Hx => iDiv a0 b0 ha0v hb0v Hx) ?_
    simp
    refine endD [] (by rfl) (by simp [okW, note, Eff.triv, Eff.wr, Eff.none, upTo, newAt]; omega) ?_
    simp
    exact fin1 (rs := [.cell 6 54]) (by rfl) (by simp [resA, nextQ, atN, ha0, hb0]) (by simp [noFs, noF])
  by_cases hq0 : q = []
  · subst hq0
    simp [hba, hbb, get_old hba, get_old hbb, ha0, ha0E, hb0, hb0E, hap, hbp, hbq, get_old hbq]
    refine callD_ret0 (fun Hx => iDiv a0 b0 ha0v hb0v Hx) ?_
    simp
    refine endD [] (by rfl) (by simp [okW, note, Eff.triv, Eff.wr, Eff.none, upTo, newAt]; omega) ?_
    simp
    exact fin1 (rs := [.cell 6 54]) (by rfl) (by simp [resA, nextQ, atN, ha0, hb0]) (by simp [noFs, noF])
  have hql : 0 < q.length := List.length_pos_iff.2 hq0
  have hl3 := (List.getElem?_eq_some_iff.1 hbq).1
  have hne : ((q.length : Int) == 0) = false := by rw [beq_eq_false_iff_ne]; omega
  simp [hbq, get_old hbq, hne]
  refine loop_count (LNq a b q ba bb bq H) (fun i => q.length + 1 - i) 1 ⟨by simp, by simp, by simp, by simp, by simp, by simp, by simp, by omega, by omega, _, rfl, by simp, by simp [convI, sumF]⟩ ?_
  rintro i fr H' ⟨g0, g1, g2, g6, g7, g8, g9, h1i, hi, J, rfl, hJ0, hJ1⟩
  have hJl : 1 < J.length := (List.getElem?_eq_some_iff.1 hJ1).1
  simp [g7, g9]
  refine branch (fun hc => ?_) (fun hc => ?_)
  · have hlt : i ≤ q.length := by simp at hc; omega
    obtain ⟨p, hp⟩ := get_lt (l := b) (i := i) (by omega)
    obtain ⟨r, hr⟩ := get_lt (l := q) (i := q.length - i) (by omega)
    have hpE : ∀ h, b[i]'h = p := fun h => (List.getElem?_eq_some_iff.1 hp).2
    have hrE : ∀ h, q[q.length - i]'h = r := fun h => (List.getElem?_eq_some_iff.1 hr).2
    have hpv := hb p (List.mem_of_getElem? hp)
    have hrv := hq r (List.mem_of_getElem? hr)
    have wk : IntKind.i64.wrap ((q.length : Int) - (i : Int)) = ((q.length - i : Nat) : Int) := by rw [wrap64 (by omega) (by omega)]; omega
    have wi : IntKind.i64.wrap ((i : Int) + 1) = ((i + 1 : Nat) : Int) := by rw [wrap64 (by omega) (by omega)]; omega
    have hia : i < b.length := by omega
    have hkb2 : q.length - i < q.length := by omega
    simp [g0, g1, g2, g7, g9, hbb, hbq, get_old hbb, get_old hbq, hp, hpE, hr, hrE, wk, hia, hkb2]
    refine callD_ret0 (fun Hx => iMul p r hpv hrv Hx) ?_
    simp
    refine endD [(11, 12)] (by rfl) (by simp [okW, note, Eff.triv, Eff.wr, Eff.none, upTo, newAt]; omega) ?_
    simp [g9]
    have hm : mul p r = mul (atN b i) (atN q (q.length - i)) := by simp [atN, hp, hr]
    have fin : ∀ (z : I) (K : AH), z = convI b q 1 i q.length → ∃ J2, H ++ ((J.set 1 (.row true 2 [iv z])) ++ K) = H ++ J2 ∧ J2[0]? = some (.row true 2 [iv (0, 0)]) ∧ J2[1]? = some (.row true 2 [iv (convI b q 1 (i + 1 - 1) q.length)]) := by
      intro z K hz
      refine ⟨_, rfl, get_old ?_, ?_⟩
      · rw [List.getElem?_set_ne (by omega)]; exact hJ0
      · rw [hz]; exact set_get' hJ1
    refine branch (fun hq2 => ?_) (fun hq2 => ?_)
    · have hgt : 1 < i := by simp at hq2; omega
      have hcs : add (convI b q 1 (i - 1) q.length) (mul p r) = convI b q 1 i q.length := by
        have := convI_succ b q 1 (i - 1) q.length (by omega)
        rw [show i - 1 + 1 = i by omega, show 1 + (i - 1) = i by omega] at this
        rw [this, hm]
      have hcv := convI_valid b q 1 (i - 1) q.length
      simp [g8, ↓old hJ1, olds hJ1]
      refine call_ret (iAdd _ _ hcv mul_valid _) ?_
      simp [g8, g9, wi, ↓old hJ1, olds hJ1]
      exact ⟨i + 1, by show q.length + 1 - (i + 1) < q.length + 1 - i; omega, by simp [g0], by simp [g1], by simp [g2], by simp [g6], by simp [g7], by simp [g8], by simp, by omega, by omega, fin _ _ hcs⟩
    · have heq : i = 1 := by simp at hq2; omega
      subst heq
      have hcs : mul p r = convI b q 1 1 q.length := by rw [convI_one, hm]
      have wr2 : IntKind.i64.wrap 2 = 2 := wrap64 (by decide) (by decide)
      simp [g8, g9, wr2, ↓old hJ1, olds hJ1]
      exact ⟨2, by show q.length + 1 - 2 < q.length + 1 - 1; omega, by simp [g0], by simp [g1], by simp [g2], by simp [g6], by simp [g7], by simp [g8], by simp, by omega, by omega, fin _ _ hcs⟩
  · have hi' : i = q.length + 1 := by simp at hc; omega
    subst hi'
    rw [show q.length + 1 - 1 = q.length by omega] at hJ1
    obtain ⟨p, hp⟩ := get_lt hal
    have hpE : ∀ h, a[q.length]'h = p := fun h => (List.getElem?_eq_some_iff.1 hp).2
    have hpv := ha p (List.mem_of_getElem? hp)
    have hcv := convI_valid b q 1 q.length q.length
    simp [g0, g1, g6, g7, g8, hba, hbb, get_old hba, get_old hbb, hp, hpE, hb0, hb0E, hal, hbp, hJ1]
    refine callD_ret0 (fun Hx => iSub p _ hpv hcv Hx) ?_
    simp [g1, hbb, get_old hbb, hb0, hb0E, hbp]
    refine callD_ret0 (fun Hx => iDiv _ b0 (sub_valid hpv hcv) hb0v Hx) ?_
    simp [g6, hJ0]
    refine endD [] (by rfl) (by simp [okW, note, Eff.triv, Eff.wr, Eff.none, upTo, newAt]; omega) ?_
    simp [g6]
    exact fin1 (rs := [.cell 6 54]) (by rfl) (by simp [resA, g6, set_get hJ0, nextQ, hq0, atN, hp, hb0]) (by simp [noFs, noF])
end Go.Proofs.YtfjjckepnkkgjaaGreatDoor.Arm

namespace Go.Proofs.YtfjjckepnkkgjaaGreatDoor.Arm
open Go.Arm Go.Pl
end Go.Proofs.YtfjjckepnkkgjaaGreatDoor.Arm

namespace Go.Proofs.YtfjjckepnkkgjaaGreatDoor.Arm
open Go.Arm Go.Pl
end Go.Proofs.YtfjjckepnkkgjaaGreatDoor.Arm

namespace Go.Proofs.YtfjjckepnkkgjaaGreatDoor.Arm
open Go.Arm Go.Pl
theorem sNextRoot (a q : List I) (ba : Nat) (w1 : Bool) (v : AV) (ha : allV a) (hq : allV q) (hal : q.length < a.length) (hk : q.length ≤ 1000000) (H : AH) (hba : H[ba]? = some (.row w1 2 (a.map iv))) (hv : Own H v q) :
    Sound E 188 [.ref ba a.length, v] H (.ret (iv (nextR a q))) H := by
  refine sound_of_awp tabOk mixed Tryz.func188 rfl (by rfl) Tryz.ntmps188 (by kernel_rfl) (by simp) ?_
  have hl1 := (List.getElem?_eq_some_iff.1 hba).1
  obtain ⟨a0, ha0⟩ := get_lt (l := a) (i := 0) (by omega)
  have ha0E : ∀ h, a[0]'h = a0 := fun h => (List.getElem?_eq_some_iff.1 ha0).2
  have ha0v := ha a0 (List.mem_of_getElem? ha0)
  have hap : 0 < a.length := by omega
  rcases hv with ⟨rfl, rfl | rfl⟩ | ⟨bq, w, rfl, hbq⟩
  · simp [hba, get_old hba, ha0, ha0E, hap]
    refine call_ret (iSqrtA a0 ha0v _) ?_
    simp [hba, get_old hba, ha0, ha0E, hap]
    refine branch (fun hc => ?_) (fun hc => ?_)
    · have h0 : 0 ≤ a0.1 := by simpa using hc
      simp
      exact fin1 (rs := [.cell 4 54]) (by rfl) (by simp [resA, nextR, atN, ha0, rootI_nonneg ha0v h0]) (by simp [noFs, noF])
    · have h0 : a0.1 < 0 := by have : ¬ 0 ≤ a0.1 := by simpa using hc
                               omega
      simp
      refine call_ret (iEntire _) ?_
      simp
      exact fin1 (rs := [.cell 4 54]) (by rfl) (by simp [resA, nextR, atN, ha0, rootI, h0]) (by simp [noFs, noF])
  · simp [hba, get_old hba, ha0, ha0E, hap]
    refine call_ret (iSqrtA a0 ha0v _) ?_
    simp [hba, get_old hba, ha0, ha0E, hap]
    refine branch (fun hc => ?_) (fun hc => ?_)
    · have h0 : 0 ≤ a0.1 := by simpa using hc
      simp
      exact fin1 (rs := [.cell 4 54]) (by rfl) (by simp [resA, nextR, atN, ha0, rootI_nonneg ha0v h0]) (by simp [noFs, noF])
    · have h0 : a0.1 < 0 := by have : ¬ 0 ≤ a0.1 := by simpa using hc
                               omega
      simp
      refine call_ret (iEntire _) ?_
      simp
      exact fin1 (rs := [.cell 4 54]) (by rfl) (by simp [resA, nextR, atN, ha0, rootI, h0]) (by simp [noFs, noF])
  by_cases hq0 : q = []
  · subst hq0
    simp [hba, get_old hba, hbq, get_old hbq, ha0, ha0E, hap]
    refine call_ret (iSqrtA a0 ha0v _) ?_
    simp [hba, get_old hba, ha0, ha0E, hap]
    refine branch (fun hc => ?_) (fun hc => ?_)
    · have h0 : 0 ≤ a0.1 := by simpa using hc
      simp
      exact fin1 (rs := [.cell 4 54]) (by rfl) (by simp [resA, nextR, atN, ha0, rootI_nonneg ha0v h0]) (by simp [noFs, noF])
    · have h0 : a0.1 < 0 := by have : ¬ 0 ≤ a0.1 := by simpa using hc
                               omega
      simp
      refine call_ret (iEntire _) ?_
      simp
      exact fin1 (rs := [.cell 4 54]) (by rfl) (by simp [resA, nextR, atN, ha0, rootI, h0]) (by simp [noFs, noF])
  have hql : 0 < q.length := List.length_pos_iff.2 hq0
  have hl3 := (List.getElem?_eq_some_iff.1 hbq).1
  have hne : ((q.length : Int) == 0) = false := by rw [beq_eq_false_iff_ne]; omega
  have wk : IntKind.i64.wrap ((q.length : Int) - 1) = (q.length : Int) - 1 := wrap64 (by omega) (by omega)
  obtain ⟨q0, hq0'⟩ := get_lt (l := q) (i := 0) hql
  have hq0E : ∀ h, q[0]'h = q0 := fun h => (List.getElem?_eq_some_iff.1 hq0').2
  have hq0v := hq q0 (List.mem_of_getElem? hq0')
  obtain ⟨p, hp⟩ := get_lt hal
  have hpE : ∀ h, a[q.length]'h = p := fun h => (List.getElem?_eq_some_iff.1 hp).2
  have hpv := ha p (List.mem_of_getElem? hp)
  have hcv := convI_valid q q 1 (q.length - 1) q.length
  simp [hbq, get_old hbq, hne]
  refine call_ret (sIntervals _) ?_
  simp [wk]
  refine call_ret (sConvolve q q bq bq 1 q.length q.length w w hq hq (by omega) (by omega) (by omega) (by omega) (by omega) _ (get_old hbq) (get_old hbq)) ?_
  simp [hba, hbq, get_old hba, get_old hbq, hp, hpE, hal]
  refine callD_ret0 (fun Hx => iSub p _ hpv hcv Hx) ?_
  simp [hba, hbq, get_old hba, get_old hbq, hq0', hq0E, hql]
  refine callD_ret0 (fun Hx => iMulRatio q0 2 1 hq0v (by omega) (by omega) Hx) ?_
  simp
  refine callD_ret0 (fun Hx => iDiv _ _ (sub_valid hpv hcv) (mulr_valid hq0v (by decide) (by decide)) Hx) ?_
  simp
  refine endD [] (by rfl) (by simp [okW, note, Eff.triv, Eff.wr, Eff.none, upTo, newAt]; omega) ?_
  simp
  exact fin1 (rs := [.cell 4 54]) (by rfl) (by simp [resA, nextR, hq0, atN, hp, hq0']) (by simp [noFs, noF])
end Go.Proofs.YtfjjckepnkkgjaaGreatDoor.Arm

namespace Go.Proofs.YtfjjckepnkkgjaaGreatDoor.Arm
open Go.Arm Go.Pl
theorem callD_rd {g : FuncId} {args : List AV} {next : NxD} {H : AH} {r : AV} (rds : List Nat) (hb : ∀ b ∈ rds, b < H.length) (h : ∀ Hx : AH, (∀ b ∈ rds, Hx[b]? = H[b]?) → Sound E g args Hx (.ret r) Hx)
    (kk : next .go r ⟨rds, [], none, true⟩ H) : callD E (.func (.func g) [] []) args next H :=
  ⟨r, rds, [], ⟨hb, fun p hp => by simp at hp, fun Hx hx => .inl (by rw [List.nil_append, List.append_nil]; exact h Hx hx)⟩, kk⟩
def RowsAt (H : AH) (L : Nat) (cells : List AV) (l : List (List I)) : Prop := H[L]? = some (.row true 1 cells) ∧ cells.length = l.length ∧ ∀ (j : Nat) v q, cells[j]? = some v → l[j]? = some q → Own H v q
theorem RowsAt.get {H : AH} {L : Nat} {cells : List AV} {l : List (List I)} (h : RowsAt H L cells l) {j : Nat} (hj : (rowN l j).length ≠ 0) : ∃ b w, cells[j]? = some (.ref b (rowN l j).length) ∧ H[b]? = some (.row w 2 ((rowN l j).map iv)) ∧ j < l.length := by
  cases hl : l[j]? with
  | none => exfalso; apply hj; simp [rowN, hl]
  | some q =>
    have e : rowN l j = q := by simp [rowN, hl]
    have hlt := (List.getElem?_eq_some_iff.1 hl).1
    obtain ⟨v, hv⟩ := get_lt (l := cells) (i := j) (by rw [h.2.1]; exact hlt)
    rcases h.2.2 j v q hv hl with ⟨h0, _⟩ | ⟨b, w, rfl, hb⟩
    · exfalso; apply hj; rw [e, h0]; rfl
    · rw [e]; exact ⟨b, w, hv, hb, hlt⟩
def nextOk (x : Ins) (l : List (List I)) (k : Nat) : Prop :=
  (x.op = 1 ∧ vB x.c = true) ∨ x.op = 3 ∨ (4 ≤ x.op ∧ x.op ≤ 6 ∧ 0 ≤ x.a ∧ (rowN l x.a).length = k + 1) ∨ (7 ≤ x.op ∧ x.op ≤ 10 ∧ 0 ≤ x.a ∧ 0 ≤ x.b ∧ (rowN l x.a).length = k + 1 ∧ (rowN l x.b).length = k + 1)
theorem sConv0 (a b : List I) (b1 b2 k : Nat) (w1 w2 : Bool) (ha : allV a) (hb : allV b) (hal : a.length = k + 1) (hbl : b.length = k + 1) (hk : k ≤ 100000) (H : AH) (hb1 : H[b1]? = some (.row w1 2 (a.map iv))) (hb2 : H[b2]? = some (.row w2 2 (b.map iv))) :
    Sound E 209 [algA, .ref b1 (k + 1), .ref b2 (k + 1), .int .i64 0, .int .i64 k, .int .i64 k] H (.ret (iv (convI a b 0 (k + 1) k))) H := by
  have := sConvolve a b b1 b2 0 (k + 1) k w1 w2 ha hb (by omega) (by omega) (by omega) (by omega) (by omega) H hb1 hb2
  rw [hal, hbl, show ((k + 1 : Nat) : Int) - 1 = k by omega] at this
  exact this
theorem sNext (x : Ins) (L : Nat) (cells : List AV) (l : List (List I)) (own : List I) (v : AV) (t : I) (hx : nextOk x l own.length) (hL : ∀ q ∈ l, allV q) (ho : allV own) (ht : vB t = true) (hk : own.length ≤ 100000) (H : AH) (hR : RowsAt H L cells l) (hv : Own H v own) :
    Sound E 191 [algA, insA x, .ref L l.length, v, iv t] H (.ret (iv (nextC x l own t))) H := by
  refine sound_of_awp tabOk mixed Tryz.func191 rfl (by rfl) Tryz.ntmps191 (by kernel_rfl) (by simp) ?_
  have hH := hR.1
  have hcl := hR.2.1
  have hLl := (List.getElem?_eq_some_iff.1 hH).1
  have hr : ∀ i, allV (rowN l i) := by
    intro i
    unfold rowN
    cases h : l[i.toNat]? with
    | none => intro p hp; simp at hp
    | some q => exact hL q (List.mem_of_getElem? h)
  have hlen : ∀ K : AH, lenA tab (H ++ K) 26 v = some (.int .i64 own.length) := by
    intro K
    rcases hv with ⟨rfl, rfl | rfl⟩ | ⟨bq, w, rfl, hbq⟩
    · simp [lenA]
    · simp [lenA]
    · simp [lenA, get_old hbq]
  have wz : IntKind.i64.wrap 0 = 0 := wrap64 (by decide) (by decide)
  obtain ⟨o, a, b, c⟩ := x
  have hfin : ∀ (fr : AFr) (J : AH) (p : I), nextC ⟨o, a, b, c⟩ l own t = p → fr 10 = .ptr (H.length + 3) 1 0 0 → J[3]? = some (.row true 2 [iv p]) → bodyK E Tryz.f191 H (.ret (iv (nextC ⟨o, a, b, c⟩ l own t))) H .ret fr (H ++ J) := by
    intro fr J p hp h10 hJ
    rw [hp]
    exact fin1 (rs := [.cell 10 54]) (by rfl) (by simp [resA, h10, hJ]) (by simp [noFs, noF])
  rcases hx with ⟨h1, h2⟩ | h1 | ⟨h1, h2, h3, h4⟩ | ⟨h1, h2, h3, h4, h5, h6⟩
  · simp only at h1 h2
    subst h1
    by_cases k0 : own.length = 0
    · simp only [k0] at hlen
      simp [-lenA, hlen, algA, fnA, insA]
      refine call_ret (sNum c _) ?_
      simp
      exact hfin _ _ c (by simp [nextC, k0]) (by simp) (by simp)
    · have hne : ((own.length : Int) == 0) = false := by rw [beq_eq_false_iff_ne]; omega
      simp [-lenA, hlen, algA, fnA, insA, hne]
      refine call_ret (sNum (0, 0) _) ?_
      simp
      exact hfin _ _ (0, 0) (by simp [nextC, k0]) (by simp) (by simp)
  · simp only at h1
    subst h1
    by_cases k0 : own.length = 0
    · simp only [k0] at hlen
      simp [-lenA, hlen, algA, fnA, insA]
      refine call_ret (sNum t _) ?_
      simp
      exact hfin _ _ t (by simp [nextC, k0]) (by simp) (by simp)
    · by_cases k1 : own.length = 1
      · simp only [k1] at hlen
        simp [-lenA, hlen, algA, fnA, insA]
        refine call_ret (sUnit _) ?_
        simp
        refine call_ret (sNum (65536, 65536) _) ?_
        simp
        exact hfin _ _ (65536, 65536) (by simp [nextC, k1]) (by simp) (by simp)
      · have hne : ((own.length : Int) == 0) = false := by rw [beq_eq_false_iff_ne]; omega
        have hne1 : ((own.length : Int) == 1) = false := by rw [beq_eq_false_iff_ne]; omega
        simp [-lenA, hlen, algA, fnA, insA, hne, hne1]
        refine call_ret (sNum (0, 0) _) ?_
        simp
        exact hfin _ _ (0, 0) (by simp [nextC, k0, k1]) (by simp) (by simp)
  · simp only at h1 h2 h3 h4
    obtain ⟨ka, rfl⟩ : ∃ k : Nat, a = k := ⟨a.toNat, by omega⟩
    obtain ⟨bA, wA, hcA, hbA, hka⟩ := hR.get (j := ka) (by omega)
    rw [h4] at hcA
    have hcAE : ∀ h, cells[ka]'h = .ref bA (own.length + 1) := fun h => (List.getElem?_eq_some_iff.1 hcA).2
    have hAl := (List.getElem?_eq_some_iff.1 hbA).1
    have hva := hr ka
    obtain ⟨p, hp⟩ := get_lt (l := rowN l ka) (i := own.length) (by omega)
    have hpE : ∀ h, (rowN l ka)[own.length]'h = p := fun h => (List.getElem?_eq_some_iff.1 hp).2
    have hpv := hva p (List.mem_of_getElem? hp)
    have ho3 : o = 4 ∨ o = 5 ∨ o = 6 := by omega
    have hkk : (own.length : Int) < (own.length : Int) + 1 := by omega
    have hb2 : own.length < own.length + 1 := by omega
    rcases ho3 with rfl | rfl | rfl
    · simp [-lenA, hlen, algA, fnA, insA, hH, get_old hH, hcA, hcAE, hbA, get_old hbA, hp, hpE, hka, h4, hcl, hkk]
      refine callD_ret0 (fun Hx => iNeg p hpv Hx) ?_
      simp
      refine endD [] (by rfl) (by simp [okW, note, Eff.triv, Eff.wr, Eff.none, upTo, newAt]; omega) ?_
      simp
      exact hfin _ _ (neg p) (by simp [nextC, atN, hp]) (by simp) (by simp)
    · by_cases k0 : own.length = 0
      · rw [k0] at h4 hp hcA
        simp only [k0] at hpE hcAE hlen
        simp [-lenA, hlen, algA, fnA, insA, hH, get_old hH, hcA, hcAE, hbA, get_old hbA, hp, hpE, hka, h4, hcl]
        refine callD_ret0 (fun Hx => iSquare p hpv Hx) ?_
        simp
        refine endD [] (by rfl) (by simp [okW, note, Eff.triv, Eff.wr, Eff.none, upTo, newAt]; omega) ?_
        simp
        exact hfin _ _ (sq p) (by simp [nextC, atN, hp, k0]) (by simp) (by simp)
      · have hne : ((own.length : Int) == 0) = false := by rw [beq_eq_false_iff_ne]; omega
        simp [-lenA, hlen, algA, fnA, insA, hH, get_old hH, hcA, hcAE, hbA, get_old hbA, hp, hpE, hka, h4, hcl, hkk, hne]
        refine callD_rd [bA] (by simp; omega) (fun Hx hx => by
          have e : Hx[bA]? = some (.row wA 2 ((rowN l ka).map iv)) := by rw [hx bA (by simp)]; exact get_old hbA
          simpa [algA, fnA] using sConv0 _ _ bA bA own.length wA wA hva hva h4 h4 (by omega) Hx e e) ?_
        simp
        refine endD [] (by rfl) (by simp [okW, note, Eff.triv, Eff.wr, Eff.none, upTo, newAt]; omega) ?_
        simp
        exact hfin _ _ (convI (rowN l ka) (rowN l ka) 0 (own.length + 1) own.length) (by simp [nextC, k0]) (by simp) (by simp)
    · simp [-lenA, hlen, algA, fnA, insA, hH, get_old hH, hcA, hcAE, hbA, get_old hbA, hp, hpE, hka, h4, hcl, hkk]
      have hS := fun Hx e hv' => sNextRoot (rowN l ka) own bA wA v hva ho (by omega) (by omega) Hx e hv'
      rw [h4] at hS
      rcases hv with ⟨rfl, rfl | rfl⟩ | ⟨bq, w, rfl, hbq⟩
      · refine callD_rd [bA] (by simp; omega) (fun Hx hx => hS Hx (by rw [hx bA (by simp)]; exact get_old hbA) (.inl ⟨rfl, .inl rfl⟩)) ?_
        simp
        refine endD [] (by rfl) (by simp [okW, note, Eff.triv, Eff.wr, Eff.none, upTo, newAt]; omega) ?_
        simp
        exact hfin _ _ (nextR (rowN l ka) []) (by simp [nextC]) (by simp) (by simp)
      · refine callD_rd [bA] (by simp; omega) (fun Hx hx => hS Hx (by rw [hx bA (by simp)]; exact get_old hbA) (.inl ⟨rfl, .inr rfl⟩)) ?_
        simp
        refine endD [] (by rfl) (by simp [okW, note, Eff.triv, Eff.wr, Eff.none, upTo, newAt]; omega) ?_
        simp
        exact hfin _ _ (nextR (rowN l ka) []) (by simp [nextC]) (by simp) (by simp)
      · have hql := (List.getElem?_eq_some_iff.1 hbq).1
        refine callD_rd [bA, bq] (by simp; omega) (fun Hx hx => hS Hx (by rw [hx bA (by simp)]; exact get_old hbA) (.inr ⟨bq, w, rfl, by rw [hx bq (by simp)]; exact get_old hbq⟩)) ?_
        simp
        refine endD [] (by rfl) (by simp [okW, note, Eff.triv, Eff.wr, Eff.none, upTo, newAt]; omega) ?_
        simp
        exact hfin _ _ (nextR (rowN l ka) own) (by simp [nextC]) (by simp) (by simp)
  · simp only at h1 h2 h3 h4 h5 h6
    obtain ⟨ka, rfl⟩ : ∃ k : Nat, a = k := ⟨a.toNat, by omega⟩
    obtain ⟨kb, rfl⟩ : ∃ k : Nat, b = k := ⟨b.toNat, by omega⟩
    obtain ⟨bA, wA, hcA, hbA, hka⟩ := hR.get (j := ka) (by omega)
    obtain ⟨bB, wB, hcB, hbB, hkb⟩ := hR.get (j := kb) (by omega)
    rw [h5] at hcA
    rw [h6] at hcB
    have hcAE : ∀ h, cells[ka]'h = .ref bA (own.length + 1) := fun h => (List.getElem?_eq_some_iff.1 hcA).2
    have hcBE : ∀ h, cells[kb]'h = .ref bB (own.length + 1) := fun h => (List.getElem?_eq_some_iff.1 hcB).2
    have hAl := (List.getElem?_eq_some_iff.1 hbA).1
    have hBl := (List.getElem?_eq_some_iff.1 hbB).1
    have hva := hr ka
    have hvb := hr kb
    obtain ⟨p, hp⟩ := get_lt (l := rowN l ka) (i := own.length) (by omega)
    have hpE : ∀ h, (rowN l ka)[own.length]'h = p := fun h => (List.getElem?_eq_some_iff.1 hp).2
    have hpv := hva p (List.mem_of_getElem? hp)
    obtain ⟨q, hq⟩ := get_lt (l := rowN l kb) (i := own.length) (by omega)
    have hqE : ∀ h, (rowN l kb)[own.length]'h = q := fun h => (List.getElem?_eq_some_iff.1 hq).2
    have hqv := hvb q (List.mem_of_getElem? hq)
    have hkk : (own.length : Int) < (own.length : Int) + 1 := by omega
    have ho4 : o = 7 ∨ o = 8 ∨ o = 9 ∨ o = 10 := by omega
    rcases ho4 with rfl | rfl | rfl | rfl
    · simp [-lenA, hlen, algA, fnA, insA, hH, get_old hH, hcA, hcAE, hbA, get_old hbA, hp, hpE, hka, h5, hcB, hcBE, hbB, get_old hbB, hq, hqE, hkb, h6, hcl, hkk]
      refine callD_ret0 (fun Hx => iAdd p q hpv hqv Hx) ?_
      simp
      refine endD [] (by rfl) (by simp [okW, note, Eff.triv, Eff.wr, Eff.none, upTo, newAt]; omega) ?_
      simp
      exact hfin _ _ (add p q) (by simp [nextC, atN, hp, hq]) (by simp) (by simp)
    · simp [-lenA, hlen, algA, fnA, insA, hH, get_old hH, hcA, hcAE, hbA, get_old hbA, hp, hpE, hka, h5, hcB, hcBE, hbB, get_old hbB, hq, hqE, hkb, h6, hcl, hkk]
      refine callD_ret0 (fun Hx => iSub p q hpv hqv Hx) ?_
      simp
      refine endD [] (by rfl) (by simp [okW, note, Eff.triv, Eff.wr, Eff.none, upTo, newAt]; omega) ?_
      simp
      exact hfin _ _ (sub p q) (by simp [nextC, atN, hp, hq]) (by simp) (by simp)
    · simp [-lenA, hlen, algA, fnA, insA, hH, get_old hH, hcA, hcAE, hbA, get_old hbA, hp, hpE, hka, h5, hcB, hcBE, hbB, get_old hbB, hq, hqE, hkb, h6, hcl, hkk]
      refine callD_rd [bA, bB] (by simp; omega) (fun Hx hx => by
        have e1 : Hx[bA]? = some (.row wA 2 ((rowN l ka).map iv)) := by rw [hx bA (by simp)]; exact get_old hbA
        have e2 : Hx[bB]? = some (.row wB 2 ((rowN l kb).map iv)) := by rw [hx bB (by simp)]; exact get_old hbB
        simpa [algA, fnA] using sConv0 _ _ bA bB own.length wA wB hva hvb h5 h6 (by omega) Hx e1 e2) ?_
      simp
      refine endD [] (by rfl) (by simp [okW, note, Eff.triv, Eff.wr, Eff.none, upTo, newAt]; omega) ?_
      simp
      exact hfin _ _ (convI (rowN l ka) (rowN l kb) 0 (own.length + 1) own.length) (by simp [nextC]) (by simp) (by simp)
    · simp [-lenA, hlen, algA, fnA, insA, hH, get_old hH, hcA, hcAE, hbA, get_old hbA, hp, hpE, hka, h5, hcB, hcBE, hbB, get_old hbB, hq, hqE, hkb, h6, hcl, hkk]
      have hS := fun Hx e e2 hv' => sNextQuotient (rowN l ka) (rowN l kb) own bA bB wA wB v hva hvb ho (by omega) (by omega) (by omega) Hx e e2 hv'
      rw [h5, h6] at hS
      rcases hv with ⟨rfl, rfl | rfl⟩ | ⟨bq, w, rfl, hbq⟩
      · refine callD_rd [bA, bB] (by simp; omega) (fun Hx hx => hS Hx (by rw [hx bA (by simp)]; exact get_old hbA) (by rw [hx bB (by simp)]; exact get_old hbB) (.inl ⟨rfl, .inl rfl⟩)) ?_
        simp
        refine endD [] (by rfl) (by simp [okW, note, Eff.triv, Eff.wr, Eff.none, upTo, newAt]; omega) ?_
        simp
        exact hfin _ _ (nextQ (rowN l ka) (rowN l kb) []) (by simp [nextC]) (by simp) (by simp)
      · refine callD_rd [bA, bB] (by simp; omega) (fun Hx hx => hS Hx (by rw [hx bA (by simp)]; exact get_old hbA) (by rw [hx bB (by simp)]; exact get_old hbB) (.inl ⟨rfl, .inr rfl⟩)) ?_
        simp
        refine endD [] (by rfl) (by simp [okW, note, Eff.triv, Eff.wr, Eff.none, upTo, newAt]; omega) ?_
        simp
        exact hfin _ _ (nextQ (rowN l ka) (rowN l kb) []) (by simp [nextC]) (by simp) (by simp)
      · have hql := (List.getElem?_eq_some_iff.1 hbq).1
        refine callD_rd [bA, bB, bq] (by simp; omega) (fun Hx hx => hS Hx (by rw [hx bA (by simp)]; exact get_old hbA) (by rw [hx bB (by simp)]; exact get_old hbB) (.inr ⟨bq, w, rfl, by rw [hx bq (by simp)]; exact get_old hbq⟩)) ?_
        simp
        refine endD [] (by rfl) (by simp [okW, note, Eff.triv, Eff.wr, Eff.none, upTo, newAt]; omega) ?_
        simp
        exact hfin _ _ (nextQ (rowN l ka) (rowN l kb) own) (by simp [nextC]) (by simp) (by simp)
end Go.Proofs.YtfjjckepnkkgjaaGreatDoor.Arm

namespace Go.Proofs.YtfjjckepnkkgjaaGreatDoor.Arm
open Go.Arm Go.Pl
end Go.Proofs.YtfjjckepnkkgjaaGreatDoor.Arm

namespace Go.Proofs.YtfjjckepnkkgjaaGreatDoor.Arm
open Go.Arm Go.Pl
def bxs (l : List (List I)) : AV := .slice (l.map bx) false
theorem hornS_cons (a : I) (r : List I) (h : I) (hr : r ≠ []) : hornS (a :: r) h = add (mul (hornS r h) h) a := by
  cases r with
  | nil => exact absurd rfl hr
  | cons b r => rfl
theorem hornS_valid {h : I} : ∀ {s : List I}, allV s → vB (hornS s h) = true
  | [], _ => (by decide : vB (0, 0) = true)
  | [a], hs => hs a (by simp)
  | a :: b :: r, hs => by rw [hornS_cons _ _ _ (by simp)]; exact add_valid mul_valid (hs a (by simp))
theorem sEval1 (p h : I) (b : Nat) (w : Bool) (hp : vB p = true) (hh : vB h = true) (H : AH) (hb : H[b]? = some (.row w 2 [iv h])) : Sound E 173 [iv p, .ptr b 1 0 0] H (.ret (iv (mul p h))) H := by
  refine sound_of_awp tabOk mixed Tryz.func173 rfl (by rfl) Tryz.ntmps173 (by kernel_rfl) (by simp) ?_
  have hl := (List.getElem?_eq_some_iff.1 hb).1
  simp [hb, get_old hb]
  refine call_ret (iMul p h hp hh _) ?_
  simp
  exact fin1 (rs := [.cell 3 54]) (by rfl) (by simp [resA]) (by simp [noFs, noF])
theorem callD_rdc {g : FuncId} {captured args : List AV} {next : NxD} {H : AH} {r : AV} (rds : List Nat) (hb : ∀ b ∈ rds, b < H.length) (h : ∀ Hx : AH, (∀ b ∈ rds, Hx[b]? = H[b]?) → Sound E g (args ++ captured) Hx (.ret r) Hx)
    (kk : next .go r ⟨rds, [], none, true⟩ H) : callD E (.func (.func g) [] captured) args next H :=
  ⟨r, rds, [], ⟨hb, fun p hp => by simp at hp, fun Hx hx => .inl (by rw [List.nil_append]; exact h Hx hx)⟩, kk⟩
def mulF (b : Nat) : AV := .func (.func 173) [] [.ptr b 1 0 0]
def LHo (l : List (List I)) (h : I) (b : Nat) (H : AH) (i : Nat) (fr : AFr) (H' : AH) : Prop :=
  fr 1 = mulF b ∧ fr 2 = fnA 175 ∧ fr 7 = .ref H.length l.length ∧ fr 15 = bxs l ∧ fr 16 = .int .i64 l.length ∧ fr 17 = .int .i64 i ∧ i ≤ l.length ∧ ∃ J, H' = H ++ J ∧ J[0]? = some (.row true 2 (padI ((l.take i).map fun s => hornS s h) l.length))
def LHi (l : List (List I)) (s : List I) (h : I) (b : Nat) (H : AH) (i : Nat) (m : Nat) (fr : AFr) (H' : AH) : Prop :=
  fr 1 = mulF b ∧ fr 2 = fnA 175 ∧ fr 7 = .ref H.length l.length ∧ fr 15 = bxs l ∧ fr 16 = .int .i64 l.length ∧ fr 17 = .int .i64 i ∧ fr 8 = .int .i64 i ∧ fr 9 = bx s ∧ fr 11 = .int .i64 ((m : Int) - 1) ∧ m < s.length ∧
  ∃ J k, H' = H ++ J ∧ J[0]? = some (.row true 2 (padI ((l.take i).map fun s => hornS s h) l.length)) ∧ 0 < k ∧ fr 10 = .ptr (H.length + k) 1 0 0 ∧ J[k]? = some (.row true 2 [iv (hornS (s.drop m) h)])
theorem sHorner (l : List (List I)) (h : I) (b : Nat) (w : Bool) (hl : ∀ s ∈ l, allV s ∧ s ≠ [] ∧ s.length ≤ 100000) (hn : l.length ≤ 1000) (hh : vB h = true) (H : AH) (hb : H[b]? = some (.row w 2 [iv h])) :
    Sound E 172 [bxs l, mulF b, fnA 175] H (.ret (bx (evalS l h))) H := by
  refine sound_of_awp tabOk mixed Tryz.func172 rfl (by rfl) Tryz.ntmps172 (by kernel_rfl) (by simp) ?_
  have hbl := (List.getElem?_eq_some_iff.1 hb).1
  simp [bxs]
  refine bind_if (by omega) ?_
  simp
  refine loop_count (LHo l h b H) (fun i => l.length - i) 0 ⟨by simp, by simp, by simp, by simp [bxs], by simp, by simp, by omega, _, rfl, by simp [padI_nil]⟩ ?_
  rintro i fr H' ⟨g1, g2, g7, g15, g16, g17, hi, J, rfl, hJ0⟩
  have hJl : 0 < J.length := (List.getElem?_eq_some_iff.1 hJ0).1
  simp [g16, g17]
  refine branch (fun hc => ?_) (fun hc => ?_)
  · have hlt : i < l.length := by simpa using hc
    obtain ⟨s, hs⟩ := get_lt hlt
    have hsE : ∀ h, l[i]'h = s := fun h => (List.getElem?_eq_some_iff.1 hs).2
    obtain ⟨hsv, hsn, hsl⟩ := hl s (List.mem_of_getElem? hs)
    have hpos : 0 < s.length := List.length_pos_iff.2 hsn
    obtain ⟨p, hp⟩ := get_lt (l := s) (i := s.length - 1) (by omega)
    have hpE : ∀ h, s[s.length - 1]'h = p := fun h => (List.getElem?_eq_some_iff.1 hp).2
    have w1 : IntKind.i64.wrap ((s.length : Int) - 1) = ((s.length - 1 : Nat) : Int) := by rw [wrap64 (by omega) (by omega)]; omega
    have w2 : IntKind.i64.wrap ((s.length : Int) - 2) = ((s.length - 1 : Nat) : Int) - 1 := by rw [wrap64 (by omega) (by omega)]; omega
    have wi : IntKind.i64.wrap ((i : Int) + 1) = ((i + 1 : Nat) : Int) := by rw [wrap64 (by omega) (by omega)]; omega
    have hdl : hornS (s.drop (s.length - 1)) h = p := by
      have : s.drop (s.length - 1) = [p] := by
        rw [List.drop_eq_getElem_cons (by omega), hpE, show s.length - 1 + 1 = s.length by omega, List.drop_length]
      rw [this]; rfl
    simp [g15, g17, bxs, bx, hs, hsE, hp, hpE, w1, w2]
    refine loop_count (LHi l s h b H i) (fun m => m) (s.length - 1) ⟨by simp [g1], by simp [g2], by simp [g7], by simp [g15], by simp [g16], by simp [g17], by simp, by simp [bx], by simp, by omega, _, J.length, rfl, get_old hJ0, hJl, by simp, by simp [hdl]⟩ ?_
    clear hJ0 hJl g1 g2 g7 g15 g16 g17
    rintro m fr H' ⟨g1, g2, g7, g15, g16, g17, g8, g9, g11, hm, J', k, rfl, hJ0, hk0, g10, hJk⟩
    simp [g11]
    refine branch (fun hc2 => ?_) (fun hc2 => ?_)
    · have hm1 : 1 ≤ m := by simp at hc2; omega
      have g11' : fr 11 = .int .i64 ((m - 1 : Nat) : Int) := by rw [g11]; congr 1; omega
      obtain ⟨a, ha⟩ := get_lt (l := s) (i := m - 1) (by omega)
      have haE : ∀ h, s[m - 1]'h = a := fun h => (List.getElem?_eq_some_iff.1 ha).2
      have hav := hsv a (List.mem_of_getElem? ha)
      have hdv : vB (hornS (s.drop m) h) = true := hornS_valid fun p hp => hsv p (List.mem_of_mem_drop hp)
      have hstep : add (mul (hornS (s.drop m) h) h) a = hornS (s.drop (m - 1)) h := by
        have : s.drop (m - 1) = a :: s.drop m := by
          rw [List.drop_eq_getElem_cons (by omega), haE, show m - 1 + 1 = m by omega]
        rw [this, hornS_cons]
        intro h0
        have := congrArg List.length h0
        simp at this; omega
      have hkl := (List.getElem?_eq_some_iff.1 hJk).1
      have hml : m - 1 < s.length := by omega
      have wm : IntKind.i64.wrap (((m - 1 : Nat) : Int) - 1) = ((m - 1 : Nat) : Int) - 1 := wrap64 (by omega) (by omega)
      simp [g1, g2, g9, g10, g11', mulF, fnA, hJk, ha, haE, bx]
      refine callD_rdc [b] (by simp; omega) (fun Hx hx => sEval1 _ h b w hdv hh Hx (by rw [hx b (by simp)]; exact get_old hb)) ?_
      simp [g2, g9, g11', fnA, bx, ha, haE]
      refine callD_ret0 (fun Hx => iAdd _ a mul_valid hav Hx) ?_
      simp [g10, hJk]
      refine endD [(2, 9)] (by rfl) (by simp [okW, note, Eff.triv, Eff.wr, Eff.none, upTo, newAt]; omega) ?_
      simp [g11', wm]
      refine ⟨m - 1, by show m - 1 < m; omega, by simp [g1, mulF], by simp [g2, fnA], by simp [g7], by simp [g15], by simp [g16], by simp [g17], by simp [g8], by simp [g9, bx], by simp, by omega, _, k, rfl, ?_, hk0, by simp [g10], ?_⟩
      · rw [List.getElem?_set_ne (by omega)]; exact hJ0
      · rw [← hstep]; exact set_get hJk
    · have hm0 : m = 0 := by simp at hc2; omega
      subst hm0
      have hW0 : (padI ((l.take i).map fun s => hornS s h) l.length)[i]? = some (iv (0, 0)) := padI_zero (by simp <;> omega) hlt
      have hW0E : ∀ h', (padI ((l.take i).map fun s => hornS s h) l.length)[i]'h' = iv (0, 0) := fun h' => (List.getElem?_eq_some_iff.1 hW0).2
      have hWl : (padI ((l.take i).map fun s => hornS s h) l.length).length = l.length := padI_len (by simp <;> omega)
      have hWset : (padI ((l.take i).map fun s => hornS s h) l.length).set i (iv (hornS s h)) = padI ((l.take (i + 1)).map fun s => hornS s h) l.length := by
        have := padI_set (l := (l.take i).map fun s => hornS s h) (n := l.length) (p := hornS s h) (by simp <;> omega)
        rw [show ((l.take i).map fun s => hornS s h).length = i by (simp <;> omega)] at this
        rw [this, List.take_add_one, hs]
        simp
      generalize padI ((l.take i).map fun s => hornS s h) l.length = W at *
      have hJl2 := (List.getElem?_eq_some_iff.1 hJ0).1
      rw [List.drop_zero] at hJk
      simp [g7, g8, g10, g17, hJ0, hJk, hWl, hlt, hW0, hW0E, wi]
      refine ⟨i + 1, by show l.length - (i + 1) < l.length - i; omega, by simp [g1], by simp [g2], by simp [g7], by simp [g15], by simp [g16], by simp, by omega, _, rfl, ?_⟩
      rw [← hWset]; exact set_get hJ0
  · have hi' : i = l.length := by have : ¬ i < l.length := by simpa using hc
                                  omega
    subst hi'
    rw [List.take_length, padI_all (by simp)] at hJ0
    simp
    exact finS (t := 6) (v := .ref (H.length + 0) l.length) (v0 := .nilslice) (sz := 2) (xs := (evalS l h).map iv) (by rfl) (by simp [g7]) (.inr ⟨0, by simp [evalS], hJ0⟩) rfl (iv_noFs _ _)
end Go.Proofs.YtfjjckepnkkgjaaGreatDoor.Arm

namespace Go.Proofs.YtfjjckepnkkgjaaGreatDoor.Arm
open Go.Arm Go.Pl
theorem sEval (l : List (List I)) (h : I) (hl : ∀ s ∈ l, allV s ∧ s ≠ [] ∧ s.length ≤ 100000) (hn : l.length ≤ 1000) (hh : vB h = true) (H : AH) : Sound E 146 [bxs l, iv h] H (.ret (bx (evalS l h))) H := by
  refine sound_of_awp tabOk mixed Tryz.func146 rfl (by rfl) Tryz.ntmps146 (by kernel_rfl) (by simp) ?_
  simp
  refine call_ret (sHorner l h H.length true hl hn hh _ (by simp)) ?_
  simp
  exact fin1 (rs := [.tmp 4]) (by rfl) (by simp [resA]) (by simp only [bx, noF, iv_noFs])
end Go.Proofs.YtfjjckepnkkgjaaGreatDoor.Arm

namespace Go.Pl
structure Ct where
  order : Int
  first : Int
  least : Int
  most : Int
  wide : Int
  deriving DecidableEq
def validC (c : Ct) : Bool := decide (1 ≤ c.order ∧ c.order < 8 ∧ 1 ≤ c.least ∧ c.least ≤ c.first ∧ c.first ≤ c.most ∧ c.most < 2147483648 ∧ 1 ≤ c.wide ∧ c.wide < 2147483648)
def shrinkS (c : Ct) (h : Int) : Int × Int := if h.tdiv 2 < c.least then (0, 130) else (h.tdiv 2, 0)
def growS (c : Ct) (h : Int) : Int := min (2 * h) c.most
def initS (c : Ct) (left : Int) : Int := min c.first left
structure Rq where
  ctrl : Ct
  t : Int
  last : Int
  h : Int
end Go.Pl

namespace Go.Pl
def boundedB (b : List I) : Bool := b.all fun p => !entB p
def narrowB (w : Int) (b : List I) : Bool := b.all fun p => decide (p.2 - p.1 ≤ w)
def subI (a b : List I) : Bool := (List.range a.length).all fun i => subB (atN a i) (atN b i)
structure Sg where
  t : Int
  h : Int
  frm : List I
  pre : List I
  tube : List I
  to : List I
def hullB (a b : List I) : List I := (List.range a.length).map fun i => hull (atN a i) (atN b i)
def inflI (p : I) : I := mk (p.1 - ((p.2 - p.1) / 16 + 1)) (p.2 + ((p.2 - p.1) / 16 + 1))
def inflB (a : List I) : List I := (List.range a.length).map fun i => inflI (atN a i)
theorem inflI_valid {p : I} (h : vB p = true) : vB (inflI p) = true := by
  have := vB_bounds h
  exact mk_valid (by omega)
def restrI (p q : I) : I := if interB p q then meet p q else q
theorem restrI_valid {p q : I} (hp : vB p = true) (hq : vB q = true) : vB (restrI p q) = true := by
  unfold restrI
  split
  · rename_i h
    have h1 := vB_bounds hp
    have h2 := vB_bounds hq
    simp only [interB, decide_eq_true_eq] at h
    by_cases e1 : p = ent
    · have e : meet p q = q := by subst e1; exact Prod.ext (by show max (-2147483648) q.1 = q.1; omega) (by show min 2147483648 q.2 = q.2; omega)
      rw [e]; exact hq
    · by_cases e2 : q = ent
      · have e : meet p q = p := by subst e2; exact Prod.ext (by show max p.1 (-2147483648) = p.1; omega) (by show min p.2 2147483648 = p.2; omega)
        rw [e]; exact hp
      · have a1 : entB p = false := by cases hh : entB p with
          | false => rfl
          | true => exact absurd (entB_iff.1 hh) e1
        have a2 : entB q = false := by cases hh : entB q with
          | false => rfl
          | true => exact absurd (entB_iff.1 hh) e2
        have b1 := entB_false hp a1
        have b2 := entB_false hq a2
        exact vB_pair (by omega) h (by omega)
  · exact hq
def restrB (a b : List I) : List I := (List.range a.length).map fun i => restrI (atN a i) (atN b i)
def imgI (h : Int) (p q : I) : I := add p (mul (mk 0 h) q)
def imageB (T : Tp) (x b : List I) (t h : Int) : List I := (List.range x.length).map fun i => imgI h (atN x i) (atN (evalT T b (mk t (t + h))) i)
theorem imgI_valid {h : Int} {p q : I} (hp : vB p = true) : vB (imgI h p q) = true := add_valid hp mul_valid
theorem rangeV {n : Nat} {f : Nat → I} (h : ∀ i, vB (f i) = true) : allV ((List.range n).map f) := fun p hp => by
  obtain ⟨k, _, rfl⟩ := List.mem_map.1 hp; exact h k
theorem imageB_valid {T : Tp} {x b : List I} {t h : Int} (hx : allV x) : allV (imageB T x b t h) := rangeV fun i => imgI_valid (atN_valid hx i)
theorem imageB_len {T : Tp} {x b : List I} {t h : Int} : (imageB T x b t h).length = x.length := by simp [imageB]
theorem inflB_valid {b : List I} (h : allV b) : allV (inflB b) := rangeV fun i => inflI_valid (atN_valid h i)
theorem inflB_len (b : List I) : (inflB b).length = b.length := by simp [inflB]
theorem hull_valid {p q : I} (hp : vB p = true) (hq : vB q = true) : vB (hull p q) = true := by
  have h1 := vB_bounds hp
  have h2 := vB_bounds hq
  cases a1 : entB p with
  | true =>
    rw [entB_iff] at a1; subst a1
    have e : hull ent q = ent := Prod.ext (by show min (-2147483648) q.1 = -2147483648; omega) (by show max 2147483648 q.2 = 2147483648; omega)
    rw [e]; exact ent_valid
  | false =>
    cases a2 : entB q with
    | true =>
      rw [entB_iff] at a2; subst a2
      have e : hull p ent = ent := Prod.ext (by show min p.1 (-2147483648) = -2147483648; omega) (by show max p.2 2147483648 = 2147483648; omega)
      rw [e]; exact ent_valid
    | false =>
      have b1 := entB_false hp a1
      have b2 := entB_false hq a2
      exact vB_pair (by omega) (by omega) (by omega)
theorem hullB_valid {a b : List I} (ha : allV a) (hb : allV b) : allV (hullB a b) := rangeV fun i => hull_valid (atN_valid ha i) (atN_valid hb i)
theorem hullB_len (a b : List I) : (hullB a b).length = a.length := by simp [hullB]
def encS (T : Tp) (x : List I) (t h : Int) : Nat → List I → Option (List I)
  | 0, _ => none
  | k + 1, b =>
    if boundedB b = false then none
    else if boundedB (inflB b) = false then none
    else if boundedB (imageB T x (inflB b) t h) = false then none
    else if subI (imageB T x (inflB b) t h) (inflB b) = true then some (imageB T x (inflB b) t h)
    else encS T x t h k (hullB (inflB b) (imageB T x (inflB b) t h))
def enclS (T : Tp) (x : List I) (t h : Int) : Option (List I) := encS T x t h 8 (hullB x (imageB T x x t h))
def validB (b : List I) : Bool := b.all vB && decide (1 ≤ b.length ∧ b.length ≤ 6)
def candP (T : Tp) (x : List I) (t h : Int) : Nat → List I → List (List I × List I)
  | 0, _ => []
  | k + 1, b =>
    if boundedB b = false then []
    else if boundedB (inflB b) = false then []
    else if boundedB (imageB T x (inflB b) t h) = false then []
    else (inflB b, imageB T x (inflB b) t h) :: candP T x t h k (hullB (inflB b) (imageB T x (inflB b) t h))
def hitP (p : List I × List I) : Option (List I) := if subI p.2 p.1 = true then some p.2 else none
theorem encS_cand (T : Tp) (x : List I) (t h : Int) : ∀ (n : Nat) (b : List I), encS T x t h n b = (candP T x t h n b).findSome? hitP
  | 0, _ => rfl
  | n + 1, b => by
    simp only [encS, candP]
    split
    · rfl
    split
    · rfl
    split
    · rfl
    rw [List.findSome?_cons]
    simp only [hitP]
    split
    · rfl
    · exact encS_cand T x t h n _
theorem candP_ok {T : Tp} {x : List I} {t h : Int} (hx : allV x) : ∀ (n : Nat) (b : List I), allV b → b.length = x.length → ∀ p ∈ candP T x t h n b, allV p.1 ∧ p.1.length = x.length ∧ allV p.2 ∧ p.2.length = x.length
  | 0, _, _, _, p, hp => by simp [candP] at hp
  | n + 1, b, hb, hl, p, hp => by
    simp only [candP] at hp
    split at hp
    · cases hp
    split at hp
    · cases hp
    split at hp
    · cases hp
    have h1 := inflB_valid hb
    have h2 : (inflB b).length = x.length := by rw [inflB_len, hl]
    rcases List.mem_cons.1 hp with rfl | hp
    · exact ⟨h1, h2, imageB_valid hx, imageB_len⟩
    · exact candP_ok hx n _ (hullB_valid h1 (imageB_valid hx)) (by rw [hullB_len, h2]) p hp
theorem rowN_get {l : List (List I)} {j : Nat} {q : List I} (h : l[j]? = some q) : rowN l j = q := by simp [rowN, h]
theorem rowN_set_self {l : List (List I)} {j : Nat} {q : List I} (h : j < l.length) : rowN (l.set j q) j = q := by simp [rowN, h]
theorem rowN_set_ne {l : List (List I)} {j k : Nat} {q : List I} (h : j ≠ k) : rowN (l.set j q) k = rowN l k := by simp [rowN, List.getElem?_set_ne h]
theorem rowN_valid {l : List (List I)} (h : ∀ q ∈ l, allV q) (j : Int) : allV (rowN l j) := by
  unfold rowN
  cases hl : l[j.toNat]? with
  | none => intro p hp; simp at hp
  | some q => exact h q (List.mem_of_getElem? hl)
theorem vite {c : Prop} [Decidable c] {p q : I} (hp : c → vB p = true) (hq : vB q = true) : vB (if c then p else q) = true := by
  split
  · exact hp ‹_›
  · exact hq
theorem nextC_valid {x : Ins} {l : List (List I)} {own : List I} {t : I} (hc : x.op = 1 → vB x.c = true) (hl : ∀ q ∈ l, allV q) (ho : allV own) (ht : vB t = true) : vB (nextC x l own t) = true := by
  have h0 : vB (0, 0) = true := vB_pair (by omega) (by omega) (by omega)
  have h1 : vB (65536, 65536) = true := vB_pair (by omega) (by omega) (by omega)
  have hr : ∀ j, allV (rowN l j) := fun j => rowN_valid hl j
  exact vite (fun _ => neg_valid (atN_valid (hr _) _)) (vite (fun _ => add_valid (atN_valid (hr _) _) (atN_valid (hr _) _)) (vite (fun _ => sub_valid (atN_valid (hr _) _) (atN_valid (hr _) _)) (vite (fun _ => convI_valid _ _ _ _ _)
    (vite (fun _ => vite (fun _ => sq_valid (atN_valid (hr _) _)) (convI_valid _ _ _ _ _)) (vite (fun _ => nextQ_valid (hr _) (hr _) _) (vite (fun _ => nextR_valid (hr _) ho) (vite (fun h => vite (fun _ => hc h) h0) (vite (fun _ => vite (fun _ => ht) (vite (fun _ => h1) h0)) h0))))))))
structure rowsOk (m k i : Nat) (l : List (List I)) : Prop where
  len : l.length = m
  row : ∀ j, j < m → (rowN l j).length = if j < i then k + 1 else k
  val : ∀ q ∈ l, allV q
theorem set_valid {l : List (List I)} {j : Nat} {q : List I} (h : ∀ q ∈ l, allV q) (hq : allV q) : ∀ p ∈ l.set j q, allV p := fun p hp => by
  rcases List.mem_or_eq_of_mem_set hp with hp | rfl
  · exact h p hp
  · exact hq
theorem rowsOk.push {m k i : Nat} {l : List (List I)} (h : rowsOk m k i l) (hi : i < m) {p : I} (hp : vB p = true) : rowsOk m k (i + 1) (l.set i (rowN l i ++ [p])) := by
  refine ⟨by simp [h.len], fun j hj => ?_, set_valid h.val (allV_snoc (rowN_valid h.val i) hp)⟩
  by_cases hji : i = j
  · subst hji
    rw [rowN_set_self (by rw [h.len]; exact hi)]
    have := h.row i hi
    rw [if_neg (by omega)] at this
    simp [this]
  · rw [rowN_set_ne hji, h.row j hj]
    by_cases h1 : j < i
    · rw [if_pos h1, if_pos (by omega)]
    · rw [if_neg h1, if_neg (by omega)]
theorem rowsOk.next {m k : Nat} {l : List (List I)} (h : rowsOk m k m l) : rowsOk m (k + 1) 0 l := ⟨h.len, fun j hj => by rw [h.row j hj, if_pos hj, if_neg (by omega)], h.val⟩
def coefV (x : Ins) (out l : List (List I)) (t : I) (k i : Nat) : I := if x.op = 2 then atN (rowN out x.a) k else nextC x l (rowN l i) t
theorem stepL_succ {L : List Ins} {out l : List (List I)} {t : I} {k i : Nat} {x : Ins} (hx : L[i]? = some x) :
    stepL L out t k l (i + 1) = (stepL L out t k l i).set i (rowN (stepL L out t k l i) i ++ [coefV x out (stepL L out t k l i) t k i]) := by
  simp only [stepL, hx, coefV]
theorem stepO_succ {T : Tp} {l out : List (List I)} {k i o : Nat} (ho : T.out[i]? = some o) :
    stepO T l k out (i + 1) = (stepO T l k out i).set i (rowN (stepO T l k out i) i ++ [mulr (atN (rowN l (o : Int)) k) 1 (k + 1)]) := by
  simp only [stepO, ho]
section
variable {T : Tp} {x : List I} {t : I} (hT : tpOk T) (hx : allV x) (ht : vB t = true)
include hT ht in
theorem stepL_ok {out l : List (List I)} {k : Nat} (hl : rowsOk T.L.length k 0 l) (ho : ∀ q ∈ out, allV q) : ∀ i, i ≤ T.L.length → rowsOk T.L.length k i (stepL T.L out t k l i)
  | 0, _ => hl
  | i + 1, hi => by
    have ih := stepL_ok hl ho i (by omega)
    have hlt : i < T.L.length := by omega
    rw [stepL_succ (List.getElem?_eq_getElem hlt)]
    refine ih.push hlt ?_
    unfold coefV
    split
    · exact atN_valid (rowN_valid ho _) _
    · exact nextC_valid (hT.num _ (List.getElem_mem hlt)) ih.val (rowN_valid ih.val _) ht
include hT in
theorem stepO_ok {l out : List (List I)} {k : Nat} (hl : ∀ q ∈ l, allV q) (ho : rowsOk T.n (k + 1) 0 out) : ∀ i, i ≤ T.n → rowsOk T.n (k + 1) i (stepO T l k out i)
  | 0, _ => ho
  | i + 1, hi => by
    have ih := stepO_ok hl ho i (by omega)
    have hlt : i < T.out.length := by rw [hT.len]; omega
    rw [stepO_succ (List.getElem?_eq_getElem hlt)]
    exact ih.push (by omega) (mulr_valid (atN_valid (rowN_valid hl _) _) (by decide) (by omega))
include hT hx ht in
theorem expS_ok : ∀ k, rowsOk T.L.length k 0 (expS T x t k).1 ∧ rowsOk T.n (k + 1) 0 (expS T x t k).2
  | 0 => by
    refine ⟨⟨by simp [expS], fun j hj => by rw [if_neg (by omega)]; simp [expS, rowN, hj], fun q hq => ?_⟩, ⟨by simp [expS], fun j hj => by rw [if_neg (by omega)]; simp [expS, rowN, hj], fun q hq => ?_⟩⟩
    · have : q = [] := by simp only [expS] at hq; exact List.eq_of_mem_replicate hq
      subst this; intro p hp; simp at hp
    · simp only [expS, List.mem_map, List.mem_range] at hq
      obtain ⟨j, _, rfl⟩ := hq
      intro p hp
      simp at hp; subst hp
      exact atN_valid hx j
  | k + 1 => by
    obtain ⟨h1, h2⟩ := expS_ok k
    have h3 := stepL_ok hT ht h1 h2.val T.L.length (Nat.le_refl _)
    have h4 := stepO_ok hT h3.val h2 T.n (Nat.le_refl _)
    simp only [expS]
    rw [hT.len]
    exact ⟨h3.next, h4.next⟩
end
def remS (T : Tp) (b : List I) (t h : Int) (order : Nat) : List I := (coefS T b (t, t + h) (order + 1)).map fun s => atN s (order + 1)
def withRem (l : List (List I)) (r : List I) : List (List I) := (List.range l.length).map fun i : Nat => rowN l (i : Int) ++ [atN r i]
def enclAt (T : Tp) (x b : List I) (t h : Int) (part : I) (order : Nat) : List I := restrB (evalS (withRem (coefS T x (t, t) order) (remS T b t h order)) part) b
def istepS (T : Tp) (x : List I) (t h : Int) (order : Nat) : Option Sg := match enclS T x t h with
  | none => none
  | some b => if boundedB (enclAt T x b t h (0, h) order) && boundedB (enclAt T x b t h (h, h) order) then some ⟨t, h, x, b, enclAt T x b t h (0, h) order, enclAt T x b t h (h, h) order⟩ else none
def candS (c : Ct) : Nat → Int → List Int
  | 0, _ => []
  | n + 1, h => h :: if h.tdiv 2 < c.least then [] else candS c n (h.tdiv 2)
def cands (c : Ct) (h : Int) : List Int := candS c (h.toNat + 1) h
def accS (T : Tp) (x : List I) (c : Ct) (t h : Int) : Option Sg := match istepS T x t h c.order.toNat with
  | some s => if narrowB c.wide s.to && narrowB c.wide s.tube then some s else none
  | none => none
def firstH (w : Rq) : Int := min w.h (w.last - w.t)
def advS (T : Tp) (x : List I) (w : Rq) : Option Sg := (cands w.ctrl (firstH w)).findSome? (accS T x w.ctrl w.t)
end Go.Pl

namespace Go.Proofs.YtfjjckepnkkgjaaGreatDoor.Arm
open Go.Arm Go.Pl
def ctA (c : Ct) : AV := .agg [.int .i64 c.order, .int .i64 c.first, .int .i64 c.least, .int .i64 c.most, .int .i64 c.wide]
def shA (p : Int × Int) : AV := .tuple [.int .i64 p.1, .int .i64 p.2]
theorem cValid (c : Ct) (H : AH) : Sound E 51 [ctA c] H (.ret (.bool (validC c))) H := by
  refine sound_of_awp tabOk mixed Tryz.func51 rfl (by rfl) Tryz.ntmps51 (by kernel_rfl) (by simp) ?_
  by_cases a1 : 1 ≤ c.least
  · by_cases a2 : c.least ≤ c.first
    · by_cases a3 : c.first ≤ c.most
      · by_cases a4 : c.most < 2147483648
        · by_cases b1 : 1 ≤ c.order
          · by_cases b2 : c.order < 8
            · by_cases b3 : 1 ≤ c.wide
              · by_cases b4 : c.wide < 2147483648
                · simp [ctA, a1, a2, a3, a4, b1, b2, b3, b4]
                  exact fin1 (rs := [.tmp 2]) (by rfl) (by simp [resA, validC, a1, a2, a3, a4, b1, b2, b3, b4]) (by simp [noFs, noF])
                · simp [ctA, a1, a2, a3, a4, b1, b2, b3, b4]
                  exact fin1 (rs := [.tmp 2]) (by rfl) (by simp [resA, validC, a1, a2, a3, a4, b1, b2, b3, b4]) (by simp [noFs, noF])
              · simp [ctA, a1, a2, a3, a4, b1, b2, b3]
                exact fin1 (rs := [.tmp 2]) (by rfl) (by simp [resA, validC, a1, a2, a3, a4, b1, b2, b3]) (by simp [noFs, noF])
            · simp [ctA, a1, a2, a3, a4, b1, b2]
              exact fin1 (rs := [.tmp 2]) (by rfl) (by simp [resA, validC, a1, a2, a3, a4, b1, b2]) (by simp [noFs, noF])
          · simp [ctA, a1, a2, a3, a4, b1]
            exact fin1 (rs := [.tmp 2]) (by rfl) (by simp [resA, validC, a1, a2, a3, a4, b1]) (by simp [noFs, noF])
        · by_cases b1 : 1 ≤ c.order
          · by_cases b2 : c.order < 8
            · simp [ctA, a1, a2, a3, a4, b1, b2]
              exact fin1 (rs := [.tmp 2]) (by rfl) (by simp [resA, validC, a1, a2, a3, a4, b1, b2]) (by simp [noFs, noF])
            · simp [ctA, a1, a2, a3, a4, b1, b2]
              exact fin1 (rs := [.tmp 2]) (by rfl) (by simp [resA, validC, a1, a2, a3, a4, b1, b2]) (by simp [noFs, noF])
          · simp [ctA, a1, a2, a3, a4, b1]
            exact fin1 (rs := [.tmp 2]) (by rfl) (by simp [resA, validC, a1, a2, a3, a4, b1]) (by simp [noFs, noF])
      · by_cases b1 : 1 ≤ c.order
        · by_cases b2 : c.order < 8
          · simp [ctA, a1, a2, a3, b1, b2]
            exact fin1 (rs := [.tmp 2]) (by rfl) (by simp [resA, validC, a1, a2, a3, b1, b2]) (by simp [noFs, noF])
          · simp [ctA, a1, a2, a3, b1, b2]
            exact fin1 (rs := [.tmp 2]) (by rfl) (by simp [resA, validC, a1, a2, a3, b1, b2]) (by simp [noFs, noF])
        · simp [ctA, a1, a2, a3, b1]
          exact fin1 (rs := [.tmp 2]) (by rfl) (by simp [resA, validC, a1, a2, a3, b1]) (by simp [noFs, noF])
    · by_cases b1 : 1 ≤ c.order
      · by_cases b2 : c.order < 8
        · simp [ctA, a1, a2, b1, b2]
          exact fin1 (rs := [.tmp 2]) (by rfl) (by simp [resA, validC, a1, a2, b1, b2]) (by simp [noFs, noF])
        · simp [ctA, a1, a2, b1, b2]
          exact fin1 (rs := [.tmp 2]) (by rfl) (by simp [resA, validC, a1, a2, b1, b2]) (by simp [noFs, noF])
      · simp [ctA, a1, a2, b1]
        exact fin1 (rs := [.tmp 2]) (by rfl) (by simp [resA, validC, a1, a2, b1]) (by simp [noFs, noF])
  · by_cases b1 : 1 ≤ c.order
    · by_cases b2 : c.order < 8
      · simp [ctA, a1, b1, b2]
        exact fin1 (rs := [.tmp 2]) (by rfl) (by simp [resA, validC, a1, b1, b2]) (by simp [noFs, noF])
      · simp [ctA, a1, b1, b2]
        exact fin1 (rs := [.tmp 2]) (by rfl) (by simp [resA, validC, a1, b1, b2]) (by simp [noFs, noF])
    · simp [ctA, a1, b1]
      exact fin1 (rs := [.tmp 2]) (by rfl) (by simp [resA, validC, a1, b1]) (by simp [noFs, noF])
theorem cShrink (c : Ct) (h : Int) (hh : 0 ≤ h ∧ h ≤ 1000000000000) (H : AH) : Sound E 116 [ctA c, .int .i64 h] H (.ret (shA (shrinkS c h))) H := by
  refine sound_of_awp tabOk mixed Tryz.func116 rfl (by rfl) Tryz.ntmps116 (by kernel_rfl) (by simp) ?_
  have wt : h.tdiv 2 = h / 2 := Int.tdiv_eq_ediv_of_nonneg hh.1
  have w1 : IntKind.i64.wrap (h / 2) = h / 2 := wrap64 (by omega) (by omega)
  simp [ctA, wt, w1]
  refine branch (fun hc => ?_) (fun hc => ?_)
  · have h0 : h / 2 < c.least := by simpa using hc
    simp
    exact finC (rs := [.tmp 4, .tmp 5]) (vs := [.int .i64 0, .int .i64 130]) (vs' := [.int .i64 0, .int .i64 130]) (by rfl) (by simp [resA]) (by simp; rfl) (by simp [noFs, noF]) (by simp [shA, shrinkS, wt, h0, one])
  · have h0 : ¬ h / 2 < c.least := by simpa using hc
    simp [wt, w1]
    exact finC (rs := [.tmp 4, .tmp 5]) (vs := [.int .i64 (h / 2), .int .i64 0]) (vs' := [.int .i64 (h / 2), .int .i64 0]) (by rfl) (by simp [resA]) (by simp; rfl) (by simp [noFs, noF]) (by simp [shA, shrinkS, wt, h0, one])
theorem cGrow (c : Ct) (h : Int) (hh : 0 ≤ h ∧ h ≤ 1000000000000) (H : AH) : Sound E 94 [ctA c, .int .i64 h] H (.ret (.int .i64 (growS c h))) H := by
  refine sound_of_awp tabOk mixed Tryz.func94 rfl (by rfl) Tryz.ntmps94 (by kernel_rfl) (by simp) ?_
  have w1 : IntKind.i64.wrap (2 * h) = 2 * h := wrap64 (by omega) (by omega)
  simp [ctA, w1, ite_min]
  exact fin1 (rs := [.tmp 4]) (by rfl) (by simp [resA, growS]) (by simp [noFs, noF])
theorem cInitial (c : Ct) (h : Int) (H : AH) : Sound E 53 [ctA c, .int .i64 h] H (.ret (.int .i64 (initS c h))) H := by
  refine sound_of_awp tabOk mixed Tryz.func53 rfl (by rfl) Tryz.ntmps53 (by kernel_rfl) (by simp) ?_
  simp [ctA, ite_min]
  exact fin1 (rs := [.tmp 4]) (by rfl) (by simp [resA, initS]) (by simp [noFs, noF])
end Go.Proofs.YtfjjckepnkkgjaaGreatDoor.Arm

namespace Go.Proofs.YtfjjckepnkkgjaaGreatDoor.Arm
open Go.Arm Go.Pl
def rqA (w : Rq) : AV := .agg [.int .i64 w.ctrl.order, .int .i64 w.ctrl.first, .int .i64 w.ctrl.least, .int .i64 w.ctrl.most, .int .i64 w.ctrl.wide, .int .i64 w.t, .int .i64 w.last, .int .i64 w.h]
end Go.Proofs.YtfjjckepnkkgjaaGreatDoor.Arm

namespace Go.Proofs.YtfjjckepnkkgjaaGreatDoor.Arm
open Go.Arm Go.Pl
def okTo (P : I → Bool) (b : List I) (i : Nat) : Prop := ∀ j p, j < i → b[j]? = some p → P p = true
theorem okTo_zero (P : I → Bool) (b : List I) : okTo P b 0 := fun j p hj => by omega
theorem okTo_succ {P : I → Bool} {b : List I} {i : Nat} {p : I} (h : okTo P b i) (hp : b[i]? = some p) (hP : P p = true) : okTo P b (i + 1) := by
  intro j q hj hq
  by_cases hji : j = i
  · subst hji; rw [hp] at hq; cases hq; exact hP
  · exact h j q (by omega) hq
end Go.Proofs.YtfjjckepnkkgjaaGreatDoor.Arm

namespace Go.Proofs.YtfjjckepnkkgjaaGreatDoor.Arm
open Go.Arm Go.Pl
def sgA (s : Sg) : AV := .agg [.int .i64 s.t, .int .i64 s.h, bx s.frm, bx s.pre, bx s.tube, bx s.to]
end Go.Proofs.YtfjjckepnkkgjaaGreatDoor.Arm

namespace Go.Proofs.YtfjjckepnkkgjaaGreatDoor.Arm
open Go.Arm Go.Pl
end Go.Proofs.YtfjjckepnkkgjaaGreatDoor.Arm

namespace Go.Proofs.YtfjjckepnkkgjaaGreatDoor.Arm
open Go.Arm Go.Pl
end Go.Proofs.YtfjjckepnkkgjaaGreatDoor.Arm

namespace Go.Proofs.YtfjjckepnkkgjaaGreatDoor.Arm
open Go.Arm Go.Pl
end Go.Proofs.YtfjjckepnkkgjaaGreatDoor.Arm

namespace Go.Proofs.YtfjjckepnkkgjaaGreatDoor.Arm
open Go.Arm Go.Pl
end Go.Proofs.YtfjjckepnkkgjaaGreatDoor.Arm

namespace Go.Proofs.YtfjjckepnkkgjaaGreatDoor.Arm
open Go.Arm Go.Pl
end Go.Proofs.YtfjjckepnkkgjaaGreatDoor.Arm

namespace Go.Proofs.YtfjjckepnkkgjaaGreatDoor.Arm
open Go.Arm Go.Pl
def encA (r : Option (List I)) : AV := match r with
  | some d => .tuple [bx d, .bool true]
  | none => .tuple [.nilslice, .bool false]
end Go.Proofs.YtfjjckepnkkgjaaGreatDoor.Arm

namespace Go.Proofs.YtfjjckepnkkgjaaGreatDoor.Arm
open Go.Arm Go.Pl
end Go.Proofs.YtfjjckepnkkgjaaGreatDoor.Arm

namespace Go.Proofs.YtfjjckepnkkgjaaGreatDoor.Arm
open Go.Arm Go.Pl
theorem neq_iv (H : AH) (a b x y : Int) (z : Bool) : binOpA tab H .neq 54 (.agg [.int .i64 a, .int .i64 b]) (.agg [.int .i64 x, .int .i64 y]) z = some (.bool (!(a == x && b == y)), H) := by
  by_cases h1 : a = x <;> by_cases h2 : b = y <;> simp [binOpA, binA, eqA, eqFs, nilI, h1, h2]
theorem r3Same (a b : List I) (ha : a.length ≤ 1000000) (hb : b.length ≤ 1000000) (H : AH) : Sound E 19 [bx a, bx b] H (.ret (.bool (decide (a = b)))) H := by
  refine sound_of_awp tabOk mixed Tryz.func19 rfl (by rfl) Tryz.ntmps19 (by kernel_rfl) (by simp) ?_
  by_cases hab : a.length = b.length
  · have hne : ((a.length : Int) == (b.length : Int)) = true := by simp [hab]
    simp [bx, hab]
    refine loop_count (fun (i : Nat) fr H' => fr 0 = bx a ∧ fr 1 = bx b ∧ fr 5 = .int .i64 i ∧ i ≤ a.length ∧ H' = H ∧ a.take i = b.take i) (fun i => a.length - i) 0 ⟨by simp [bx], by simp [bx], by simp, by omega, rfl, by simp⟩ ?_
    rintro i fr H' ⟨g0, g1, g5, hi, rfl, hok⟩
    simp [g0, g5, bx]
    refine branch (fun hc => ?_) (fun hc => ?_)
    · have hlt : i < a.length := by simpa using hc
      obtain ⟨p, hp⟩ := get_lt hlt
      obtain ⟨q, hq⟩ := get_lt (l := b) (i := i) (by omega)
      have hpE : ∀ h, a[i]'h = p := fun h => (List.getElem?_eq_some_iff.1 hp).2
      have hqE : ∀ h, b[i]'h = q := fun h => (List.getElem?_eq_some_iff.1 hq).2
      have w2 : IntKind.i64.wrap ((i : Int) + 1) = ((i + 1 : Nat) : Int) := by rw [wrap64 (by omega) (by omega)]; omega
      simp [g0, g1, g5, bx, hp, hpE, hq, hqE, neq_iv]
      refine endD [] (by rfl) (by simp [okW, note, Eff.triv, Eff.wr, Eff.none, upTo, newAt]) ?_
      simp
      refine branch (fun hb2 => ?_) (fun hb2 => ?_)
      · have hne2 : a ≠ b := by
          intro e; subst e; rw [hp] at hq; cases hq; simp at hb2
        simp
        exact fin0 (rs := [.tmp 4]) (by rfl) (by simp [resA, hne2])
      · have he : p = q := by simp at hb2; exact Prod.ext hb2.1 hb2.2
        simp [g5, w2]
        exact ⟨i + 1, by show a.length - (i + 1) < a.length - i; omega, by simp [g0, bx], by simp [g1, bx], by simp, by omega, rfl, by rw [List.take_add_one, List.take_add_one, hp, hq, hok, he]⟩
    · have hi' : i = a.length := by have : ¬ i < a.length := by first | simpa using hc | (simp at hc; omega)
                                    omega
      subst hi'
      have he : a = b := by rw [List.take_length, hab, List.take_length] at hok; exact hok
      simp
      exact fin0 (rs := [.tmp 4]) (by rfl) (by simp [resA, he])
  · have hne : a ≠ b := fun e => hab (by rw [e])
    have hne1 : ((a.length : Int) == (b.length : Int)) = false := by rw [beq_eq_false_iff_ne]; omega
    simp [bx]
    refine branch (fun h => ?_) (fun h => ?_)
    · simp
      exact fin0 (rs := [.tmp 4]) (by rfl) (by simp [resA, hne])
    · have h2 : (a.length : Int) = (b.length : Int) := by simpa using h
      exact absurd (by omega) hab
end Go.Proofs.YtfjjckepnkkgjaaGreatDoor.Arm

namespace Go.Proofs.YtfjjckepnkkgjaaGreatDoor.Arm
open Go.Arm Go.Pl
theorem sIndexFunc (b : List I) (g : FuncId) (caps : List AV) (P : I → Bool) (H : AH) (hl : b.length ≤ 1000000) (hf : ∀ p ∈ b, Sound E g ([iv p] ++ caps) H (.ret (.bool (P p))) H) :
    ∃ r : Int, (decide (0 ≤ r)) = b.any P ∧ Sound E 128 [bx b, .func (.func g) [] caps] H (.ret (.int .i64 r)) H := by
  refine ⟨match b.findIdx? P with | some i => (i : Int) | none => -1, ?_, ?_⟩
  · cases h : b.findIdx? P with
    | none =>
      rw [List.findIdx?_eq_none_iff] at h
      have : b.any P = false := by rw [List.any_eq_false]; intro x hx; simp [h x hx]
      rw [this]; rfl
    | some i =>
      rw [List.findIdx?_eq_some_iff_getElem] at h
      obtain ⟨h1, h2, _⟩ := h
      have : b.any P = true := by rw [List.any_eq_true]; exact ⟨_, List.getElem_mem h1, h2⟩
      rw [this]; simp
  refine sound_of_awp tabOk mixed Tryz.func128 rfl (by rfl) Tryz.ntmps128 (by kernel_rfl) (by simp) ?_
  simp [bx]
  refine loop_count (fun (i : Nat) fr H' => fr 0 = bx b ∧ fr 1 = .func (.func g) [] caps ∧ fr 7 = .int .i64 b.length ∧ fr 8 = .int .i64 i ∧ i ≤ b.length ∧ H' = H ∧ okTo (fun p => !P p) b i) (fun i => b.length - i) 0 ⟨by simp [bx], by simp, by simp, by simp, by omega, rfl, okTo_zero _ _⟩ ?_
  rintro i fr H' ⟨g0, g1, g7, g8, hi, rfl, hok⟩
  simp [g7, g8]
  refine branch (fun hc => ?_) (fun hc => ?_)
  · have hlt : i < b.length := by simpa using hc
    obtain ⟨p, hp⟩ := get_lt hlt
    have hpE : ∀ h, b[i]'h = p := fun h => (List.getElem?_eq_some_iff.1 hp).2
    have w2 : IntKind.i64.wrap ((i : Int) + 1) = ((i + 1 : Nat) : Int) := by rw [wrap64 (by omega) (by omega)]; omega
    simp [g0, g1, g8, bx, hp, hpE]
    refine call_ret (hf p (List.mem_of_getElem? hp)) ?_
    simp
    refine branch (fun hq => ?_) (fun hq => ?_)
    · have hfi : b.findIdx? P = some i := by
        rw [List.findIdx?_eq_some_iff_getElem]
        refine ⟨hlt, by rw [hpE]; exact hq, fun j hj => ?_⟩
        have := hok j _ hj (List.getElem?_eq_getElem (by omega))
        simpa using this
      rw [hfi]
      simp
      exact fin0 (rs := [.tmp 4]) (by rfl) (by simp [resA])
    · simp [g8, w2]
      exact ⟨i + 1, by show b.length - (i + 1) < b.length - i; omega, by simp [g0, bx], by simp [g1], by simp [g7], by simp, by omega, rfl, okTo_succ hok hp (by simp [hq])⟩
  · have hi' : i = b.length := by have : ¬ i < b.length := by simpa using hc
                                  omega
    subst hi'
    have hfi : b.findIdx? P = none := by
      rw [List.findIdx?_eq_none_iff]
      intro x hx
      obtain ⟨j, hj⟩ := List.mem_iff_getElem?.1 hx
      have := hok j x (List.getElem?_eq_some_iff.1 hj).1 hj
      simpa using this
    rw [hfi]
    simp
    exact fin0 (rs := [.tmp 4]) (by rfl) (by simp [resA])
theorem sContainsFunc (b : List I) (g : FuncId) (caps : List AV) (P : I → Bool) (H : AH) (hl : b.length ≤ 1000000) (hf : ∀ p ∈ b, Sound E g ([iv p] ++ caps) H (.ret (.bool (P p))) H) :
    Sound E 104 [bx b, .func (.func g) [] caps] H (.ret (.bool (b.any P))) H := by
  obtain ⟨r, hr, hS⟩ := sIndexFunc b g caps P H hl hf
  refine sound_of_awp tabOk mixed Tryz.func104 rfl (by rfl) Tryz.ntmps104 (by kernel_rfl) (by simp) ?_
  rw [← hr]
  simp
  refine call_ret (by simpa using hS) ?_
  simp
  exact fin0 (rs := [.tmp 4]) (by rfl) (by simp [resA])
end Go.Proofs.YtfjjckepnkkgjaaGreatDoor.Arm

namespace Go.Proofs.YtfjjckepnkkgjaaGreatDoor.Arm
open Go.Arm Go.Pl
theorem pBounded (b : List I) (hl : b.length ≤ 1000000) (H : AH) : Sound E 161 [bx b] H (.ret (.bool (boundedB b))) H := by
  refine sound_of_awp tabOk mixed Tryz.func161 rfl (by rfl) Tryz.ntmps161 (by kernel_rfl) (by simp) ?_
  have hS := fun Hx => sContainsFunc b 127 [] entB Hx hl (fun p _ => by simpa using iIsEntire p Hx)
  have e : boundedB b = !(b.any entB) := by
    unfold boundedB
    rw [List.not_any_eq_all_not]
  simp
  refine call_ret (by simpa using hS _) ?_
  simp
  exact fin0 (rs := [.tmp 2]) (by rfl) (by simp [resA, e])
theorem cAccept1 (c : Ct) (p : I) (b : Nat) (w : Bool) (hp : vB p = true) (H : AH) (hb : H[b]? = some (.row w 5 [ctA c])) : Sound E 121 [iv p, .ptr b 1 0 0] H (.ret (.bool (decide (c.wide < p.2 - p.1)))) H := by
  refine sound_of_awp tabOk mixed Tryz.func121 rfl (by rfl) Tryz.ntmps121 (by kernel_rfl) (by simp) ?_
  have hbl := (List.getElem?_eq_some_iff.1 hb).1
  unfold ctA at hb
  simp
  refine callD_ret0 (fun Hx => iWidth p hp Hx) ?_
  simp [hb, get_old hb]
  refine endD [] (by rfl) (by simp [okW, note, Eff.triv, Eff.wr, Eff.none, upTo, newAt]) ?_
  simp
  exact fin1 (rs := [.tmp 3]) (by rfl) (by simp [resA]) (by simp [noFs, noF])
theorem cAccept (c : Ct) (s : Sg) (h1 : allV s.to) (h2 : allV s.tube) (h3 : s.to.length ≤ 1000000) (h4 : s.tube.length ≤ 1000000) (H : AH) : Sound E 93 [ctA c, sgA s] H (.ret (.bool (narrowB c.wide s.to && narrowB c.wide s.tube))) H := by
  refine sound_of_awp tabOk mixed Tryz.func93 rfl (by rfl) Tryz.ntmps93 (by kernel_rfl) (by simp) ?_
  have hS : ∀ (b : List I) (J : AH), allV b → b.length ≤ 1000000 → J[0]? = some (.row true 5 [ctA c]) → Sound E 104 [bx b, .func (.func 121) [] [.ptr H.length 1 0 0]] (H ++ J) (.ret (.bool (b.any fun p => decide (c.wide < p.2 - p.1)))) (H ++ J) :=
    fun b J hb hl hJ => sContainsFunc b 121 [.ptr H.length 1 0 0] _ (H ++ J) hl (fun p hp => by simpa using cAccept1 c p H.length true (hb p hp) (H ++ J) (by simpa using hJ))
  have e : ∀ b : List I, narrowB c.wide b = !(b.any fun p => decide (c.wide < p.2 - p.1)) := by
    intro b
    unfold narrowB
    rw [List.not_any_eq_all_not]
    congr 1
    funext p
    by_cases h : p.2 - p.1 ≤ c.wide
    · have : ¬ c.wide < p.2 - p.1 := by omega
      simp [h, this]
    · have : c.wide < p.2 - p.1 := by omega
      simp [h, this]
  simp [ctA, sgA, bx]
  refine call_ret (by simpa [bx] using hS s.to _ h1 h3 (by simp [ctA])) ?_
  simp
  refine gateT (fun m1 => ?_) (fun m1 => ?_)
  · simp [m1]
    refine call_ret (by simpa [bx] using hS s.tube _ h2 h4 (by simp [ctA])) ?_
    simp
    exact fin1 (rs := [.tmp 4]) (by rfl) (by simp [resA, e, m1]) (by simp [noFs, noF])
  · simp [m1]
    exact fin1 (rs := [.tmp 4]) (by rfl) (by simp [resA, e, m1]) (by simp [noFs, noF])
end Go.Proofs.YtfjjckepnkkgjaaGreatDoor.Arm

namespace Go.Proofs.YtfjjckepnkkgjaaGreatDoor.Arm
open Go.Arm Go.Pl
def zipB (f : I → I → I) (a b : List I) : List I := (List.range a.length).map fun i => f (atN a i) (atN b i)
def LZi (f : I → I → I) (a b : List I) (g : FuncId) (caps : List AV) (H : AH) (i : Nat) (fr : AFr) (H' : AH) : Prop :=
  fr 0 = bx a ∧ fr 1 = bx b ∧ fr 2 = .func (.func g) [] caps ∧ fr 7 = .ref H.length a.length ∧ fr 13 = .int .i64 a.length ∧ fr 14 = .int .i64 i ∧ i ≤ a.length ∧ H' = H ++ [.row true 2 (padI ((List.range i).map fun i => f (atN a i) (atN b i)) a.length)]
theorem pZip (f : I → I → I) (a b : List I) (g : FuncId) (caps : List AV) (rds : List Nat) (hab : a.length ≤ b.length) (hl : a.length ≤ 1000000) (H : AH) (hr : ∀ c ∈ rds, c < H.length) (hrd : rds = [] ∨ ∃ c, rds = [c])
    (hf : ∀ p ∈ a, ∀ q ∈ b, ∀ Hx : AH, (∀ c ∈ rds, Hx[c]? = H[c]?) → Sound E g ([iv p, iv q] ++ caps) Hx (.ret (iv (f p q))) Hx) :
    Sound E 159 [bx a, bx b, .func (.func g) [] caps] H (.ret (bx (zipB f a b))) H := by
  refine sound_of_awp tabOk mixed Tryz.func159 rfl (by rfl) Tryz.ntmps159 (by kernel_rfl) (by simp) ?_
  simp [bx]
  refine bind_if (by omega) ?_
  simp
  refine loop_count (LZi f a b g caps H) (fun i => a.length - i) 0 ⟨by simp [bx], by simp [bx], by simp, by simp, by simp, by simp, by omega, by simp [padI_nil]⟩ ?_
  rintro i fr H' ⟨g0, g1, g2, g7, g13, g14, hi, rfl⟩
  simp [g13, g14]
  refine branch (fun hc => ?_) (fun hc => ?_)
  · have hlt : i < a.length := by simpa using hc
    obtain ⟨p, hp⟩ := get_lt hlt
    obtain ⟨q, hq⟩ := get_lt (l := b) (i := i) (by omega)
    have hpE : ∀ h, a[i]'h = p := fun h => (List.getElem?_eq_some_iff.1 hp).2
    have hqE : ∀ h, b[i]'h = q := fun h => (List.getElem?_eq_some_iff.1 hq).2
    have w2 : IntKind.i64.wrap ((i : Int) + 1) = ((i + 1 : Nat) : Int) := by rw [wrap64 (by omega) (by omega)]; omega
    have hs : f (atN a i) (atN b i) = f p q := by simp [atN, hp, hq]
    have hW0 : (padI ((List.range i).map fun i => f (atN a i) (atN b i)) a.length)[i]? = some (iv (0, 0)) := padI_zero (by simp) hlt
    have hWl : (padI ((List.range i).map fun i => f (atN a i) (atN b i)) a.length).length = a.length := padI_len (by simp; omega)
    have hWset : (padI ((List.range i).map fun i => f (atN a i) (atN b i)) a.length).set i (iv (f p q)) = padI ((List.range (i + 1)).map fun i => f (atN a i) (atN b i)) a.length := by
      have := padI_set (l := (List.range i).map fun i => f (atN a i) (atN b i)) (n := a.length) (p := f p q) (by simp; omega)
      rw [List.length_map, List.length_range] at this
      rw [this, List.range_succ, List.map_append]
      simp [hs]
    generalize padI ((List.range i).map fun i => f (atN a i) (atN b i)) a.length = W at *
    have hW0E : ∀ h, W[i]'h = iv (0, 0) := fun h => (List.getElem?_eq_some_iff.1 hW0).2
    simp [g0, g1, g2, g7, g14, bx, hp, hpE, hq, hqE]
    refine callD_rdc rds (fun c hc => by have := hr c hc; simp; omega) (fun Hx hx => hf p (List.mem_of_getElem? hp) q (List.mem_of_getElem? hq) Hx fun c hc => by rw [hx c hc, List.getElem?_append_left (hr c hc)]) ?_
    have fin : ∀ K, K = H ++ [.row true 2 (W.set i (iv (f p q)))] → ∃ i', a.length - i' < a.length - i ∧ i' = i + 1 ∧ K = H ++ [.row true 2 (padI ((List.range (i + 1)).map fun i => f (atN a i) (atN b i)) a.length)] := fun K hK => ⟨i + 1, by omega, rfl, by rw [hK, hWset]⟩
    rcases hrd with rfl | ⟨c, rfl⟩
    · simp [g7, g14, hWl, hlt, hW0, hW0E]
      refine endD [(12, 13)] (by rfl) (by simp [okW, note, Eff.triv, Eff.wr, Eff.none, upTo, newAt]) ?_
      simp [g14, w2]
      exact ⟨i + 1, by show a.length - (i + 1) < a.length - i; omega, by simp [g0, bx], by simp [g1, bx], by simp [g2], by simp [g7], by simp [g13], by simp, by omega, by rw [← hWset]; simp⟩
    · have hcl := hr c (by simp)
      simp [g7, g14, hWl, hlt, hW0, hW0E]
      refine endD [(11, 13), (12, 13)] (by rfl) (by simp [okW, note, Eff.triv, Eff.wr, Eff.none, upTo, newAt]) ?_
      simp [g14, w2]
      exact ⟨i + 1, by show a.length - (i + 1) < a.length - i; omega, by simp [g0, bx], by simp [g1, bx], by simp [g2], by simp [g7], by simp [g13], by simp, by omega, by rw [← hWset]; simp⟩
  · have hi' : i = a.length := by have : ¬ i < a.length := by simpa using hc
                                  omega
    subst hi'
    rw [padI_all (by simp)]
    simp
    exact finS (t := 6) (v := .ref (H.length + 0) a.length) (v0 := .nilslice) (sz := 2) (xs := (zipB f a b).map iv) (by rfl) (by simp [g7]) (.inr ⟨0, by simp [zipB], by simp [zipB]⟩) rfl (iv_noFs _ _)
end Go.Proofs.YtfjjckepnkkgjaaGreatDoor.Arm

namespace Go.Proofs.YtfjjckepnkkgjaaGreatDoor.Arm
open Go.Arm Go.Pl
theorem pImage1 (p q : I) (h : Int) (b : Nat) (w : Bool) (hp : vB p = true) (hq : vB q = true) (hh : vB (mk 0 h) = true) (H : AH) (hb : H[b]? = some (.row w 2 [iv (mk 0 h)])) : Sound E 182 [iv p, iv q, .ptr b 1 0 0] H (.ret (iv (imgI h p q))) H := by
  refine sound_of_awp tabOk mixed Tryz.func182 rfl (by rfl) Tryz.ntmps182 (by kernel_rfl) (by simp) ?_
  have hbl := (List.getElem?_eq_some_iff.1 hb).1
  unfold imgI
  generalize mk 0 h = m at *
  simp [hb, get_old hb]
  refine callD_ret0 (fun Hx => iMul m q hh hq Hx) ?_
  simp
  refine callD_ret0 (fun Hx => iAdd p _ hp mul_valid Hx) ?_
  simp
  refine endD [] (by rfl) (by simp [okW, note, Eff.triv, Eff.wr, Eff.none, upTo, newAt]; omega) ?_
  simp
  exact fin1 (rs := [.cell 5 54]) (by rfl) (by simp [resA]) (by simp [noFs, noF])
theorem pImage (T : Tp) (x b : List I) (t h : Int) (hT : tpOk T) (hx : allV x) (hb : allV b) (hxn : x.length = T.n) (hbn : b.length = T.n) (hh : 0 ≤ h ∧ h ≤ 1000000000) (ht : -1000000000 ≤ t ∧ t ≤ 1000000000) (H : AH) :
    Sound E 160 [tpA T, bx x, bx b, .agg [.int .i64 t, .int .i64 h]] H (.ret (bx (imageB T x b t h))) H := by
  refine sound_of_awp tabOk mixed Tryz.func160 rfl (by rfl) Tryz.ntmps160 (by kernel_rfl) (by simp) ?_
  have w1 : IntKind.i64.wrap (t + h) = t + h := wrap64 (by omega) (by omega)
  have hsm := hT.small
  have htv : vB (mk t (t + h)) = true := mk_valid (by omega)
  have hhv : vB (mk 0 h) = true := mk_valid (by omega)
  have hfv := evalT_valid hT hb htv
  have hfl := evalT_len hT (x := b) (t := mk t (t + h))
  simp [tpA]
  refine call_ret (iNew 0 h _) ?_
  simp [w1]
  refine callD_ret0 (fun Hx => iNew t (t + h) Hx) ?_
  simp
  refine callD_ret0 (fun Hx => by simpa [tpA] using tEval T b (mk t (t + h)) hT hb hbn htv Hx) ?_
  simp
  refine endD [] (by rfl) (by simp [okW, note, Eff.triv, Eff.wr, Eff.none, upTo, newAt]) ?_
  have hz := fun Hx hr hf => pZip (imgI h) x (evalT T b (mk t (t + h))) 182 [.ptr (H.length + 2) 1 0 0] [H.length + 2] (by omega) (by omega) Hx hr (.inr ⟨_, rfl⟩) hf
  have hi : imageB T x b t h = zipB (imgI h) x (evalT T b (mk t (t + h))) := rfl
  rw [hi]
  simp
  refine call_ret (hz _ (by simp) (fun p hp q hq Hx hc => by simpa using pImage1 p q h (H.length + 2) true (hx p hp) (hfv q hq) hhv Hx (by rw [hc _ (by simp)]; simp))) ?_
  simp
  exact fin1 (rs := [.tmp 8]) (by rfl) (by simp [resA]) (by simp only [bx, noF, iv_noFs])
end Go.Proofs.YtfjjckepnkkgjaaGreatDoor.Arm

namespace Go.Proofs.YtfjjckepnkkgjaaGreatDoor.Arm
open Go.Arm Go.Pl
def LPq (a : List I) (H : AH) (i : Nat) (fr : AFr) (H' : AH) : Prop :=
  fr 3 = .ref H.length a.length ∧ fr 10 = bx a ∧ fr 11 = .int .i64 a.length ∧ fr 12 = .int .i64 i ∧ i ≤ a.length ∧ ∃ J, H' = H ++ J ∧ J[0]? = some (.row true 2 (padI ((List.range i).map fun i => inflI (atN a i)) a.length))
theorem pInflate (a : List I) (ha : allV a) (hl : a.length ≤ 1000000) (H : AH) : Sound E 162 [bx a] H (.ret (bx (inflB a))) H := by
  refine sound_of_awp tabOk mixed Tryz.func162 rfl (by rfl) Tryz.ntmps162 (by kernel_rfl) (by simp) ?_
  simp [bx]
  refine bind_if (by omega) ?_
  simp
  refine loop_count (LPq a H) (fun i => a.length - i) 0 ⟨by simp, by simp [bx], by simp, by simp, by omega, _, rfl, by simp [padI_nil]⟩ ?_
  rintro i fr H' ⟨g3, g10, g11, g12, hi, J, rfl, hJ0⟩
  have hJl := (List.getElem?_eq_some_iff.1 hJ0).1
  simp [g11, g12]
  refine branch (fun hc => ?_) (fun hc => ?_)
  · have hlt : i < a.length := by simpa using hc
    obtain ⟨p, hp⟩ := get_lt hlt
    have hpE : ∀ h, a[i]'h = p := fun h => (List.getElem?_eq_some_iff.1 hp).2
    have w2 : IntKind.i64.wrap ((i : Int) + 1) = ((i + 1 : Nat) : Int) := by rw [wrap64 (by omega) (by omega)]; omega
    have hs : inflI (atN a i) = inflI p := by simp [atN, hp]
    have hpv := ha p (List.mem_of_getElem? hp)
    have hb := vB_bounds hpv
    have wt : (p.2 - p.1).tdiv 16 = (p.2 - p.1) / 16 := Int.tdiv_eq_ediv_of_nonneg (by omega)
    have v0 : IntKind.i64.wrap ((p.2 - p.1) / 16) = (p.2 - p.1) / 16 := wrap64 (by omega) (by omega)
    have v1 : IntKind.i64.wrap ((p.2 - p.1) / 16 + 1) = (p.2 - p.1) / 16 + 1 := wrap64 (by omega) (by omega)
    have v2 : IntKind.i64.wrap (p.1 - ((p.2 - p.1) / 16 + 1)) = p.1 - ((p.2 - p.1) / 16 + 1) := wrap64 (by omega) (by omega)
    have v3 : IntKind.i64.wrap (p.2 + ((p.2 - p.1) / 16 + 1)) = p.2 + ((p.2 - p.1) / 16 + 1) := wrap64 (by omega) (by omega)
    have hW0 : (padI ((List.range i).map fun i => inflI (atN a i)) a.length)[i]? = some (iv (0, 0)) := padI_zero (by simp) hlt
    have hWl : (padI ((List.range i).map fun i => inflI (atN a i)) a.length).length = a.length := padI_len (by simp; omega)
    have hWset : (padI ((List.range i).map fun i => inflI (atN a i)) a.length).set i (iv (inflI p)) = padI ((List.range (i + 1)).map fun i => inflI (atN a i)) a.length := by
      have := padI_set (l := (List.range i).map fun i => inflI (atN a i)) (n := a.length) (p := inflI p) (by simp; omega)
      rw [List.length_map, List.length_range] at this
      rw [this, List.range_succ, List.map_append]
      simp [hs]
    generalize padI ((List.range i).map fun i => inflI (atN a i)) a.length = W at *
    have hW0E : ∀ h, W[i]'h = iv (0, 0) := fun h => (List.getElem?_eq_some_iff.1 hW0).2
    simp [g10, g12, bx, hp, hpE]
    refine call_ret (iWidth p hpv _) ?_
    simp [g3, wt, v0, v1, v2, v3]
    refine call_ret (iNew _ _ _) ?_
    simp [g3, g12, ↓old hJ0, olds hJ0, hWl, hlt, hW0, hW0E, w2]
    refine ⟨i + 1, by show a.length - (i + 1) < a.length - i; omega, by simp [g3], by simp [g10, bx], by simp [g11], by simp, by omega, _, rfl, ?_⟩
    rw [← hWset]
    exact set_get' hJ0
  · have hi' : i = a.length := by have : ¬ i < a.length := by simpa using hc
                                  omega
    subst hi'
    rw [padI_all (by simp)] at hJ0
    simp
    exact finS (t := 2) (v := .ref (H.length + 0) a.length) (v0 := .nilslice) (sz := 2) (xs := (inflB a).map iv) (by rfl) (by simp [g3]) (.inr ⟨0, by simp [inflB], by simpa [inflB] using hJ0⟩) rfl (iv_noFs _ _)
end Go.Proofs.YtfjjckepnkkgjaaGreatDoor.Arm

namespace Go.Proofs.YtfjjckepnkkgjaaGreatDoor.Arm
open Go.Arm Go.Pl
theorem bPairs (a b : List I) (H : AH) : Sound E 129 [bx a, bx b] H (.ret (.func (.func 157) [] [.ptr H.length 1 0 0, .ptr (H.length + 1) 1 0 0])) (H ++ [.row true 1 [bx a], .row true 1 [bx b]]) := by
  refine sound_of_awp tabOk mixed Tryz.func129 rfl (by rfl) Tryz.ntmps129 (by kernel_rfl) (by simp) ?_
  simp [bx]
  exact finK (rs := [.tmp 4]) (vs := [.func (.func 157) [] [.ptr H.length 1 0 0, .ptr (H.length + 1) 1 0 0]]) (by rfl) (by simp [resA]) rfl
end Go.Proofs.YtfjjckepnkkgjaaGreatDoor.Arm

namespace Go.Arm
def allUps (K : AH) (n : Nat) : List (Nat × ABlk) := (List.range n).map fun i => (i, (K[i]?).getD .dead)
theorem upAt_map (f : Nat → ABlk) : ∀ (l : List Nat) (b : Nat), upAt (l.map fun i => (i, f i)) b = if b ∈ l then some (f b) else none
  | [], b => by simp [upAt]
  | c :: r, b => by
    simp only [List.map_cons, upAt, upAt_map f r b, List.mem_cons]
    by_cases h : b ∈ r
    · simp [h]
    · by_cases e : c = b
      · subst e; simp [h]
      · have : ¬ b = c := fun h => e h.symm
        simp [h, e, this]
theorem applyUps_all {H K X : AH} (hl : K.length = H.length) : applyUps (H ++ X) (allUps K H.length) = K ++ X := by
  apply List.ext_getElem?
  intro b
  by_cases hb : b < (H ++ X).length
  · rw [applyUps_get _ _ _ hb]
    unfold allUps
    rw [upAt_map]
    by_cases h : b < H.length
    · have hk : b < K.length := by omega
      simp [h, List.getElem?_append_left hk, hk]
    · have h2 : K.length ≤ b := by omega
      simp only [List.length_append] at hb
      have h3 : b - H.length < X.length := by omega
      simp [h, List.getElem?_append_right h2, List.getElem?_append_right (show H.length ≤ b by omega), hl, h3]
  · rw [List.getElem?_eq_none (by rw [applyUps_len]; omega), List.getElem?_eq_none (by simp at hb ⊢; omega)]
theorem callD_yld {E : Env} {b : Nat} {args : List AV} {next : NxD} {H K : AH} {v : AV} (hl : K.length = H.length) (hY : ∀ X : AH, YSound E b args (H ++ X) v (K ++ X))
    (k : next .go v ⟨List.range H.length, allUps K H.length, none, true⟩ K) : callD E (.yld b) args next H := by
  refine ⟨v, List.range H.length, allUps K H.length, ⟨fun c hc => List.mem_range.1 hc, fun p hp => ?_, fun Hx hx => ?_⟩, ?_⟩
  · unfold allUps at hp
    obtain ⟨i, hi, rfl⟩ := List.mem_map.1 hp
    exact hi
  · have hle : H.length ≤ Hx.length := by
      rcases Nat.lt_or_ge Hx.length H.length with h | h
      · have := hx Hx.length (List.mem_range.2 h)
        rw [List.getElem?_eq_none (Nat.le_refl _)] at this
        rw [List.getElem?_eq_getElem h] at this
        cases this
      · exact h
    have e : Hx = H ++ Hx.drop H.length := by
      apply List.ext_getElem?
      intro c
      by_cases hc : c < H.length
      · rw [List.getElem?_append_left hc]; exact hx c (List.mem_range.2 hc)
      · rw [List.getElem?_append_right (by omega), List.getElem?_drop]
        congr 1; omega
    rw [e, applyUps_all hl]
    exact .inl (hY _)
  · have := applyUps_all (X := []) hl
    rw [List.append_nil, List.append_nil] at this
    rw [this]
    exact k
end Go.Arm

namespace Go.Arm
open Go.RowKit
def alters (H H' : AH) : Prop := H'.length = H.length ∧ ∀ c : Nat, H'[c]? = H[c]? ∨ (∃ k, H'[c]? = some k ∧ noFB H.length k = true) ∨ ∃ k st st' frs, H[c]? = some (.loop k st frs) ∧ H'[c]? = some (.loop k st' frs)
theorem alters.refl (H : AH) : alters H H := ⟨rfl, fun _ => .inl rfl⟩
theorem alters.trans {H H1 H2 : AH} (h : alters H H1) (g : alters H1 H2) : alters H H2 := by
  refine ⟨g.1.trans h.1, fun c => ?_⟩
  rcases g.2 c with g1 | ⟨k, g1, g2⟩ | ⟨k, st, st', frs, g1, g2⟩
  · rw [g1]; exact h.2 c
  · exact .inr (.inl ⟨k, g1, by rw [← h.1]; exact g2⟩)
  · rcases h.2 c with h1 | ⟨k', h1, h2⟩ | ⟨k', s1, s2, frs', h1, h2⟩
    · exact .inr (.inr ⟨k, st, st', frs, by rw [← h1]; exact g1, g2⟩)
    · rw [g1] at h1; cases h1
      exact .inr (.inl ⟨_, g2, h2⟩)
    · rw [g1] at h2; cases h2
      exact .inr (.inr ⟨k, s1, st', frs, h1, g2⟩)
def altB (m : Nat) (k k' : ABlk) : Prop := k' = k ∨ noFB m k' = true ∨ ∃ q st st' frs, k = .loop q st frs ∧ k' = .loop q st' frs
def altL (m : Nat) : List ABlk → List ABlk → Prop
  | [], [] => True
  | a :: r, b :: s => altB m a b ∧ altL m r s
  | _, _ => False
theorem altL.len {m : Nat} : ∀ {K K' : List ABlk}, altL m K K' → K'.length = K.length
  | [], [], _ => rfl
  | _ :: _, _ :: _, h => by simp [altL.len h.2]
theorem altL.get {m : Nat} : ∀ {K K' : List ABlk}, altL m K K' → ∀ c : Nat, K'[c]? = K[c]? ∨ (∃ k, K'[c]? = some k ∧ noFB m k = true) ∨ ∃ k st st' frs, K[c]? = some (.loop k st frs) ∧ K'[c]? = some (.loop k st' frs)
  | [], [], _, c => .inl rfl
  | a :: r, b :: s, h, 0 => by
    rcases h.1 with h1 | h1 | ⟨q, st, st', frs, h1, h2⟩
    · exact .inl (by simp [h1])
    · exact .inr (.inl ⟨b, rfl, h1⟩)
    · exact .inr (.inr ⟨q, st, st', frs, by simp [h1], by simp [h2]⟩)
  | a :: r, b :: s, h, c + 1 => by simpa using altL.get h.2 c
theorem alters_of {H K K' : AH} (h : altL (H ++ K).length K K') : alters (H ++ K) (H ++ K') := by
  refine ⟨by simp [h.len], fun c => ?_⟩
  rcases Nat.lt_or_ge c H.length with h1 | h1
  · left; rw [List.getElem?_append_left h1, List.getElem?_append_left h1]
  · rw [List.getElem?_append_right h1, List.getElem?_append_right h1]; exact h.get _
theorem altB.same {m : Nat} (k : ABlk) : altB m k k := .inl rfl
theorem altB.loop {m : Nat} {q : LK} {st st' : LSt} {frs : List AV} : altB m (.loop q st frs) (.loop q st' frs) := .inr (.inr ⟨q, st, st', frs, rfl, rfl⟩)
inductive YRuns (E : Env) (b : Nat) (P : AH → Prop) : List (List AV) → AH → AH → Prop
  | nil (H : AH) : YRuns E b P [] H H
  | stop {a : List AV} {r : List (List AV)} {H H' : AH} (h1 : alters H H') (h2 : P H') (h3 : ∀ J : AH, YSound E b a (H ++ J) (.bool false) (H' ++ J)) : YRuns E b P (a :: r) H H'
  | go {a : List AV} {r : List (List AV)} {H H1 H' : AH} (h1 : alters H H1) (h2 : P H1) (h3 : ∀ J : AH, YSound E b a (H ++ J) (.bool true) (H1 ++ J)) (h4 : YRuns E b P r H1 H') : YRuns E b P (a :: r) H H'
theorem YRuns.alters {E : Env} {b : Nat} {P : AH → Prop} {L : List (List AV)} {H H' : AH} (h : YRuns E b P L H H') : Arm.alters H H' := by
  induction h with
  | nil H => exact .refl H
  | stop h1 _ _ => exact h1
  | go h1 _ _ _ ih => exact h1.trans ih
theorem YRuns.keep {E : Env} {b : Nat} {P : AH → Prop} {L : List (List AV)} {H H' : AH} (h : YRuns E b P L H H') (h0 : P H) : P H' := by
  induction h with
  | nil H => exact h0
  | stop _ h2 _ => exact h2
  | go _ h2 _ _ ih => exact ih h2
theorem YRuns.cases_cons {E : Env} {b : Nat} {P : AH → Prop} {a : List AV} {r : List (List AV)} {H H' : AH} (h : YRuns E b P (a :: r) H H') :
    ∃ (go : Bool) (H1 : AH), Arm.alters H H1 ∧ P H1 ∧ (∀ J : AH, YSound E b a (H ++ J) (.bool go) (H1 ++ J)) ∧ (go = false → H1 = H') ∧ (go = true → YRuns E b P r H1 H') := by
  cases h with
  | stop h1 h2 h3 => exact ⟨false, _, h1, h2, h3, fun _ => rfl, nofun⟩
  | go h1 h2 h3 h4 => exact ⟨true, _, h1, h2, h3, nofun, fun _ => h4⟩
theorem finY {E : Env} {fr : AFr} {fn : Func} {H0 H1 J : AH} {e : AExit} (hr : fn.results.toList = []) (ha : alters H0 H1) (hx : e = .ret ∨ e = .normal := by simp) : bodyK E fn H0 (.ret (.tuple [])) H1 e fr (H1 ++ J) := by
  have hL : Leaves H0 [] (H1 ++ J) [] H1 := .cut H0.length (Nat.le_refl _) (by rw [← ha.1]; simp) (fun b _ => ha.2 b) (by simp [noFs])
  rcases hx with rfl | rfl <;> exact ⟨[], [], by rw [hr]; rfl, hL, rfl⟩
theorem assignK_normal {b : Nat} {k : LK} {frs : List AV} {y : AFr → AH → Prop} {fr : AFr} {H1 : AH} : assignK b k frs y .normal fr H1 = (H1[b]? = some (.loop k .ready frs) ∧ y fr (H1.set b (.loop k .busy frs))) := rfl
theorem roundK_normal {b : Nat} {k : LK} {frs : List AV} {H0 H' H2 : AH} {v : AV} {fr : AFr} : roundK b k frs H0 v H' .normal fr H2 = (H2[b]? = some (.loop k .busy frs) ∧ v = .bool true ∧ Leaves H0 [] (H2.set b (.loop k .ready frs)) [] H') := rfl
theorem roundK_ret {b : Nat} {k : LK} {frs : List AV} {H0 H' H2 : AH} {v : AV} {fr : AFr} : roundK b k frs H0 v H' .ret fr H2 = (H2[b]? = some (.loop k .busy frs) ∧ v = .bool false ∧ Leaves H0 [] (H2.set b (.loop k (.done .ret) frs)) [] H') := rfl
theorem roundK_exit {b id : Nat} {k : LK} {frs : List AV} {H0 H' H2 : AH} {v : AV} {fr : AFr} : roundK b k frs H0 v H' (.exit id) fr H2 = (H2[b]? = some (.loop k .busy frs) ∧ v = .bool false ∧ Leaves H0 [] (H2.set b (.loop k (.done (.exit id)) frs)) [] H') := rfl
theorem Leaves.alters {H H1 J X : AH} (ha : Arm.alters H H1) : Leaves (H ++ J) [] (H1 ++ J ++ X) [] (H1 ++ J) := by
  have hl : (H ++ J).length = (H1 ++ J).length := by simp [ha.1]
  refine .cut (H ++ J).length (Nat.le_refl _) (by rw [hl, List.take_left]) (fun c hc => ?_) (by simp [noFs])
  by_cases h : c < H.length
  · have h1 : c < H1.length := by rw [ha.1]; exact h
    rw [List.getElem?_append_left h, List.getElem?_append_left h1]
    rcases ha.2 c with g | ⟨k, g1, g2⟩ | ⟨k, st, st', frs, g1, g2⟩
    · exact .inl g
    · refine .inr (.inl ⟨k, g1, ?_⟩)
      have hm : H.length ≤ (H ++ J).length := by simp
      cases k with
      | dead => rfl
      | row wr sz xs => simp only [noFB] at g2 ⊢; rw [noFs_iff] at g2 ⊢; exact fun x hx => noF_mono hm (g2 x hx)
      | map es =>
        simp only [noFB, List.all_eq_true, Bool.and_eq_true] at g2 ⊢
        exact fun e hx => ⟨noF_mono hm (g2 e hx).1, noF_mono hm (g2 e hx).2⟩
      | loop k st frs => simp only [noFB] at g2 ⊢; rw [noFs_iff] at g2 ⊢; exact fun x hx => noF_mono hm (g2 x hx)
    · exact .inr (.inr ⟨k, st, st', frs, g1, g2⟩)
  · left
    have hh := ha.1
    rw [List.getElem?_append_right (by omega), List.getElem?_append_right (by omega), hh]
end Go.Arm

namespace Go.Arm
open Go.RowKit
def mvG (G : Gh) (m : Nat) (σ : Nat → Option Nat) : Gh := (List.range m).map fun c => match σ c with
  | some k => ownr G k
  | none => ownr G c
theorem mv_own {G : Gh} {m : Nat} {σ : Nat → Option Nat} {c : Nat} : ownr (mvG G m σ) c = if c < m then (match σ c with | some k => ownr G k | none => ownr G c) else none := by
  show ((mvG G m σ)[c]?).join = _
  unfold mvG
  rw [List.getElem?_map]
  by_cases h : c < m
  · rw [List.getElem?_range h, if_pos h, Option.map_some]; cases h2 : σ c <;> simp [h2]
  · rw [if_neg h, List.getElem?_eq_none (by simpa using h)]; rfl
section
variable {G : Gh} {w : World} {m : Nat} {σ : Nat → Option Nat}
theorem mv_some {c : Nat} {L : GL} (h : ownr (mvG G m σ) c = some L) : c < m ∧ ((∃ k, σ c = some k ∧ ownr G k = some L) ∨ (σ c = none ∧ ownr G c = some L)) := by
  rw [mv_own] at h
  split at h
  · rename_i hc
    refine ⟨hc, ?_⟩
    cases hs : σ c with
    | none => rw [hs] at h; exact .inr ⟨rfl, h⟩
    | some k => rw [hs] at h; exact .inl ⟨k, rfl, h⟩
  · cases h
theorem VR.move (hd : ∀ c k, σ c = some k → ownr G c = none) {a : AV} {v : Value} (h : VR G w a v) : Arm.noF m a = true → VR (mvG G m σ) w a v := by
  have keep : ∀ {c : Nat} {L : GL}, ownr G c = some L → c < m → ownr (mvG G m σ) c = some L := fun {c L} h hc => by
    rw [mv_own, if_pos hc]
    cases hs : σ c with
    | none => exact h
    | some k => rw [hd c k hs] at h; cases h
  have fitsT : ∀ {B e : Nat}, fits G B e → fits (mvG G m σ) B e := fun hl c L hc hB => by
    rcases (mv_some hc).2 with ⟨k, _, h⟩ | ⟨_, h⟩ <;> exact hl _ L h hB
  induction h with
  | junk v => intro _; exact .junk v
  | bool b => intro _; exact .bool b
  | int k n => intro _; exact .int k n
  | str s => intro _; exact .str s
  | nilptr => intro _; exact .nilptr
  | ptr h1 hg hs hv => intro hn; simp only [Arm.noF, decide_eq_true_eq] at hn; exact .ptr (keep h1 hn) hg hs hv
  | eptr vals hB hc hr hl ih => intro hn; simp only [Arm.noF] at hn; exact .eptr vals hB hc (fun j a hj => ih j a hj (noFs_get hn hj)) (fitsT hl)
  | nilslice => intro _; exact .nilslice
  | slice0 hf => intro _; exact .slice0 hf
  | slice vals hB hs hc hr hl hcap hf ih =>
    intro hn
    simp only [Arm.noF] at hn
    exact .slice vals hB hs hc (fun i x j c hi hj => ih i x j c hi hj (noFs_get (noF_cells.2 (noFs_get hn hi)) hj)) (fitsT hl) hcap hf
  | ref h1 hfx hg hs hv => intro hn; simp only [Arm.noF, decide_eq_true_eq] at hn; exact .ref (keep h1 hn) hfx hg hs hv
  | pre h1 hfx hs hv => intro hn; simp only [Arm.noF, decide_eq_true_eq] at hn; exact .pre (keep h1 hn) hfx hs hv
  | func h1 h2 _ _ ih1 ih2 =>
    intro hn
    simp only [Arm.noF, Bool.and_eq_true] at hn
    exact .func h1 h2 (fun i a v ha hv => ih1 i a v ha hv (noFs_get hn.1 ha)) (fun i a v ha hv => ih2 i a v ha hv (noFs_get hn.2 ha))
  | nilfunc => intro _; exact .nilfunc
  | iface _ ih => intro hn; simp only [Arm.noF] at hn; exact .iface (ih hn)
  | niliface => intro _; exact .niliface
  | agg h1 _ ih => intro hn; simp only [Arm.noF] at hn; exact .agg h1 fun i a v ha hv => ih i a v ha hv (noFs_get hn ha)
  | tuple h1 _ ih => intro hn; simp only [Arm.noF] at hn; exact .tuple h1 fun i a v ha hv => ih i a v ha hv (noFs_get hn ha)
  | nilmap => intro _; exact .nilmap
  | map h1 hfx => intro hn; simp only [Arm.noF, decide_eq_true_eq] at hn; exact .map (keep h1 hn) hfx
  | yld h1 hfx => intro hn; simp only [Arm.noF, decide_eq_true_eq] at hn; exact .yld (keep h1 hn) hfx
inductive RenV (m : Nat) (σ : Nat → Option Nat) : AV → AV → Prop
  | old {a : AV} (h : Arm.noF m a = true) : RenV m σ a a
  | ref {b k n : Nat} (h1 : σ b = some k) (h2 : b < m) : RenV m σ (.ref k n) (.ref b n)
  | ptr {b k g i off : Nat} (h1 : σ b = some k) (h2 : b < m) : RenV m σ (.ptr k g i off) (.ptr b g i off)
  | func {f : Fn} {first cap cap' : List AV} (hl : cap'.length = cap.length) (hf : noFs m first = true) (h : ∀ (i : Nat) a a', cap[i]? = some a → cap'[i]? = some a' → RenV m σ a a') : RenV m σ (.func f first cap) (.func f first cap')
def RenX (m : Nat) (σ : Nat → Option Nat) (x x' : AV) : Prop := x.cells.length = x'.cells.length ∧ ∀ (j : Nat) a a', x.cells[j]? = some a → x'.cells[j]? = some a' → RenV m σ a a'
theorem RenV.vr (hd : ∀ c k, σ c = some k → ownr G c = none) {a a' : AV} (hr : RenV m σ a a') : ∀ {v : Value}, VR G w a v → VR (mvG G m σ) w a' v := by
  induction hr with
  | old h1 => intro v h; exact h.move hd h1
  | ref h1 h2 =>
    intro v h
    cases h with
    | ref g1 hfx hg hs hv => exact .ref (by rw [mv_own, if_pos h2, h1]; exact g1) hfx hg hs hv
  | ptr h1 h2 =>
    intro v h
    cases h with
    | ptr g1 hg hs hv => exact .ptr (by rw [mv_own, if_pos h2, h1]; exact g1) hg hs hv
  | func hl hf h ih =>
    rename_i f first cap cap'
    intro v hv
    cases hv with
    | func q1 q2 q3 q4 =>
      rename_i fv cv
      refine .func q1 (by rw [q2, hl]) (fun i a v ha hv => (q3 i a v ha hv).move hd (noFs_get hf ha)) (fun i a' v ha hv => ?_)
      have hlt : i < cap.length := by rw [← hl]; exact (List.getElem?_eq_some_iff.1 ha).1
      exact ih i cap[i] a' (by simp) ha (q4 i cap[i] v (by simp) hv)
theorem BlkOk.move (hd : ∀ c k, σ c = some k → ownr G c = none) {c : Nat} (hc : c < m) (hs : σ c = none) {x : ABlk} (h : BlkOk G w c x) (hn : noFB m x = true) : BlkOk (mvG G m σ) w c x := by
  have ho : ownr (mvG G m σ) c = ownr G c := by rw [mv_own, if_pos hc, hs]
  cases x with
  | dead => exact ho.trans h
  | row wr sz xs =>
    obtain ⟨L, h1, h2, h3, h4, h5, h6, h7, c', e, h8, h9, hv⟩ := h
    simp only [noFB] at hn
    refine ⟨L, ho.trans h1, h2, h3, h4, h5, h6, h7, c', e, h8, h9, fun i x j a hi hj => ?_⟩
    obtain ⟨v, g1, g2⟩ := hv i x j a hi hj
    exact ⟨v, g1, g2.move hd (noFs_get (noF_cells.2 (noFs_get hn hi)) hj)⟩
  | map es =>
    obtain ⟨L, h1, h2, ents, clock, h3, h4, h5⟩ := h
    simp only [noFB, List.all_eq_true, Bool.and_eq_true] at hn
    refine ⟨L, ho.trans h1, h2, ents, clock, h3, h4, fun j e v hj hv => ?_⟩
    have := h5 j e v hj hv
    have h6 := hn e (List.mem_of_getElem? hj)
    exact ⟨this.1.move hd h6.1, this.2.move hd h6.2⟩
  | loop k st frs =>
    obtain ⟨L, h1, h2, r, h3, h4, h5, h6, h7, h8, h9⟩ := h
    simp only [noFB] at hn
    exact ⟨L, ho.trans h1, h2, r, h3, h4, h5, h6, h7, h8, fun j a hj => (h9 j a hj).move hd (noFs_get hn hj)⟩
theorem BlkOk.moveRow (hd : ∀ c k, σ c = some k → ownr G c = none) {c k : Nat} (hc : c < m) (hs : σ c = some k) {wr : Bool} {sz : Nat} {xs xs' : List AV} (h : BlkOk G w k (.row wr sz xs)) (hl : xs'.length = xs.length)
    (hx : ∀ (i : Nat) x x', xs[i]? = some x → xs'[i]? = some x' → RenX m σ x x') : BlkOk (mvG G m σ) w c (.row wr sz xs') := by
  have ho : ownr (mvG G m σ) c = ownr G k := by rw [mv_own, if_pos hc, hs]
  obtain ⟨L, h1, h2, h3, h4, h5, h6, h7, c', e, h8, h9, hv⟩ := h
  have hget : ∀ (i : Nat) x', xs'[i]? = some x' → ∃ x, xs[i]? = some x ∧ RenX m σ x x' := fun i x' hi => by
    have hlt := (List.getElem?_eq_some_iff.1 hi).1
    exact ⟨xs[i], by simp, hx i _ x' (by simp) hi⟩
  refine ⟨L, ho.trans h1, by rw [h2, hl], h3, fun x' hx' => ?_, by rw [hl]; exact h5, h6, by rw [hl]; exact h7, c', e, h8, h9, fun i x' j a' hi hj => ?_⟩
  · obtain ⟨i, hi⟩ := List.mem_iff_getElem?.1 hx'
    obtain ⟨x, hx1, hx2⟩ := hget i x' hi
    rw [← hx2.1]; exact h4 x (List.mem_of_getElem? hx1)
  · obtain ⟨x, hx1, hx2⟩ := hget i x' hi
    have hjl : j < x.cells.length := by rw [hx2.1]; exact (List.getElem?_eq_some_iff.1 hj).1
    obtain ⟨v, g1, g2⟩ := hv i x j x.cells[j] hx1 (by simp)
    exact ⟨v, g1, (hx2.2 j _ a' (by simp) hj).vr hd g2⟩
end
structure Fills (H HJ H' : AH) (r r' : AV) (σ : Nat → Option Nat) : Prop where
  dead : ∀ c k, σ c = some k → c < H.length ∧ H[c]? = some .dead ∧ HJ[c]? = some .dead ∧ H.length ≤ k
  inj : ∀ c c' k, σ c = some k → σ c' = some k → c = c'
  len : H'.length = H.length
  keep : ∀ c, c < H.length → σ c = none → HJ[c]? = H[c]? ∧ H'[c]? = H[c]?
  fill : ∀ c k, σ c = some k → ∃ wr sz xs xs', HJ[k]? = some (.row wr sz xs) ∧ H'[c]? = some (.row wr sz xs') ∧ xs'.length = xs.length ∧ ∀ (i : Nat) x x', xs[i]? = some x → xs'[i]? = some x' → RenX H.length σ x x'
  res : RenV H.length σ r r'
theorem Fills.ok {Γ : Nat → Option (List AV)} {G G' : Gh} {w w' : World} {H HJ H' : AH} {r r' : AV} {σ : Nat → Option Nat} (h : Fills H HJ H' r r' σ) (hI : Inv Γ G w H) (e : Ext G w G' w') (i : Inv Γ G' w' HJ) {u : Value} (hu : VR G' w' r u) :
    ∃ G'', Ext G w G'' w' ∧ Inv Γ G'' w' H' ∧ VR G'' w' r' u := by
  obtain ⟨hd, hi, hl, hk, hf, hr⟩ := h
  have hd' : ∀ c k, σ c = some k → ownr G' c = none := fun c k hs => i.blk c _ (hd c k hs).2.2.1
  have e1 : Ext G w (mvG G' H.length σ) w' := by
    refine ⟨e.os, e.tape, e.output, e.size, e.keep, fun c L hc => ?_, fun c L' hc hlt => ?_⟩
    · obtain ⟨L', h1, h2⟩ := e.own c L hc
      have hc0 := own_lt hc
      rw [hI.len] at hc0
      cases hs : σ c with
      | some k => have := hI.blk c _ (hd c k hs).2.1; rw [show ownr G c = none from this] at hc; cases hc
      | none => exact ⟨L', by rw [mv_own, if_pos hc0, hs]; exact h1, h2⟩
    · rcases (mv_some hc).2 with ⟨k, hs, h1⟩ | ⟨_, h1⟩
      · obtain ⟨L, h2, _⟩ := e.back k L' h1 hlt
        have := own_lt h2
        rw [hI.len] at this
        have := (hd c k hs).2.2.2
        omega
      · exact e.back c L' h1 hlt
  refine ⟨_, e1, ⟨by simp [mvG, hl], fun c x hx => ?_, ?_, fun g cs hg => (hI.glob g cs hg).mono e1⟩, hr.vr hd' hu⟩
  · have hc : c < H.length := by rw [← hl]; exact (List.getElem?_eq_some_iff.1 hx).1
    cases hs : σ c with
    | none =>
      obtain ⟨h1, h2⟩ := hk c hc hs
      rw [h2] at hx
      have hn := (hI.blk c x hx).noF
      rw [hI.len] at hn
      exact (i.blk c x (h1.trans hx)).move hd' hc hs hn
    | some k =>
      obtain ⟨wr, sz, xs, xs', h1, h2, h3, h4⟩ := hf c k hs
      rw [h2] at hx; cases hx
      exact (i.blk k _ h1).moveRow hd' hc hs h3 h4
  · intro c c' L L' h1 h2 h3
    obtain ⟨g0, g1⟩ := mv_some h1
    obtain ⟨q0, q1⟩ := mv_some h2
    rcases g1 with ⟨k, s1, g1⟩ | ⟨s1, g1⟩ <;> rcases q1 with ⟨k', s2, q1⟩ | ⟨s2, q1⟩
    · have := i.inj k k' L L' g1 q1 h3; subst this; exact hi c c' k s1 s2
    · have := i.inj k c' L L' g1 q1 h3; have := (hd c k s1).2.2.2; omega
    · have := i.inj c k' L L' g1 q1 h3; have := (hd c' k' s2).2.2.2; omega
    · exact i.inj c c' L L' g1 q1 h3
theorem Sound.fills {E : Env} {f : FuncId} {args : List AV} {H HJ H' : AH} {r r' : AV} {σ : Nat → Option Nat} (h : Sound E f args H (.ret r) HJ) (hs : Fills H HJ H' r r' σ) : Sound E f args H (.ret r') H' := by
  refine ⟨h.1, fun F n hF G w vs hI hv => (h.2 F n hF G w vs hI hv).mono ?_⟩
  rintro z w1 ⟨G', e, i, hz⟩
  cases z with
  | returned u =>
    obtain ⟨G'', e2, i2, r2⟩ := hs.ok hI e i hz
    exact ⟨G'', e2, i2, r2⟩
  | panicked ch => cases ch <;> exact hz.elim
  | outgrown => exact hz.elim
theorem leavesInM_mono {F : Fence} {n : Nat} {P : Program} {fn : Func} {tmps : Array Value} {R R' : Ending → World → Prop} (hR : ∀ e w, R e w → R' e w) : ∀ (ds : List Deferred) (u : FrameMode) (w : World), LeavesInM F n P fn tmps R ds u w → LeavesInM F n P fn tmps R' ds u w
  | [], u, w, h => by
    simp only [LeavesInM] at h ⊢
    cases u with
    | returning => simp only [LeavesIn] at h ⊢; obtain ⟨v, h1, h2⟩ := h; exact ⟨v, h1, hR _ _ h2⟩
    | panicking ch => simp only [LeavesIn] at h ⊢; exact hR _ _ h
    | run => simp only [LeavesIn] at h
  | d :: ds, u, w, h => by
    refine ⟨h.1, ?_⟩
    rcases h.2 with ⟨r, w', h1, h2, h3⟩ | ⟨h1, fv, cap, f, args, h2, h3, h4, h5⟩
    · exact .inl ⟨r, w', h1, h2, leavesInM_mono hR ds u w' h3⟩
    · refine .inr ⟨h1, fv, cap, f, args, h2, h3, h4, h5.mono fun e u' w' h => ?_⟩
      cases e with
      | returned v => exact leavesInM_mono hR ds _ w' h
      | panicked ch => exact leavesInM_mono hR ds _ w' h
      | outgrown => exact hR _ _ h
theorem bodyPostM_mono {F : Fence} {n : Nat} {P : Program} {fn : Func} {R R' : Ending → World → Prop} (hR : ∀ e w, R e w → R' e w) {x : Exit} {a : Act} {w : World} (h : bodyPostM F n P fn R x a w) : bodyPostM F n P fn R' x a w := by
  cases x with
  | normal => exact leavesInM_mono hR _ _ _ h
  | ret => exact leavesInM_mono hR _ _ _ h
  | panic ch => exact leavesInM_mono hR _ _ _ h
  | outgrown => exact hR _ _ h
  | exit id => exact h
  | goto l => exact h
def bodyX (E : Env) (fn : Func) (H : AH) (r' : AV) (H' : AH) : APost := fun x fr H1 => ∃ r HJ σ, Fills H HJ H' r r' σ ∧ bodyK E fn H (.ret r) HJ x fr H1
theorem soundX_of_awp {E : Env} (hT : TabOk E.P E.T) (hm : E.P.follows .mixedOrders = true) {f : FuncId} {fn : Func} {c : Code} (hf : E.P.funcs[f]? = some fn) (hb : fn.body = some c)
    (hname : (fn.name == "runtime.NumGoroutine") = false) {N : Nat} (hN : fn.ntmps = N) (hok : codeOk N c = true) {args : List AV} {H H' : AH} {r : AV} (hl : args.length ≤ N)
    (h : awp E c (bodyX E fn H r H') (argFr args) H) : Sound E f args H (.ret r) H' := by
  subst hN
  refine ⟨⟨fn, hf, by rw [hb]; rfl, hname⟩, fun F n hF G w vs hI hv => ?_⟩
  have hF' : Wd F.plain := hF
  have hvl : args.length = vs.size := by simpa using hv.1
  refine (callsIn_of_wp_marks (F := F.plain) (n := n) (P := E.P) (f := f) (fn := fn) (c := c) (args := vs) (w := w) hf hb (hF.2 f) ?_ rfl : CallsIn F.plain n E.P f vs w _)
  refine wpIn_mono (awp_soundD hT hF' hm (N := fn.ntmps) (Dk := DefOk w []) ⟨hI.inj, hI.lt⟩ DefOk.mono c _ (argFr args) H G _ w (.inr (mayRange rfl)) hok h (.refl _ _) hI (argFr_ok hv _) (by simp; omega) ⟨[], rfl, by simp, by simp⟩) fun x a w' hp => ?_
  obtain ⟨e', fr, H1, G1, ⟨r0, HJ, σ, hs, hk⟩, hp⟩ := hp
  refine bodyPostM_mono ?_ (body_leaves hT hI (e := .ret r0) (H' := HJ) ⟨e', fr, H1, G1, hk, hp⟩)
  rintro z w1 ⟨G', e, i, hz⟩
  cases z with
  | returned u =>
    obtain ⟨G'', e2, i2, r2⟩ := hs.ok hI e i hz
    exact ⟨G'', e2, i2, r2⟩
  | panicked ch => cases ch <;> exact hz.elim
  | outgrown => exact hz.elim
theorem Sound.after {E : Env} {f : FuncId} {args : List AV} {H HJ H' : AH} {r r' : AV} (h : Sound E f args H (.ret r) HJ) (hl : Leaves H [r] HJ [r'] H') : Sound E f args H (.ret r') H' := by
  refine ⟨h.1, fun F n hF G w vs hI hv => (h.2 F n hF G w vs hI hv).mono ?_⟩
  rintro z w' ⟨G', e, i, hz⟩
  cases z with
  | returned u =>
    obtain ⟨G'', e2, i2, r2⟩ := leaves_ok hI hl e i (VL.nil.cons hz)
    exact ⟨G'', e2, i2, r2.2 0 _ _ rfl rfl⟩
  | panicked ch => cases ch <;> exact hz.elim
  | outgrown => exact hz.elim
end Go.Arm
