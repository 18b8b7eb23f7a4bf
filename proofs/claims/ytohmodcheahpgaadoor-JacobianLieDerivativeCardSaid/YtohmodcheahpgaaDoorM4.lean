/- Part of a proof: what the functions of the program do to abstract states, step by step. -/
import Derived.Test.YtohmodcheahpgaaDoorM3
import Derived.Test.YtohmodcheahpgaaDoorTie
import Derived.Test.YtohmodcheahpgaaDoorCards
import Derived.ProofKit
import Derived.Stop.Joined
import Derived.SevenTiedAt
set_option linter.unusedVariables false
set_option linter.unusedSimpArgs false
namespace Go.Proofs.YtohmodcheahpgaaDoor.Arm
open Go.Arm Go.Pl

/-- The builder's block. -/
def bst (l : List Nd) (n : Nat) : ABlk := .row true 2 [.agg [xs l, .int .i64 n]]
theorem uOf_code {o : Int} (h : 4 ≤ o) (k : o ≤ 6) : (uOf o).code = o := by
  unfold uOf
  split
  · simp [U.code, *]
  · split
    · simp [U.code, *]
    · simp only [U.code]; omega
theorem bOf_code {o : Int} (h : 7 ≤ o) (k : o ≤ 10) : (bOf o).code = o := by
  unfold bOf
  split
  · simp [B.code, *]
  · split
    · simp [B.code, *]
    · split
      · simp [B.code, *]
      · simp only [B.code]; omega
theorem rBuild (n : Nat) (hn : 0 < n ∧ n ≤ 1000000) : ∀ (d : Nat) (l : List Nd) (b : Nat) (H : AH), d ≤ 20 → l.length ≤ 1000000000 → H[b]? = some (bst l n) →
    Sound E 50 [.ptr b 1 0 0, .int .i64 ((d : Int) + 1)] H (.ret (xs (ser (bld n d l).1))) (H.set b (bst (bld n d l).2 n)) := by
  intro d
  induction d using Nat.strongRecOn with
  | _ d ih =>
  intro l b H hd hl hb
  refine sound_of_awp tabOk mixed Tryd.func50 rfl (by rfl) Tryd.ntmps50 (by kernel_rfl) (by simp) ?_
  have hbl : b < H.length := (List.getElem?_eq_some_iff.1 hb).1
  have w1 : IntKind.i64.wrap ((d : Int) + 1 - 1) = (d : Int) := by rw [wrap64 (by omega) (by omega)]; omega
  cases l with
  | nil =>
    simp [hb, bst, xs]
    refine call_ret (rPoint _ _) ?_
    simp
    refine call_ret (r7Const _ _) ?_
    simp [bld]
    have hset : H.set b (.row true 2 [.agg [.slice [] false, .int .i64 n]]) = H := by
      apply List.ext_getElem?
      intro c
      by_cases hc : b = c
      · subst hc; rw [List.getElem?_set_self hbl, hb]; rfl
      · rw [List.getElem?_set_ne hc]
    have e1 : (bld n d []).1 = number 1 := by cases d <;> rfl
    have e2 : (bld n d []).2 = [] := by cases d <;> rfl
    have e3 : ∀ v, bodyK E Tryd.f50 H v H .ret = bodyK E Tryd.f50 H v (H.set b (.row true 2 [.agg [.slice [] false, .int .i64 n]])) .ret := by intro v; rw [hset]
    try rw [e1]
    try rw [e2]
    try simp only [bst, xs, List.map_nil]
    rw [hset]
    exact fin0 (rs := [.tmp 4]) (by rfl) (by simp [resA, number, xs])
  | cons x r =>
    have hne : ((r.length : Int) + 1 == 0) = false := by rw [beq_eq_false_iff_ne]; omega
    have hb' := hb
    unfold bst at hb'
    have hop := bOp_bounds x
    have hwop : IntKind.i64.wrap (1 + (andA .i64 x.op 255).tmod 10) = bOp x := by
      obtain ⟨l1, l2⟩ := low_bounds x.op (m := 255) (by decide)
      rw [and255, Int.tmod_eq_emod_of_nonneg l1]
      unfold bOp at hop ⊢
      exact wrap64 (by omega) (by omega)
    have hwn : IntKind.i64.wrap (1 + IntKind.i64.wrap (andA .i64 x.n 255 * andA .i64 x.n 1)) = 1 + low x.n 255 * low x.n 1 := by
      have hw := bW x
      rw [and255, and1']
      rw [wrap64 (n := low x.n 255 * low x.n 1) (by omega) (by omega), wrap64 (by omega) (by omega)]
    obtain ⟨v1, v2⟩ := low_var x.n hn.1
    have hvn : (andA .i64 x.n 255).tmod n = low x.n 255 % n := by
      obtain ⟨l1, l2⟩ := low_bounds x.n (m := 255) (by decide)
      rw [and255, Int.tmod_eq_emod_of_nonneg l1]
    have htk : List.take r.length (List.map nd r) = List.map nd r := List.take_of_length_le (by simp)
    simp [hb', xs, hne, old hb', olds hb']
    refine bind_if (by omega) ?_
    rw [htk]
    have hb1 : (H.set b (bst r n))[b]? = some (bst r n) := List.getElem?_set_self hbl
    have hset : ∀ l, (H.set b (bst r n)).set b (bst l n) = H.set b (bst l n) := fun l => List.set_set ..
    simp [old hb', olds hb', hwop]
    have hfold : H.set b (.row true 2 [.agg [.slice (List.map nd r) false, .int .i64 n]]) = H.set b (bst r n) := rfl
    have fin : ∀ (fr : AFr) (e : Ex) (q : List Nd) (J : AH) (x : AExit), fr 4 = xs (ser e) → (x = .ret ∨ x = .normal) →
        bodyK E Tryd.f50 H (.ret (xs (ser e))) (H.set b (bst q n)) x fr (H.set b (bst q n) ++ J) := by
      intro fr e q J x h4 hx
      exact finU (rs := [.tmp 4]) (by rfl) (by simp [resA, h4]) (by simp) (set_blocks (by simp [bst, noFB, noF, noFs, xs_noF])) (xs_noF _ _) hx
    have fin2 : ∀ (fr : AFr) (e : Ex) (q : List Nd) (J : AH) (x : AExit), fr 4 = .slice ((ser e).map nd) true → (x = .ret ∨ x = .normal) →
        bodyK E Tryd.f50 H (.ret (xs (ser e))) (H.set b (bst q n)) x fr (H.set b (bst q n) ++ J) := by
      intro fr e q J x h4 hx
      exact finG (rs := [.tmp 4]) (vs := [.slice ((ser e).map nd) true]) (vs' := [xs (ser e)]) (J' := J) (by rfl) (by simp [resA, h4]) (by simp [xs]) (by simp) (set_blocks (by simp [bst, noFB, noF, noFs, xs_noF])) (by simp only [noFs, Bool.and_true]; exact xs_noF _ _) (by simp [one]) hx
    try rw [hfold]
    obtain ⟨H1, hH1⟩ : ∃ H1, H1 = H.set b (bst r n) := ⟨_, rfl⟩
    have hl1 : H1.length = H.length := by rw [hH1]; simp
    rw [← hH1, ← hl1]
    rw [← hH1] at hb1
    have hb1' := hb1
    unfold bst at hb1'
    by_cases h1 : bOp x = 1
    · have e1 : bld n d (x :: r) = (bNum x, r) := by cases d <;> simp [bld, h1]
      rw [e1]
      simp [h1]
      refine call_ret (rNear _ _ (by rw [hwn]; exact bW x) _) ?_
      rw [hwn]
      simp
      refine call_ret (r7Const _ _) ?_
      simp
      rw [hH1]
      exact fin _ _ _ _ _ (by simp [bNum, nearI', nearI]) (by simp)
    have h1' : (bOp x == 1) = false := by simp [h1]
    by_cases h2 : bOp x = 2
    · have e1 : bld n d (x :: r) = (.var (low x.n 255 % n).toNat, r) := by cases d <;> simp [bld, h2]
      rw [e1]
      simp [h2]
      refine call_ret (r7Arity _ _) ?_
      simp [arity, h2, old hb1']
      refine bind_ifn (by omega) ?_
      simp [hvn]
      refine endD [] (by rfl) (by simp [okW, note, Eff.triv, Eff.wr, Eff.none, upTo, newAt]) ?_
      simp
      rw [hH1]
      exact fin2 _ _ _ _ _ (by simp [ser, leafN]; omega) (by simp)
    have h2' : (bOp x == 2) = false := by simp [h2]
    by_cases h3 : bOp x = 3
    · have e1 : bld n d (x :: r) = (.time, r) := by cases d <;> simp [bld, h3]
      rw [e1]
      simp [h3]
      refine call_ret (r7Arity _ _) ?_
      simp [arity, h3, old hb1']
      rw [hH1]
      exact fin2 _ _ _ _ _ (by simp [ser, leafN]) (by simp)
    have h3' : (bOp x == 3) = false := by simp [h3]
    have har : arity (bOp x) = if bOp x ≤ 6 then 1 else 2 := by
      unfold arity
      rw [if_neg (by omega)]
      by_cases h6 : bOp x ≤ 6
      · rw [if_pos (by omega), if_pos h6]
      · rw [if_neg (by omega), if_pos (by omega), if_neg h6]
    have hpos : 0 < arity (bOp x) := by rw [har]; split <;> omega
    cases d with
    | zero =>
      have e1 : bld n 0 (x :: r) = (bNum x, r) := by simp [bld, h2, h3]
      rw [e1]
      simp [h1']
      refine call_ret (r7Arity _ _) ?_
      simp [hpos]
      refine call_ret (rNear _ _ (by rw [hwn]; exact bW x) _) ?_
      rw [hwn]
      simp
      refine call_ret (r7Const _ _) ?_
      simp
      rw [hH1]
      exact fin _ _ _ _ _ (by simp [bNum, nearI', nearI]) (by simp)
    | succ d =>
      have hd2 : ¬ ((d + 1 : Nat) : Int) + 1 < 2 := by omega
      have hd2' : decide ((d : Int) + 1 + 1 < 2) = false := by simp; omega
      simp [h1']
      refine call_ret (r7Arity _ _) ?_
      simp [hpos, h2', h3', hd2']
      refine call_ret (r7Arity _ _) ?_
      rw [har]
      have hs1 := bld_sz n d r
      have hs2 := bld_sz n d (bld n d r).2
      have hp2 : 2 ^ (d + 1) ≤ 2 ^ 21 := Nat.pow_le_pow_right (by decide) (by omega)
      have hq1 := bld_len n d r
      have w1' : IntKind.i64.wrap ((d : Int) + 1) = (d : Int) + 1 := wrap64 (by omega) (by omega)
      have hne1 : ∀ e : Ex, ser e ≠ [] := fun e h => by have := sz_pos e; rw [sz, h] at this; simp at this
      have hsz : ∀ e : Ex, (ser e).length = sz e := fun _ => rfl
      have rec1 : ∀ (l : List Nd) (J : AH), l.length ≤ 1000000000 → Sound E 50 [.ptr b 1 0 0, .int .i64 ((d : Int) + 1)] (H.set b (bst l n) ++ J) (.ret (xs (ser (bld n d l).1))) (H.set b (bst (bld n d l).2 n) ++ J) := by
        intro l J hl
        have h := ih d (by omega) l b (H.set b (bst l n) ++ J) (by omega) hl (get_old (List.getElem?_set_self hbl))
        rwa [set_set_app hbl] at h
      by_cases h6 : bOp x ≤ 6
      · have e1 : bld n (d + 1) (x :: r) = (.un (uOf (bOp x)) (bld n d r).1, (bld n d r).2) := by simp [bld, h1, h2, h3, h6]
        rw [e1]
        simp [h6, w1']
        rw [hH1]
        refine call_ret (rec1 r _ (by simp at hl; omega)) ?_
        simp
        refine call_ret (r7Unary _ _ (hne1 _) (by rw [hsz]; omega) _) ?_
        simp
        exact fin _ _ _ _ _ (by simp [ser, uOf_code (show 4 ≤ bOp x by omega) h6]) (by simp)
      · have e1 : bld n (d + 1) (x :: r) = (.bin (bOf (bOp x)) (bld n d r).1 (bld n d (bld n d r).2).1, (bld n d (bld n d r).2).2) := by simp [bld, h1, h2, h3, h6]
        rw [e1]
        simp [h6, w1']
        rw [hH1]
        refine call_ret (rec1 r _ (by simp at hl; omega)) ?_
        simp [w1']
        refine call_ret (rec1 (bld n d r).2 _ (by simp at hl; omega)) ?_
        simp
        refine call_ret (r7Binary _ _ _ (hne1 _) (hne1 _) (by rw [hsz, hsz]; omega) _) ?_
        simp
        exact fin _ _ _ _ _ (by simp [ser, bOf_code (show 7 ≤ bOp x by omega) hop.2]) (by simp)
theorem r7Made (l : List Nd) (most n : Nat) (hn : 0 < n ∧ n ≤ 1000000) (hl : l.length ≤ 200000000000000) (hm : most ≤ 1000000000) (H : AH) : Sound E 13 [xs l, .int .i64 most, .int .i64 n] H (.ret (xs (ser (mde n l most)))) H := by
  refine sound_of_awp tabOk mixed Tryd.func13 rfl (by rfl) Tryd.ntmps13 (by kernel_rfl) (by simp) ?_
  have hmin : (if (most : Int) < (l.length : Int) then (most : Int) else (l.length : Int)) = ((min most l.length : Nat) : Int) := by split <;> omega
  have hmin2 : (if most < l.length then (most : Int) else (l.length : Int)) = ((min most l.length : Nat) : Int) := by split <;> omega
  simp [xs]
  refine bind_if (szOk_map fun _ => rfl) ?_
  rw [hmin2]
  refine bind_if (by omega) ?_
  have htk : List.take ((min most l.length : Nat) : Int).toNat (l.map nd) = (l.take most).map nd := by
    rw [Int.toNat_natCast, List.map_take]
    by_cases h : most ≤ l.length
    · rw [Nat.min_eq_left h]
    · rw [Nat.min_eq_right (by omega), List.take_of_length_le (by simp), List.take_of_length_le (by simp; omega)]
  rw [htk]
  simp
  have h := rBuild n hn 4 (l.take most) H.length (H ++ [bst (l.take most) n]) (by decide) (by rw [List.length_take]; omega) (by simp)
  simp only [bst, xs] at h
  simp at h
  refine call_ret h ?_
  simp
  exact fin1 (rs := [.tmp 6]) (by rfl) (by simp [resA, xs, mde]) (xs_noF _ _)
end Go.Proofs.YtohmodcheahpgaaDoor.Arm

namespace Go.Proofs.YtohmodcheahpgaaDoor.Arm
open Go.Arm Go.Pl

theorem pushIv {H J : AH} {v v0 : AV} {l : List I} {p : I} (hacc : Acc H J v 2 (l.map iv) v0) (h0 : emptyA v0 = true) (hl : l.length ≤ 1000000000) :
    ∃ v' J', appendA tab (H ++ J) 24 v (.slice [iv p] true) = some (v', H ++ J') ∧ Acc H J' v' 2 ((l ++ [p]).map iv) v0 ∧ (∀ j y, J[j]? = some y → (∀ n, v ≠ .ref (H.length + j) n) → J'[j]? = some y) ∧ J.length ≤ J'.length := by
  obtain ⟨v', J', hap, hacc', hk, hle, _⟩ := Acc.push (T := tab) (t := 24) (e := 26) (x := .slice [iv p] true) (ys := [iv p]) hacc tab24 rfl tab26 h0 rfl (by simp [okc]) ⟨by decide, by simp⟩ (by simp; omega) (by simp; omega)
  exact ⟨v', J', hap, by simpa using hacc', hk, hle⟩
/-- A made box. -/
def mdi (l : List I) (k : Nat) : I := ((l[k]?).map madeI).getD (0, 0)
def mdb (l : List I) (n : Nat) : List I := (List.range n).map (mdi l)
theorem mdb_succ (l : List I) (n : Nat) : mdb l (n + 1) = mdb l n ++ [mdi l n] := by simp [mdb, List.range_succ]
theorem mdb_len (l : List I) (n : Nat) : (mdb l n).length = n := by simp [mdb]
theorem mdi_valid (l : List I) (k : Nat) : vB (mdi l k) = true := by
  unfold mdi
  cases l[k]? with
  | none => decide
  | some p => exact madeI_valid p
theorem mdb_valid (l : List I) (n : Nat) : ∀ p ∈ mdb l n, vB p = true := fun p hp => by
  obtain ⟨k, _, rfl⟩ := List.mem_map.1 hp; exact mdi_valid l k
def LBm (l : List I) (n : Nat) (H : AH) (i : Nat) (fr : AFr) (H' : AH) : Prop :=
  fr 0 = bx l ∧ fr 1 = .int .i64 n ∧ fr 6 = .int .i64 i ∧ i ≤ n ∧ ∃ J, H' = H ++ J ∧ Acc H J (fr 5) 2 ((mdb l i).map iv) (.slice [] true)
theorem r3Made (l : List I) (n : Nat) (hn : n ≤ 1000000) (hl : l.length ≤ 200000000000000) (H : AH) : Sound E 14 [bx l, .int .i64 n] H (.ret (bx (mdb l n))) H := by
  refine sound_of_awp tabOk mixed Tryd.func14 rfl (by rfl) Tryd.ntmps14 (by kernel_rfl) (by simp) ?_
  simp [bx]
  refine loop_count (LBm l n H) (fun i => n - i) 0 ⟨by simp [bx], by simp, by simp, by omega, [], by simp, .inl ⟨by simp [mdb], by simp⟩⟩ ?_
  rintro i fr H' ⟨g0, g1, g6, hi, J, rfl, hacc⟩
  simp [g1, g6]
  refine branch (fun hc => ?_) (fun hc => ?_)
  · have hlt : i < n := by simpa using hc
    have w2 : IntKind.i64.wrap ((i : Int) + 1) = ((i + 1 : Nat) : Int) := by rw [wrap64 (by omega) (by omega)]; omega
    simp [g0, g6, bx]
    refine branch (fun hc2 => ?_) (fun hc2 => ?_)
    · have hlt2 : i < l.length := by simpa using hc2
      obtain ⟨p, hp⟩ := get_lt hlt2
      have hpE : ∀ h, l[i]'h = p := fun h => (List.getElem?_eq_some_iff.1 hp).2
      simp [g0, g6, bx, hp, hpE]
      refine call_ret (rMade p _) ?_
      simp
      obtain ⟨v', J', hap, hacc', _⟩ := pushIv (p := madeI p) (hacc.len (L := [.row true 2 [iv (madeI p)]])) rfl (by rw [mdb_len]; omega)
      refine bind_some (by simpa [iv] using hap) ?_
      simp [g6, w2]
      exact ⟨i + 1, by show n - (i + 1) < n - i; omega, by simp [g0, bx], by simp [g1], by simp, by omega, J', rfl, by rw [mdb_succ]; simpa [mdi, hp] using hacc'⟩
    · have hlt2 : l[i]? = none := by
        have : ¬ i < l.length := by simpa using hc2
        rw [List.getElem?_eq_none_iff]; omega
      simp
      obtain ⟨v', J', hap, hacc', _⟩ := pushIv (p := (0, 0)) (hacc.len (L := [.row true 2 [iv (0, 0)]])) rfl (by rw [mdb_len]; omega)
      refine bind_some (by simpa [iv] using hap) ?_
      simp [g6, w2]
      exact ⟨i + 1, by show n - (i + 1) < n - i; omega, by simp [g0, bx], by simp [g1], by simp, by omega, J', rfl, by rw [mdb_succ]; simpa [mdi, hlt2] using hacc'⟩
  · have hi' : i = n := by have : ¬ i < n := by simpa using hc
                           omega
    subst hi'
    simp
    exact finS (t := 4) (by rfl) (by simp) hacc rfl (iv_noFs _ _)
end Go.Proofs.YtohmodcheahpgaaDoor.Arm

namespace Go.Proofs.YtohmodcheahpgaaDoor.Arm
open Go.Arm Go.Pl

def ix (l : List Int) : AV := .slice (l.map (.int .i64)) false
def ux (l : List Int) : AV := .slice (l.map (.int .u16)) false
theorem int_noFs (l : List Int) (n : Nat) : noFs n (l.map (.int .i64)) = true := noFs_iff.2 fun x hx => by obtain ⟨y, _, rfl⟩ := List.mem_map.1 hx; rfl
theorem pushInt {H J : AH} {v v0 : AV} {l : List Int} {p : Int} (hacc : Acc H J v 1 (l.map (.int .i64)) v0) (h0 : emptyA v0 = true) (hl : l.length ≤ 1000000000) :
    ∃ v' J', appendA tab (H ++ J) 51 v (.slice [.int .i64 p] true) = some (v', H ++ J') ∧ Acc H J' v' 1 ((l ++ [p]).map (.int .i64)) v0 ∧ (∀ j y, J[j]? = some y → (∀ n, v ≠ .ref (H.length + j) n) → J'[j]? = some y) ∧ J.length ≤ J'.length := by
  obtain ⟨v', J', hap, hacc', hk, hle, _⟩ := Acc.push (T := tab) (t := 51) (e := 2) (x := .slice [.int .i64 p] true) (ys := [.int .i64 p]) hacc tab51 rfl tab2 h0 rfl (by simp [okc]) ⟨by decide, by simp⟩ (by simp; omega) (by simp; omega)
  exact ⟨v', J', hap, by simpa using hacc', hk, hle⟩
theorem app_int1 {H : AH} {p : Int} {f : Bool} : appendA tab H 51 (.slice [] true) (.slice [.int .i64 p] f) = some (.ref H.length 1, H ++ [.row true 1 [.int .i64 p]]) := by
  simp only [appendA, tab51, tab2, els, vcells, AV.cells, growA]
  simp [okc, growNew]
theorem app_int {H : AH} {p : Int} {l : List AV} {b n : Nat} {wr f : Bool} (hb : n ≤ 1000000000) (hn : l.length = n) (hH : H[b]? = some (.row wr 1 l)) :
    appendA tab H 51 (.ref b n) (.slice [.int .i64 p] f) = some (.ref b (n + 1), H.set b (.row wr 1 (l ++ [.int .i64 p]))) := by
  subst hn
  simp only [appendA, tab51, tab2, els, vcells, AV.cells, growA, hH]
  simp [okc]
  omega
def LPo (l : List Int) (H : AH) (i : Nat) (fr : AFr) (H' : AH) : Prop :=
  fr 0 = ix l ∧ fr 4 = .int .i64 i ∧ i ≤ l.length ∧ ∃ J, H' = H ++ J ∧ Acc H J (fr 3) 2 (((l.take i).map pt).map iv) (.slice [] true)
theorem r3Point (l : List Int) (hl : l.length ≤ 1000000000) (H : AH) : Sound E 31 [ix l] H (.ret (bx (l.map pt))) H := by
  refine sound_of_awp tabOk mixed Tryd.func31 rfl (by rfl) Tryd.ntmps31 (by kernel_rfl) (by simp) ?_
  simp [ix]
  refine loop_count (LPo l H) (fun i => l.length - i) 0 ⟨by simp [ix], by simp, by omega, [], by simp, .inl ⟨by simp, by simp⟩⟩ ?_
  rintro i fr H' ⟨g0, g4, hi, J, rfl, hacc⟩
  simp [g0, g4, ix]
  refine branch (fun hc => ?_) (fun hc => ?_)
  · have hlt : i < l.length := by simpa using hc
    obtain ⟨p, hp⟩ := get_lt hlt
    have hpE : ∀ h, l[i]'h = p := fun h => (List.getElem?_eq_some_iff.1 hp).2
    have w2 : IntKind.i64.wrap ((i : Int) + 1) = ((i + 1 : Nat) : Int) := by rw [wrap64 (by omega) (by omega)]; omega
    have hft : l.take (i + 1) = l.take i ++ [p] := by rw [List.take_add_one, hp]; rfl
    simp [g0, g4, ix, hp, hpE]
    refine call_ret (rPoint p _) ?_
    simp
    obtain ⟨v', J', hap, hacc', _⟩ := pushIv (p := pt p) hacc rfl (by simp; omega)
    refine bind_some (by simpa [iv] using hap) ?_
    simp [g4, w2]
    exact ⟨i + 1, by show l.length - (i + 1) < l.length - i; omega, by simp [g0, ix], by simp, by omega, J', rfl, by rw [hft]; simpa using hacc'⟩
  · have hi' : i = l.length := by have : ¬ i < l.length := by simpa using hc
                                  omega
    subst hi'
    rw [List.take_length] at hacc
    simp
    exact finS (t := 2) (by rfl) (by simp) hacc rfl (iv_noFs _ _)

/-- A coordinate of a point in a box. -/
def pin (b : I) (n : Int) : Int := if entB b then n else b.1 + ((b.2 - b.1) * n).tdiv 65535
def pinL (b : List I) (f : List Int) (n : Nat) : List Int := (List.range n).map fun i => pin ((b[i]?).getD (0, 0)) ((f[i]?).getD 0)
theorem pinL_succ (b : List I) (f : List Int) (n : Nat) : pinL b f (n + 1) = pinL b f n ++ [pin ((b[n]?).getD (0, 0)) ((f[n]?).getD 0)] := by simp [pinL, List.range_succ]
theorem pinL_len (b : List I) (f : List Int) (n : Nat) : (pinL b f n).length = n := by simp [pinL]
theorem pin_bounds {b : I} {n : Int} (h : vB b = true) (hn : 0 ≤ n ∧ n ≤ 65535) (he : entB b = false) : 0 ≤ ((b.2 - b.1) * n).tdiv 65535 ∧ ((b.2 - b.1) * n).tdiv 65535 ≤ b.2 - b.1 ∧ 0 ≤ (b.2 - b.1) * n ∧ (b.2 - b.1) * n ≤ 4294967296 * 65535 := by
  have h1 := entB_false h he
  have h2 : 0 ≤ (b.2 - b.1) * n := Int.mul_nonneg (by omega) hn.1
  have h3 : (b.2 - b.1) * n ≤ (b.2 - b.1) * 65535 := Int.mul_le_mul_of_nonneg_left hn.2 (by omega)
  rw [Int.tdiv_eq_ediv_of_nonneg h2]
  refine ⟨by omega, by omega, h2, by omega⟩
def LPi (b : List I) (f : List Int) (H : AH) (i : Nat) (fr : AFr) (H' : AH) : Prop :=
  fr 0 = bx b ∧ fr 1 = ux f ∧ fr 6 = .int .i64 i ∧ i ≤ b.length ∧ ∃ J, H' = H ++ J ∧ Acc H J (fr 5) 1 ((pinL b f i).map (.int .i64)) (.slice [] true)
theorem r3PointIn (b : List I) (f : List Int) (hb : ∀ p ∈ b, vB p = true) (hf : ∀ x ∈ f, 0 ≤ x ∧ x ≤ 65535) (hl : b.length ≤ 1000000000) (H : AH) : Sound E 29 [bx b, ux f] H (.ret (ix (pinL b f b.length))) H := by
  refine sound_of_awp tabOk mixed Tryd.func29 rfl (by rfl) Tryd.ntmps29 (by kernel_rfl) (by simp) ?_
  simp [bx, ux]
  refine loop_count (LPi b f H) (fun i => b.length - i) 0 ⟨by simp [bx], by simp [ux], by simp, by omega, [], by simp, .inl ⟨by simp [pinL], by simp⟩⟩ ?_
  rintro i fr H' ⟨g0, g1, g6, hi, J, rfl, hacc⟩
  simp [g0, g6, bx]
  refine branch (fun hc => ?_) (fun hc => ?_)
  · have hlt : i < b.length := by simpa using hc
    obtain ⟨p, hp⟩ := get_lt hlt
    have hpE : ∀ h, b[i]'h = p := fun h => (List.getElem?_eq_some_iff.1 hp).2
    have hpv := hb p (List.mem_of_getElem? hp)
    have w2 : IntKind.i64.wrap ((i : Int) + 1) = ((i + 1 : Nat) : Int) := by rw [wrap64 (by omega) (by omega)]; omega
    have hpn : ∀ n : Int, (f[i]?).getD 0 = n → pinL b f (i + 1) = pinL b f i ++ [pin p n] := fun n h => by rw [pinL_succ, hp, h]; rfl
    simp [g1, g6, ux]
    refine branch (fun hc2 => ?_) (fun hc2 => ?_)
    · have hlt2 : i < f.length := by simpa using hc2
      obtain ⟨n, hn⟩ := get_lt hlt2
      have hnE : ∀ h, f[i]'h = n := fun h => (List.getElem?_eq_some_iff.1 hn).2
      obtain ⟨n0, n1⟩ := hf n (List.mem_of_getElem? hn)
      have hq := hpn n (by rw [hn]; rfl)
      have wn : IntKind.i64.wrap n = n := wrap64 (by omega) (by omega)
      simp [g0, g1, g6, ux, bx, hn, hnE, hp, hpE, wn]
      refine call_ret (rIsEntire p _) ?_
      cases he : entB p with
      | true =>
        simp
        obtain ⟨v', J', hap, hacc', _⟩ := pushInt (p := n) hacc rfl (by rw [pinL_len]; omega)
        refine bind_some hap ?_
        simp [g6, w2]
        exact ⟨i + 1, by show b.length - (i + 1) < b.length - i; omega, by simp [g0, bx], by simp [g1, ux], by simp, by omega, J', rfl, by rw [hq]; simpa [pin, he] using hacc'⟩
      | false =>
        obtain ⟨b1, b2, b3, b4⟩ := pin_bounds hpv ⟨n0, n1⟩ he
        have hpb := vB_bounds hpv
        have u1 : IntKind.i64.wrap (p.2 - p.1) = p.2 - p.1 := wrap64 (by omega) (by omega)
        have u2 : IntKind.i64.wrap ((p.2 - p.1) * n) = (p.2 - p.1) * n := wrap64 (by omega) (by omega)
        have u3 : IntKind.i64.wrap (((p.2 - p.1) * n).tdiv 65535) = ((p.2 - p.1) * n).tdiv 65535 := wrap64 (by omega) (by omega)
        have u4 : IntKind.i64.wrap (p.1 + ((p.2 - p.1) * n).tdiv 65535) = p.1 + ((p.2 - p.1) * n).tdiv 65535 := wrap64 (by omega) (by omega)
        simp [g0, g6, bx, hp, hpE, u1, u2, u3, u4]
        rcases hacc with ⟨h0, h1⟩ | ⟨kk, h1, h2⟩
        · have ha := app_int1 (H := H ++ J) (p := p.1 + ((p.2 - p.1) * n).tdiv 65535) (f := true)
          have hz : i = 0 := by
            have := congrArg List.length h0
            simpa [pinL_len] using this
          subst hz
          simp [h1]
          refine bind_some ha ?_
          simp
          refine endD [] (by rfl) (by simp [okW, note, Eff.triv, Eff.wr, Eff.none, upTo, newAt]) ?_
          have w3 : IntKind.i64.wrap 1 = 1 := wrap64 (by decide) (by decide)
          simp [g6, w3]
          exact ⟨1, by show b.length - 1 < b.length - 0; omega, by simp [g0, bx], by simp [g1, ux], by simp, by omega, J ++ [.row true 1 [.int .i64 (p.1 + ((p.2 - p.1) * n).tdiv 65535)]], by simp, .inr ⟨J.length, by rw [hq]; simp [pinL], by rw [hq]; simp [pinL, pin, he]⟩⟩
        · have ha := app_int (H := H ++ J) (p := p.1 + ((p.2 - p.1) * n).tdiv 65535) (f := true) (n := i) (l := (pinL b f i).map (.int .i64)) (wr := true) (b := H.length + kk) (by omega) (by rw [List.length_map, pinL_len]) (by simpa using h2)
          rw [List.length_map, pinL_len] at h1
          simp [h1, h2]
          refine bind_some ha ?_
          simp
          refine endD [] (by rfl) (by simp [okW, note, Eff.triv, Eff.wr, Eff.none, upTo, newAt]) ?_
          simp [g6, w2]
          exact ⟨i + 1, by show b.length - (i + 1) < b.length - i; omega, by simp [g0, bx], by simp [g1, ux], by simp, by omega, J.set kk (.row true 1 ((pinL b f (i + 1)).map (.int .i64))), by rw [hq]; simp [pin, he], .inr ⟨kk, by simp [pinL_len], by rw [List.getElem?_set_self (List.getElem?_eq_some_iff.1 h2).1]⟩⟩
    · have hn : f[i]? = none := by
        have : ¬ i < f.length := by simpa using hc2
        rw [List.getElem?_eq_none_iff]; omega
      have hq := hpn 0 (by rw [hn]; rfl)
      simp [g0, g1, g6, ux, bx, hp, hpE]
      refine call_ret (rIsEntire p _) ?_
      cases he : entB p with
      | true =>
        simp
        obtain ⟨v', J', hap, hacc', _⟩ := pushInt (p := 0) hacc rfl (by rw [pinL_len]; omega)
        refine bind_some hap ?_
        simp [g6, w2]
        exact ⟨i + 1, by show b.length - (i + 1) < b.length - i; omega, by simp [g0, bx], by simp [g1, ux], by simp, by omega, J', rfl, by rw [hq]; simpa [pin, he] using hacc'⟩
      | false =>
        have hpb := vB_bounds hpv
        have u1 : IntKind.i64.wrap p.1 = p.1 := wrap64 (by omega) (by omega)
        have u0 : IntKind.i64.wrap 0 = 0 := wrap64 (by omega) (by omega)
        simp [g0, g6, bx, hp, hpE, u0, u1]
        rcases hacc with ⟨h0, h1⟩ | ⟨kk, h1, h2⟩
        · have ha := app_int1 (H := H ++ J) (p := p.1) (f := true)
          have hz : i = 0 := by
            have := congrArg List.length h0
            simpa [pinL_len] using this
          subst hz
          simp [h1]
          refine bind_some ha ?_
          simp
          refine endD [] (by rfl) (by simp [okW, note, Eff.triv, Eff.wr, Eff.none, upTo, newAt]) ?_
          have w3 : IntKind.i64.wrap 1 = 1 := wrap64 (by decide) (by decide)
          simp [g6, w3]
          exact ⟨1, by show b.length - 1 < b.length - 0; omega, by simp [g0, bx], by simp [g1, ux], by simp, by omega, J ++ [.row true 1 [.int .i64 (p.1)]], by simp, .inr ⟨J.length, by rw [hq]; simp [pinL], by rw [hq]; simp [pinL, pin, he]⟩⟩
        · have ha := app_int (H := H ++ J) (p := p.1) (f := true) (n := i) (l := (pinL b f i).map (.int .i64)) (wr := true) (b := H.length + kk) (by omega) (by rw [List.length_map, pinL_len]) (by simpa using h2)
          rw [List.length_map, pinL_len] at h1
          simp [h1, h2]
          refine bind_some ha ?_
          simp
          refine endD [] (by rfl) (by simp [okW, note, Eff.triv, Eff.wr, Eff.none, upTo, newAt]) ?_
          simp [g6, w2]
          exact ⟨i + 1, by show b.length - (i + 1) < b.length - i; omega, by simp [g0, bx], by simp [g1, ux], by simp, by omega, J.set kk (.row true 1 ((pinL b f (i + 1)).map (.int .i64))), by rw [hq]; simp [pin, he], .inr ⟨kk, by simp [pinL_len], by rw [List.getElem?_set_self (List.getElem?_eq_some_iff.1 h2).1]⟩⟩
  · have hi' : i = b.length := by have : ¬ i < b.length := by simpa using hc
                                  omega
    subst hi'
    simp
    exact finS (t := 4) (by rfl) (by simp) hacc rfl (int_noFs _ _)
end Go.Proofs.YtohmodcheahpgaaDoor.Arm

namespace Go.Proofs.YtohmodcheahpgaaDoor.Arm
open Go.Arm Go.Pl

theorem lVariable (i : Nat) (H : AH) : Sound E 23 [.int .i64 i] H (.ret (xs (ser (.var i)))) H := by
  refine sound_of_awp tabOk mixed Tryd.func23 rfl (by rfl) Tryd.ntmps23 (by kernel_rfl) (by simp) ?_
  simp
  exact finC0 (rs := [.tmp 2]) (vs := [.slice [nd (leafN 2 i)] true]) (vs' := [.slice [nd (leafN 2 i)] false]) (by rfl) (by simp [resA, leafN]) (by simp) (by simp [noF, noFs]) rfl
theorem r10Number (x : Int) (hx : -1000000 ≤ x ∧ x ≤ 1000000) (H : AH) : Sound E 21 [.int .i64 x] H (.ret (xs (ser (number x)))) H := by
  refine sound_of_awp tabOk mixed Tryd.func21 rfl (by rfl) Tryd.ntmps21 (by kernel_rfl) (by simp) ?_
  have w : IntKind.i64.wrap (x * 65536) = x * 65536 := wrap64 (by omega) (by omega)
  simp [w]
  refine call_ret (rPoint _ _) ?_
  simp
  refine call_ret (r7Const _ _) ?_
  simp
  exact fin0 (rs := [.tmp 2]) (by rfl) (by simp [resA, number])
theorem r10Is (e : Ex) (x : Int) (hs : sz e ≤ 1000000000) (H : AH) : Sound E 40 [xs (ser e), .int .i64 x] H (.ret (.bool (isK e x))) H := by
  refine sound_of_awp tabOk mixed Tryd.func40 rfl (by rfl) Tryd.ntmps40 (by kernel_rfl) (by simp) ?_
  have hlen : (ser e).length = sz e := rfl
  cases e with
  | num c =>
    cases h : (c.1 == x) with
    | true =>
      simp [xs, ser, h]
      exact fin0 (rs := [.tmp 4]) (by rfl) (by simp [resA, isK, h])
    | false =>
      simp [xs, ser, h]
      exact fin0 (rs := [.tmp 4]) (by rfl) (by simp [resA, isK, h])
  | var i =>
    simp [xs, ser, leafN]
    exact fin0 (rs := [.tmp 4]) (by rfl) (by simp [resA, isK])
  | time =>
    simp [xs, ser, leafN]
    exact fin0 (rs := [.tmp 4]) (by rfl) (by simp [resA, isK])
  | un o a =>
    have hp := sz_pos a
    rw [sz_un] at hlen
    have h1 : ((((sz a : Nat) : Int) + 1) == 1) = false := by rw [beq_eq_false_iff_ne]; omega
    simp [xs, hlen, h1]
    exact fin0 (rs := [.tmp 4]) (by rfl) (by simp [resA, isK])
  | bin o a b =>
    have hp := sz_pos a
    rw [sz_bin] at hlen
    have h1 : ((((sz a : Nat) : Int) + ((sz b : Nat) : Int) + 1) == 1) = false := by rw [beq_eq_false_iff_ne]; omega
    simp [xs, hlen, h1]
    exact fin0 (rs := [.tmp 4]) (by rfl) (by simp [resA, isK])
def LOc (l : List Nd) (x : Nd) (H : AH) (i : Nat) (fr : AFr) (H' : AH) : Prop :=
  fr 0 = xs l ∧ fr 3 = .ptr H.length 1 0 0 ∧ fr 5 = .int .i64 i ∧ i ≤ l.length ∧ x ∉ l.take i ∧ H' = H ++ [.row true 4 [nd x]]
theorem lOccurs (l : List Nd) (x : Nd) (hl : l.length ≤ 1000000000) (H : AH) : Sound E 39 [xs l, nd x] H (.ret (.bool (decide (x ∈ l)))) H := by
  refine sound_of_awp tabOk mixed Tryd.func39 rfl (by rfl) Tryd.ntmps39 (by kernel_rfl) (by simp) ?_
  simp [xs]
  refine loop_count (LOc l x H) (fun i => l.length - i) 0 ⟨by simp [xs], by simp, by simp, by omega, by simp, by simp⟩ ?_
  rintro i fr H' ⟨g0, g3, g5, hi, hnot, rfl⟩
  simp [g0, g5, xs]
  refine branch (fun hc => ?_) (fun hc => ?_)
  · have hlt : i < l.length := by simpa using hc
    obtain ⟨y, hy⟩ := get_lt hlt
    have hyE : ∀ h, l[i]'h = y := fun h => (List.getElem?_eq_some_iff.1 hy).2
    have w2 : IntKind.i64.wrap ((i : Int) + 1) = ((i + 1 : Nat) : Int) := by rw [wrap64 (by omega) (by omega)]; omega
    have hft : l.take (i + 1) = l.take i ++ [y] := by rw [List.take_add_one, hy]; rfl
    simp [g0, g3, g5, xs, hy, hyE]
    refine endD [] (by rfl) (by simp [okW, note, Eff.triv, Eff.wr, Eff.none, upTo, newAt]) ?_
    simp
    refine branch (fun h2 => ?_) (fun h2 => ?_)
    · have e : y = x := by
        obtain ⟨a, b, c, d⟩ := y; obtain ⟨a', b', c', d'⟩ := x
        simpa [and_assoc] using h2
      have hm : x ∈ l := e ▸ List.mem_of_getElem? hy
      simp
      exact fin1 (rs := [.tmp 4]) (by rfl) (by simp [resA, hm]) (by simp [noF])
    · have e : x ≠ y := by
        rintro rfl
        simp at h2
      simp [g5, w2]
      exact ⟨i + 1, by show l.length - (i + 1) < l.length - i; omega, by simp [g0, xs], by simp [g3], by simp, by omega, by rw [hft]; simp [hnot, e], by simp⟩
  · have hi' : i = l.length := by have : ¬ i < l.length := by simpa using hc
                                  omega
    subst hi'
    rw [List.take_length] at hnot
    simp
    exact fin1 (rs := [.tmp 4]) (by rfl) (by simp [resA, hnot]) (by simp [noF])
def inp (F : List (List Nd)) (l : List Nd) (b : List I) (t : I) (n : Int) : AV := .agg [.slice (F.map xs) false, xs l, bx b, .int .i64 t.1, .int .i64 t.2, .int .u8 n]
theorem lDimension (F : List (List Nd)) (l : List Nd) (b : List I) (t : I) (n : Int) (hn : 0 ≤ n ∧ n ≤ 255) (H : AH) : Sound E 12 [inp F l b t n] H (.ret (.int .i64 (1 + n.tmod 3))) H := by
  refine sound_of_awp tabOk mixed Tryd.func12 rfl (by rfl) Tryd.ntmps12 (by kernel_rfl) (by simp) ?_
  have h1 : 0 ≤ n.tmod 3 ∧ n.tmod 3 < 3 := ⟨Int.tmod_nonneg _ hn.1, Int.tmod_lt_of_pos _ (by decide)⟩
  have w : IntKind.i64.wrap (1 + n.tmod 3) = 1 + n.tmod 3 := wrap64 (by omega) (by omega)
  have w0 : IntKind.i64.wrap n = n := wrap64 (by omega) (by omega)
  simp [inp, w, w0]
  exact fin1 (rs := [.tmp 2]) (by rfl) (by simp [resA]) (by simp [noF])
end Go.Proofs.YtohmodcheahpgaaDoor.Arm

namespace Go.Proofs.YtohmodcheahpgaaDoor.Arm
open Go.Arm Go.Pl

def smi (l : List I) (k : Nat) : I := ((l[k]?).map smallI).getD (0, 0)
def sbx (l : List I) (n i : Nat) : List I := (List.range n).map fun k => if k < i then smi l k else (0, 0)
theorem sbx_len (l : List I) (n i : Nat) : (sbx l n i).length = n := by simp [sbx]
theorem sbx_zero (l : List I) (n : Nat) : sbx l n 0 = List.replicate n (0, 0) := by
  apply List.ext_getElem?; intro k; simp [sbx, List.getElem?_replicate]
  by_cases h : k < n <;> simp [h]
theorem sbx_succ {l : List I} {n i : Nat} (hi : i < n) : (sbx l n i).set i (smi l i) = sbx l n (i + 1) := by
  apply List.ext_getElem?; intro k
  by_cases h : i = k
  · subst h; rw [List.getElem?_set_self (by rw [sbx_len]; exact hi)]; simp [sbx, hi]
  · rw [List.getElem?_set_ne h]
    simp only [sbx, List.getElem?_map]
    by_cases hk : k < n
    · simp [hk]
      by_cases h1 : k < i
      · rw [if_pos h1, if_pos (by omega)]
      · rw [if_neg h1, if_neg (by omega)]
    · simp [hk]
theorem sbx_end {l : List I} {n i : Nat} (h : n ≤ i ∨ l.length ≤ i) : sbx l n i = sbx l n n := by
  apply List.ext_getElem?; intro k
  simp only [sbx, List.getElem?_map]
  by_cases hk : k < n
  · simp [hk]
    intro hki
    have : l[k]? = none := by rw [List.getElem?_eq_none_iff]; omega
    simp [smi, this]
  · simp [hk]
def LSb (l : List I) (n : Nat) (H : AH) (i : Nat) (fr : AFr) (H' : AH) : Prop :=
  fr 0 = bx l ∧ fr 1 = .int .i64 n ∧ fr 5 = .ref H.length n ∧ fr 6 = .int .i64 i ∧ i ≤ n ∧ ∃ J, H' = H ++ .row true 2 ((sbx l n i).map iv) :: J
theorem r4SmallBox (l : List I) (n : Nat) (hn : n ≤ 1000000) (hl : l.length ≤ 200000000000000) (H : AH) : Sound E 44 [bx l, .int .i64 n] H (.ret (bx (sbx l n n))) H := by
  refine sound_of_awp tabOk mixed Tryd.func44 rfl (by rfl) Tryd.ntmps44 (by kernel_rfl) (by simp) ?_
  simp [bx]
  refine bind_if ⟨by omega, by omega⟩ ?_
  simp
  refine loop_count (LSb l n H) (fun i => n - i) 0 ⟨by simp [bx], by simp, by simp, by simp, by omega, [], by simp [sbx_zero]⟩ ?_
  rintro i fr H' ⟨g0, g1, g5, g6, hi, J, rfl⟩
  have hend : (n ≤ i ∨ l.length ≤ i) → ∀ x, (x = .ret ∨ x = .normal) → ∀ fr' : AFr, fr' 4 = .ref H.length n → bodyK E Tryd.f44 H (.ret (.slice ((sbx l n n).map iv) false)) H x fr' (H ++ .row true 2 ((sbx l n i).map iv) :: J) := by
    intro h x hx fr' h4
    rw [sbx_end h]
    exact finC (rs := [.tmp 4]) (vs := [.ref H.length n]) (vs' := [.slice ((sbx l n n).map iv) false]) (J' := .row false 2 ((sbx l n n).map iv) :: J) (by rfl) (by simp [resA, h4]) (by simp [sbx_len]) (by simp only [noFs, noF, Bool.and_true]; exact iv_noFs _ _) (by simp [one]) hx
  simp [g1, g6]
  refine gateT (fun hc => ?_) (fun hc => ?_)
  · have hlt : i < n := by simpa using hc
    simp [g0, g6, bx, hlt]
    refine branch (fun hc2 => ?_) (fun hc2 => ?_)
    · have hlt2 : i < l.length := by simpa using hc2
      obtain ⟨p, hp⟩ := get_lt hlt2
      have hpE : ∀ h, l[i]'h = p := fun h => (List.getElem?_eq_some_iff.1 hp).2
      have w2 : IntKind.i64.wrap ((i : Int) + 1) = ((i + 1 : Nat) : Int) := by rw [wrap64 (by omega) (by omega)]; omega
      have hsm : smi l i = smallI p := by simp [smi, hp]
      have hset := sbx_succ (l := l) hlt
      rw [hsm] at hset
      have hget : ((sbx l n i).map iv)[i]? = some (iv ((sbx l n i)[i]'(by rw [sbx_len]; exact hlt))) := by simp [sbx_len, hlt]
      simp [g0, g5, g6, bx, hp, hpE]
      refine call_ret (rSmall p _) ?_
      simp [sbx_len, hlt, hget]
      have hm : (List.map iv (sbx l n i)).set i (.agg [.int .i64 (smallI p).1, .int .i64 (smallI p).2]) = List.map iv (sbx l n (i + 1)) := by rw [← hset, List.map_set]; rfl
      simp [g6, w2, hm]
      exact ⟨i + 1, by show n - (i + 1) < n - i; omega, by simp [g0, bx], by simp [g1], by simp [g5], by simp, by omega, J, by simp⟩
    · have hge : l.length ≤ i := by simpa using hc2
      simp [g5]
      exact hend (.inr hge) _ (by simp) _ (by simp [g5])
  · have hge : n ≤ i := by simpa using hc
    have hnl : ¬ i < n := by omega
    simp [hnl, g5]
    exact hend (.inl hge) _ (by simp) _ (by simp [g5])
theorem app_gen0 {H : AH} {t e : TypeId} {i ie : TI} {x : AV} {f : Bool} (hi : tab t = some i) (hd : i.d = .slice e) (he : tab e = some ie) (h1 : ie.size = 1) (hx : ([x].all fun y => y.cells.length == 1 && y.cells.all okc) = true) (hz : (vcells ie.zero).map List.length = some 1) (hb : ie.bytes ≤ 1000) :
    appendA tab H t .nilslice (.slice [x] f) = some (.ref H.length 1, H ++ [.row true 1 [x]]) := by
  obtain ⟨v', J', hap, hacc', _⟩ := Acc.push (T := tab) (t := t) (e := e) (H := H) (J := []) (v := .nilslice) (v0 := .nilslice) (x := .slice [x] f) (ys := [x]) (xs := []) (.inl ⟨rfl, rfl⟩) hi hd he rfl rfl (by rw [h1]; exact hx) ⟨by omega, by rw [h1]; exact hz⟩ (by simp; omega) (by simp)
  rw [List.append_nil] at hap
  have h2 : appendA tab H t .nilslice (.slice [x] f) = growA ie H .nilslice [x] := by
    simp only [appendA, hi, hd, he, els]
    rw [if_neg (by simp), if_pos ⟨by omega, by rw [h1]; exact hz, by rw [h1]; exact hx⟩]
  have h3 : growA ie H .nilslice [x] = (growNew ie .nilslice [x]).map fun zs => (.ref H.length zs.length, H ++ [.row true ie.size zs]) := rfl
  rw [h2, h3, growNew]
  rw [if_pos (by simp; omega)]
  simp [h1]
theorem app_gen {H : AH} {t e : TypeId} {i ie : TI} {x : AV} {l : List AV} {b n : Nat} {f : Bool} (hi : tab t = some i) (hd : i.d = .slice e) (he : tab e = some ie) (h1 : ie.size = 1) (hx : ([x].all fun y => y.cells.length == 1 && y.cells.all okc) = true) (hz : (vcells ie.zero).map List.length = some 1) (hb : ie.bytes ≤ 1000) (hn : l.length = n) (hnb : n ≤ 1000000000) (hH : H[b]? = some (.row true 1 l)) :
    appendA tab H t (.ref b n) (.slice [x] f) = some (.ref b (n + 1), H.set b (.row true 1 (l ++ [x]))) := by
  subst hn
  have h2 : appendA tab H t (.ref b l.length) (.slice [x] f) = growA ie H (.ref b l.length) [x] := by
    simp only [appendA, hi, hd, he, els]
    rw [if_neg (by simp), if_pos ⟨by omega, by rw [h1]; exact hz, by rw [h1]; exact hx⟩]
  have hk : (l.length + 1) * ie.bytes ≤ 1000000001 * 1000 := Nat.mul_le_mul (by omega) hb
  rw [h2]
  simp only [growA, hH]
  rw [if_pos (by simp [h1]; omega)]
  simp [h1]
def nms : List ByteArray := [⟨#[120]⟩, ⟨#[121]⟩, ⟨#[118, 120]⟩, ⟨#[118, 121]⟩, ⟨#[97, 49]⟩, ⟨#[122, 122]⟩]
/-- The made system's expressions. -/
def mds (l : List (List Nd)) (most n i : Nat) : List Ex := (List.range i).map fun k => mde n ((l[k]?).getD []) most
theorem mds_succ (l : List (List Nd)) (most n i : Nat) : mds l most n (i + 1) = mds l most n i ++ [mde n ((l[i]?).getD []) most] := by simp [mds, List.range_succ]
theorem mds_len (l : List (List Nd)) (most n i : Nat) : (mds l most n i).length = i := by simp [mds]
def LMs (l : List (List Nd)) (most n : Nat) (H : AH) (i : Nat) (fr : AFr) (H' : AH) : Prop :=
  fr 0 = .slice (l.map xs) false ∧ fr 1 = .int .i64 most ∧ fr 2 = .int .i64 n ∧ fr 6 = .ptr H.length 1 0 0 ∧ fr 7 = .ptr (H.length + 1) 1 0 0 ∧ fr 8 = .slice (nms.map .str) true ∧ fr 9 = .int .i64 i ∧ i ≤ n ∧
  ((i = 0 ∧ H' = H ++ [.row true 2 [.agg [.nilslice, .nilslice]], .row true 2 [.agg [.nilslice, .nilslice]]]) ∨
   ∃ J a b, a ≠ b ∧ J[a]? = some (.row true 1 ((nms.take i).map .str)) ∧ J[b]? = some (.row true 1 ((mds l most n i).map fun e => xs (ser e))) ∧ 0 < i ∧
     H' = H ++ .row true 2 [.agg [.nilslice, .nilslice]] :: .row true 2 [.agg [.ref (H.length + (a + 2)) i, .ref (H.length + (b + 2)) i]] :: J)
theorem r7MadeSystem (l : List (List Nd)) (most n : Nat) (hn : 0 < n ∧ n ≤ 6) (hm : most ≤ 1000000000) (hl : ∀ r ∈ l, r.length ≤ 200000000000000) (hl2 : l.length ≤ 200000000000000) (H : AH) : Sound E 41 [.slice (l.map xs) false, .int .i64 most, .int .i64 n] H (.ret (sys ⟨nms.take n, mds l most n n⟩)) H := by
  refine sound_of_awp tabOk mixed Tryd.func41 rfl (by rfl) Tryd.ntmps41 (by kernel_rfl) (by simp) ?_
  simp
  refine loop_count (LMs l most n H) (fun i => n - i) 0 ⟨by simp, by simp, by simp, by simp, by simp, by simp [nms], by simp, by omega, .inl ⟨rfl, by simp⟩⟩ ?_
  rintro i fr H' ⟨g0, g1, g2, g6, g7, g8, g9, hi, hmem⟩
  have hnl : nms.length = 6 := rfl
  simp [g2, g9]
  refine branch (fun hc => ?_) (fun hc => ?_)
  · have hlt : i < n := by simpa using hc
    have w2 : IntKind.i64.wrap ((i : Int) + 1) = ((i + 1 : Nat) : Int) := by rw [wrap64 (by omega) (by omega)]; omega
    obtain ⟨s, hs⟩ := get_lt (l := nms) (i := i) (by omega)
    have hsE : ∀ h, nms[i]'h = s := fun h => (List.getElem?_eq_some_iff.1 hs).2
    have hst : nms.take (i + 1) = nms.take i ++ [s] := by rw [List.take_add_one, hs]; rfl
    have main : ∀ r : List Nd, r = (l[i]?).getD [] → r.length ≤ 200000000000000 → True := fun _ _ _ => trivial
    simp [g0, g9]
    refine branch (fun hc2 => ?_) (fun hc2 => ?_)
    · have hlt2 : i < l.length := by simpa using hc2
      obtain ⟨r, hr⟩ := get_lt hlt2
      have hrE : ∀ h, l[i]'h = r := fun h => (List.getElem?_eq_some_iff.1 hr).2
      rcases hmem with ⟨rfl, rfl⟩ | ⟨J, a, b, hab, ha, hb, hpos, rfl⟩
      · simp [hr, hrE, xs, g0, g7, g8, g9, hs, hsE]
        refine bind_some (app_gen0 (x := .str s) tab67 rfl tab9 rfl (by simp [okc]) rfl (by decide)) ?_
        simp [g7]
        refine endD [(1, 9)] (by rfl) (by simp [okW, note, Eff.triv, Eff.wr, Eff.none, upTo, newAt]) ?_
        simp [g1, g2, g7]
        refine callD_ret0 (fun Hx => r7Made r most n ⟨hn.1, by omega⟩ (hl r (List.mem_of_getElem? hr)) hm Hx) ?_
        simp [g7, xs]
        refine bind_some (app_gen0 (x := xs (ser (mde n (r) most))) tab22 rfl tab23 rfl (by simp [okc, xs]) rfl (by decide)) ?_
        simp [g7]
        refine endD [(1, 9)] (by rfl) (by simp [okW, note, Eff.triv, Eff.wr, Eff.none, upTo, newAt]) ?_
        have w3 : IntKind.i64.wrap 1 = 1 := wrap64 (by decide) (by decide)
        simp [g9, w3]
        refine ⟨1, by show n - 1 < n - 0; omega, by simp [g0], by simp [g1], by simp [g2], by simp [g6], by simp [g7], by simp [g8], by simp, by omega, .inr ⟨[.row true 1 [.str s], .row true 1 [xs (ser (mde n (r) most))]], 0, 1, by decide, ?_, ?_, by decide, ?_⟩⟩
        · rw [hst]; simp
        · rw [mds_succ]; simp [mds, hr, hrE, xs, xs]
        · simp
      · simp [hr, hrE, xs, g0, g7, g8, g9, hs, hsE]
        refine bind_some (app_gen (x := .str s) (l := (nms.take i).map .str) tab67 rfl tab9 rfl (by simp [okc]) rfl (by decide) (by simp; omega) (by omega) (by simp [ha])) ?_
        simp [g7]
        refine endD [(1, 9)] (by rfl) (by simp [okW, note, Eff.triv, Eff.wr, Eff.none, upTo, newAt]) ?_
        simp [g1, g2, g7]
        refine callD_ret0 (fun Hx => r7Made r most n ⟨hn.1, by omega⟩ (hl r (List.mem_of_getElem? hr)) hm Hx) ?_
        simp [g7, xs]
        refine bind_some (app_gen (n := i) (x := xs (ser (mde n (r) most))) (l := (mds l most n i).map fun e => xs (ser e)) tab22 rfl tab23 rfl (by simp [okc, xs]) rfl (by decide) (by simp [mds_len]) (by omega) (by simp [hb, List.getElem?_set_ne hab])) ?_
        simp [g7]
        refine endD [(1, 9)] (by rfl) (by simp [okW, note, Eff.triv, Eff.wr, Eff.none, upTo, newAt]) ?_
        simp [g9, w2]
        refine ⟨i + 1, by show n - (i + 1) < n - i; omega, by simp [g0], by simp [g1], by simp [g2], by simp [g6], by simp [g7], by simp [g8], by simp, by omega, .inr ⟨(J.set a (.row true 1 ((nms.take i).map .str ++ [.str s]))).set b (.row true 1 (((mds l most n i).map fun e => xs (ser e)) ++ [xs (ser (mde n (r) most))])), a, b, hab, ?_, ?_, by omega, ?_⟩⟩
        · rw [hst, List.getElem?_set_ne (Ne.symm hab), List.getElem?_set_self (List.getElem?_eq_some_iff.1 ha).1]; simp
        · rw [mds_succ, List.getElem?_set_self (by rw [List.length_set]; exact (List.getElem?_eq_some_iff.1 hb).1)]; simp [hr, hrE, xs, xs]
        · simp
    · have hr : l[i]? = none := by
        have : ¬ i < l.length := by simpa using hc2
        rw [List.getElem?_eq_none_iff]; omega
      rcases hmem with ⟨rfl, rfl⟩ | ⟨J, a, b, hab, ha, hb, hpos, rfl⟩
      · simp [hr, g0, g7, g8, g9, hs, hsE]
        refine bind_some (app_gen0 (x := .str s) tab67 rfl tab9 rfl (by simp [okc]) rfl (by decide)) ?_
        simp [g7]
        refine endD [(1, 9)] (by rfl) (by simp [okW, note, Eff.triv, Eff.wr, Eff.none, upTo, newAt]) ?_
        simp [g1, g2, g7]
        refine callD_conv0 (args' := [xs [], .int .i64 most, .int .i64 n]) (fun Hx => r7Made [] most n ⟨hn.1, by omega⟩ (by simp) hm Hx) (by simp [xs]) ?_
        simp [g7, xs]
        refine bind_some (app_gen0 (x := xs (ser (mde n ([]) most))) tab22 rfl tab23 rfl (by simp [okc, xs]) rfl (by decide)) ?_
        simp [g7]
        refine endD [(1, 9)] (by rfl) (by simp [okW, note, Eff.triv, Eff.wr, Eff.none, upTo, newAt]) ?_
        have w3 : IntKind.i64.wrap 1 = 1 := wrap64 (by decide) (by decide)
        simp [g9, w3]
        refine ⟨1, by show n - 1 < n - 0; omega, by simp [g0], by simp [g1], by simp [g2], by simp [g6], by simp [g7], by simp [g8], by simp, by omega, .inr ⟨[.row true 1 [.str s], .row true 1 [xs (ser (mde n ([]) most))]], 0, 1, by decide, ?_, ?_, by decide, ?_⟩⟩
        · rw [hst]; simp
        · rw [mds_succ]; simp [mds, hr, xs]
        · simp
      · simp [hr, g0, g7, g8, g9, hs, hsE]
        refine bind_some (app_gen (x := .str s) (l := (nms.take i).map .str) tab67 rfl tab9 rfl (by simp [okc]) rfl (by decide) (by simp; omega) (by omega) (by simp [ha])) ?_
        simp [g7]
        refine endD [(1, 9)] (by rfl) (by simp [okW, note, Eff.triv, Eff.wr, Eff.none, upTo, newAt]) ?_
        simp [g1, g2, g7]
        refine callD_conv0 (args' := [xs [], .int .i64 most, .int .i64 n]) (fun Hx => r7Made [] most n ⟨hn.1, by omega⟩ (by simp) hm Hx) (by simp [xs]) ?_
        simp [g7, xs]
        refine bind_some (app_gen (n := i) (x := xs (ser (mde n ([]) most))) (l := (mds l most n i).map fun e => xs (ser e)) tab22 rfl tab23 rfl (by simp [okc, xs]) rfl (by decide) (by simp [mds_len]) (by omega) (by simp [hb, List.getElem?_set_ne hab])) ?_
        simp [g7]
        refine endD [(1, 9)] (by rfl) (by simp [okW, note, Eff.triv, Eff.wr, Eff.none, upTo, newAt]) ?_
        simp [g9, w2]
        refine ⟨i + 1, by show n - (i + 1) < n - i; omega, by simp [g0], by simp [g1], by simp [g2], by simp [g6], by simp [g7], by simp [g8], by simp, by omega, .inr ⟨(J.set a (.row true 1 ((nms.take i).map .str ++ [.str s]))).set b (.row true 1 (((mds l most n i).map fun e => xs (ser e)) ++ [xs (ser (mde n ([]) most))])), a, b, hab, ?_, ?_, by omega, ?_⟩⟩
        · rw [hst, List.getElem?_set_ne (Ne.symm hab), List.getElem?_set_self (List.getElem?_eq_some_iff.1 ha).1]; simp
        · rw [mds_succ, List.getElem?_set_self (by rw [List.length_set]; exact (List.getElem?_eq_some_iff.1 hb).1)]; simp [hr, xs]
        · simp
  · have hge : n ≤ i := by simpa using hc
    have hi' : i = n := by omega
    subst hi'
    rcases hmem with ⟨rfl, rfl⟩ | ⟨J, a, b, hab, ha, hb, hpos, rfl⟩
    · omega
    · simp [g6, g7]
      exact finC (rs := [.cell 6 69]) (vs := [.agg [.ref (H.length + (a + 2)) i, .ref (H.length + (b + 2)) i]]) (vs' := [sys ⟨nms.take i, mds l most i i⟩]) (J' := .row true 2 [.agg [.ref (H.length + (a + 2)) i, .ref (H.length + (b + 2)) i]] :: .row true 2 [.agg [.ref (H.length + (a + 2)) i, .ref (H.length + (b + 2)) i]] :: (J.set a (.row false 1 ((nms.take i).map .str))).set b (.row false 1 ((mds l most i i).map fun e => xs (ser e)))) (by rfl) (by simp [resA, g6]) (by simp [ha, hb, List.getElem?_set_ne hab, sys, show min i nms.length = i by omega, mds_len]) (by simp only [noFs, sys, noF, Bool.and_true, Bool.and_eq_true]; exact ⟨noFs_iff.2 fun x hx => by obtain ⟨y, _, rfl⟩ := List.mem_map.1 hx; rfl, noFs_iff.2 fun x hx => by obtain ⟨y, _, rfl⟩ := List.mem_map.1 hx; exact xs_noF _ _⟩) rfl
end Go.Proofs.YtohmodcheahpgaaDoor.Arm

namespace Go.Proofs.YtohmodcheahpgaaDoor.Arm
open Go.Arm Go.Pl

/-- A matrix. -/
def mx (A : List (List I)) : AV := .slice (A.map bx) false
def LSm1 (A B : List (List I)) (H : AH) (i : Nat) (fr : AFr) (H' : AH) : Prop :=
  fr 0 = mx A ∧ fr 1 = mx B ∧ fr 5 = .int .i64 i ∧ i ≤ A.length ∧ A.take i = B.take i ∧ H' = H
def LSm2 (A B : List (List I)) (a b : List I) (i : Nat) (H : AH) (j : Nat) (fr : AFr) (H' : AH) : Prop :=
  fr 0 = mx A ∧ fr 1 = mx B ∧ fr 5 = .int .i64 i ∧ fr 6 = .int .i64 j ∧ j ≤ a.length ∧ a.take j = b.take j ∧ H' = H
theorem r4Same (A B : List (List I)) (hA : A.length ≤ 1000000000) (hB : B.length ≤ 1000000000) (hA2 : ∀ a ∈ A, a.length ≤ 1000000000) (hB2 : ∀ a ∈ B, a.length ≤ 1000000000) (H : AH) : Sound E 49 [mx A, mx B] H (.ret (.bool (decide (A = B)))) H := by
  refine sound_of_awp tabOk mixed Tryd.func49 rfl (by rfl) Tryd.ntmps49 (by kernel_rfl) (by simp) ?_
  simp [mx]
  by_cases hlen : A.length = B.length
  · have e1 : ((A.length : Int) != (B.length : Int)) = false := by simp [hlen]
    simp [e1]
    refine loop_count (LSm1 A B H) (fun i => A.length - i) 0 ⟨by simp [mx], by simp [mx], by simp, by omega, by simp, rfl⟩ ?_
    rintro i fr H' ⟨g0, g1, g5, hi, htk, rfl⟩
    simp [g0, g5, mx]
    refine branch (fun hc => ?_) (fun hc => ?_)
    · have hlt : i < A.length := by simpa using hc
      obtain ⟨a, ha⟩ := get_lt hlt
      obtain ⟨b, hb⟩ := get_lt (l := B) (i := i) (by omega)
      have haE : ∀ h, A[i]'h = a := fun h => (List.getElem?_eq_some_iff.1 ha).2
      have hbE : ∀ h, B[i]'h = b := fun h => (List.getElem?_eq_some_iff.1 hb).2
      have hal := hA2 a (List.mem_of_getElem? ha)
      have hbl := hB2 b (List.mem_of_getElem? hb)
      have w2 : IntKind.i64.wrap ((i : Int) + 1) = ((i + 1 : Nat) : Int) := by rw [wrap64 (by omega) (by omega)]; omega
      simp [g0, g1, g5, mx, ha, haE, hb, hbE, bx]
      refine endD [] (by rfl) (by simp [okW, note, Eff.triv, Eff.wr, Eff.none, upTo, newAt]) ?_
      by_cases hl2 : a.length = b.length
      · have e2 : ((a.length : Int) != (b.length : Int)) = false := by simp [hl2]
        simp [e2]
        refine loop_count (LSm2 A B a b i H') (fun j => a.length - j) 0 ⟨by simp [g0], by simp [g1], by simp [g5], by simp, by omega, by simp, rfl⟩ ?_
        rintro j fr2 H2 ⟨k0, k1, k5, k6, hj, htk2, rfl⟩
        simp [k0, k5, k6, mx, ha, haE, bx]
        refine branch (fun hc2 => ?_) (fun hc2 => ?_)
        · have hjlt : j < a.length := by simpa using hc2
          obtain ⟨p, hp⟩ := get_lt hjlt
          obtain ⟨q, hq⟩ := get_lt (l := b) (i := j) (by omega)
          have hpE : ∀ h, a[j]'h = p := fun h => (List.getElem?_eq_some_iff.1 hp).2
          have hqE : ∀ h, b[j]'h = q := fun h => (List.getElem?_eq_some_iff.1 hq).2
          have w3 : IntKind.i64.wrap ((j : Int) + 1) = ((j + 1 : Nat) : Int) := by rw [wrap64 (by omega) (by omega)]; omega
          simp [k0, k1, k5, k6, mx, ha, haE, hb, hbE, bx, hp, hpE, hq, hqE]
          refine endD [] (by rfl) (by simp [okW, note, Eff.triv, Eff.wr, Eff.none, upTo, newAt]) ?_
          simp
          refine branch (fun h3 => ?_) (fun h3 => ?_)
          · have hne : A ≠ B := by
              rintro rfl
              rw [ha] at hb; cases hb
              rw [hp] at hq; cases hq
              simp at h3
            simp
            exact fin0 (rs := [.tmp 4]) (by rfl) (by simp [resA, hne])
          · have e : p = q := by
              obtain ⟨a, b⟩ := p; obtain ⟨a', b'⟩ := q
              simpa using h3
            subst e
            simp [k6, w3]
            exact ⟨j + 1, by show a.length - (j + 1) < a.length - j; omega, by simp [k0, mx, bx], by simp [k1, mx, bx], by simp [k5], by simp, by omega, by rw [List.take_add_one, List.take_add_one, hp, hq, htk2], rfl⟩
        · have hj' : j = a.length := by have : ¬ j < a.length := by simpa using hc2
                                        omega
          have hab : a = b := by
            subst hj'
            rw [List.take_length, hl2, List.take_length] at htk2; exact htk2
          simp [k5, w2]
          exact ⟨i + 1, by show A.length - (i + 1) < A.length - i; omega, by simp [k0, mx, bx], by simp [k1, mx, bx], by simp, by omega, by rw [List.take_add_one, List.take_add_one, ha, hb, htk, hab], rfl⟩
      · have e2 : ((a.length : Int) != (b.length : Int)) = true := by simp; omega
        have hne : A ≠ B := by
          rintro rfl
          rw [ha] at hb; cases hb; exact hl2 rfl
        simp [e2]
        exact fin0 (rs := [.tmp 4]) (by rfl) (by simp [resA, hne])
    · have hi' : i = A.length := by have : ¬ i < A.length := by simpa using hc
                                    omega
      have hab : A = B := by
        subst hi'
        rw [List.take_length, hlen, List.take_length] at htk; exact htk
      simp
      exact fin0 (rs := [.tmp 4]) (by rfl) (by simp [resA, hab])
  · have e1 : ((A.length : Int) != (B.length : Int)) = true := by simp; omega
    have hne : A ≠ B := by rintro rfl; exact hlen rfl
    simp [e1]
    exact fin0 (rs := [.tmp 4]) (by rfl) (by simp [resA, hne])
end Go.Proofs.YtohmodcheahpgaaDoor.Arm

namespace Go.Proofs.YtohmodcheahpgaaDoor.Arm
open Go.Arm Go.Pl

@[simp ↓ high] theorem conv_xs (H : AH) (l : List Nd) : conv H (xs l) = (xs l, H) := by simp [xs]
@[simp ↓ high] theorem conv_bx (H : AH) (l : List I) : conv H (bx l) = (bx l, H) := by simp [bx]
@[simp ↓ high] theorem conv_mx (H : AH) (l : List (List I)) : conv H (mx l) = (mx l, H) := by simp [mx]
theorem ser_ne (e : Ex) : ser e ≠ [] := fun h => by have := sz_pos e; rw [sz, h] at this; simp at this
theorem r7UnaryE (o : U) (a : Ex) (hb : sz a ≤ 500000000) (H : AH) : Sound E 36 [.int .i64 o.code, xs (ser a)] H (.ret (xs (ser (.un o a)))) H := r7Unary o.code (ser a) (ser_ne a) hb H
theorem r7BinaryE (o : B) (a b : Ex) (hb : sz a + sz b ≤ 500000000) (H : AH) : Sound E 22 [.int .i64 o.code, xs (ser a), xs (ser b)] H (.ret (xs (ser (.bin o a b)))) H := r7Binary o.code (ser a) (ser b) (ser_ne a) (ser_ne b) hb H
theorem r7SameE (a b : Ex) (ha : sz a ≤ 1000000) (hb : sz b ≤ 1000000) (hab : ser a = ser b) (H : AH) : Sound E 18 [xs (ser a), xs (ser b)] H (.ret (.bool true)) H := by
  have h := r7Same (ser a) (ser b) (by rw [show (ser a).length = sz a from rfl]; omega) (by rw [show (ser b).length = sz b from rfl]; omega) H
  rwa [show decide (ser a = ser b) = true by simp [hab]] at h
def vX : Ex := .var 0
def vV : Ex := .var 1
def k2 : Ex := number 2
def sysS : Sys := ⟨[⟨#[120]⟩, ⟨#[118]⟩], [vV, .un .neg vX]⟩
def oneI : I := pt 65536
def wideI : I := (-65536, 131072)
def mtx : List (List I) := [jrow [oneI, wideI] oneI vV 2, jrow [oneI, wideI] oneI (.un .neg vX) 2]
def quo : Ex := .bin .div (number (-1)) (.un .sqr vX)
def enr : Ex := .bin .add (.un .sqr vX) (.un .sqr vV)
theorem oneV : vB oneI = true := by decide
theorem wideV : vB wideI = true := by decide
theorem sBoxV : ∀ p ∈ [oneI, wideI], vB p = true := by decide
theorem mMatrix (H : AH) : Sound E 48 [sys sysS, bx [oneI, wideI], iv oneI] H (.ret (mx mtx)) H :=
  jMatrix sysS [oneI, wideI] oneI sBoxV (by decide) oneV (by decide) (by decide) H
theorem mVar (i : Nat) (H : AH) : Sound E 23 [.int .i64 i] H (.ret (xs (ser (.var i)))) H := lVariable i H
theorem mX (H : AH) : Sound E 23 [.int .i64 0] H (.ret (xs (ser vX))) H := lVariable 0 H
theorem mV (H : AH) : Sound E 23 [.int .i64 1] H (.ret (xs (ser vV))) H := lVariable 1 H
theorem mN (x : Int) (h : -1000000 ≤ x ∧ x ≤ 1000000) (H : AH) : Sound E 21 [.int .i64 x] H (.ret (xs (ser (number x)))) H := r10Number x h H
theorem mDiff (a d : Ex) (h1 : wf 2 a = true) (h2 : sz a ≤ 1000000) (h3 : sz (dif (.st 0) a) ≤ 1000000) (hd : der (.st 0) a = d) (H : AH) : Sound E 24 [xs (ser a), .int .i64 0] H (.ret (xs (ser d))) H := by
  subst hd; exact jDiff a 0 h1 h2 h3 H
theorem mSimp (a d : Ex) (h1 : wf 2 a = true) (h2 : sz a ≤ 1000000) (hd : smp a = d) (H : AH) : Sound E 16 [xs (ser a)] H (.ret (xs (ser d))) H := by
  subst hd; exact jSimplify (sz a) a (Nat.le_refl _) h1 (by omega) H
theorem mTime (H : AH) : Sound E 38 [xs (ser .time)] H (.ret (xs (ser (number 1)))) H := jTimeDerivative (kk := 2) .time (by decide) (by decide) (by decide) H
theorem mMx (H : AH) : Sound E 49 [mx mtx, mx [[(0, 0), pt 65536], [pt (-65536), (0, 0)]]] H (.ret (.bool true)) H := by
  have h := r4Same mtx [[(0, 0), pt 65536], [pt (-65536), (0, 0)]] (by decide) (by decide) (by decide) (by decide) H
  rwa [show decide (mtx = [[(0, 0), pt 65536], [pt (-65536), (0, 0)]]) = true by decide +kernel] at h
theorem mLie1 (H : AH) : Sound E 43 [sys sysS, xs (ser enr), bx [oneI, oneI], iv oneI] H (.ret (iv (pt 0))) H := by
  have h := jLieDerivative sysS enr [oneI, oneI] oneI (by decide) (by decide) (by decide) (by decide) (by decide) (by decide) (by decide) (by decide) (by decide) H
  rwa [show lieSum [oneI, oneI] oneI enr (sysS.f.map (ev [oneI, oneI] oneI)) sysS.f.length = pt 0 by decide +kernel] at h
theorem mLie2 (H : AH) : Sound E 43 [sys sysS, xs (ser vX), bx [oneI, wideI], iv oneI] H (.ret (iv wideI)) H := by
  have h := jLieDerivative sysS vX [oneI, wideI] oneI (by decide) (by decide) (by decide) (by decide) (by decide) (by decide) (by decide) (by decide) (by decide) H
  rwa [show lieSum [oneI, wideI] oneI vX (sysS.f.map (ev [oneI, wideI] oneI)) sysS.f.length = wideI by decide +kernel] at h
set_option maxRecDepth 10000 in
theorem sanityOk (H : AH) : Sound E 11 [] H (.ret (.bool true)) H := by
  refine sound_of_awp tabOk mixed Tryd.func11 rfl (by rfl) Tryd.ntmps11 (by kernel_rfl) (by simp) ?_
  simp
  refine call_ret (mX _) ?_
  simp
  refine call_ret (mV _) ?_
  simp
  refine call_ret (mN 2 (by decide) _) ?_
  simp
  refine call_ret (r7UnaryE .neg vX (by decide) _) ?_
  simp
  refine call_ret (rPoint _ _) ?_
  simp
  refine call_conv0 (args' := [sys sysS, bx [oneI, wideI], iv oneI]) (mMatrix _) (by simp [sys, sysS, bx, oneI, wideI]; rfl) ?_
  simp
  refine call_ret (mN (-1) (by decide) _) ?_
  simp
  refine call_ret (r7UnaryE .sqr vX (by decide) _) ?_
  simp
  refine call_ret (r7BinaryE .div (number (-1)) (.un .sqr vX) (by decide) _) ?_
  simp
  refine call_ret (r7UnaryE .sqr vX (by decide) _) ?_
  simp
  refine call_ret (r7UnaryE .sqr vV (by decide) _) ?_
  simp
  refine call_ret (r7BinaryE .add (.un .sqr vX) (.un .sqr vV) (by decide) _) ?_
  simp
  refine callD_ret0 (fun Hx => r7BinaryE .mul vX vX (by decide) Hx) ?_
  simp
  refine callD_ret0 (fun Hx => mDiff (.bin .mul vX vX) (.bin .add vX vX) (by decide) (by decide) (by decide) (by decide +kernel) Hx) ?_
  simp
  refine callD_ret0 (fun Hx => r7BinaryE .add vX vX (by decide) Hx) ?_
  simp
  refine callD_ret0 (fun Hx => r7SameE (.bin .add vX vX) (.bin .add vX vX) (by decide) (by decide) rfl Hx) ?_
  simp
  refine callD_ret0 (fun Hx => r7UnaryE .sqr vX (by decide) Hx) ?_
  simp
  refine callD_ret0 (fun Hx => mDiff (.un .sqr vX) (.bin .mul (number 2) vX) (by decide) (by decide) (by decide) (by decide +kernel) Hx) ?_
  simp
  refine callD_ret0 (fun Hx => r7BinaryE .mul (number 2) vX (by decide) Hx) ?_
  simp
  refine callD_ret0 (fun Hx => r7SameE (.bin .mul (number 2) vX) (.bin .mul (number 2) vX) (by decide) (by decide) rfl Hx) ?_
  simp
  refine callD_ret0 (fun Hx => mN (1) (by decide) Hx) ?_
  simp
  refine callD_ret0 (fun Hx => r7BinaryE .div (number 1) vX (by decide) Hx) ?_
  simp
  refine callD_ret0 (fun Hx => mDiff (.bin .div (number 1) vX) quo (by decide) (by decide) (by decide) (by decide +kernel) Hx) ?_
  simp
  refine callD_ret0 (fun Hx => r7SameE quo quo (by decide) (by decide) rfl Hx) ?_
  simp
  refine callD_ret0 (fun Hx => mN (3) (by decide) Hx) ?_
  simp
  refine callD_ret0 (fun Hx => r7BinaryE .add vV (number 3) (by decide) Hx) ?_
  simp
  refine callD_ret0 (fun Hx => mDiff (.bin .add vV (number 3)) (number 0) (by decide) (by decide) (by decide) (by decide +kernel) Hx) ?_
  simp
  refine callD_ret0 (fun Hx => mN (0) (by decide) Hx) ?_
  simp
  refine callD_ret0 (fun Hx => r7SameE (number 0) (number 0) (by decide) (by decide) rfl Hx) ?_
  simp
  refine callD_ret0 (fun Hx => r7UnaryE .sqrt vX (by decide) Hx) ?_
  simp
  refine callD_ret0 (fun Hx => mDiff (.un .sqrt vX) (.bin .div (number 1) (.bin .mul (number 2) (.un .sqrt vX))) (by decide) (by decide) (by decide) (by decide +kernel) Hx) ?_
  simp
  refine callD_ret0 (fun Hx => mN (1) (by decide) Hx) ?_
  simp
  refine callD_ret0 (fun Hx => r7UnaryE .sqrt vX (by decide) Hx) ?_
  simp
  refine callD_ret0 (fun Hx => r7BinaryE .mul (number 2) (.un .sqrt vX) (by decide) Hx) ?_
  simp
  refine callD_ret0 (fun Hx => r7BinaryE .div (number 1) (.bin .mul (number 2) (.un .sqrt vX)) (by decide) Hx) ?_
  simp
  refine callD_ret0 (fun Hx => r7SameE (.bin .div (number 1) (.bin .mul (number 2) (.un .sqrt vX))) (.bin .div (number 1) (.bin .mul (number 2) (.un .sqrt vX))) (by decide) (by decide) rfl Hx) ?_
  simp
  refine callD_conv0 (args' := [xs (ser .time)]) (fun Hx => mTime Hx) (fun Hx => by simp [xs, ser, leafN]) ?_
  simp
  refine callD_ret0 (fun Hx => mN (1) (by decide) Hx) ?_
  simp
  refine callD_ret0 (fun Hx => r7SameE (number 1) (number 1) (by decide) (by decide) rfl Hx) ?_
  simp
  refine callD_ret0 (fun Hx => mN (0) (by decide) Hx) ?_
  simp
  refine callD_ret0 (fun Hx => r7UnaryE .neg vX (by decide) Hx) ?_
  simp
  refine callD_ret0 (fun Hx => r7BinaryE .sub (number 0) (.un .neg vX) (by decide) Hx) ?_
  simp
  refine callD_ret0 (fun Hx => mSimp (.bin .sub (number 0) (.un .neg vX)) vX (by decide) (by decide) (by decide +kernel) Hx) ?_
  simp
  refine callD_ret0 (fun Hx => r7SameE vX vX (by decide) (by decide) rfl Hx) ?_
  simp
  refine callD_ret0 (fun Hx => mN (1) (by decide) Hx) ?_
  simp
  refine callD_ret0 (fun Hx => r7BinaryE .add (number 2) (number 1) (by decide) Hx) ?_
  simp
  refine callD_ret0 (fun Hx => r7BinaryE .mul (number 2) (.bin .add (number 2) (number 1)) (by decide) Hx) ?_
  simp
  refine callD_ret0 (fun Hx => mSimp (.bin .mul (number 2) (.bin .add (number 2) (number 1))) (number 6) (by decide) (by decide) (by decide +kernel) Hx) ?_
  simp
  refine callD_ret0 (fun Hx => mN (6) (by decide) Hx) ?_
  simp
  refine callD_ret0 (fun Hx => r7SameE (number 6) (number 6) (by decide) (by decide) rfl Hx) ?_
  simp
  refine callD_ret0 (fun Hx => rPoint _ Hx) ?_
  simp
  refine callD_conv0 (args' := [mx mtx, mx [[(0, 0), pt 65536], [pt (-65536), (0, 0)]]]) (fun Hx => mMx Hx) (fun Hx => by simp [mx, bx]) ?_
  simp
  refine callD_conv0 (args' := [sys sysS, xs (ser enr), bx [oneI, oneI], iv oneI]) (fun Hx => mLie1 Hx) (fun Hx => by simp [sys, sysS, bx, oneI]; rfl) ?_
  simp
  refine callD_ret0 (fun Hx => rPoint _ Hx) ?_
  simp
  refine callD_conv0 (args' := [sys sysS, xs (ser vX), bx [oneI, wideI], iv oneI]) (fun Hx => mLie2 Hx) (fun Hx => by simp [sys, sysS, bx, oneI, wideI]) ?_
  simp
  refine endD [] (by rfl) (by simp [okW, note, Eff.triv, Eff.wr, Eff.none, upTo, newAt]) ?_
  simp
  exact fin1 (rs := [.tmp 0]) (by rfl) (by simp [resA, wideI]) (by simp [noF])
end Go.Proofs.YtohmodcheahpgaaDoor.Arm

namespace Go.Proofs.YtohmodcheahpgaaDoor.Arm
open Go.Arm Go.Pl

def LVa (l : List Nd) (k : Nat) (n : Nat) (H : AH) (ts : List Ex) (fr : AFr) (H' : AH) : Prop :=
  ∃ pre : List Nd, l = pre ++ serL ts ∧ (∀ t ∈ ts, wf n t = true) ∧ fr 0 = xs l ∧ fr 1 = .int .i64 n ∧ fr 5 = .int .i64 ts.length ∧ fr 6 = .int .i64 pre.length ∧ H' = H
set_option maxRecDepth 8000 in
theorem lValid (e : Ex) (n : Nat) (hw : wf n e = true) (hs : sz e ≤ 1000000000) (hn : n ≤ 1000000000) (H : AH) : Sound E 25 [xs (ser e), .int .i64 n] H (.ret (.bool (decide (sz e ≤ 20000)))) H := by
  refine sound_of_awp tabOk mixed Tryd.func25 rfl (by rfl) Tryd.ntmps25 (by kernel_rfl) (by simp) ?_
  have hlen : (ser e).length = sz e := rfl
  have hp := sz_pos e
  have h0 : ((sz e : Int) == 0) = false := by rw [beq_eq_false_iff_ne]; omega
  simp [xs, hlen, h0]
  by_cases hb : sz e ≤ 20000
  · have hb1 : decide (20000 < (sz e : Int)) = false := by simp; omega
    have hb2 : ¬ 20000 < (sz e : Int) := by omega
    simp [hb1, hb2]
    refine loop_count (LVa (ser e) (sz e) n H) (fun ts => (serL ts).length) [e] ⟨[], by simp [serL], by simpa using hw, by simp [xs], by simp, by simp, by simp, rfl⟩ ?_
    rintro ts fr H' ⟨pre, hpre, hwf, g0, g1, g5, g6, rfl⟩
    have hlen2 : sz e = pre.length + (serL ts).length := by
      have := congrArg List.length hpre
      simp only [List.length_append, hlen] at this; exact this
    simp [g0, g6, xs, hlen]
    refine branch (fun hc => ?_) (fun hc => ?_)
    · have hlt : pre.length < sz e := by simpa using hc
      obtain ⟨t, ts', rfl⟩ : ∃ t ts', ts = t :: ts' := by
        cases ts with
        | nil => simp [serL] at hlen2; omega
        | cons t ts' => exact ⟨t, ts', rfl⟩
      have hts := len_serL ts'
      have hk := kids_le t
      have hsc := serL_cons t ts'
      have hscl : (serL (t :: ts')).length = (serL (kids t ++ ts')).length + 1 := by rw [hsc]; simp
      have htl : (serL (t :: ts')).length = sz t + (serL ts').length := by simp [serL, sz]
      have hx : (ser e)[pre.length]? = some (root0 t) := by rw [hpre, hsc]; simp
      have hxE : ∀ h, (ser e)[pre.length]'h = root0 t := fun h => (List.getElem?_eq_some_iff.1 hx).2
      have hwt := hwf t (by simp)
      have hm : root0 t ∈ ser t := by rw [ser_eq]; simp
      have w2 : IntKind.i64.wrap ((pre.length : Int) + 1) = ((pre.length + 1 : Nat) : Int) := by rw [wrap64 (by omega) (by omega)]; omega
      have har := arity_root t
      have ws : IntKind.i64.wrap ((ts'.length : Int) + 1 + (kids t).length) = (ts'.length : Int) + 1 + (kids t).length := wrap64 (by omega) (by omega)
      have wm : IntKind.i64.wrap ((ts'.length : Int) + 1 + (kids t).length - 1) = ((kids t ++ ts').length : Nat) := by
        rw [List.length_append, wrap64 (by omega) (by omega)]; omega
      have hz : (((ts'.length : Nat) : Int) + 1 == 0) = false := by rw [beq_eq_false_iff_ne]; omega
      have hneg : ¬ (((kids t).length : Nat) : Int) < 0 := by omega
      have done : ∀ fr', fr' 0 = xs (ser e) → fr' 1 = .int .i64 n → fr' 5 = .int .i64 ((kids t ++ ts').length : Nat) → fr' 6 = .int .i64 ((pre.length + 1 : Nat) : Int) → Again (LVa (ser e) (sz e) n H') (fun ts => (serL ts).length) (t :: ts') fr' H' := by
        intro fr' f0 f1 f5 f6
        refine ⟨kids t ++ ts', by show (serL (kids t ++ ts')).length < (serL (t :: ts')).length; omega, pre ++ [root0 t], by rw [hpre, hsc]; simp, ?_, f0, f1, f5, by simpa using f6, rfl⟩
        intro u hu
        rcases List.mem_append.1 hu with hu | hu
        · obtain ⟨i, hi⟩ := List.mem_iff_getElem?.1 hu
          exact kid_wf hi hwt
        · exact hwf u (by simp [hu])
      simp [g0, g6, xs, hx, hxE]
      refine call_ret (r7Arity _ _) ?_
      rw [har]
      rcases ser_nodes hwt _ hm with ⟨c, hr, hcv⟩ | ⟨k, hk', hr⟩ | ⟨o, hr, ho1, ho2⟩
      · rw [hr] at hx hxE
        simp [g0, g1, g5, g6, xs, hx, hxE, hz, hneg]
        refine call_ret (rValid c _) ?_
        rw [hcv]
        simp [g0, g1, g5, g6, w2, ws, wm]
        exact done _ (by simp [g0, xs]) (by simp [g1]) (by simp) (by simp)
      · rw [hr] at hx hxE
        have hk1 : ¬ (k : Int) < 0 := by omega
        have hk2 : ¬ (n : Int) ≤ (k : Int) := by omega
        simp [g0, g1, g5, g6, xs, hx, hxE, hz, hneg, leafN, hk1, hk2, w2, ws, wm]
        exact done _ (by simp [g0, xs]) (by simp [g1]) (by simp) (by simp)
      · rw [hr] at hx hxE
        have ho3 : (o == 1) = false := by rw [beq_eq_false_iff_ne]; omega
        have ho4 : (o == 2) = false := by rw [beq_eq_false_iff_ne]; omega
        simp [g0, g1, g5, g6, xs, hx, hxE, hz, hneg, leafN, ho3, ho4, w2, ws, wm]
        exact done _ (by simp [g0, xs]) (by simp [g1]) (by simp) (by simp)
    · have hge : ¬ pre.length < sz e := by simpa using hc
      have hts : ts = [] := by
        have := len_serL ts
        exact List.eq_nil_of_length_eq_zero (by omega)
      subst hts
      simp [g5]
      exact fin0 (rs := [.tmp 4]) (by rfl) (by simp [resA, hb])
  · have hb1 : decide (20000 < (sz e : Int)) = true := by simp; omega
    have hb2 : 20000 < (sz e : Int) := by omega
    simp [hb1, hb2]
    exact fin0 (rs := [.tmp 4]) (by rfl) (by simp [resA, hb])
end Go.Proofs.YtohmodcheahpgaaDoor.Arm

/- Rational values in intervals: every operation encloses the exact one. -/
namespace Go.Pl

/-- The value r lies in a (one unit of a is 1/65536). -/
def InI (a : I) (r : Rat) : Prop := a = ent ∨ ((a.1 : Rat) ≤ r * 65536 ∧ r * 65536 ≤ (a.2 : Rat))

theorem inI_ent (r : Rat) : InI ent r := .inl rfl
theorem in_mk {lo hi : Int} {r : Rat} (h1 : (lo : Rat) ≤ r * 65536) (h2 : r * 65536 ≤ (hi : Rat)) : InI (mk lo hi) r := by
  unfold mk
  split
  · exact .inr ⟨h1, h2⟩
  · exact .inl rfl
theorem not_ent2 {a b : I} (h : ¬ (entB a || entB b) = true) : a ≠ ent ∧ b ≠ ent := by
  simp only [Bool.or_eq_true, entB_iff, not_or] at h
  exact h
theorem in_add {a b : I} {x y : Rat} (ha : InI a x) (hb : InI b y) : InI (add a b) (x + y) := by
  unfold add
  split
  · exact .inl rfl
  · rename_i h
    obtain ⟨h1, h2⟩ := not_ent2 h
    obtain ⟨a1, a2⟩ := ha.resolve_left h1
    obtain ⟨b1, b2⟩ := hb.resolve_left h2
    refine in_mk ?_ ?_
    · rw [Rat.intCast_add]; grind
    · rw [Rat.intCast_add]; grind
theorem neg_ent : neg ent = ent := rfl
theorem in_neg {a : I} {x : Rat} (ha : InI a x) : InI (neg a) (-x) := by
  rcases ha with rfl | ⟨h1, h2⟩
  · exact .inl rfl
  · refine .inr ⟨?_, ?_⟩
    · simp only [neg, Rat.intCast_neg]; grind
    · simp only [neg, Rat.intCast_neg]; grind
theorem in_sub {a b : I} {x y : Rat} (ha : InI a x) (hb : InI b y) : InI (sub a b) (x - y) := by
  rw [Rat.sub_eq_add_neg]; exact in_add ha (in_neg hb)

/-! ### Corners -/
theorem rmulL {a b c : Rat} (h : 0 ≤ c) (k : a ≤ b) : c * a ≤ c * b := Rat.mul_le_mul_of_nonneg_left k h
theorem rmulL' {a b c : Rat} (h : c ≤ 0) (k : a ≤ b) : c * b ≤ c * a := by
  have := Rat.mul_le_mul_of_nonneg_left k (c := -c) (by grind)
  grind
theorem corner_hi {a1 a2 b1 b2 X Y : Rat} (h1 : a1 ≤ X) (h2 : X ≤ a2) (h3 : b1 ≤ Y) (h4 : Y ≤ b2) : X * Y ≤ a1 * b1 ∨ X * Y ≤ a1 * b2 ∨ X * Y ≤ a2 * b1 ∨ X * Y ≤ a2 * b2 := by
  rcases Rat.le_total (a := 0) (b := Y) with hy | hy
  · have e1 := rmulL hy h2
    rcases Rat.le_total (a := 0) (b := a2) with ha | ha
    · have e2 := rmulL ha h4
      right; right; right; grind
    · have e2 := rmulL' ha h3
      right; right; left; grind
  · have e1 := rmulL' hy h1
    rcases Rat.le_total (a := 0) (b := a1) with ha | ha
    · have e2 := rmulL ha h4
      right; left; grind
    · have e2 := rmulL' ha h3
      left; grind
theorem corner_lo {a1 a2 b1 b2 X Y : Rat} (h1 : a1 ≤ X) (h2 : X ≤ a2) (h3 : b1 ≤ Y) (h4 : Y ≤ b2) : a1 * b1 ≤ X * Y ∨ a1 * b2 ≤ X * Y ∨ a2 * b1 ≤ X * Y ∨ a2 * b2 ≤ X * Y := by
  have := corner_hi (a1 := -a2) (a2 := -a1) (X := -X) (Y := Y) (b1 := b1) (b2 := b2) (by grind) (by grind) h3 h4
  grind
theorem prod_in {a1 a2 b1 b2 : Int} {X Y : Rat} (h1 : (a1 : Rat) ≤ X) (h2 : X ≤ (a2 : Rat)) (h3 : (b1 : Rat) ≤ Y) (h4 : Y ≤ (b2 : Rat)) :
    ((min4 (a1 * b1) (a1 * b2) (a2 * b1) (a2 * b2) : Int) : Rat) ≤ X * Y ∧ X * Y ≤ ((max4 (a1 * b1) (a1 * b2) (a2 * b1) (a2 * b2) : Int) : Rat) := by
  have key1 : ∀ z : Int, min4 (a1 * b1) (a1 * b2) (a2 * b1) (a2 * b2) ≤ z → (z : Rat) ≤ X * Y → ((min4 (a1 * b1) (a1 * b2) (a2 * b1) (a2 * b2) : Int) : Rat) ≤ X * Y := fun z h k => Rat.le_trans (Rat.intCast_le_intCast.2 h) k
  have key2 : ∀ z : Int, z ≤ max4 (a1 * b1) (a1 * b2) (a2 * b1) (a2 * b2) → X * Y ≤ (z : Rat) → X * Y ≤ ((max4 (a1 * b1) (a1 * b2) (a2 * b1) (a2 * b2) : Int) : Rat) := fun z h k => Rat.le_trans k (Rat.intCast_le_intCast.2 h)
  constructor
  · rcases corner_lo h1 h2 h3 h4 with h | h | h | h
    · exact key1 (a1 * b1) (by simp only [min4]; omega) (by rw [Rat.intCast_mul]; exact h)
    · exact key1 (a1 * b2) (by simp only [min4]; omega) (by rw [Rat.intCast_mul]; exact h)
    · exact key1 (a2 * b1) (by simp only [min4]; omega) (by rw [Rat.intCast_mul]; exact h)
    · exact key1 (a2 * b2) (by simp only [min4]; omega) (by rw [Rat.intCast_mul]; exact h)
  · rcases corner_hi h1 h2 h3 h4 with h | h | h | h
    · exact key2 (a1 * b1) (by simp only [max4]; omega) (by rw [Rat.intCast_mul]; exact h)
    · exact key2 (a1 * b2) (by simp only [max4]; omega) (by rw [Rat.intCast_mul]; exact h)
    · exact key2 (a2 * b1) (by simp only [max4]; omega) (by rw [Rat.intCast_mul]; exact h)
    · exact key2 (a2 * b2) (by simp only [max4]; omega) (by rw [Rat.intCast_mul]; exact h)

/-! ### Quotients -/
theorem rdiv_le {x y b : Rat} (hb : 0 < b) (h : y * b ≤ x) : y ≤ x / b := Rat.not_lt.1 fun k => by
  have := (Rat.div_lt_iff hb).1 k
  exact absurd h (Rat.not_le.2 this)
theorem le_rdiv {x y b : Rat} (hb : 0 < b) (h : x ≤ y * b) : x / b ≤ y := Rat.not_lt.1 fun k => by
  have := (Rat.lt_div_iff hb).1 k
  exact absurd h (Rat.not_le.2 this)
theorem fl_pos_le {x b : Int} (hb : 0 < b) : ((x / b : Int) : Rat) * (b : Rat) ≤ (x : Rat) ∧ (x : Rat) < (((x / b : Int) : Rat) + 1) * (b : Rat) := by
  constructor
  · rw [← Rat.intCast_mul]; exact Rat.intCast_le_intCast.2 (Int.ediv_mul_le x (by omega))
  · have e : (((x / b : Int) : Rat) + 1) * (b : Rat) = (((x / b + 1) * b : Int) : Rat) := by rw [Rat.intCast_mul, Rat.intCast_add]; rfl
    rw [e]; exact Rat.intCast_lt_intCast.2 (Int.lt_ediv_add_one_mul_self x hb)
theorem rneg_div (x b : Rat) : (-x) / (-b) = x / b := by
  by_cases h : b = 0
  · subst h; grind
  · grind
theorem rneg_div' (x b : Rat) : (-x) / b = -(x / b) := by grind
theorem fl_le {x b : Int} (hb : b ≠ 0) : ((fl x b : Int) : Rat) ≤ (x : Rat) / (b : Rat) ∧ (x : Rat) / (b : Rat) < ((fl x b : Int) : Rat) + 1 := by
  have key : ∀ (y c : Int), 0 < c → ((y / c : Int) : Rat) ≤ (y : Rat) / (c : Rat) ∧ (y : Rat) / (c : Rat) < ((y / c : Int) : Rat) + 1 := fun y c hc => by
    obtain ⟨k1, k2⟩ := fl_pos_le (x := y) hc
    have hc' : (0 : Rat) < (c : Rat) := Rat.intCast_pos.2 hc
    exact ⟨rdiv_le hc' k1, (Rat.div_lt_iff hc').2 k2⟩
  unfold fl
  split
  · rename_i h
    have := key (-x) (-b) (by omega)
    rw [Rat.intCast_neg, Rat.intCast_neg, rneg_div] at this
    exact this
  · exact key x b (by omega)
theorem le_ce {x b : Int} (hb : b ≠ 0) : (x : Rat) / (b : Rat) ≤ ((ce x b : Int) : Rat) ∧ ((ce x b : Int) : Rat) - 1 < (x : Rat) / (b : Rat) := by
  obtain ⟨h1, h2⟩ := fl_le (x := -x) hb
  unfold ce
  rw [Rat.intCast_neg, rneg_div'] at h1 h2
  rw [Rat.intCast_neg]
  constructor <;> grind

theorem in_mul {a b : I} {x y : Rat} (ha : InI a x) (hb : InI b y) : InI (mul a b) (x * y) := by
  unfold mul
  split
  · exact .inl rfl
  · rename_i h
    obtain ⟨h1, h2⟩ := not_ent2 h
    obtain ⟨a1, a2⟩ := ha.resolve_left h1
    obtain ⟨b1, b2⟩ := hb.resolve_left h2
    obtain ⟨p1, p2⟩ := prod_in a1 a2 b1 b2
    generalize min4 _ _ _ _ = m at *
    generalize max4 _ _ _ _ = M at *
    obtain ⟨f1, _⟩ := fl_le (x := m) (b := 65536) (by decide)
    obtain ⟨f2, _⟩ := le_ce (x := M) (b := 65536) (by decide)
    have e : ((65536 : Int) : Rat) = 65536 := rfl
    rw [e] at f1 f2
    refine in_mk ?_ ?_
    · grind
    · grind

theorem sq_nonneg (x : Rat) : 0 ≤ x * x := by
  rcases Rat.le_total (a := 0) (b := x) with h | h
  · exact Rat.mul_nonneg h h
  · have := Rat.mul_nonneg (a := -x) (b := -x) (by grind) (by grind)
    grind
theorem in_sq {a : I} {x : Rat} (ha : InI a x) : InI (sq a) (x * x) := by
  unfold sq
  split
  · exact .inl rfl
  · rename_i h
    have h1 : a ≠ ent := fun k => h (entB_iff.2 k)
    obtain ⟨a1, a2⟩ := ha.resolve_left h1
    have p : (((if a.1 ≤ 0 ∧ 0 ≤ a.2 then 0 else min (a.1 * a.1) (a.2 * a.2) : Int)) : Rat) ≤ (x * 65536) * (x * 65536) := by
      split
      · exact sq_nonneg _
      · rename_i hn
        rcases Int.lt_or_le 0 a.1 with hp | hp
        · have hp' : (0 : Rat) ≤ (a.1 : Rat) := Rat.intCast_nonneg.2 (by omega)
          have k1 := rmulL hp' a1
          have k2 := rmulL (Rat.le_trans hp' a1) a1
          refine Rat.le_trans (b := ((a.1 * a.1 : Int) : Rat)) (Rat.intCast_le_intCast.2 (by omega)) ?_
          rw [Rat.intCast_mul]; grind
        · have hp' : (a.2 : Rat) ≤ 0 := Rat.intCast_nonpos.2 (by omega)
          have k1 := rmulL' hp' a2
          have k2 := rmulL' (Rat.le_trans a2 hp') a2
          refine Rat.le_trans (b := ((a.2 * a.2 : Int) : Rat)) (Rat.intCast_le_intCast.2 (by omega)) ?_
          rw [Rat.intCast_mul]; grind
    have q : (x * 65536) * (x * 65536) ≤ ((max (a.1 * a.1) (a.2 * a.2) : Int) : Rat) := by
      have m1 : ((a.1 * a.1 : Int) : Rat) ≤ ((max (a.1 * a.1) (a.2 * a.2) : Int) : Rat) := Rat.intCast_le_intCast.2 (by omega)
      have m2 : ((a.2 * a.2 : Int) : Rat) ≤ ((max (a.1 * a.1) (a.2 * a.2) : Int) : Rat) := Rat.intCast_le_intCast.2 (by omega)
      rw [Rat.intCast_mul] at m1 m2
      rcases Rat.le_total (a := 0) (b := x * 65536) with hx | hx
      · have k1 := rmulL hx a2
        have k2 := rmulL (Rat.le_trans hx a2) a2
        grind
      · have k1 := rmulL' hx a1
        have k2 := rmulL' (Rat.le_trans a1 hx) a1
        grind
    generalize (if a.1 ≤ 0 ∧ 0 ≤ a.2 then 0 else min (a.1 * a.1) (a.2 * a.2) : Int) = m at *
    generalize (max (a.1 * a.1) (a.2 * a.2) : Int) = M at *
    obtain ⟨f1, _⟩ := fl_le (x := m) (b := 65536) (by decide)
    obtain ⟨f2, _⟩ := le_ce (x := M) (b := 65536) (by decide)
    have e : ((65536 : Int) : Rat) = 65536 := rfl
    rw [e] at f1 f2
    exact in_mk (by grind) (by grind)

theorem rinv_anti {b y : Rat} (hb : 0 < b) (h : b ≤ y) : y⁻¹ ≤ b⁻¹ := by
  have hy : 0 < y := by grind
  have e1 := Rat.inv_mul_cancel y (by grind)
  have e2 := Rat.inv_mul_cancel b (by grind)
  have p1 := Rat.inv_pos.2 hy
  have p2 := Rat.inv_pos.2 hb
  have k1 := rmulL (Rat.le_of_lt (Rat.mul_pos p1 p2)) h
  rw [Rat.mul_assoc, e2, Rat.mul_one, Rat.mul_comm y⁻¹, Rat.mul_assoc, e1, Rat.mul_one] at k1
  exact k1
theorem rinv_neg (y : Rat) : (-y)⁻¹ = -(y⁻¹) := by grind
/-- The reciprocals of a definite interval. -/
theorem rinv_in {b1 b2 Y : Rat} (h1 : b1 ≤ Y) (h2 : Y ≤ b2) (h : 0 < b1 ∨ b2 < 0) : b2⁻¹ ≤ Y⁻¹ ∧ Y⁻¹ ≤ b1⁻¹ := by
  rcases h with h | h
  · exact ⟨rinv_anti (by grind) h2, rinv_anti h h1⟩
  · have k1 := rinv_anti (b := -b2) (y := -Y) (by grind) (by grind)
    have k2 := rinv_anti (b := -Y) (y := -b1) (by grind) (by grind)
    rw [rinv_neg, rinv_neg] at k1 k2
    constructor <;> grind
theorem quot_in {a1 a2 b1 b2 : Int} {X Y : Rat} (h1 : (a1 : Rat) ≤ X) (h2 : X ≤ (a2 : Rat)) (h3 : (b1 : Rat) ≤ Y) (h4 : Y ≤ (b2 : Rat)) (h : 0 < b1 ∨ b2 < 0) :
    ((min4 (fl (a1 * 65536) b1) (fl (a1 * 65536) b2) (fl (a2 * 65536) b1) (fl (a2 * 65536) b2) : Int) : Rat) ≤ X * 65536 / Y ∧ X * 65536 / Y ≤ ((max4 (ce (a1 * 65536) b1) (ce (a1 * 65536) b2) (ce (a2 * 65536) b1) (ce (a2 * 65536) b2) : Int) : Rat) := by
  have hb : b1 ≤ b2 := Rat.intCast_le_intCast.1 (Rat.le_trans h3 h4)
  have hh : 0 < (b1 : Rat) ∨ (b2 : Rat) < 0 := by
    rcases h with h | h
    · exact .inl (Rat.intCast_pos.2 h)
    · exact .inr (by have := Rat.intCast_lt_intCast.2 h; exact this)
  obtain ⟨i1, i2⟩ := rinv_in h3 h4 hh
  have n1 : b1 ≠ 0 := by omega
  have n2 : b2 ≠ 0 := by omega
  have e : X * 65536 / Y = (X * 65536) * Y⁻¹ := Rat.div_def _ _
  have x1 : ((a1 * 65536 : Int) : Rat) ≤ X * 65536 := by rw [Rat.intCast_mul]; have e : ((65536 : Int) : Rat) = 65536 := rfl; rw [e]; grind
  have x2 : X * 65536 ≤ ((a2 * 65536 : Int) : Rat) := by rw [Rat.intCast_mul]; have e : ((65536 : Int) : Rat) = 65536 := rfl; rw [e]; grind
  have l1 := (fl_le (x := a1 * 65536) n1).1
  have l2 := (fl_le (x := a1 * 65536) n2).1
  have l3 := (fl_le (x := a2 * 65536) n1).1
  have l4 := (fl_le (x := a2 * 65536) n2).1
  have u1 := (le_ce (x := a1 * 65536) n1).1
  have u2 := (le_ce (x := a1 * 65536) n2).1
  have u3 := (le_ce (x := a2 * 65536) n1).1
  have u4 := (le_ce (x := a2 * 65536) n2).1
  rw [Rat.div_def] at l1 l2 l3 l4 u1 u2 u3 u4
  rw [e]
  have key1 : ∀ z : Int, min4 (fl (a1 * 65536) b1) (fl (a1 * 65536) b2) (fl (a2 * 65536) b1) (fl (a2 * 65536) b2) ≤ z → (z : Rat) ≤ X * 65536 * Y⁻¹ → ((min4 (fl (a1 * 65536) b1) (fl (a1 * 65536) b2) (fl (a2 * 65536) b1) (fl (a2 * 65536) b2) : Int) : Rat) ≤ X * 65536 * Y⁻¹ := fun z h k => Rat.le_trans (Rat.intCast_le_intCast.2 h) k
  have key2 : ∀ z : Int, z ≤ max4 (ce (a1 * 65536) b1) (ce (a1 * 65536) b2) (ce (a2 * 65536) b1) (ce (a2 * 65536) b2) → X * 65536 * Y⁻¹ ≤ (z : Rat) → X * 65536 * Y⁻¹ ≤ ((max4 (ce (a1 * 65536) b1) (ce (a1 * 65536) b2) (ce (a2 * 65536) b1) (ce (a2 * 65536) b2) : Int) : Rat) := fun z h k => Rat.le_trans k (Rat.intCast_le_intCast.2 h)
  constructor
  · rcases corner_lo x1 x2 i1 i2 with k | k | k | k
    · exact key1 _ (by simp only [min4]; omega) (Rat.le_trans l2 k)
    · exact key1 _ (by simp only [min4]; omega) (Rat.le_trans l1 k)
    · exact key1 _ (by simp only [min4]; omega) (Rat.le_trans l4 k)
    · exact key1 _ (by simp only [min4]; omega) (Rat.le_trans l3 k)
  · rcases corner_hi x1 x2 i1 i2 with k | k | k | k
    · exact key2 _ (by simp only [max4]; omega) (Rat.le_trans k u2)
    · exact key2 _ (by simp only [max4]; omega) (Rat.le_trans k u1)
    · exact key2 _ (by simp only [max4]; omega) (Rat.le_trans k u4)
    · exact key2 _ (by simp only [max4]; omega) (Rat.le_trans k u3)
/-- The interval is bounded and does not contain 0. -/
def defn (b : I) : Prop := b ≠ ent ∧ (0 < b.1 ∨ b.2 < 0)
theorem div_undef {a b : I} (h : ¬ defn b) : div a b = ent := by
  unfold div
  rw [if_pos]
  by_cases hb : b = ent
  · simp [entB_iff.2 hb]
  · have : ¬ (0 < b.1 ∨ b.2 < 0) := fun k => h ⟨hb, k⟩
    have h1 : b.1 ≤ 0 ∧ 0 ≤ b.2 := by omega
    simp [h1.1, h1.2]
theorem in_div {a b : I} {x y : Rat} (ha : InI a x) (hb : defn b → InI b y) : InI (div a b) (x / y) := by
  by_cases hd : defn b
  · have hb := hb hd
    unfold div
    split
    · exact .inl rfl
    · rename_i h
      simp only [Bool.or_eq_true, entB_iff, not_or] at h
      obtain ⟨a1, a2⟩ := ha.resolve_left h.1.1
      obtain ⟨b1, b2⟩ := hb.resolve_left h.1.2
      obtain ⟨p1, p2⟩ := quot_in a1 a2 b1 b2 hd.2
      have e : x * 65536 * 65536 / (y * 65536) = x / y * 65536 := by
        have hy : y ≠ 0 := by
          rintro rfl
          have z1 : ((b.1 : Int) : Rat) ≤ 0 := by grind
          have z2 : 0 ≤ ((b.2 : Int) : Rat) := by grind
          have := Rat.intCast_nonpos.1 z1
          have := Rat.intCast_nonneg.1 z2
          have := hd.2
          omega
        grind
      rw [e] at p1 p2
      exact in_mk p1 p2
  · rw [div_undef hd]; exact .inl rfl
end Go.Pl

/- Rational approximations of square roots. -/
namespace Go.Pl

theorem root_mono_lt {n r : Int} (hn : 0 ≤ n) (hr : 0 ≤ r) (h : r * r ≤ n) : r ≤ root n := by
  obtain ⟨g0, g1, g2⟩ := root_spec hn
  rcases Int.lt_or_le (root n) r with k | k
  · have : (root n + 1) * (root n + 1) ≤ r * r := Int.mul_le_mul (by omega) (by omega) (by omega) hr
    omega
  · exact k
theorem rootU_spec {n : Int} (hn : 0 ≤ n) : 0 ≤ rootU n ∧ n ≤ rootU n * rootU n := by
  obtain ⟨g0, g1, g2⟩ := root_spec hn
  unfold rootU
  split
  · exact ⟨by omega, by omega⟩
  · exact ⟨g0, by omega⟩
/-- The grid on which roots are approximated. -/
def grid (k : Nat) : Int := 65536 * (k + 1)
theorem grid_pos (k : Nat) : 0 < grid k := by unfold grid; omega
theorem grid_posR (k : Nat) : (0 : Rat) < (grid k : Rat) := Rat.intCast_pos.2 (grid_pos k)
/-- The root of x rounded down to the grid; 0 for negative x. -/
def rt (k : Nat) (x : Rat) : Rat := (root ((x * (grid k : Rat) * (grid k : Rat)).floor) : Rat) / (grid k : Rat)
theorem rsq_le {a b : Rat} (ha : 0 ≤ a) (hb : 0 ≤ b) (h : a * a ≤ b * b) : a ≤ b := Rat.not_lt.1 fun k => by
  have h1 := Rat.mul_lt_mul_of_pos_left (c := a) k (by grind)
  have h2 := rmulL hb (Rat.le_of_lt k)
  grind
theorem rt_spec (k : Nat) {x : Rat} (hx : 0 ≤ x) : 0 ≤ rt k x ∧ rt k x * rt k x ≤ x ∧ x < (rt k x + 1 / (grid k : Rat)) * (rt k x + 1 / (grid k : Rat)) := by
  have hN := grid_posR k
  have hfx : 0 ≤ (x * (grid k : Rat) * (grid k : Rat)) := Rat.mul_nonneg (Rat.mul_nonneg hx (Rat.le_of_lt hN)) (Rat.le_of_lt hN)
  have hf : 0 ≤ (x * (grid k : Rat) * (grid k : Rat)).floor := Rat.le_floor_iff.2 hfx
  have f1 := Rat.floor_le (x * (grid k : Rat) * (grid k : Rat))
  have f2 := Rat.lt_floor_add_one (x * (grid k : Rat) * (grid k : Rat))
  obtain ⟨g0, g1, g2⟩ := root_spec hf
  unfold rt
  generalize (x * (grid k : Rat) * (grid k : Rat)).floor = n at *
  generalize root n = r at *
  generalize (grid k : Rat) = N at *
  have r0 : (0 : Rat) ≤ (r : Rat) := Rat.intCast_nonneg.2 g0
  have r1 : (r : Rat) * (r : Rat) ≤ (n : Rat) := by rw [← Rat.intCast_mul]; exact Rat.intCast_le_intCast.2 g1
  have r2 : ((n + 1 : Int) : Rat) ≤ ((r : Rat) + 1) * ((r : Rat) + 1) := by
    have : ((n + 1 : Int) : Rat) ≤ (((r + 1) * (r + 1) : Int) : Rat) := Rat.intCast_le_intCast.2 (by omega)
    rw [Rat.intCast_mul, Rat.intCast_add r 1] at this; exact this
  refine ⟨rdiv_le hN (by grind), ?_, ?_⟩
  · have e : (r : Rat) / N * ((r : Rat) / N) = (r : Rat) * (r : Rat) / (N * N) := by grind
    rw [e]
    exact le_rdiv (Rat.mul_pos hN hN) (by grind)
  · have e : ((r : Rat) / N + 1 / N) * ((r : Rat) / N + 1 / N) = ((r : Rat) + 1) * ((r : Rat) + 1) / (N * N) := by grind
    rw [e]
    exact (Rat.lt_div_iff (Rat.mul_pos hN hN)).2 (by grind)
theorem rt_neg (k : Nat) {x : Rat} (hx : x ≤ 0) : rt k x = 0 := by
  have hN := grid_posR k
  have h1 : (x * (grid k : Rat) * (grid k : Rat)) ≤ 0 := by
    have := Rat.mul_nonneg (a := -x * (grid k : Rat)) (b := (grid k : Rat)) (Rat.mul_nonneg (by grind) (Rat.le_of_lt hN)) (Rat.le_of_lt hN)
    grind
  have h2 : (x * (grid k : Rat) * (grid k : Rat)).floor ≤ 0 := by
    have h3 := Rat.floor_le (x * (grid k : Rat) * (grid k : Rat))
    exact Rat.intCast_nonpos.1 (Rat.le_trans h3 h1)
  have h3 : root ((x * (grid k : Rat) * (grid k : Rat)).floor) = 0 := by
    unfold root
    rw [Int.toNat_of_nonpos h2]; rfl
  unfold rt
  rw [h3]
  grind
/-- What the grid's lower root satisfies, in whole numbers. -/
theorem rt_ge (k : Nat) {x : Rat} (hx : 0 ≤ x) {L : Int} (hL : 0 ≤ L) (h : (L : Rat) * (L : Rat) ≤ x * 65536 * 65536) : (L : Rat) ≤ rt k x * 65536 := by
  have hN := grid_posR k
  have hfx : 0 ≤ (x * (grid k : Rat) * (grid k : Rat)) := Rat.mul_nonneg (Rat.mul_nonneg hx (Rat.le_of_lt hN)) (Rat.le_of_lt hN)
  have hf : 0 ≤ (x * (grid k : Rat) * (grid k : Rat)).floor := Rat.le_floor_iff.2 hfx
  have eg : (grid k : Rat) = 65536 * ((k + 1 : Nat) : Rat) := by
    unfold grid
    rw [Rat.intCast_mul]; rfl
  have hk : (0 : Rat) < ((k + 1 : Nat) : Rat) := Rat.natCast_pos.2 (by omega)
  have h1 : L * (k + 1 : Nat) ≤ root ((x * (grid k : Rat) * (grid k : Rat)).floor) := by
    refine root_mono_lt hf (Int.mul_nonneg hL (by omega)) (Rat.le_floor_iff.2 ?_)
    rw [Rat.intCast_mul, Rat.intCast_mul, Rat.intCast_natCast, eg]
    generalize ((k + 1 : Nat) : Rat) = K at *
    have := rmulL (Rat.le_of_lt (Rat.mul_pos hk hk)) h
    grind
  have h2 := Rat.intCast_le_intCast.2 h1
  rw [Rat.intCast_mul, Rat.intCast_natCast] at h2
  unfold rt
  generalize (root ((x * (grid k : Rat) * (grid k : Rat)).floor) : Rat) = R at *
  rw [eg]
  generalize ((k + 1 : Nat) : Rat) = K at *
  have e : R / (65536 * K) * 65536 = R / K := by grind
  rw [e]
  exact rdiv_le hk h2
theorem rt_le (k : Nat) {x : Rat} (hx : 0 ≤ x) {U : Int} (hU : 0 ≤ U) (h : x * 65536 * 65536 ≤ (U : Rat) * (U : Rat)) : rt k x * 65536 ≤ (U : Rat) := by
  obtain ⟨g0, g1, _⟩ := rt_spec k hx
  refine rsq_le (by grind) (Rat.intCast_nonneg.2 hU) ?_
  grind
theorem in_rt (k : Nat) {a : I} {x : Rat} (ha : InI a x) : InI (unV .sqrt a) (rt k x) := by
  simp only [unV]
  split
  · exact .inl rfl
  · rename_i h0
    unfold sqrt
    have hne : a ≠ ent := by rintro rfl; exact h0 (by decide)
    obtain ⟨a1, a2⟩ := ha.resolve_left hne
    have hx : 0 ≤ x := by
      have : (0 : Rat) ≤ (a.1 : Rat) := Rat.intCast_nonneg.2 (by omega)
      grind
    have h2 : 0 ≤ a.2 := by
      have : (0 : Rat) ≤ (a.2 : Rat) := by grind
      exact Rat.intCast_nonneg.1 this
    rw [if_neg (by rw [entB_iff]; exact hne), if_neg (by omega)]
    have hm : max a.1 0 = a.1 := by omega
    rw [hm]
    have e : ((65536 : Int) : Rat) = 65536 := rfl
    refine in_mk ?_ ?_
    · obtain ⟨g0, g1, _⟩ := root_spec (n := a.1 * 65536) (by omega)
      refine rt_ge k hx g0 ?_
      have := Rat.intCast_le_intCast.2 g1
      rw [Rat.intCast_mul, Rat.intCast_mul, e] at this
      grind
    · obtain ⟨g0, g1⟩ := rootU_spec (n := a.2 * 65536) (by omega)
      refine rt_le k hx g0 ?_
      have := Rat.intCast_le_intCast.2 g1
      rw [Rat.intCast_mul, Rat.intCast_mul, e] at this
      grind
theorem rt_one : rt 0 1 = 1 := by
  have e : (1 * (grid 0 : Rat) * (grid 0 : Rat)) = ((4294967296 : Int) : Rat) := by
    have : (grid 0 : Rat) = 65536 := rfl
    rw [this]; decide +kernel
  have h : root ((1 * (grid 0 : Rat) * (grid 0 : Rat)).floor) = 65536 := by
    rw [e, Rat.floor_intCast]; exact root_unique (by decide) (by decide) (by decide)
  unfold rt
  rw [h]
  have : (grid 0 : Rat) = 65536 := rfl
  rw [this]; decide +kernel
theorem rt_zero (k : Nat) : rt k 0 = 0 := rt_neg k Rat.le_refl
end Go.Pl

/- Simplification: smaller values, a normal form. -/
namespace Go.Pl

/-- a is a subset of b. -/
def Sb (a b : I) : Prop := b.1 ≤ a.1 ∧ a.2 ≤ b.2
theorem Sb.refl (a : I) : Sb a a := ⟨Int.le_refl _, Int.le_refl _⟩
theorem Sb.trans {a b c : I} (h : Sb a b) (k : Sb b c) : Sb a c := ⟨Int.le_trans k.1 h.1, Int.le_trans h.2 k.2⟩
theorem Sb.to {a b : I} (h : Sb a b) : subB a b = true := by simp [subB, h.1, h.2]
theorem Sb.ent {a : I} (h : vB a = true) : Sb a ent := by
  have := vB_bounds h
  exact ⟨this.1, this.2.2⟩
theorem Sb.bounded {a b : I} (h : Sb a b) (hb : vB b = true) (hne : b ≠ Pl.ent) : a ≠ Pl.ent := by
  rintro rfl
  have h1 := entB_false hb (by rw [Bool.eq_false_iff, Ne, entB_iff]; exact hne)
  have h2 := h.1
  simp only [Pl.ent] at h2
  omega
theorem vB_mk {lo hi : Int} (h : lo ≤ hi) : vB (mk lo hi) = true := mk_valid h
theorem mk_mono {lo hi lo' hi' : Int} (h1 : lo' ≤ lo) (h : lo ≤ hi) (h2 : hi ≤ hi') : Sb (mk lo hi) (mk lo' hi') := by
  by_cases hb : (numB lo' && numB hi') = true
  · have e : mk lo' hi' = (lo', hi') := by unfold mk; rw [if_pos hb]
    rw [Bool.and_eq_true, numB_iff, numB_iff] at hb
    have e2 : mk lo hi = (lo, hi) := by unfold mk; rw [if_pos (by rw [Bool.and_eq_true, numB_iff, numB_iff]; omega)]
    rw [e, e2]; exact ⟨h1, h2⟩
  · have e : mk lo' hi' = ent := by unfold mk; rw [if_neg hb]
    rw [e]; exact Sb.ent (vB_mk h)
section
variable {a b a' b' : I}
theorem ent2 (h : ¬ (entB a' || entB b') = true) (ha' : vB a' = true) (hb' : vB b' = true) (ha : Sb a a') (hb : Sb b b') : ¬ (entB a || entB b) = true := by
  obtain ⟨h1, h2⟩ := not_ent2 h
  have := ha.bounded ha' h1
  have := hb.bounded hb' h2
  simp [entB_iff, *]
theorem neg_mono (h : Sb a a') : Sb (neg a) (neg a') := ⟨by simp only [neg]; have := h.2; omega, by simp only [neg]; have := h.1; omega⟩
theorem add_mono (va : vB a = true) (vb : vB b = true) (va' : vB a' = true) (vb' : vB b' = true) (ha : Sb a a') (hb : Sb b b') : Sb (add a b) (add a' b') := by
  by_cases h : (entB a' || entB b') = true
  · have e : add a' b' = ent := by unfold add; rw [if_pos h]
    rw [e]; exact Sb.ent (add_valid va vb)
  · have h' := ent2 h va' vb' ha hb
    have e : add a' b' = mk (a'.1 + b'.1) (a'.2 + b'.2) := by unfold add; rw [if_neg h]
    have e2 : add a b = mk (a.1 + b.1) (a.2 + b.2) := by unfold add; rw [if_neg h']
    have h1 := vB_bounds va
    have h2 := vB_bounds vb
    have h3 := ha.1; have h4 := ha.2; have h5 := hb.1; have h6 := hb.2
    rw [e, e2]; exact mk_mono (by omega) (by omega) (by omega)
theorem sub_mono (va : vB a = true) (vb : vB b = true) (va' : vB a' = true) (vb' : vB b' = true) (ha : Sb a a') (hb : Sb b b') : Sb (sub a b) (sub a' b') := add_mono va (neg_valid vb) va' (neg_valid vb') ha (neg_mono hb)
theorem ic {x y : Int} : (x : Rat) ≤ (y : Rat) ↔ x ≤ y := Rat.intCast_le_intCast
/-- The corners of a product lie between those of a greater one. -/
theorem corner_in (ha : Sb a a') (hb : Sb b b') {x y : Int} (hx : x = a.1 ∨ x = a.2) (hy : y = b.1 ∨ y = b.2) (la : a.1 ≤ a.2) (lb : b.1 ≤ b.2) :
    min4 (a'.1 * b'.1) (a'.1 * b'.2) (a'.2 * b'.1) (a'.2 * b'.2) ≤ x * y ∧ x * y ≤ max4 (a'.1 * b'.1) (a'.1 * b'.2) (a'.2 * b'.1) (a'.2 * b'.2) := by
  have h3 := ha.1; have h4 := ha.2; have h5 := hb.1; have h6 := hb.2
  have := prod_in (a1 := a'.1) (a2 := a'.2) (b1 := b'.1) (b2 := b'.2) (X := (x : Rat)) (Y := (y : Rat)) (ic.2 (by omega)) (ic.2 (by omega)) (ic.2 (by omega)) (ic.2 (by omega))
  rw [← Rat.intCast_mul, ic, ic] at this
  exact this
theorem ce_mono {x y b : Int} (hb : 0 < b) (h : x ≤ y) : ce x b ≤ ce y b := (ce_edges x y b b).1 hb h
theorem fl_mono {x y b : Int} (hb : 0 < b) (h : x ≤ y) : fl x b ≤ fl y b := (fl_edges x y b b).1 hb h
theorem fl_le_ce' {x b : Int} (hb : b ≠ 0) : fl x b ≤ ce x b := by
  have h1 := (fl_le (x := x) hb).1
  have h2 := (le_ce (x := x) hb).1
  exact ic.1 (Rat.le_trans h1 h2)
theorem sqle {x y : Int} (h1 : -y ≤ x) (h2 : x ≤ y) : x * x ≤ y * y := by
  have := Int.mul_nonneg (show 0 ≤ y - x by omega) (show 0 ≤ y + x by omega)
  grind
theorem sqle' {x y : Int} (h1 : y ≤ x) (h2 : x ≤ -y) : x * x ≤ y * y := by
  have := sqle (x := x) (y := -y) (by omega) h2
  rwa [Int.neg_mul_neg] at this
theorem sqnn (x : Int) : 0 ≤ x * x := by
  by_cases h : 0 ≤ x
  · exact Int.mul_nonneg h h
  · have := Int.mul_nonneg (show 0 ≤ -x by omega) (show 0 ≤ -x by omega)
    rwa [Int.neg_mul_neg] at this
theorem mul_mono (va : vB a = true) (vb : vB b = true) (va' : vB a' = true) (vb' : vB b' = true) (ha : Sb a a') (hb : Sb b b') : Sb (mul a b) (mul a' b') := by
  by_cases h : (entB a' || entB b') = true
  · have e : mul a' b' = ent := by unfold mul; rw [if_pos h]
    rw [e]; exact Sb.ent mul_valid
  · have h' := ent2 h va' vb' ha hb
    have h1 := vB_bounds va
    have h2 := vB_bounds vb
    have c1 := corner_in ha hb (x := a.1) (y := b.1) (.inl rfl) (.inl rfl) h1.2.1 h2.2.1
    have c2 := corner_in ha hb (x := a.1) (y := b.2) (.inl rfl) (.inr rfl) h1.2.1 h2.2.1
    have c3 := corner_in ha hb (x := a.2) (y := b.1) (.inr rfl) (.inl rfl) h1.2.1 h2.2.1
    have c4 := corner_in ha hb (x := a.2) (y := b.2) (.inr rfl) (.inr rfl) h1.2.1 h2.2.1
    unfold mul
    rw [if_neg h, if_neg h']
    generalize min4 (a'.1 * b'.1) (a'.1 * b'.2) (a'.2 * b'.1) (a'.2 * b'.2) = m at *
    generalize max4 (a'.1 * b'.1) (a'.1 * b'.2) (a'.2 * b'.1) (a'.2 * b'.2) = M at *
    have d1 : m ≤ min4 (a.1 * b.1) (a.1 * b.2) (a.2 * b.1) (a.2 * b.2) := by simp only [min4]; omega
    have d2 : max4 (a.1 * b.1) (a.1 * b.2) (a.2 * b.1) (a.2 * b.2) ≤ M := by simp only [max4]; omega
    have d3 : min4 (a.1 * b.1) (a.1 * b.2) (a.2 * b.1) (a.2 * b.2) ≤ max4 (a.1 * b.1) (a.1 * b.2) (a.2 * b.1) (a.2 * b.2) := by simp only [min4, max4]; omega
    exact mk_mono (fl_mono (by decide) d1) (Int.le_trans (fl_mono (by decide) d3) (fl_le_ce' (by decide))) (ce_mono (by decide) d2)
theorem sq_mono (va : vB a = true) (va' : vB a' = true) (ha : Sb a a') : Sb (sq a) (sq a') := by
  by_cases h : entB a' = true
  · have e : sq a' = ent := by unfold sq; rw [if_pos h]
    rw [e]; exact Sb.ent (sq_valid va)
  · have h' : ¬ entB a = true := by rw [entB_iff]; exact ha.bounded va' (fun k => h (entB_iff.2 k))
    have h1 := vB_bounds va
    have h3 := ha.1; have h4 := ha.2
    unfold sq
    rw [if_neg h, if_neg h']
    have s1 := sqnn a.1
    have s2 := sqnn a.2
    have m1 : a.1 * a.1 ≤ max (a'.1 * a'.1) (a'.2 * a'.2) := by
      by_cases q : 0 ≤ a.1
      · have := sqle (x := a.1) (y := a'.2) (by omega) (by omega)
        omega
      · have := sqle' (x := a.1) (y := a'.1) (by omega) (by omega)
        omega
    have m2 : a.2 * a.2 ≤ max (a'.1 * a'.1) (a'.2 * a'.2) := by
      by_cases q : 0 ≤ a.2
      · have := sqle (x := a.2) (y := a'.2) (by omega) (by omega)
        omega
      · have := sqle' (x := a.2) (y := a'.1) (by omega) (by omega)
        omega
    have n1 : (if a'.1 ≤ 0 ∧ 0 ≤ a'.2 then 0 else min (a'.1 * a'.1) (a'.2 * a'.2)) ≤ (if a.1 ≤ 0 ∧ 0 ≤ a.2 then 0 else min (a.1 * a.1) (a.2 * a.2)) := by
      by_cases hz : a'.1 ≤ 0 ∧ 0 ≤ a'.2
      · rw [if_pos hz]; split <;> omega
      · rw [if_neg hz, if_neg (by omega)]
        by_cases k : 0 < a'.1
        · have e1 := sqle (x := a'.1) (y := a.1) (by omega) (by omega)
          have e2 := sqle (x := a'.1) (y := a.2) (by omega) (by omega)
          omega
        · have e1 := sqle' (x := a'.2) (y := a.1) (by omega) (by omega)
          have e2 := sqle' (x := a'.2) (y := a.2) (by omega) (by omega)
          omega
    have n2 : (if a.1 ≤ 0 ∧ 0 ≤ a.2 then 0 else min (a.1 * a.1) (a.2 * a.2)) ≤ max (a.1 * a.1) (a.2 * a.2) := by split <;> omega
    generalize (if a'.1 ≤ 0 ∧ 0 ≤ a'.2 then 0 else min (a'.1 * a'.1) (a'.2 * a'.2)) = m at *
    generalize (if a.1 ≤ 0 ∧ 0 ≤ a.2 then 0 else min (a.1 * a.1) (a.2 * a.2)) = m' at *
    exact mk_mono (fl_mono (by decide) n1) (Int.le_trans (fl_mono (by decide) n2) (fl_le_ce' (by decide))) (ce_mono (by decide) (by omega))
theorem defn_mono (vb' : vB b' = true) (hb : Sb b b') (h : defn b') (lb : b.1 ≤ b.2) : defn b := by
  have h3 := hb.1; have h4 := hb.2
  refine ⟨hb.bounded vb' h.1, ?_⟩
  rcases h.2 with h | h <;> omega
theorem qcorner_in (ha : Sb a a') (hb : Sb b b') (hd : defn b') {x y : Int} (hx : x = a.1 ∨ x = a.2) (hy : y = b.1 ∨ y = b.2) (la : a.1 ≤ a.2) (lb : b.1 ≤ b.2) :
    min4 (fl (a'.1 * 65536) b'.1) (fl (a'.1 * 65536) b'.2) (fl (a'.2 * 65536) b'.1) (fl (a'.2 * 65536) b'.2) ≤ fl (x * 65536) y ∧ ce (x * 65536) y ≤ max4 (ce (a'.1 * 65536) b'.1) (ce (a'.1 * 65536) b'.2) (ce (a'.2 * 65536) b'.1) (ce (a'.2 * 65536) b'.2) := by
  have h3 := ha.1; have h4 := ha.2; have h5 := hb.1; have h6 := hb.2
  have hy0 : y ≠ 0 := by rcases hd.2 with h | h <;> omega
  obtain ⟨k1, k2⟩ := quot_in (a1 := a'.1) (a2 := a'.2) (b1 := b'.1) (b2 := b'.2) (X := (x : Rat)) (Y := (y : Rat)) (ic.2 (by omega)) (ic.2 (by omega)) (ic.2 (by omega)) (ic.2 (by omega)) hd.2
  have e : (x : Rat) * 65536 = ((x * 65536 : Int) : Rat) := by rw [Rat.intCast_mul]; rfl
  rw [e] at k1 k2
  have f1 := (fl_le (x := x * 65536) hy0).2
  have f2 := (le_ce (x := x * 65536) hy0).2
  generalize ((x * 65536 : Int) : Rat) / (y : Rat) = q at *
  generalize min4 (fl (a'.1 * 65536) b'.1) (fl (a'.1 * 65536) b'.2) (fl (a'.2 * 65536) b'.1) (fl (a'.2 * 65536) b'.2) = m at *
  generalize max4 (ce (a'.1 * 65536) b'.1) (ce (a'.1 * 65536) b'.2) (ce (a'.2 * 65536) b'.1) (ce (a'.2 * 65536) b'.2) = M at *
  have g1 : (m : Rat) < ((fl (x * 65536) y + 1 : Int) : Rat) := by
    rw [Rat.intCast_add (fl (x * 65536) y) 1]; have e : ((1 : Int) : Rat) = 1 := rfl; rw [e]; grind
  have g2 : ((ce (x * 65536) y - 1 : Int) : Rat) < (M : Rat) := by
    rw [Rat.intCast_sub (ce (x * 65536) y) 1]; have e : ((1 : Int) : Rat) = 1 := rfl; rw [e]; grind
  have g1 := Rat.intCast_lt_intCast.1 g1
  have g2 := Rat.intCast_lt_intCast.1 g2
  omega
theorem div_mono (va : vB a = true) (vb : vB b = true) (va' : vB a' = true) (vb' : vB b' = true) (ha : Sb a a') (hb : Sb b b') : Sb (div a b) (div a' b') := by
  by_cases hd : defn b'
  · by_cases hea : a' = ent
    · have e : div a' b' = ent := by unfold div; rw [if_pos (by simp [entB_iff.2 hea])]
      rw [e]; exact Sb.ent (div_valid vb)
    have h1 := vB_bounds va
    have h2 := vB_bounds vb
    have hd2 := defn_mono vb' hb hd h2.2.1
    have hea2 := ha.bounded va' hea
    have z1 : ¬ (entB a' || entB b' || (decide (b'.1 ≤ 0) && decide (0 ≤ b'.2))) = true := by
      have := hd.1
      simp [entB_iff, *]
      rcases hd.2 with h | h <;> omega
    have z2 : ¬ (entB a || entB b || (decide (b.1 ≤ 0) && decide (0 ≤ b.2))) = true := by
      have := hd2.1
      simp [entB_iff, *]
      rcases hd2.2 with h | h <;> omega
    have c1 := qcorner_in ha hb hd (x := a.1) (y := b.1) (.inl rfl) (.inl rfl) h1.2.1 h2.2.1
    have c2 := qcorner_in ha hb hd (x := a.1) (y := b.2) (.inl rfl) (.inr rfl) h1.2.1 h2.2.1
    have c3 := qcorner_in ha hb hd (x := a.2) (y := b.1) (.inr rfl) (.inl rfl) h1.2.1 h2.2.1
    have c4 := qcorner_in ha hb hd (x := a.2) (y := b.2) (.inr rfl) (.inr rfl) h1.2.1 h2.2.1
    have c5 : fl (a.1 * 65536) b.1 ≤ ce (a.1 * 65536) b.1 := fl_le_ce' (by rcases hd2.2 with h | h <;> omega)
    unfold div
    rw [if_neg z1, if_neg z2]
    generalize min4 (fl (a'.1 * 65536) b'.1) (fl (a'.1 * 65536) b'.2) (fl (a'.2 * 65536) b'.1) (fl (a'.2 * 65536) b'.2) = m at *
    generalize max4 (ce (a'.1 * 65536) b'.1) (ce (a'.1 * 65536) b'.2) (ce (a'.2 * 65536) b'.1) (ce (a'.2 * 65536) b'.2) = M at *
    refine mk_mono ?_ ?_ ?_ <;> simp only [min4, max4] <;> omega
  · rw [div_undef hd]; exact Sb.ent (div_valid vb)
theorem root_mn {m n : Int} (hm : 0 ≤ m) (h : m ≤ n) : root m ≤ root n := by
  obtain ⟨g0, g1, g2⟩ := root_spec hm
  exact root_mono_lt (by omega) g0 (by omega)
theorem rootU_mono {m n : Int} (hm : 0 ≤ m) (h : m ≤ n) : rootU m ≤ rootU n := by
  obtain ⟨g0, g1, g2⟩ := root_spec hm
  obtain ⟨h0, h1⟩ := rootU_spec (n := n) (by omega)
  unfold rootU
  split
  · rename_i hlt
    have h3 : root m < rootU n := by
      rcases Int.lt_or_le (root m) (rootU n) with k | k
      · exact k
      · have := Int.mul_le_mul k k h0 g0
        omega
    unfold rootU at h3
    omega
  · have := root_mn hm h
    unfold rootU at h0
    split <;> omega
theorem sqrt_mono (va : vB a = true) (va' : vB a' = true) (ha : Sb a a') : Sb (unV .sqrt a) (unV .sqrt a') := by
  simp only [unV]
  by_cases h0 : a'.1 < 0
  · rw [if_pos h0]; exact Sb.ent (unV_valid (o := .sqrt) va)
  · have h1 := vB_bounds va
    have h3 := ha.1; have h4 := ha.2
    have hne' : ¬ entB a' = true := by rw [entB_iff]; rintro rfl; exact h0 (by decide)
    have hne : ¬ entB a = true := by rw [entB_iff]; exact ha.bounded va' (fun k => hne' (entB_iff.2 k))
    rw [if_neg h0, if_neg (by omega)]
    unfold sqrt
    rw [if_neg hne', if_neg hne, if_neg (by omega), if_neg (by omega)]
    have e1 : max a.1 0 = a.1 := by omega
    have e2 : max a'.1 0 = a'.1 := by omega
    rw [e1, e2]
    refine mk_mono (root_mn (by omega) (by omega)) ?_ (rootU_mono (by omega) (by omega))
    have := root_mn (m := a.1 * 65536) (n := a.2 * 65536) (by omega) (by omega)
    unfold rootU
    split <;> omega
theorem un_mono {o : U} (va : vB a = true) (va' : vB a' = true) (ha : Sb a a') : Sb (unV o a) (unV o a') := by
  cases o with
  | neg => exact neg_mono ha
  | sqr => exact sq_mono va va' ha
  | sqrt => exact sqrt_mono va va' ha
theorem bin_mono {o : B} (va : vB a = true) (vb : vB b = true) (va' : vB a' = true) (vb' : vB b' = true) (ha : Sb a a') (hb : Sb b b') : Sb (binV o a b) (binV o a' b') := by
  cases o with
  | add => exact add_mono va vb va' vb' ha hb
  | sub => exact sub_mono va vb va' vb' ha hb
  | mul => exact mul_mono va vb va' vb' ha hb
  | div => exact div_mono va vb va' vb' ha hb
end
end Go.Pl

/- Simplification: the value on a box gets no greater; a simplified expression stays as it is. -/
namespace Go.Pl

theorem mk_num {lo hi : Int} (h1 : -2147483648 < lo ∧ lo < 2147483648) (h2 : -2147483648 < hi ∧ hi < 2147483648) : mk lo hi = (lo, hi) := by
  unfold mk; rw [if_pos (by rw [Bool.and_eq_true, numB_iff, numB_iff]; exact ⟨h1, h2⟩)]
theorem mk_self {v : I} (h : vB v = true) (hne : entB v = false) : mk v.1 v.2 = v := by
  have := entB_false h hne
  rw [mk_num ⟨by omega, by omega⟩ ⟨by omega, by omega⟩]
theorem add_zero_l {v : I} (h : vB v = true) : add (0, 0) v = v := by
  unfold add
  cases he : entB v with
  | true => simp [entB_iff.1 he]
  | false => simp only [entB, Bool.or_false]; simp; exact mk_self h he
theorem add_zero_r {v : I} (h : vB v = true) : add v (0, 0) = v := by
  unfold add
  cases he : entB v with
  | true => simp [entB_iff.1 he]
  | false => simp [entB]; exact mk_self h he
theorem sub_zero_r {v : I} (h : vB v = true) : sub v (0, 0) = v := add_zero_r h
theorem sub_zero_l {v : I} (h : vB v = true) : sub (0, 0) v = neg v := add_zero_l (neg_valid h)
theorem neg_neg' (v : I) : neg (neg v) = v := by simp [neg]
theorem number0 : number 0 = .num (0, 0) := by decide
theorem number1 : number 1 = .num (65536, 65536) := by decide
theorem mul_zero_l {v : I} (h : entB v = false) : mul (0, 0) v = (0, 0) := by
  unfold mul
  rw [h]; simp [entB, min4, max4, fl, ce]; rfl
theorem mul_zero_r {v : I} (h : entB v = false) : mul v (0, 0) = (0, 0) := by
  unfold mul
  rw [h]; simp [entB, min4, max4, fl, ce]; rfl
theorem fl_one (x : Int) : fl (x * 65536) 65536 = x := by unfold fl; simp
theorem ce_one (x : Int) : ce (x * 65536) 65536 = x := by
  unfold ce
  rw [← Int.neg_mul, fl_one, Int.neg_neg]
theorem mul_one_l {v : I} (h : vB v = true) : mul (65536, 65536) v = v := by
  unfold mul
  cases he : entB v with
  | true => simp [entB_iff.1 he]
  | false =>
    have hb := entB_false h he
    have e1 : min4 (65536 * v.1) (65536 * v.2) (65536 * v.1) (65536 * v.2) = v.1 * 65536 := by simp only [min4]; omega
    have e2 : max4 (65536 * v.1) (65536 * v.2) (65536 * v.1) (65536 * v.2) = v.2 * 65536 := by simp only [max4]; omega
    simp only [entB, Bool.or_false]
    simp [e1, e2, fl_one, ce_one]
    exact mk_self h he
theorem mul_one_r {v : I} (h : vB v = true) : mul v (65536, 65536) = v := by
  unfold mul
  cases he : entB v with
  | true => simp [entB_iff.1 he]
  | false =>
    have hb := entB_false h he
    have e1 : min4 (v.1 * 65536) (v.1 * 65536) (v.2 * 65536) (v.2 * 65536) = v.1 * 65536 := by simp only [min4]; omega
    have e2 : max4 (v.1 * 65536) (v.1 * 65536) (v.2 * 65536) (v.2 * 65536) = v.2 * 65536 := by simp only [max4]; omega
    simp [entB, e1, e2, fl_one, ce_one]
    exact mk_self h he
theorem div_one {v : I} (h : vB v = true) : div v (65536, 65536) = v := by
  unfold div
  cases he : entB v with
  | true => simp [entB_iff.1 he]
  | false =>
    have hb := entB_false h he
    have e1 : min4 v.1 v.1 v.2 v.2 = v.1 := by simp only [min4]; omega
    have e2 : max4 v.1 v.1 v.2 v.2 = v.2 := by simp only [max4]; omega
    simp [entB, fl_one, ce_one, e1, e2]
    exact mk_self h he
theorem div_zero_l {v : I} : div (0, 0) v = (0, 0) ∨ div (0, 0) v = ent := by
  unfold div
  split
  · exact .inr rfl
  · left
    have f0 : ∀ b : Int, fl (0 * 65536) b = 0 := fun b => by unfold fl; split <;> simp
    have c0 : ∀ b : Int, ce (0 * 65536) b = 0 := fun b => by unfold ce; rw [show -(0 * 65536 : Int) = 0 * 65536 by decide, f0]; rfl
    simp only [f0, c0]
    decide
section
variable {x : List I} {t : I}
theorem ev_isK {e : Ex} {k : Int} (h : isK e k = true) : ev x t e = (k, k) := by rw [isK_num h]; rfl
theorem ev_isPt {e : Ex} {k : Int} (h : isPt e = some k) : e = .num (k, k) := by
  cases e <;> simp [isPt] at h
  rename_i c
  obtain ⟨a, b⟩ := c
  simp only at h
  obtain ⟨h1, h2⟩ := h
  rw [← h2, h1]
theorem ev_smpNeg {a : Ex} (h : wf x.length a = true) : ev x t (smpNeg a) = neg (ev x t a) := by
  unfold smpNeg
  split
  · rename_i c hc
    have e := ev_isPt hc
    subst e
    have hb : -2147483648 < c ∧ c < 2147483648 := by
      have he : entB (c, c) = false := by simp [entB]; omega
      have := entB_false h he
      simp only at this; omega
    simp only [ev, neg, pt]
    rw [mk_num ⟨by omega, by omega⟩ ⟨by omega, by omega⟩]
  · split
    · simp only [ev, unV]; rw [neg_neg']
    · rfl
theorem ev_foldC {o : B} {a b : Ex} : ev x t ((foldC (binV o) a b).getD (.bin o a b)) = binV o (ev x t a) (ev x t b) := by
  unfold foldC
  split
  · split <;> rfl
  · rfl
theorem ev_smpU {o : U} {a : Ex} (h : wf x.length a = true) : ev x t (smpU o a) = unV o (ev x t a) := by
  cases o with
  | neg => exact ev_smpNeg h
  | sqr =>
    simp only [smpU]
    split
    · rename_i hk
      rw [Bool.or_eq_true] at hk
      rcases hk with hk | hk <;> rw [ev_isK hk] <;> decide
    · rfl
  | sqrt =>
    simp only [smpU]
    split
    · rename_i hk
      rw [Bool.or_eq_true] at hk
      have r0 : root 0 = 0 := root_unique (by decide) (by decide) (by decide)
      have r1 : root (65536 * 65536) = 65536 := root_unique (by decide) (by decide) (by decide)
      rcases hk with hk | hk <;> rw [ev_isK hk]
      · simp [unV, sqrt, entB, rootU, r0]; rfl
      · simp only [unV, sqrt, entB, rootU]
        rw [show max (65536 : Int) 0 = 65536 by decide, r1]; decide
    · rfl
theorem ev_smpB {o : B} {a b : Ex} (hx : ∀ p ∈ x, vB p = true) (ht : vB t = true) (h : wf x.length a = true) (k : wf x.length b = true) : Sb (ev x t (smpB o a b)) (binV o (ev x t a) (ev x t b)) := by
  have va := ev_valid hx ht a h
  have vb := ev_valid hx ht b k
  have eq : ∀ {u v : I}, u = v → Sb u v := fun h => h ▸ Sb.refl _
  cases o with
  | add =>
    simp only [smpB, smpAdd, binV]
    split
    · rename_i hk; rw [ev_isK hk, add_zero_l vb]; exact Sb.refl _
    · split
      · rename_i hk; rw [ev_isK hk, add_zero_r va]; exact Sb.refl _
      · exact eq (ev_foldC (o := .add))
  | sub =>
    simp only [smpB, smpSub, binV]
    split
    · rename_i hk; rw [ev_isK hk, sub_zero_r va]; exact Sb.refl _
    · split
      · rename_i hk; rw [ev_isK hk, sub_zero_l vb, ev_smpNeg k]; exact Sb.refl _
      · exact eq (ev_foldC (o := .sub))
  | mul =>
    simp only [smpB, smpMul, binV]
    split
    · rename_i hk
      rw [Bool.or_eq_true] at hk
      rw [number0]
      simp only [ev]
      have z : Sb (0, 0) ent := ⟨by decide, by decide⟩
      rcases hk with hk | hk <;> rw [ev_isK hk]
      · cases he : entB (ev x t b) with
        | true => rw [entB_iff.1 he]; exact z
        | false => rw [mul_zero_l he]; exact Sb.refl _
      · cases he : entB (ev x t a) with
        | true => rw [entB_iff.1 he]; exact z
        | false => rw [mul_zero_r he]; exact Sb.refl _
    · split
      · rename_i hk; rw [ev_isK hk, mul_one_l vb]; exact Sb.refl _
      · split
        · rename_i hk; rw [ev_isK hk, mul_one_r va]; exact Sb.refl _
        · exact eq (ev_foldC (o := .mul))
  | div =>
    simp only [smpB, binV]
    split
    · rename_i hk
      rw [Bool.or_eq_true] at hk
      rcases hk with hk | hk
      · rw [ev_isK hk]
        rcases div_zero_l (v := ev x t b) with e | e <;> rw [e]
        · exact Sb.refl _
        · exact ⟨by decide, by decide⟩
      · rw [ev_isK hk, div_one va]; exact Sb.refl _
    · exact Sb.refl _
/-- Simplification: values get no greater. -/
theorem ev_smp (hx : ∀ p ∈ x, vB p = true) (ht : vB t = true) : ∀ e : Ex, wf x.length e = true → Sb (ev x t (smp e)) (ev x t e)
  | .num _, _ | .var _, _ | .time, _ => Sb.refl _
  | .un o a, h => by
    have h1 := smp_wf a h
    simp only [smp, ev]
    rw [ev_smpU h1]
    exact un_mono (ev_valid hx ht _ h1) (ev_valid hx ht a h) (ev_smp hx ht a h)
  | .bin o a b, h => by
    simp only [wf, Bool.and_eq_true] at h
    have h1 := smp_wf a h.1
    have h2 := smp_wf b h.2
    simp only [smp, ev]
    exact (ev_smpB hx ht h1 h2).trans (bin_mono (ev_valid hx ht _ h1) (ev_valid hx ht _ h2) (ev_valid hx ht a h.1) (ev_valid hx ht b h.2) (ev_smp hx ht a h.1) (ev_smp hx ht b h.2))
end

/-! ### A normal form -/
theorem smp_inner {b : Ex} (h : smp (.un .neg b) = .un .neg b) : smp b = b := by
  simp only [smp, smpU] at h
  generalize hs : smp b = s at h
  have hz := smp_sz b
  rw [hs] at hz
  unfold smpNeg at h
  split at h
  · cases h
  · split at h
    · rename_i c _
      have := congrArg sz h
      rw [sz_un] at hz this
      omega
    · simpa using h
theorem nrmNeg {a : Ex} (h : smp a = a) : smp (smpNeg a) = smpNeg a := by
  unfold smpNeg
  split
  · rfl
  · split
    · exact smp_inner h
    · rename_i heq e h2
      simp only [smp, smpU, h]
      unfold smpNeg
      rw [heq]
      dsimp only
      split
      · rename_i b; exact absurd rfl (h2 b)
      · rfl
theorem nrmFold {o : B} {f : I → I → I} {a b : Ex} (h : smp (.bin o a b) = (foldC f a b).getD (.bin o a b)) : smp ((foldC f a b).getD (.bin o a b)) = (foldC f a b).getD (.bin o a b) := by
  have key : ∀ r, foldC f a b = some r → smp r = r := by
    intro r hr
    unfold foldC at hr
    split at hr
    · split at hr
      · cases hr; rfl
      · cases hr
    · cases hr
  cases hf : foldC f a b with
  | some r => exact key r hf
  | none =>
    rw [hf] at h
    exact h
theorem nrmU {o : U} {a : Ex} (h : smp a = a) : smp (smpU o a) = smpU o a := by
  cases o with
  | neg => exact nrmNeg h
  | sqr =>
    simp only [smpU]
    split
    · exact h
    · rename_i hk; simp only [smp, smpU, h]; rw [if_neg hk]
  | sqrt =>
    simp only [smpU]
    split
    · exact h
    · rename_i hk; simp only [smp, smpU, h]; rw [if_neg hk]
theorem nrmB {o : B} {a b : Ex} (h : smp a = a) (k : smp b = b) : smp (smpB o a b) = smpB o a b := by
  cases o with
  | add =>
    simp only [smpB, smpAdd]
    split
    · exact k
    · split
      · exact h
      · rename_i h1 h2
        refine nrmFold ?_
        simp only [smp, smpB, smpAdd, h, k]; rw [if_neg h1, if_neg h2]
  | sub =>
    simp only [smpB, smpSub]
    split
    · exact h
    · split
      · exact nrmNeg k
      · rename_i h1 h2
        refine nrmFold ?_
        simp only [smp, smpB, smpSub, h, k]; rw [if_neg h1, if_neg h2]
  | mul =>
    simp only [smpB, smpMul]
    split
    · rfl
    · split
      · exact k
      · split
        · exact h
        · rename_i h1 h2 h3
          refine nrmFold ?_
          simp only [smp, smpB, smpMul, h, k]; rw [if_neg h1, if_neg h2, if_neg h3]
  | div =>
    simp only [smpB]
    split
    · exact h
    · rename_i h1
      simp only [smp, smpB, h, k]; rw [if_neg h1]
theorem smp_smp : ∀ e : Ex, smp (smp e) = smp e
  | .num _ | .var _ | .time => rfl
  | .un o a => nrmU (smp_smp a)
  | .bin o a b => nrmB (smp_smp a) (smp_smp b)
end Go.Pl

namespace Go.Proofs.YtohmodcheahpgaaDoor.Arm
open Go.Arm Go.Pl

theorem dimN (n : Int) (hn : 0 ≤ n ∧ n ≤ 255) : ∃ N : Nat, 1 + n.tmod 3 = (N : Int) ∧ 0 < N ∧ N ≤ 3 := by
  have h1 : 0 ≤ n.tmod 3 ∧ n.tmod 3 < 3 := ⟨Int.tmod_nonneg _ hn.1, Int.tmod_lt_of_pos _ (by decide)⟩
  exact ⟨(1 + n.tmod 3).toNat, by omega, by omega, by omega⟩
theorem lDim (F : List (List Nd)) (l : List Nd) (b : List I) (t : I) (n : Int) (hn : 0 ≤ n ∧ n ≤ 255) {N : Nat} (h : 1 + n.tmod 3 = (N : Int)) (H : AH) : Sound E 12 [inp F l b t n] H (.ret (.int .i64 N)) H := by
  have := lDimension F l b t n hn H
  rwa [h] at this
theorem l3 (F : List (List Nd)) (l : List Nd) (b : List I) (t : I) (n : Int) (hn : 0 ≤ n ∧ n ≤ 255) (hl : l.length ≤ 200000000000000) (hb : b.length ≤ 200000000000000) (H : AH) : Sound E 3 [inp F l b t n] H (.ret (.bool true)) H := by
  refine sound_of_awp tabOk mixed Tryd.func3 rfl (by rfl) Tryd.ntmps3 (by kernel_rfl) (by simp) ?_
  obtain ⟨N, hN, hN0, hN3⟩ := dimN n hn
  simp [inp]
  refine call_ret (sanityOk _) ?_
  simp
  refine call_ret (lDim F l b t n hn hN _) ?_
  simp
  refine callD_ret0 (fun Hx => r7Made l 30 N ⟨hN0, by omega⟩ hl (by decide) Hx) ?_
  simp
  refine callD_ret0 (fun Hx => r3Made b N (by omega) hb Hx) ?_
  simp
  refine callD_ret0 (fun Hx => rMade t Hx) ?_
  simp
  refine endD [(11, 14)] (by rfl) (by simp [okW, note, Eff.triv, Eff.wr, Eff.none, upTo, newAt]) ?_
  have hw := mde_wf hN0 l 30
  have hs := mde_sz N l 30
  generalize mde N l 30 = e at *
  have hbv := mdb_valid b N
  have hbl := mdb_len b N
  generalize mdb b N = box at *
  have htv := madeI_valid t
  generalize madeI t = T at *
  rw [← hbl] at hw
  have hss := smp_sz e
  have hsw := smp_wf e hw
  simp
  refine call_ret (jSimplify (sz e) e (Nat.le_refl _) hw (by omega) _) ?_
  simp
  rw [← hbl]
  refine call_ret (r7ValidExpr (smp e) box.length hsw (by omega) (by omega) _) ?_
  have h1 : decide (sz (smp e) ≤ 200) = true := by simp; omega
  have hlen : ∀ e : Ex, (ser e).length = sz e := fun _ => rfl
  have h2 : decide (sz e < sz (smp e)) = false := by simp; omega
  have h3 : decide ((sz e : Int) < (sz (smp e) : Int)) = false := by simp; omega
  rw [h1]
  simp [xs, hlen, h2, h3]
  simp only [← xs_eq]
  refine callD_ret0 (fun Hx => jSimplify (sz (smp e)) (smp e) (Nat.le_refl _) hsw (by omega) Hx) ?_
  rw [smp_smp]
  simp
  refine callD_ret0 (fun Hx => r7SameE (smp e) (smp e) (by omega) (by omega) rfl Hx) ?_
  simp
  refine callD_ret0 (fun Hx => r7Eval box T hbv (by omega) htv (sz (smp e)) (smp e) (Nat.le_refl _) (by omega) hsw Hx) ?_
  simp
  refine callD_ret0 (fun Hx => r7Eval box T hbv (by omega) htv (sz e) e (Nat.le_refl _) (by omega) hw Hx) ?_
  simp
  refine callD_ret0 (fun Hx => rSubset _ _ Hx) ?_
  rw [(ev_smp hbv htv e hw).to]
  simp
  refine endD [] (by rfl) (by simp [okW, note, Eff.triv, Eff.wr, Eff.none, upTo, newAt]) ?_
  simp
  exact fin1 (rs := [.tmp 2]) (by rfl) (by simp [resA]) (by simp [noF])
end Go.Proofs.YtohmodcheahpgaaDoor.Arm

/- The arguments of a law as plain data. -/
namespace Go.Arm

theorem list_of {α : Type} {f : α → AV} {p : α → Prop} : ∀ {xs : List AV}, (∀ x ∈ xs, ∃ a, x = f a ∧ p a) → ∃ l : List α, xs = l.map f ∧ ∀ a ∈ l, p a
  | [], h => ⟨[], rfl, fun a ha => by cases ha⟩
  | x :: r, h => by
    obtain ⟨a, rfl, ha⟩ := h x (by simp)
    obtain ⟨l, rfl, hl⟩ := list_of (xs := r) (fun y hy => h y (by simp [hy]))
    exact ⟨a :: l, rfl, fun b hb => by
      rcases List.mem_cons.1 hb with rfl | hb
      · exact ha
      · exact hl b hb⟩
theorem okL_cons {ok : TypeId → AV → Prop} {f : TypeId × Nat} {fs : List (TypeId × Nat)} {vs : List AV} (h : OkL ok (f :: fs) vs) : ∃ v vs', vs = v :: vs' ∧ ok f.1 v ∧ OkL ok fs vs' := by
  cases vs with
  | nil => exact h.elim
  | cons v vs' => exact ⟨v, vs', rfl, h.1, h.2⟩
theorem okL_nil {ok : TypeId → AV → Prop} {vs : List AV} (h : OkL ok [] vs) : vs = [] := by
  cases vs with
  | nil => rfl
  | cons v vs' => exact h.elim
section
variable {tab : Tab}
theorem okBool {n : Nat} {t : TypeId} {i : TI} {v : AV} (hi : tab t = some i) (hd : i.d = .bool) (h : OkA tab (n + 1) t v) : ∃ x, v = .bool x := by
  unfold OkA at h
  rw [hi] at h
  simp only [hd] at h
  exact h
theorem okInt {n : Nat} {t : TypeId} {i : TI} {k : IntKind} {v : AV} (hi : tab t = some i) (hd : i.d = .int k) (h : OkA tab (n + 1) t v) : ∃ x, v = .int k x ∧ (Lit.int k x).wf = true := by
  unfold OkA at h
  rw [hi] at h
  simp only [hd] at h
  exact h
theorem okStr {n : Nat} {t : TypeId} {i : TI} {v : AV} (hi : tab t = some i) (hd : i.d = .str) (h : OkA tab (n + 1) t v) : ∃ s, v = .str s ∧ s.size ≤ maxLen := by
  unfold OkA at h
  rw [hi] at h
  simp only [hd] at h
  exact h
theorem okSlice {n : Nat} {t e : TypeId} {i ie : TI} {v : AV} (hi : tab t = some i) (hd : i.d = .slice e) (he : tab e = some ie) (h : OkA tab (n + 1) t v) : ∃ xs, v = .slice xs false ∧ (∀ x ∈ xs, OkA tab n e x) ∧ xs.length * ie.bytes ≤ reachBytes ∧ xs.length ≤ maxLen := by
  unfold OkA at h
  rw [hi] at h
  simp only [hd] at h
  obtain ⟨xs, h1, h2, h3, h4⟩ := h
  exact ⟨xs, h1, h2, h3 ie he, h4⟩
theorem okStruct {n : Nat} {t : TypeId} {i : TI} {fs : List (TypeId × Nat)} {v : AV} (hi : tab t = some i) (hd : i.d = .struct fs) (h : OkA tab (n + 1) t v) : ∃ vs : List AV, v = .agg (vs.flatMap AV.cells) ∧ OkL (OkA tab n) fs vs := by
  unfold OkA at h
  rw [hi] at h
  simp only [hd] at h
  exact h
theorem okArr {n m : Nat} {t e : TypeId} {i : TI} {v : AV} (hi : tab t = some i) (hd : i.d = .arr m e) (h : OkA tab (n + 1) t v) : ∃ vs : List AV, vs.length = m ∧ v = .agg (vs.flatMap AV.cells) ∧ ∀ x ∈ vs, OkA tab n e x := by
  unfold OkA at h
  rw [hi] at h
  simp only [hd] at h
  exact h
/-- A slice whose elements are told by f. -/
theorem okRow {α : Type} {f : α → AV} {p : α → Prop} {n : Nat} {t e : TypeId} {i ie : TI} {v : AV} (hi : tab t = some i) (hd : i.d = .slice e) (he : tab e = some ie) (hb : 0 < ie.bytes) (hf : ∀ x, OkA tab n e x → ∃ a, x = f a ∧ p a) (h : OkA tab (n + 1) t v) :
    ∃ l : List α, v = .slice (l.map f) false ∧ (∀ a ∈ l, p a) ∧ l.length ≤ 140737488351232 := by
  obtain ⟨xs, rfl, h1, h2, h3⟩ := okSlice hi hd he h
  obtain ⟨l, rfl, hl⟩ := list_of (f := f) (p := p) (fun x hx => hf x (h1 x hx))
  refine ⟨l, rfl, hl, ?_⟩
  have e : reachBytes = 140737488351232 := rfl
  rw [e, List.length_map] at h2
  exact Nat.le_trans (Nat.le_mul_of_pos_right _ hb) h2
end
theorem okArgs1 {T : Tab} {m : Nat} {a : TypeId} {av : List AV} (h : OkArgs T m [a] av) : ∃ x, av = [x] ∧ OkA T m a x := by
  match av, h with
  | [x], h => exact ⟨x, rfl, h.1⟩
theorem okArgs2 {T : Tab} {m : Nat} {a b : TypeId} {av : List AV} (h : OkArgs T m [a, b] av) : ∃ x y, av = [x, y] ∧ OkA T m a x ∧ OkA T m b y := by
  match av, h with
  | [x, y], h => exact ⟨x, y, rfl, h.1, h.2.1⟩
theorem okArgs3 {T : Tab} {m : Nat} {a b c : TypeId} {av : List AV} (h : OkArgs T m [a, b, c] av) : ∃ x y z, av = [x, y, z] ∧ OkA T m a x ∧ OkA T m b y ∧ OkA T m c z := by
  match av, h with
  | [x, y, z], h => exact ⟨x, y, z, rfl, h.1, h.2.1, h.2.2.1⟩
theorem okArgs4 {T : Tab} {m : Nat} {a b c d : TypeId} {av : List AV} (h : OkArgs T m [a, b, c, d] av) : ∃ x y z u, av = [x, y, z, u] ∧ OkA T m a x ∧ OkA T m b y ∧ OkA T m c z ∧ OkA T m d u := by
  match av, h with
  | [x, y, z, u], h => exact ⟨x, y, z, u, rfl, h.1, h.2.1, h.2.2.1, h.2.2.2.1⟩
/-- Bounds of whole numbers. -/
theorem wfI {k : IntKind} {x : Int} (h : (Lit.int k x).wf = true) : k.min ≤ x ∧ x ≤ k.max := by
  simp [Lit.wf] at h
  exact h
theorem wfU8 {x : Int} (h : (Lit.int .u8 x).wf = true) : 0 ≤ x ∧ x ≤ 255 := by have := wfI h; simp [IntKind.min, IntKind.max, IntKind.signed, IntKind.bits] at this; exact this
theorem wfU16 {x : Int} (h : (Lit.int .u16 x).wf = true) : 0 ≤ x ∧ x ≤ 65535 := by have := wfI h; simp [IntKind.min, IntKind.max, IntKind.signed, IntKind.bits] at this; exact this
theorem wfI8 {x : Int} (h : (Lit.int .i8 x).wf = true) : -128 ≤ x ∧ x ≤ 127 := by have := wfI h; simp [IntKind.min, IntKind.max, IntKind.signed, IntKind.bits] at this; exact this
theorem wfI32 {x : Int} (h : (Lit.int .i32 x).wf = true) : -2147483648 ≤ x ∧ x ≤ 2147483647 := by have := wfI h; simp [IntKind.min, IntKind.max, IntKind.signed, IntKind.bits] at this; exact this
theorem wfI64 {x : Int} (h : (Lit.int .i64 x).wf = true) : -9223372036854775808 ≤ x ∧ x ≤ 9223372036854775807 := by have := wfI h; simp [IntKind.min, IntKind.max, IntKind.signed, IntKind.bits] at this; exact this
end Go.Arm

namespace Go.Proofs.YtohmodcheahpgaaDoor.Arm
open Go.Arm Go.Pl

theorem okIv {n : Nat} {v : AV} (h : OkA tab (n + 2) 26 v) : ∃ p : I, v = iv p ∧ True := by
  obtain ⟨vs, rfl, hv⟩ := okStruct tab26 rfl h
  obtain ⟨a, vs, rfl, ha, hv⟩ := okL_cons hv
  obtain ⟨b, vs, rfl, hb, hv⟩ := okL_cons hv
  cases okL_nil hv
  obtain ⟨x, rfl, hx⟩ := okInt tab2 rfl ha
  obtain ⟨y, rfl, hy⟩ := okInt tab2 rfl hb
  exact ⟨(x, y), rfl, trivial⟩
theorem okNd {n : Nat} {v : AV} (h : OkA tab (n + 3) 62 v) : ∃ p : Nd, v = nd p ∧ True := by
  obtain ⟨vs, rfl, hv⟩ := okStruct tab62 rfl h
  obtain ⟨a, vs, rfl, ha, hv⟩ := okL_cons hv
  obtain ⟨b, vs, rfl, hb, hv⟩ := okL_cons hv
  obtain ⟨c, vs, rfl, hc, hv⟩ := okL_cons hv
  cases okL_nil hv
  obtain ⟨x, rfl, hx⟩ := okInt tab3 rfl ha
  obtain ⟨y, rfl, hy⟩ := okInt tab3 rfl hb
  obtain ⟨p, rfl, -⟩ := okIv hc
  exact ⟨⟨x, y, p⟩, rfl, trivial⟩
theorem okXs {n : Nat} {v : AV} (h : OkA tab (n + 4) 23 v) : ∃ l : List Nd, v = xs l ∧ l.length ≤ 140737488351232 := by
  obtain ⟨l, rfl, _, hl⟩ := okRow (f := nd) tab23 rfl tab62 (by decide) (fun x hx => okNd hx) h
  exact ⟨l, rfl, hl⟩
theorem okBx {n : Nat} {v : AV} (h : OkA tab (n + 3) 24 v) : ∃ l : List I, v = bx l ∧ l.length ≤ 140737488351232 := by
  obtain ⟨l, rfl, _, hl⟩ := okRow (f := iv) tab24 rfl tab26 (by decide) (fun x hx => okIv hx) h
  exact ⟨l, rfl, hl⟩
theorem okXss {n : Nat} {v : AV} (h : OkA tab (n + 5) 22 v) : ∃ l : List (List Nd), v = .slice (l.map xs) false ∧ (∀ r ∈ l, r.length ≤ 140737488351232) ∧ l.length ≤ 140737488351232 := by
  obtain ⟨l, rfl, hr, hl⟩ := okRow (f := xs) tab22 rfl tab23 (by decide) (fun x hx => okXs hx) h
  exact ⟨l, rfl, hr, hl⟩
structure InpOk (F : List (List Nd)) (l : List Nd) (b : List I) (n : Int) : Prop where
  hF : ∀ r ∈ F, r.length ≤ 200000000000000
  hF2 : F.length ≤ 200000000000000
  hl : l.length ≤ 200000000000000
  hb : b.length ≤ 200000000000000
  hn : 0 ≤ n ∧ n ≤ 255
theorem okInp {n : Nat} {v : AV} (h : OkA tab (n + 7) 28 v) : ∃ F l b t k, v = inp F l b t k ∧ InpOk F l b k := by
  obtain ⟨vs, rfl, hv⟩ := okStruct tab28 rfl h
  obtain ⟨a, vs, rfl, ha, hv⟩ := okL_cons hv
  obtain ⟨b, vs, rfl, hb, hv⟩ := okL_cons hv
  obtain ⟨c, vs, rfl, hc, hv⟩ := okL_cons hv
  obtain ⟨d, vs, rfl, hd, hv⟩ := okL_cons hv
  obtain ⟨e, vs, rfl, he, hv⟩ := okL_cons hv
  cases okL_nil hv
  obtain ⟨F, rfl, h1, h2⟩ := okXss ha
  obtain ⟨l, rfl, h3⟩ := okXs hb
  obtain ⟨x, rfl, h4⟩ := okBx hc
  obtain ⟨t, rfl, -⟩ := okIv hd
  obtain ⟨k, rfl, hk⟩ := okInt tab5 rfl he
  exact ⟨F, l, x, t, k, rfl, ⟨fun r hr => by have := h1 r hr; omega, by omega, by omega, by omega, wfU8 hk⟩⟩
end Go.Proofs.YtohmodcheahpgaaDoor.Arm

namespace Go.Proofs.YtohmodcheahpgaaDoor.Arm
open Go.Arm Go.Pl Go.ChangeShapes Go.WideShapes Go.ChangeAt Go.RowKit

theorem own : ownKnob Tryd.prog.godebug = none := by kernel_rfl
theorem laidOut : laidOutB Tryd.prog = true := by kernel_rfl
def laidL : List (String × DataW Unit) := [("armillary/interval.products", Rows.laid_armillary_interval_products), ("armillary/interval.quotients", Rows.laid_armillary_interval_quotients)]
/-- The door's own heap meets the condition. -/
theorem door_met (os : Os) (args : Array Value) : laidMetH Tryd.prog laidL ((World.doorLaid Tryd.prog 600 os).forCall (fun _ _ => 0) ⟨#[], args, []⟩).memory :=
  laidMetH_of_parts3 (fuel := 12) (laidMet_of_run' 8 (by kernel_rfl) (by kernel_rfl)) (by kernel_rfl) (by kernel_rfl)
def fnames : List (List UInt8 × FuncId) := [([97, 114, 109, 105, 108, 108, 97, 114, 121, 47, 105, 110, 116, 101, 114, 118, 97, 108, 46, 104, 104], 133), ([97, 114, 109, 105, 108, 108, 97, 114, 121, 47, 105, 110, 116, 101, 114, 118, 97, 108, 46, 108, 108], 134), ([97, 114, 109, 105, 108, 108, 97, 114, 121, 47, 105, 110, 116, 101, 114, 118, 97, 108, 46, 108, 104], 135), ([97, 114, 109, 105, 108, 108, 97, 114, 121, 47, 105, 110, 116, 101, 114, 118, 97, 108, 46, 104, 108], 136)]
theorem fnames_ok : ∀ p ∈ fnames, ((List.range Tryd.prog.funcs.size).filter fun f => (Tryd.prog.funcs[f]?).any (·.name.toUTF8.data.toList == p.1)) = [p.2] := by
  intro p hp
  simp only [fnames, List.mem_cons, List.not_mem_nil, or_false] at hp
  rcases hp with rfl | rfl | rfl | rfl <;> kernel_rfl
theorem fnames_ne : ∀ p ∈ fnames, p.1 ≠ [] := by
  intro p hp
  simp only [fnames, List.mem_cons, List.not_mem_nil, or_false] at hp
  rcases hp with rfl | rfl | rfl | rfl <;> exact List.cons_ne_nil _ _
theorem gProd : Tryd.prog.globalNamed "armillary/interval.products" = some 0 := by kernel_rfl
theorem gQuot : Tryd.prog.globalNamed "armillary/interval.quotients" = some 1 := by kernel_rfl
theorem glob_met {W : World} (h : laidMetH Tryd.prog laidL W) : ∀ g cs, E.Γ g = some cs → VR [] W (.eptr cs 0) (.pointer (some ⟨g, 0, none⟩)) := by
  intro g cs hg
  have hg' : glob g = some cs := hg
  unfold glob at hg'
  split at hg'
  · cases hg'
    exact glob_of (P := Tryd.prog) (T := tab) (L := fnames) tab_ok h (name := "armillary/interval.products") (List.mem_cons_self ..) gProd (t := 116) (by kernel_rfl) (m := 8) (by kernel_rfl) fnames_ok fnames_ne (by kernel_rfl) (by decide)
  · cases hg'
    exact glob_of (P := Tryd.prog) (T := tab) (L := fnames) tab_ok h (name := "armillary/interval.quotients") (List.mem_cons_of_mem _ (List.mem_cons_self ..)) gQuot (t := 121) (by kernel_rfl) (m := 8) (by kernel_rfl) fnames_ok fnames_ne (by kernel_rfl) (by decide)
  · cases hg'
end Go.Proofs.YtohmodcheahpgaaDoor.Arm

/- Exact values of expressions in rational numbers (with 1 / 0 = 0, and roots rounded to the grid): enclosed by the intervals, kept by simplification, symmetric second derivatives. -/
namespace Go.Pl

def unR : U → Rat → Rat
  | .neg, v => -v
  | .sqr, v => v * v
  | .sqrt, v => rt 0 v
def binR : B → Rat → Rat → Rat
  | .add, v, w => v + w
  | .sub, v, w => v - w
  | .mul, v, w => v * w
  | .div, v, w => v / w
def val (x : List Rat) (t : Rat) : Ex → Rat
  | .num c => (c.1 : Rat) / 65536
  | .var i => (x[i]?).getD 0
  | .time => t
  | .un o a => unR o (val x t a)
  | .bin o a b => binR o (val x t a) (val x t b)
/-- The values lie in the box. -/
def inBox (b : List I) (x : List Rat) : Prop := ∀ i, i < b.length → InI ((b[i]?).getD (0, 0)) ((x[i]?).getD 0)
theorem inI_num {c : I} (h : vB c = true) : InI c ((c.1 : Rat) / 65536) := by
  have h1 := vB_bounds h
  refine .inr ⟨?_, ?_⟩
  · grind
  · have : (c.1 : Rat) ≤ (c.2 : Rat) := Rat.intCast_le_intCast.2 h1.2.1
    grind
theorem in_un {o : U} {a : I} {x : Rat} (h : InI a x) : InI (unV o a) (unR o x) := by
  cases o with
  | neg => exact in_neg h
  | sqr => exact in_sq h
  | sqrt => exact in_rt 0 h
theorem in_bin {o : B} {a b : I} {x y : Rat} (h : InI a x) (k : InI b y) : InI (binV o a b) (binR o x y) := by
  cases o with
  | add => exact in_add h k
  | sub => exact in_sub h k
  | mul => exact in_mul h k
  | div => exact in_div h (fun _ => k)
theorem in_ev {b : List I} {x : List Rat} {T : I} {t : Rat} (hb : inBox b x) (ht : InI T t) : ∀ e : Ex, wf b.length e = true → InI (ev b T e) (val x t e)
  | .num c, h => inI_num h
  | .var i, h => by
    simp only [wf, decide_eq_true_eq] at h
    exact hb i h
  | .time, _ => ht
  | .un o a, h => in_un (in_ev hb ht a h)
  | .bin o a b', h => by
    simp only [wf, Bool.and_eq_true] at h
    exact in_bin (in_ev hb ht a h.1) (in_ev hb ht b' h.2)

/-! ### Simplification keeps values, and the values of derivatives -/
theorem val_number (x : List Rat) (t : Rat) (n : Int) (h : -32768 < n ∧ n < 32768) : val x t (number n) = n := by
  have : number n = .num (n * 65536, n * 65536) := by
    unfold number pt mk
    rw [if_pos (by simp [numB]; omega)]
  rw [this]
  simp only [val, Rat.intCast_mul]
  have e : ((65536 : Int) : Rat) = 65536 := rfl
  rw [e]; grind
theorem val_isK {x : List Rat} {t : Rat} {e : Ex} {k : Int} (h : isK e k = true) : val x t e = (k : Rat) / 65536 := by rw [isK_num h]; rfl
/-- Two expressions have the same value and the same values of derivatives. -/
def Like (x : List Rat) (t : Rat) (a b : Ex) : Prop := val x t a = val x t b ∧ ∀ v, val x t (dif v a) = val x t (dif v b)
section
variable {x : List Rat} {t : Rat}
theorem Like.refl (a : Ex) : Like x t a a := ⟨rfl, fun _ => rfl⟩
theorem Like.symm {a b : Ex} (h : Like x t a b) : Like x t b a := ⟨h.1.symm, fun v => (h.2 v).symm⟩
theorem Like.trans {a b c : Ex} (h : Like x t a b) (k : Like x t b c) : Like x t a c := ⟨h.1.trans k.1, fun v => (h.2 v).trans (k.2 v)⟩
theorem val2 : val x t (number 2) = 2 := val_number x t 2 (by decide)
theorem val1 : val x t (number 1) = 1 := val_number x t 1 (by decide)
theorem val0 : val x t (number 0) = 0 := val_number x t 0 (by decide)
theorem d_neg (v : Vr) (a : Ex) : dif v (.un .neg a) = .un .neg (dif v a) := rfl
theorem d_sqr (v : Vr) (a : Ex) : dif v (.un .sqr a) = .bin .mul (.bin .mul (number 2) a) (dif v a) := rfl
theorem d_sqrt (v : Vr) (a : Ex) : dif v (.un .sqrt a) = .bin .div (dif v a) (.bin .mul (number 2) (.un .sqrt a)) := rfl
theorem d_add (v : Vr) (a b : Ex) : dif v (.bin .add a b) = .bin .add (dif v a) (dif v b) := rfl
theorem d_sub (v : Vr) (a b : Ex) : dif v (.bin .sub a b) = .bin .sub (dif v a) (dif v b) := rfl
theorem d_mul (v : Vr) (a b : Ex) : dif v (.bin .mul a b) = .bin .add (.bin .mul (dif v a) b) (.bin .mul a (dif v b)) := rfl
theorem d_div (v : Vr) (a b : Ex) : dif v (.bin .div a b) = .bin .div (.bin .sub (.bin .mul (dif v a) b) (.bin .mul a (dif v b))) (.un .sqr b) := rfl
theorem dif_num (v : Vr) (c : I) : dif v (.num c) = number 0 := by
  unfold dif
  cases v <;> rfl
theorem Like.un {a b : Ex} (o : U) (h : Like x t a b) : Like x t (.un o a) (.un o b) := by
  refine ⟨by simp only [val, h.1], fun v => ?_⟩
  have := h.2 v
  cases o <;> simp only [dif, val, this, h.1, unR, binR]
theorem Like.bin {a b c d : Ex} (o : B) (h : Like x t a b) (k : Like x t c d) : Like x t (.bin o a c) (.bin o b d) := by
  refine ⟨by simp only [val, h.1, k.1], fun v => ?_⟩
  have h2 := h.2 v
  have k2 := k.2 v
  cases o <;> simp only [dif, val, h2, k2, h.1, k.1, binR, unR]
theorem like_num {c : I} {e : Ex} (h : val x t e = (c.1 : Rat) / 65536) (k : ∀ v, val x t (dif v e) = 0) : Like x t (.num c) e :=
  ⟨h.symm, fun v => by rw [dif_num, k v, val0]⟩
theorem like_k {k : Int} {e : Ex} (h : val x t e = (k : Rat) / 65536) (d : ∀ v, val x t (dif v e) = 0) : Like x t (.num (k, k)) e := like_num h d
theorem isPt_wf {n : Nat} {c : Int} (h : wf n (.num (c, c)) = true) : -2147483648 < c ∧ c < 2147483648 := by
  have he : entB (c, c) = false := by simp [entB]; omega
  have := entB_false h he
  simp only at this; omega
theorem like_neg {n : Nat} {a : Ex} (hw : wf n a = true) : Like x t (smpNeg a) (.un .neg a) := by
  unfold smpNeg
  split
  · rename_i c h
    have e := ev_isPt h
    subst e
    have hb := isPt_wf hw
    have e : pt (-c) = (-c, -c) := mk_num ⟨by omega, by omega⟩ ⟨by omega, by omega⟩
    rw [e]
    refine like_num ?_ fun v => ?_
    · simp only [val, unR, Rat.intCast_neg]; grind
    · simp only [d_neg, dif_num, val, unR, val0]; grind
  · split
    · refine ⟨?_, fun v => ?_⟩
      · simp only [val, unR]; grind
      · simp only [d_neg, d_sqr, d_sqrt, d_add, d_sub, d_mul, d_div, val, unR]; grind
    · exact Like.refl _
theorem kZero {e : Ex} (h : isK e 0 = true) : val x t e = 0 ∧ ∀ v, val x t (dif v e) = 0 := by
  rw [isK_num h]
  exact ⟨by simp only [val]; decide +kernel, fun v => by rw [dif_num, val0]⟩
theorem kOne {e : Ex} (h : isK e 65536 = true) : val x t e = 1 ∧ ∀ v, val x t (dif v e) = 0 := by
  rw [isK_num h]
  exact ⟨by simp only [val]; decide +kernel, fun v => by rw [dif_num, val0]⟩
/-- Folding two point constants whose result is one. -/
theorem like_fold {o : B} {f : I → I → I} {a b : Ex} (hf : ∀ c d : Int, ((f (c, c) (d, d)).1 = (f (c, c) (d, d)).2) → ((f (c, c) (d, d)).1 : Rat) / 65536 = binR o ((c : Rat) / 65536) ((d : Rat) / 65536)) (ho : o ≠ .div) : Like x t ((foldC f a b).getD (.bin o a b)) (.bin o a b) := by
  unfold foldC
  split
  · rename_i c d
    split
    · rename_i h
      obtain ⟨c1, c2⟩ := c
      obtain ⟨d1, d2⟩ := d
      simp only at h
      obtain ⟨rfl, rfl, h3⟩ := h
      refine ⟨?_, fun v => ?_⟩
      · simp only [Option.getD_some, val]; exact hf c1 d1 h3
      · rw [Option.getD_some, dif_num, val0]
        cases o with
        | div => exact absurd rfl ho
        | add => simp only [d_add, d_sub, dif_num, val, binR, val0]; grind
        | sub => simp only [d_add, d_sub, dif_num, val, binR, val0]; grind
        | mul => simp only [d_mul, dif_num, val, binR, val0]; grind
    · exact Like.refl _
  · exact Like.refl _
theorem ent12 : ¬ (ent.1 = ent.2) := by decide
theorem mk_pt {lo hi : Int} (h : (mk lo hi).1 = (mk lo hi).2) : mk lo hi = (lo, hi) := by
  unfold mk at h ⊢
  split
  · rfl
  · rename_i hn; rw [if_neg hn] at h; exact absurd h ent12
theorem fold_add (c d : Int) (h : (add (c, c) (d, d)).1 = (add (c, c) (d, d)).2) : ((add (c, c) (d, d)).1 : Rat) / 65536 = (c : Rat) / 65536 + (d : Rat) / 65536 := by
  unfold add at h ⊢
  split
  · rename_i he; rw [if_pos he] at h; exact absurd h ent12
  · rename_i he
    rw [if_neg he] at h
    rw [mk_pt h]
    simp only [Rat.intCast_add]; grind
theorem fold_sub (c d : Int) (h : (sub (c, c) (d, d)).1 = (sub (c, c) (d, d)).2) : ((sub (c, c) (d, d)).1 : Rat) / 65536 = (c : Rat) / 65536 - (d : Rat) / 65536 := by
  have := fold_add c (-d) h
  rw [Rat.intCast_neg] at this
  have e : sub (c, c) (d, d) = add (c, c) (-d, -d) := rfl
  rw [e, this]; grind
theorem fold_mul (c d : Int) (h : (mul (c, c) (d, d)).1 = (mul (c, c) (d, d)).2) : ((mul (c, c) (d, d)).1 : Rat) / 65536 = (c : Rat) / 65536 * ((d : Rat) / 65536) := by
  unfold mul at h ⊢
  split
  · rename_i he; rw [if_pos he] at h; exact absurd h ent12
  · rename_i he
    rw [if_neg he] at h
    have e1 : min4 (c * d) (c * d) (c * d) (c * d) = c * d := by simp only [min4]; omega
    have e2 : max4 (c * d) (c * d) (c * d) (c * d) = c * d := by simp only [max4]; omega
    simp only [e1, e2] at h ⊢
    have h2 := mk_pt h
    rw [h2] at h ⊢
    simp only at h ⊢
    have f1 := (fl_le (x := c * d) (b := 65536) (by decide)).1
    have f2 := (le_ce (x := c * d) (b := 65536) (by decide)).1
    rw [← h] at f2
    have e : ((65536 : Int) : Rat) = 65536 := rfl
    have e3 : ((fl (c * d) 65536 : Int) : Rat) = ((c * d : Int) : Rat) / ((65536 : Int) : Rat) := Rat.le_antisymm f1 f2
    rw [e3, Rat.intCast_mul, e]; grind
theorem rt1 (k : Rat) (h : k = 1) : rt 0 k = 1 := by rw [h]; exact rt_one
theorem rt0 (k : Rat) (h : k = 0) : rt 0 k = 0 := by rw [h]; exact rt_zero 0
theorem like_U {n : Nat} {o : U} {a : Ex} (hw : wf n a = true) : Like x t (smpU o a) (.un o a) := by
  cases o with
  | neg => exact like_neg hw
  | sqr =>
    simp only [smpU]
    split
    · rename_i hk
      rw [Bool.or_eq_true] at hk
      rcases hk with hk | hk
      · obtain ⟨h1, h2⟩ := kZero (x := x) (t := t) hk
        refine ⟨by simp only [val, unR, h1]; grind, fun v => ?_⟩
        simp only [d_neg, d_sqr, d_sqrt, d_add, d_sub, d_mul, d_div, val, binR, h1, h2, val2]; grind
      · obtain ⟨h1, h2⟩ := kOne (x := x) (t := t) hk
        refine ⟨by simp only [val, unR, h1]; grind, fun v => ?_⟩
        simp only [d_neg, d_sqr, d_sqrt, d_add, d_sub, d_mul, d_div, val, binR, h1, h2, val2]; grind
    · exact Like.refl _
  | sqrt =>
    simp only [smpU]
    split
    · rename_i hk
      rw [Bool.or_eq_true] at hk
      rcases hk with hk | hk
      · obtain ⟨h1, h2⟩ := kZero (x := x) (t := t) hk
        refine ⟨by simp only [val, unR]; rw [rt0 _ h1, h1], fun v => ?_⟩
        simp only [d_neg, d_sqr, d_sqrt, d_add, d_sub, d_mul, d_div, val, binR, h2]; grind
      · obtain ⟨h1, h2⟩ := kOne (x := x) (t := t) hk
        refine ⟨by simp only [val, unR]; rw [rt1 _ h1, h1], fun v => ?_⟩
        simp only [d_neg, d_sqr, d_sqrt, d_add, d_sub, d_mul, d_div, val, binR, h2]; grind
    · exact Like.refl _
theorem like_B {n : Nat} {o : B} {a b : Ex} (hb : wf n b = true) : Like x t (smpB o a b) (.bin o a b) := by
  cases o with
  | add =>
    simp only [smpB, smpAdd]
    split
    · rename_i hk
      obtain ⟨h1, h2⟩ := kZero (x := x) (t := t) hk
      refine ⟨by simp only [val, binR, h1]; grind, fun v => ?_⟩
      simp only [d_neg, d_sqr, d_sqrt, d_add, d_sub, d_mul, d_div, val, binR, h2]; grind
    · split
      · rename_i hk
        obtain ⟨h1, h2⟩ := kZero (x := x) (t := t) hk
        refine ⟨by simp only [val, binR, h1]; grind, fun v => ?_⟩
        simp only [d_neg, d_sqr, d_sqrt, d_add, d_sub, d_mul, d_div, val, binR, h2]; grind
      · exact like_fold (o := .add) fold_add (by simp)
  | sub =>
    simp only [smpB, smpSub]
    split
    · rename_i hk
      obtain ⟨h1, h2⟩ := kZero (x := x) (t := t) hk
      refine ⟨by simp only [val, binR, h1]; grind, fun v => ?_⟩
      simp only [d_neg, d_sqr, d_sqrt, d_add, d_sub, d_mul, d_div, val, binR, h2]; grind
    · split
      · rename_i hk
        obtain ⟨h1, h2⟩ := kZero (x := x) (t := t) hk
        refine (like_neg hb).trans ⟨by simp only [val, binR, unR, h1]; grind, fun v => ?_⟩
        simp only [d_neg, d_sqr, d_sqrt, d_add, d_sub, d_mul, d_div, val, binR, unR, h2]; grind
      · exact like_fold (o := .sub) fold_sub (by simp)
  | mul =>
    simp only [smpB, smpMul]
    split
    · rename_i hk
      rw [Bool.or_eq_true] at hk
      rw [number0]
      rcases hk with hk | hk
      · obtain ⟨h1, h2⟩ := kZero (x := x) (t := t) hk
        refine like_num (by simp only [val, binR, h1]; grind) fun v => ?_
        simp only [d_neg, d_sqr, d_sqrt, d_add, d_sub, d_mul, d_div, val, binR, h1, h2]; grind
      · obtain ⟨h1, h2⟩ := kZero (x := x) (t := t) hk
        refine like_num (by simp only [val, binR, h1]; grind) fun v => ?_
        simp only [d_neg, d_sqr, d_sqrt, d_add, d_sub, d_mul, d_div, val, binR, h1, h2]; grind
    · split
      · rename_i hk
        obtain ⟨h1, h2⟩ := kOne (x := x) (t := t) hk
        refine ⟨by simp only [val, binR, h1]; grind, fun v => ?_⟩
        simp only [d_neg, d_sqr, d_sqrt, d_add, d_sub, d_mul, d_div, val, binR, h1, h2]; grind
      · split
        · rename_i hk
          obtain ⟨h1, h2⟩ := kOne (x := x) (t := t) hk
          refine ⟨by simp only [val, binR, h1]; grind, fun v => ?_⟩
          simp only [d_neg, d_sqr, d_sqrt, d_add, d_sub, d_mul, d_div, val, binR, h1, h2]; grind
        · exact like_fold (o := .mul) fold_mul (by simp)
  | div =>
    simp only [smpB]
    split
    · rename_i hk
      rw [Bool.or_eq_true] at hk
      rcases hk with hk | hk
      · obtain ⟨h1, h2⟩ := kZero (x := x) (t := t) hk
        refine ⟨by simp only [val, binR, h1]; grind, fun v => ?_⟩
        simp only [d_neg, d_sqr, d_sqrt, d_add, d_sub, d_mul, d_div, val, binR, unR, h1, h2]; grind
      · obtain ⟨h1, h2⟩ := kOne (x := x) (t := t) hk
        refine ⟨by simp only [val, binR, h1]; grind, fun v => ?_⟩
        simp only [d_neg, d_sqr, d_sqrt, d_add, d_sub, d_mul, d_div, val, binR, unR, h1, h2]; grind
    · exact Like.refl _
theorem like_smp {n : Nat} : ∀ e : Ex, wf n e = true → Like x t (smp e) e
  | .num _, _ | .var _, _ | .time, _ => Like.refl _
  | .un o a, h => (like_U (smp_wf a h)).trans ((like_smp a h).un o)
  | .bin o a b, h => by
    simp only [wf, Bool.and_eq_true] at h
    exact (like_B (smp_wf b h.2)).trans ((like_smp a h.1).bin o (like_smp b h.2))
theorem val_smp {n : Nat} {e : Ex} (h : wf n e = true) : val x t (smp e) = val x t e := (like_smp e h).1
theorem val_der {n : Nat} {e : Ex} {v : Vr} (h : wf n e = true) : val x t (der v e) = val x t (dif v e) := val_smp (dif_wf v e h)
theorem val_der2 {n : Nat} {e : Ex} {v w : Vr} (h : wf n e = true) : val x t (der w (der v e)) = val x t (dif w (dif v e)) := by
  rw [val_der (der_wf h)]
  exact (like_smp (dif v e) (dif_wf v e h)).2 w

/-! ### Second derivatives are symmetric -/
theorem leaf_dd (v w : Vr) (e : Ex) (h : dif v e = number 1 ∨ dif v e = number 0) : val x t (dif w (dif v e)) = 0 := by
  rcases h with h | h <;> rw [h] <;> exact (by unfold number; rw [dif_num, val0])
theorem dif_leaf (v : Vr) (e : Ex) (h : kids e = []) : dif v e = number 1 ∨ dif v e = number 0 := by
  cases e with
  | num c => right; exact dif_num v c
  | var i => simp only [dif]; split <;> simp
  | time => simp only [dif]; split <;> simp
  | un o a => simp [kids] at h
  | bin o a b => simp [kids] at h
theorem mixed_alg_mul (a b av aw bv bw avw bvw : Rat) : avw * b + av * bw + (aw * bv + a * bvw) = avw * b + aw * bv + (av * bw + a * bvw) := by grind
theorem val_mixed (v w : Vr) : ∀ e : Ex, val x t (dif w (dif v e)) = val x t (dif v (dif w e))
  | .num c => by rw [leaf_dd v w _ (dif_leaf v _ rfl), leaf_dd w v _ (dif_leaf w _ rfl)]
  | .var i => by rw [leaf_dd v w _ (dif_leaf v _ rfl), leaf_dd w v _ (dif_leaf w _ rfl)]
  | .time => by rw [leaf_dd v w _ (dif_leaf v _ rfl), leaf_dd w v _ (dif_leaf w _ rfl)]
  | .un o a => by
    have ih := val_mixed v w a
    cases o with
    | neg => simp only [d_neg, d_sqr, d_sqrt, d_add, d_sub, d_mul, d_div, val, unR, ih]
    | sqr =>
      simp only [d_neg, d_sqr, d_sqrt, d_add, d_sub, d_mul, d_div, val, binR, ih]
      unfold number
      simp only [dif_num, val0]
      generalize val x t (.num (pt (2 * 65536))) = two
      grind
    | sqrt =>
      have h2 : ∀ u, val x t (dif u (number 2)) = 0 := fun u => by unfold number; rw [dif_num, val0]
      simp only [d_neg, d_sqr, d_sqrt, d_add, d_sub, d_mul, d_div, val, binR, unR, ih, h2]
      generalize val x t (number 2) = two
      generalize rt 0 (val x t a) = s
      generalize val x t (dif v (dif w a)) = d
      generalize val x t (dif v a) = p
      generalize val x t (dif w a) = q
      grind
  | .bin o a b => by
    have iha := val_mixed v w a
    have ihb := val_mixed v w b
    cases o with
    | add => simp only [d_neg, d_sqr, d_sqrt, d_add, d_sub, d_mul, d_div, val, binR, iha, ihb]
    | sub => simp only [d_neg, d_sqr, d_sqrt, d_add, d_sub, d_mul, d_div, val, binR, iha, ihb]
    | mul => simp only [d_neg, d_sqr, d_sqrt, d_add, d_sub, d_mul, d_div, val, binR, iha, ihb]; grind
    | div =>
      simp only [d_neg, d_sqr, d_sqrt, d_add, d_sub, d_mul, d_div, val, binR, unR, iha, ihb, val2]
      generalize val x t (dif v (dif w a)) = d
      generalize val x t (dif v (dif w b)) = e
      generalize val x t (dif v a) = p
      generalize val x t (dif w a) = q
      generalize val x t (dif v b) = r
      generalize val x t (dif w b) = s
      generalize val x t a = A
      generalize val x t b = B
      grind
end
end Go.Pl

/- The lengths of derivatives, by the depth of the expression. -/
namespace Go.Pl

def dp : Ex → Nat
  | .num _ | .var _ | .time => 1
  | .un _ a => dp a + 1
  | .bin _ a b => max (dp a) (dp b) + 1
def f0 : Nat → Nat
  | 0 => 0
  | k + 1 => 1 + 2 * f0 k
def f1 : Nat → Nat
  | 0 => 0
  | k + 1 => 5 + 2 * f1 k + 3 * f0 k
def f2 : Nat → Nat
  | 0 => 0
  | k + 1 => 21 + 2 * f2 k + 7 * f0 k + 7 * f1 k
theorem bld_dp (n : Nat) : ∀ (d : Nat) (l : List Nd), dp (bld n d l).1 ≤ d + 1
  | 0, [] => by simp [bld, number, dp]
  | d + 1, [] => by simp [bld, number, dp]
  | 0, x :: r => by
    simp only [bld]
    split
    · simp [dp]
    · split
      · simp [dp]
      · simp [bNum, dp]
  | d + 1, x :: r => by
    have h1 := bld_dp n d r
    have h2 := bld_dp n d (bld n d r).2
    simp only [bld]
    split
    · simp [bNum, dp]
    · split
      · simp [dp]
      · split
        · simp [dp]
        · split
          · simp only [dp]; omega
          · simp only [dp]; omega
theorem mde_dp (n : Nat) (raw : List Nd) (most : Nat) : dp (mde n raw most) ≤ 5 := bld_dp n 4 _
theorem sz_number (n : Int) : sz (number n) = 1 := rfl
theorem sz_neg (v : Vr) (a : Ex) : sz (dif v (.un .neg a)) = sz (dif v a) + 1 := by simp only [dif, sz_un]
theorem sz_sqr (v : Vr) (a : Ex) : sz (dif v (.un .sqr a)) = 3 + sz a + sz (dif v a) := by simp only [dif, sz_bin, sz_number]; omega
theorem sz_sqrt (v : Vr) (a : Ex) : sz (dif v (.un .sqrt a)) = 4 + sz a + sz (dif v a) := by simp only [dif, sz_bin, sz_un, sz_number]; omega
theorem sz_add (v : Vr) (a b : Ex) : sz (dif v (.bin .add a b)) = 1 + sz (dif v a) + sz (dif v b) := by simp only [dif, sz_bin]; omega
theorem sz_sub (v : Vr) (a b : Ex) : sz (dif v (.bin .sub a b)) = 1 + sz (dif v a) + sz (dif v b) := by simp only [dif, sz_bin]; omega
theorem sz_mul (v : Vr) (a b : Ex) : sz (dif v (.bin .mul a b)) = 3 + sz (dif v a) + sz (dif v b) + sz a + sz b := by simp only [dif, sz_bin]; omega
theorem sz_div (v : Vr) (a b : Ex) : sz (dif v (.bin .div a b)) = 5 + sz (dif v a) + sz (dif v b) + sz a + 2 * sz b := by simp only [dif, sz_bin, sz_un]; omega
theorem sz_leaf (v : Vr) {e : Ex} (h : kids e = []) : sz (dif v e) = 1 := by
  cases e with
  | num c => simp only [dif]; split <;> rfl
  | var i => simp only [dif]; split <;> rfl
  | time => simp only [dif]; split <;> rfl
  | un o a => simp [kids] at h
  | bin o a b => simp [kids] at h
theorem sz_knum (v : Vr) (n : Int) : sz (dif v (number n)) = 1 := sz_leaf v rfl
theorem sz_dp : ∀ (k : Nat) (e : Ex), dp e ≤ k → sz e ≤ f0 k ∧ ∀ v, sz (dif v e) ≤ f1 k ∧ ∀ w, sz (dif w (dif v e)) ≤ f2 k
  | 0, e, h => by cases e <;> simp [dp] at h
  | k + 1, .num c, h => ⟨by simp only [sz_num, f0]; omega, fun v => ⟨by rw [sz_leaf v rfl]; simp only [f1]; omega, fun w => by
      have : dif v (.num c) = number 0 := by simp only [dif]; cases v <;> rfl
      rw [this, sz_knum]; simp only [f2]; omega⟩⟩
  | k + 1, .var i, h => ⟨by simp only [sz_var, f0]; omega, fun v => ⟨by rw [sz_leaf v rfl]; simp only [f1]; omega, fun w => by
      have : dif v (.var i) = number 1 ∨ dif v (.var i) = number 0 := by simp only [dif]; split <;> simp
      rcases this with h | h <;> rw [h, sz_knum] <;> simp only [f2] <;> omega⟩⟩
  | k + 1, .time, h => ⟨by simp only [sz_time, f0]; omega, fun v => ⟨by rw [sz_leaf v rfl]; simp only [f1]; omega, fun w => by
      have : dif v .time = number 1 ∨ dif v .time = number 0 := by simp only [dif]; split <;> simp
      rcases this with h | h <;> rw [h, sz_knum] <;> simp only [f2] <;> omega⟩⟩
  | k + 1, .un o a, h => by
    simp only [dp] at h
    obtain ⟨h0, h1⟩ := sz_dp k a (by omega)
    have h0' := sz_pos a
    refine ⟨by simp only [sz_un, f0]; omega, fun v => ?_⟩
    obtain ⟨hv, hvw⟩ := h1 v
    refine ⟨?_, fun w => ?_⟩
    · cases o <;> simp only [sz_neg, sz_sqr, sz_sqrt, f1] <;> omega
    · have := hvw w
      have hw := (h1 w).1
      cases o <;> simp only [d_neg, d_sqr, d_sqrt, sz_neg, sz_sqr, sz_sqrt, sz_add, sz_sub, sz_mul, sz_div, sz_knum, sz_number, sz_un, sz_bin, f2] <;> omega
  | k + 1, .bin o a b, h => by
    simp only [dp] at h
    obtain ⟨a0, a1⟩ := sz_dp k a (by omega)
    obtain ⟨b0, b1⟩ := sz_dp k b (by omega)
    refine ⟨by simp only [sz_bin, f0]; omega, fun v => ?_⟩
    obtain ⟨av, avw⟩ := a1 v
    obtain ⟨bv, bvw⟩ := b1 v
    refine ⟨?_, fun w => ?_⟩
    · cases o <;> simp only [sz_add, sz_sub, sz_mul, sz_div, f1] <;> omega
    · have := avw w
      have := bvw w
      have := (a1 w).1
      have := (b1 w).1
      cases o <;> simp only [d_add, d_sub, d_mul, d_div, sz_neg, sz_sqr, sz_sqrt, sz_add, sz_sub, sz_mul, sz_div, sz_knum, sz_number, sz_un, sz_bin, f2] <;> omega
/-- Simplification shortens derivatives too. -/
theorem number_dif (v : Vr) (c : I) : sz (dif v (.num c)) = 1 := sz_leaf v rfl
theorem sz_dif_pos (v : Vr) (e : Ex) : 1 ≤ sz (dif v e) := sz_pos _
theorem dneg_sz (v : Vr) (a : Ex) : sz (dif v (smpNeg a)) ≤ sz (dif v a) + 1 := by
  unfold smpNeg
  split
  · rw [number_dif]; omega
  · split
    · rw [sz_neg]; omega
    · rw [sz_neg]; omega
theorem dfold_sz (v : Vr) (o : B) (f : I → I → I) (a b : Ex) : sz (dif v ((foldC f a b).getD (.bin o a b))) ≤ sz (dif v (.bin o a b)) := by
  unfold foldC
  split
  · split
    · rw [Option.getD_some, number_dif]; exact sz_pos _
    · exact Nat.le_refl _
  · exact Nat.le_refl _
theorem dif_smp (v : Vr) : ∀ e : Ex, sz (dif v (smp e)) ≤ sz (dif v e)
  | .num _ | .var _ | .time => Nat.le_refl _
  | .un o a => by
    have h := dif_smp v a
    have h2 := smp_sz a
    simp only [smp]
    cases o with
    | neg => have := dneg_sz v (smp a); rw [sz_neg]; simp only [smpU]; omega
    | sqr =>
      simp only [smpU]; rw [sz_sqr]; split
      · omega
      · rw [sz_sqr]; omega
    | sqrt =>
      simp only [smpU]; rw [sz_sqrt]; split
      · omega
      · rw [sz_sqrt]; omega
  | .bin o a b => by
    have h := dif_smp v a
    have h2 := smp_sz a
    have k := dif_smp v b
    have k2 := smp_sz b
    have hf := fun f => dfold_sz v o f (smp a) (smp b)
    have hp := sz_pos (dif v a)
    simp only [smp]
    cases o with
    | add =>
      simp only [sz_add] at hf
      simp only [smpB, smpAdd]; rw [sz_add]; split
      · omega
      · split
        · omega
        · have := hf add; omega
    | sub =>
      simp only [sz_sub] at hf
      simp only [smpB, smpSub]; rw [sz_sub]; split
      · omega
      · split
        · have := dneg_sz v (smp b); omega
        · have := hf sub; omega
    | mul =>
      simp only [sz_mul] at hf
      simp only [smpB, smpMul]; rw [sz_mul]; split
      · rw [sz_knum]; omega
      · split
        · omega
        · split
          · omega
          · have := hf mul; omega
    | div =>
      simp only [smpB]; rw [sz_div]; split
      · omega
      · rw [sz_div]; omega
theorem der_sz {k : Nat} {e : Ex} (h : dp e ≤ k) (v : Vr) : sz (der v e) ≤ f1 k := Nat.le_trans (smp_sz _) ((sz_dp k e h).2 v).1
theorem der2_sz {k : Nat} {e : Ex} (h : dp e ≤ k) (v w : Vr) : sz (dif w (der v e)) ≤ f2 k := Nat.le_trans (dif_smp w _) (((sz_dp k e h).2 v).2 w)
theorem f1_5 : f1 5 = 302 := by decide
theorem f1_6 : f1 6 = 702 := by decide
theorem f2_5 : f2 5 = 3360 := by decide
end Go.Pl

/- Derivatives by variables that do not occur; the leaves of derivatives; Lie derivatives of coordinates; linearity. -/
namespace Go.Pl

/-- The variable of differentiation occurs. -/
def occ (v : Vr) : Ex → Bool
  | .un _ a => occ v a
  | .bin _ a b => occ v a || occ v b
  | e => isV v e
def zeroE : Ex := .num (0, 0)
theorem zero_isK : isK zeroE 0 = true := by decide
theorem smp_num (n : Int) : smp (number n) = number n := rfl
theorem number_zero : number 0 = zeroE := number0
theorem der_un_neg (v : Vr) (a : Ex) : der v (.un .neg a) = smpNeg (der v a) := rfl
theorem der_sqr (v : Vr) (a : Ex) : der v (.un .sqr a) = smpMul (smpMul (number 2) (smp a)) (der v a) := rfl
theorem der_sqrt (v : Vr) (a : Ex) : der v (.un .sqrt a) = smpB .div (der v a) (smpMul (number 2) (smpU .sqrt (smp a))) := rfl
theorem der_add (v : Vr) (a b : Ex) : der v (.bin .add a b) = smpAdd (der v a) (der v b) := rfl
theorem der_sub (v : Vr) (a b : Ex) : der v (.bin .sub a b) = smpSub (der v a) (der v b) := rfl
theorem der_mul (v : Vr) (a b : Ex) : der v (.bin .mul a b) = smpAdd (smpMul (der v a) (smp b)) (smpMul (smp a) (der v b)) := rfl
theorem der_div (v : Vr) (a b : Ex) : der v (.bin .div a b) = smpB .div (smpSub (smpMul (der v a) (smp b)) (smpMul (smp a) (der v b))) (smpU .sqr (smp b)) := rfl
theorem mul_z_l (b : Ex) : smpMul zeroE b = zeroE := by simp [smpMul, zero_isK, number_zero]
theorem mul_z_r (a : Ex) : smpMul a zeroE = zeroE := by simp [smpMul, zero_isK, number_zero]
theorem add_z : smpAdd zeroE zeroE = zeroE := by simp [smpAdd, zero_isK]
theorem sub_z : smpSub zeroE zeroE = zeroE := by simp [smpSub, zero_isK]
theorem neg_z : smpNeg zeroE = zeroE := by decide
theorem div_z (b : Ex) : smpB .div zeroE b = zeroE := by simp [smpB, zero_isK]
theorem der_leaf {v : Vr} {e : Ex} (h : kids e = []) : der v e = if isV v e then number 1 else number 0 := by
  cases e with
  | num c => unfold der; simp only [dif]; split <;> rfl
  | var i => unfold der; simp only [dif]; split <;> rfl
  | time => unfold der; simp only [dif]; split <;> rfl
  | un o a => simp [kids] at h
  | bin o a b => simp [kids] at h
theorem der_none {v : Vr} : ∀ e : Ex, occ v e = false → der v e = zeroE
  | .num c, h => by rw [der_leaf rfl, if_neg (by simpa [occ] using h), number_zero]
  | .var i, h => by rw [der_leaf rfl, if_neg (by simpa [occ] using h), number_zero]
  | .time, h => by rw [der_leaf rfl, if_neg (by simpa [occ] using h), number_zero]
  | .un o a, h => by
    have ih := der_none a (by simpa [occ] using h)
    cases o with
    | neg => rw [der_un_neg, ih, neg_z]
    | sqr => rw [der_sqr, ih, mul_z_r]
    | sqrt => rw [der_sqrt, ih, div_z]
  | .bin o a b, h => by
    simp only [occ, Bool.or_eq_false_iff] at h
    have iha := der_none a h.1
    have ihb := der_none b h.2
    cases o with
    | add => rw [der_add, iha, ihb, add_z]
    | sub => rw [der_sub, iha, ihb, sub_z]
    | mul => rw [der_mul, iha, ihb, mul_z_l, mul_z_r, add_z]
    | div => rw [der_div, iha, ihb, mul_z_l, mul_z_r, sub_z, div_z]

/-! ### Leaves -/
/-- Every variable of a occurs in b. -/
def Lv (a b : Ex) : Prop := ∀ v, occ v a = true → occ v b = true
theorem Lv.refl (a : Ex) : Lv a a := fun _ h => h
theorem Lv.trans {a b c : Ex} (h : Lv a b) (k : Lv b c) : Lv a c := fun v hv => k v (h v hv)
theorem lv_num (c : I) (b : Ex) : Lv (.num c) b := fun v h => by cases v <;> simp [occ, isV] at h
theorem lv_neg (a : Ex) : Lv (smpNeg a) a := by
  unfold smpNeg
  split
  · exact lv_num _ _
  · split
    · exact fun v h => h
    · exact fun v h => h
theorem lv_fold (o : B) (f : I → I → I) (a b : Ex) : Lv ((foldC f a b).getD (.bin o a b)) (.bin o a b) := by
  unfold foldC
  split
  · split
    · exact lv_num _ _
    · exact Lv.refl _
  · exact Lv.refl _
theorem lv_l (o : B) (a b : Ex) : Lv a (.bin o a b) := fun v h => by simp [occ, h]
theorem lv_r (o : B) (a b : Ex) : Lv b (.bin o a b) := fun v h => by simp [occ, h]
theorem lv_bin {o o' : B} {a b a' b' : Ex} (h : Lv a a') (k : Lv b b') : Lv (.bin o a b) (.bin o' a' b') := fun v hv => by
  simp only [occ, Bool.or_eq_true] at hv ⊢
  rcases hv with hv | hv
  · exact .inl (h v hv)
  · exact .inr (k v hv)
theorem lv_U (o : U) (a : Ex) : Lv (smpU o a) a := by
  cases o with
  | neg => exact lv_neg a
  | sqr => simp only [smpU]; split <;> exact fun v h => h
  | sqrt => simp only [smpU]; split <;> exact fun v h => h
theorem lv_B (o : B) (a b : Ex) : Lv (smpB o a b) (.bin o a b) := by
  cases o with
  | add => simp only [smpB, smpAdd]; split; exact lv_r _ _ _; split; exact lv_l _ _ _; exact lv_fold _ _ _ _
  | sub => simp only [smpB, smpSub]; split; exact lv_l _ _ _; split; exact (lv_neg b).trans (lv_r _ _ _); exact lv_fold _ _ _ _
  | mul => simp only [smpB, smpMul]; split; exact lv_num _ _; split; exact lv_r _ _ _; split; exact lv_l _ _ _; exact lv_fold _ _ _ _
  | div => simp only [smpB]; split; exact lv_l _ _ _; exact Lv.refl _
theorem lv_smp : ∀ e : Ex, Lv (smp e) e
  | .num _ | .var _ | .time => Lv.refl _
  | .un o a => (lv_U o (smp a)).trans (lv_smp a)
  | .bin o a b => (lv_B o (smp a) (smp b)).trans (lv_bin (lv_smp a) (lv_smp b))
theorem lv_number (n : Int) (b : Ex) : Lv (number n) b := lv_num _ b
theorem lv_bin2 {o : B} {a b c : Ex} (h : Lv a c) (k : Lv b c) : Lv (.bin o a b) c := fun v hv => by
  simp only [occ, Bool.or_eq_true] at hv
  rcases hv with hv | hv
  · exact h v hv
  · exact k v hv
theorem lv_un2 {o : U} {a c : Ex} (h : Lv a c) : Lv (.un o a) c := fun v hv => h v hv
theorem lv_dif (v : Vr) : ∀ e : Ex, Lv (dif v e) e
  | .num c => by simp only [dif]; split <;> exact lv_number _ _
  | .var i => by simp only [dif]; split <;> exact lv_number _ _
  | .time => by simp only [dif]; split <;> exact lv_number _ _
  | .un o a => by
    have ih := lv_dif v a
    have ih' : Lv (dif v a) (.un o a) := ih
    cases o with
    | neg => exact ih
    | sqr => exact lv_bin2 (lv_bin2 (lv_number _ _) (Lv.refl _)) ih'
    | sqrt => exact lv_bin2 ih' (lv_bin2 (lv_number _ _) (Lv.refl _))
  | .bin o a b => by
    have iha : Lv (dif v a) (.bin o a b) := (lv_dif v a).trans (lv_l _ _ _)
    have ihb : Lv (dif v b) (.bin o a b) := (lv_dif v b).trans (lv_r _ _ _)
    have ha := lv_l o a b
    have hb := lv_r o a b
    cases o with
    | add => exact lv_bin2 iha ihb
    | sub => exact lv_bin2 iha ihb
    | mul => exact lv_bin2 (lv_bin2 iha hb) (lv_bin2 ha ihb)
    | div => exact lv_bin2 (lv_bin2 (lv_bin2 iha hb) (lv_bin2 ha ihb)) (lv_un2 hb)
theorem lv_der (v : Vr) (e : Ex) : Lv (der v e) e := (lv_smp _).trans (lv_dif v e)
/-- The nodes of an expression that are variables. -/
theorem mem_var {i : Nat} : ∀ {e : Ex}, leafN 2 i ∈ ser e ↔ occ (.st i) e = true
  | .num c => by simp [ser, occ, isV, leafN]
  | .var k => by simp [ser, occ, isV, leafN]; omega
  | .time => by simp [ser, occ, isV, leafN]
  | .un o a => by
    have ih := mem_var (i := i) (e := a)
    simp only [ser, List.mem_cons, occ, ih]
    cases o <;> simp [leafN, U.code]
  | .bin o a b => by
    have iha := mem_var (i := i) (e := a)
    have ihb := mem_var (i := i) (e := b)
    simp only [ser, List.mem_cons, List.mem_append, occ, iha, ihb, Bool.or_eq_true]
    cases o <;> simp [leafN, B.code]
theorem mem_time : ∀ {e : Ex}, leafN 3 0 ∈ ser e ↔ occ .tm e = true
  | .num c => by simp [ser, occ, isV, leafN]
  | .var k => by simp [ser, occ, isV, leafN]
  | .time => by simp [ser, occ, isV, leafN]
  | .un o a => by
    have ih := mem_time (e := a)
    simp only [ser, List.mem_cons, occ, ih]
    cases o <;> simp [leafN, U.code]
  | .bin o a b => by
    have iha := mem_time (e := a)
    have ihb := mem_time (e := b)
    simp only [ser, List.mem_cons, List.mem_append, occ, iha, ihb, Bool.or_eq_true]
    cases o <;> simp [leafN, B.code]
end Go.Pl

namespace Go.Proofs.YtohmodcheahpgaaDoor.Arm
open Go.Arm Go.Pl

theorem modN (i : Int) (hi : 0 ≤ i ∧ i ≤ 255) {N : Nat} (hN : 0 < N) : ∃ K : Nat, i.tmod N = (K : Int) ∧ K < N := by
  have h1 : 0 ≤ i.tmod N ∧ i.tmod N < N := ⟨Int.tmod_nonneg _ hi.1, Int.tmod_lt_of_pos _ (by omega)⟩
  exact ⟨(i.tmod N).toNat, by omega, by omega⟩
theorem jDiffE {n : Nat} (e : Ex) (v : Nat) (hw : wf n e = true) (hd : dp e ≤ 20) (hs : sz e ≤ 1000000) (hs2 : sz (dif (.st v) e) ≤ 1000000) (H : AH) : Sound E 24 [xs (ser e), .int .i64 v] H (.ret (xs (ser (der (.st v) e)))) H := jDiff e v hw hs hs2 H
theorem lValidE {n : Nat} (e : Ex) (hw : wf n e = true) (hs : sz e ≤ 20000) (hn : n ≤ 1000000000) (H : AH) : Sound E 25 [xs (ser e), .int .i64 n] H (.ret (.bool true)) H := by
  have h := lValid e n hw (by omega) hn H
  rwa [show decide (sz e ≤ 20000) = true by simp; omega] at h
set_option maxRecDepth 8000 in
theorem l6 (F : List (List Nd)) (l m : List Nd) (b : List I) (t : I) (n i : Int) (hn : 0 ≤ n ∧ n ≤ 255) (hi : 0 ≤ i ∧ i ≤ 255) (hl : l.length ≤ 200000000000000) (hm : m.length ≤ 200000000000000) (hb : b.length ≤ 200000000000000) (H : AH) :
    Sound E 6 [inp F l b t n, xs m, .int .u8 i] H (.ret (.bool true)) H := by
  refine sound_of_awp tabOk mixed Tryd.func6 rfl (by rfl) Tryd.ntmps6 (by kernel_rfl) (by simp) ?_
  obtain ⟨N, hN, hN0, hN3⟩ := dimN n hn
  obtain ⟨K, hK, hKN⟩ := modN i hi hN0
  have wi : IntKind.i64.wrap i = i := wrap64 (by omega) (by omega)
  simp [inp]
  refine call_ret (sanityOk _) ?_
  simp
  refine call_ret (lDim F l b t n hn hN _) ?_
  simp [wi]
  refine bind_ifn (by omega) ?_
  rw [hK]
  simp
  refine callD_ret0 (fun Hx => r7Made l 12 N ⟨hN0, by omega⟩ hl (by decide) Hx) ?_
  simp
  refine callD_ret0 (fun Hx => r7Made m 12 N ⟨hN0, by omega⟩ hm (by decide) Hx) ?_
  simp
  refine callD_ret0 (fun Hx => r3Made b N (by omega) hb Hx) ?_
  simp
  refine callD_ret0 (fun Hx => rMade t Hx) ?_
  simp
  refine endD [(14, 18)] (by rfl) (by simp [okW, note, Eff.triv, Eff.wr, Eff.none, upTo, newAt]) ?_
  have hw1 := mde_wf hN0 l 12
  have hs1 := mde_sz N l 12
  have hd1 := mde_dp N l 12
  have hw2 := mde_wf hN0 m 12
  have hs2 := mde_sz N m 12
  have hd2 := mde_dp N m 12
  generalize mde N l 12 = p at *
  generalize mde N m 12 = q at *
  have hbv := mdb_valid b N
  have hbl := mdb_len b N
  generalize mdb b N = box at *
  have htv := madeI_valid t
  generalize madeI t = T at *
  have hz1 := ((sz_dp 5 p hd1).2 (.st K)).1
  have hz2 := ((sz_dp 5 q hd2).2 (.st K)).1
  rw [f1_5] at hz1 hz2
  have hy1 : sz (der (.st K) p) ≤ 302 := Nat.le_trans (smp_sz _) hz1
  have hy2 : sz (der (.st K) q) ≤ 302 := Nat.le_trans (smp_sz _) hz2
  have dA : sz (dif (.st K) (.bin .add p q)) ≤ 605 := by rw [sz_add]; omega
  have dS : sz (dif (.st K) (.bin .sub p q)) ≤ 605 := by rw [sz_sub]; omega
  have dN : sz (dif (.st K) (.un .neg p)) ≤ 605 := by rw [sz_neg]; omega
  have wA : wf N (.bin .add p q) = true := by simp [wf, hw1, hw2]
  have wS : wf N (.bin .sub p q) = true := by simp [wf, hw1, hw2]
  have wN : wf N (.un .neg p) = true := hw1
  have eA : sz (der (.st K) (.bin .add p q)) ≤ 20000 := by have := smp_sz (dif (.st K) (.bin .add p q)); unfold der; omega
  have eS : sz (der (.st K) (.bin .sub p q)) ≤ 20000 := by have := smp_sz (dif (.st K) (.bin .sub p q)); unfold der; omega
  have eN : sz (der (.st K) (.un .neg p)) ≤ 20000 := by have := smp_sz (dif (.st K) (.un .neg p)); unfold der; omega
  have toB : ∀ {e}, wf N e = true → wf box.length e = true := fun h => by rw [hbl]; exact h
  have vp := ev_valid hbv htv _ (toB (der_wf (v := .st K) hw1))
  have vq := ev_valid hbv htv _ (toB (der_wf (v := .st K) hw2))
  simp
  refine call_ret (r7BinaryE .add p q (by omega) _) ?_
  simp
  refine call_ret (jDiff (.bin .add p q) K wA (by rw [sz_bin]; omega) (by omega) _) ?_
  simp
  refine call_ret (r7BinaryE .sub p q (by omega) _) ?_
  simp
  refine call_ret (jDiff (.bin .sub p q) K wS (by rw [sz_bin]; omega) (by omega) _) ?_
  simp
  refine call_ret (r7UnaryE .neg p (by omega) _) ?_
  simp
  refine call_ret (jDiff (.un .neg p) K wN (by rw [sz_un]; omega) (by omega) _) ?_
  simp
  refine call_ret (jDiff p K hw1 (by omega) (by omega) _) ?_
  simp
  refine call_ret (jDiff q K hw2 (by omega) (by omega) _) ?_
  simp
  refine call_ret (lValidE _ (der_wf wA) eA (by omega) _) ?_
  simp
  refine call_ret (lValidE _ (der_wf wS) eS (by omega) _) ?_
  simp
  refine call_ret (lValidE _ (der_wf wN) eN (by omega) _) ?_
  simp
  refine call_ret (lValidE _ (der_wf hw1) (by omega) (by omega) _) ?_
  simp
  refine call_ret (lValidE _ (der_wf hw2) (by omega) (by omega) _) ?_
  simp
  refine callD_ret0 (fun Hx => r7Eval box T hbv (by omega) htv _ (der (.st K) p) (Nat.le_refl _) (by omega) (toB (der_wf hw1)) Hx) ?_
  simp
  refine callD_ret0 (fun Hx => r7Eval box T hbv (by omega) htv _ (der (.st K) q) (Nat.le_refl _) (by omega) (toB (der_wf hw2)) Hx) ?_
  simp
  refine endD [(8, 10), (9, 11)] (by rfl) (by simp [okW, note, Eff.triv, Eff.wr, Eff.none, upTo, newAt]) ?_
  have sA : subB (ev box T (der (.st K) (.bin .add p q))) (add (ev box T (der (.st K) p)) (ev box T (der (.st K) q))) = true :=
    (ev_smpB (o := .add) hbv htv (toB (der_wf (v := .st K) hw1)) (toB (der_wf (v := .st K) hw2))).to
  have sS : subB (ev box T (der (.st K) (.bin .sub p q))) (sub (ev box T (der (.st K) p)) (ev box T (der (.st K) q))) = true :=
    (ev_smpB (o := .sub) hbv htv (toB (der_wf (v := .st K) hw1)) (toB (der_wf (v := .st K) hw2))).to
  have sN : subB (ev box T (der (.st K) (.un .neg p))) (neg (ev box T (der (.st K) p))) = true := by
    rw [der_un_neg, ev_smpNeg (toB (der_wf hw1))]; exact (Sb.refl _).to
  simp
  refine callD_ret0 (fun Hx => r7Eval box T hbv (by omega) htv _ (der (.st K) (.bin .add p q)) (Nat.le_refl _) (by omega) (toB (der_wf wA)) Hx) ?_
  simp
  refine callD_ret0 (fun Hx => rAdd _ _ vp vq Hx) ?_
  simp
  refine callD_ret0 (fun Hx => rSubset _ _ Hx) ?_
  rw [sA]
  simp
  refine callD_ret0 (fun Hx => r7Eval box T hbv (by omega) htv _ (der (.st K) (.bin .sub p q)) (Nat.le_refl _) (by omega) (toB (der_wf wS)) Hx) ?_
  simp
  refine callD_ret0 (fun Hx => rSub _ _ vp vq Hx) ?_
  simp
  refine callD_ret0 (fun Hx => rSubset _ _ Hx) ?_
  rw [sS]
  simp
  refine callD_ret0 (fun Hx => r7Eval box T hbv (by omega) htv _ (der (.st K) (.un .neg p)) (Nat.le_refl _) (by omega) (toB (der_wf wN)) Hx) ?_
  simp
  refine callD_ret0 (fun Hx => rNeg _ vp Hx) ?_
  simp
  refine callD_ret0 (fun Hx => rSubset _ _ Hx) ?_
  rw [sN]
  simp
  refine endD [] (by rfl) (by simp [okW, note, Eff.triv, Eff.wr, Eff.none, upTo, newAt]) ?_
  simp
  exact fin1 (rs := [.tmp 6]) (by rfl) (by simp [resA]) (by simp [noF])
end Go.Proofs.YtohmodcheahpgaaDoor.Arm

/- Mean values: the difference of an expression's values at two points is a sum of slopes times differences, with slopes in the enclosures of the derivatives; in rational numbers. -/
namespace Go.Pl

theorem inI_conv {V : I} {x y m : Rat} (h : InI V x) (k : InI V y) (h1 : x ≤ m) (h2 : m ≤ y) : InI V m := by
  rcases h with rfl | ⟨a, b⟩
  · exact .inl rfl
  · rcases k with rfl | ⟨c, d⟩
    · exact .inl rfl
    · exact .inr ⟨by grind, by grind⟩
theorem inI_K {k : Int} {x : Rat} (h : InI (k, k) x) : x = (k : Rat) / 65536 := by
  rcases h with h | ⟨h1, h2⟩
  · have := congrArg (fun p : I => p.1 = p.2) h
    simp only [eq_iff_iff, true_iff] at this
    exact absurd this ent12
  · simp only at h1 h2; grind
theorem inI_k0 {x : Rat} (h : InI (0, 0) x) : x = 0 := by
  have := inI_K h
  rw [this]; decide +kernel
theorem inI_k1 {x : Rat} (h : InI (65536, 65536) x) : x = 1 := by
  have := inI_K h
  rw [this]; decide +kernel
theorem inI_00 : InI (0, 0) 0 := .inr ⟨by decide +kernel, by decide +kernel⟩
theorem inI_11 : InI (65536, 65536) 1 := .inr ⟨by decide +kernel, by decide +kernel⟩
theorem defn_ne {V : I} {x : Rat} (hd : defn V) (h : InI V x) : x ≠ 0 := by
  rintro rfl
  obtain ⟨a, b⟩ := h.resolve_left hd.1
  rw [Rat.zero_mul] at a b
  have := Rat.intCast_nonpos.1 a
  have := Rat.intCast_nonneg.1 b
  have := hd.2
  omega
section
variable {x : List I} {t : I}
theorem T_number (n : Int) (h : -32768 < n ∧ n < 32768) : InI (ev x t (number n)) (n : Rat) := by
  have : number n = .num (n * 65536, n * 65536) := by
    unfold number pt
    rw [mk_num ⟨by omega, by omega⟩ ⟨by omega, by omega⟩]
  rw [this]
  refine .inr ⟨?_, ?_⟩ <;> simp only [ev, Rat.intCast_mul] <;> exact Rat.le_refl
theorem T_neg {A : Ex} {a : Rat} (hw : wf x.length A = true) (h : InI (ev x t A) a) : InI (ev x t (smpNeg A)) (-a) := by
  rw [ev_smpNeg hw]; exact in_neg h
theorem T_add {A B : Ex} {a b : Rat} (h : InI (ev x t A) a) (k : InI (ev x t B) b) : InI (ev x t (smpAdd A B)) (a + b) := by
  unfold smpAdd
  split
  · rename_i hk; rw [ev_isK hk] at h; rw [inI_k0 h, Rat.zero_add]; exact k
  · split
    · rename_i hk; rw [ev_isK hk] at k; rw [inI_k0 k, Rat.add_zero]; exact h
    · have := ev_foldC (x := x) (t := t) (o := .add) (a := A) (b := B)
      simp only [binV] at this
      rw [this]; exact in_add h k
theorem T_sub {A B : Ex} {a b : Rat} (hw : wf x.length B = true) (h : InI (ev x t A) a) (k : InI (ev x t B) b) : InI (ev x t (smpSub A B)) (a - b) := by
  unfold smpSub
  split
  · rename_i hk; rw [ev_isK hk] at k; rw [inI_k0 k]; have : a - 0 = a := by grind
    rw [this]; exact h
  · split
    · rename_i hk; rw [ev_isK hk] at h; rw [inI_k0 h]; have : 0 - b = -b := by grind
      rw [this]; exact T_neg hw k
    · have := ev_foldC (x := x) (t := t) (o := .sub) (a := A) (b := B)
      simp only [binV] at this
      rw [this]; exact in_sub h k
theorem T_mul {A B : Ex} {a b : Rat} (h : InI (ev x t A) a) (k : InI (ev x t B) b) : InI (ev x t (smpMul A B)) (a * b) := by
  unfold smpMul
  split
  · rename_i hk
    rw [Bool.or_eq_true] at hk
    rw [number0]
    have : a * b = 0 := by
      rcases hk with hk | hk
      · rw [ev_isK hk] at h; rw [inI_k0 h, Rat.zero_mul]
      · rw [ev_isK hk] at k; rw [inI_k0 k, Rat.mul_zero]
    rw [this]; exact inI_00
  · split
    · rename_i hk; rw [ev_isK hk] at h; rw [inI_k1 h, Rat.one_mul]; exact k
    · split
      · rename_i hk; rw [ev_isK hk] at k; rw [inI_k1 k, Rat.mul_one]; exact h
      · have := ev_foldC (x := x) (t := t) (o := .mul) (a := A) (b := B)
        simp only [binV] at this
        rw [this]; exact in_mul h k
theorem T_div {A B : Ex} {a b : Rat} (h : InI (ev x t A) a) (k : defn (ev x t B) → InI (ev x t B) b) : InI (ev x t (smpB .div A B)) (a / b) := by
  simp only [smpB]
  split
  · rename_i hk
    rw [Bool.or_eq_true] at hk
    rcases hk with hk | hk
    · rw [ev_isK hk] at h ⊢
      have : a / b = 0 := by rw [inI_k0 h]; grind
      rw [this]; exact inI_00
    · rw [ev_isK hk] at k
      have := inI_k1 (k ⟨by decide, .inl (by decide)⟩)
      have e : a / b = a := by rw [this]; grind
      rw [e]; exact h
  · exact in_div h k
theorem T_free {A B : Ex} {r : Rat} (h : ¬ defn (ev x t B)) (k : isK A 0 = true → r = 0) : InI (ev x t (smpB .div A B)) r := by
  simp only [smpB]
  split
  · rename_i hk
    rw [Bool.or_eq_true] at hk
    rcases hk with hk | hk
    · rw [k hk, ev_isK hk]; exact inI_00
    · rw [ev_isK hk] at h; exact absurd ⟨by decide, .inl (by decide)⟩ h
  · show InI (div _ _) r
    rw [div_undef h]; exact .inl rfl
/-- The product of two values of one sign lies in the square. -/
theorem T_sqp {A : Ex} {a b : Rat} (hw : wf x.length A = true) (h : InI (ev x t A) a) (k : InI (ev x t A) b) (hd : defn (ev x t (smpU .sqr A))) : InI (ev x t (smpU .sqr A)) (a * b) := by
  rw [ev_smpU hw] at hd ⊢
  simp only [unV] at hd ⊢
  generalize ev x t A = V at *
  have hV : V ≠ ent := by
    rintro rfl
    exact hd.1 rfl
  obtain ⟨a1, a2⟩ := h.resolve_left hV
  obtain ⟨b1, b2⟩ := k.resolve_left hV
  have he : ¬ entB V = true := by rw [entB_iff]; exact hV
  unfold sq at hd ⊢
  rw [if_neg he] at hd ⊢
  have hz : ¬ (V.1 ≤ 0 ∧ 0 ≤ V.2) := by
    intro hz
    rw [if_pos hz] at hd
    have e0 : fl 0 65536 = 0 := by decide
    rw [e0] at hd
    have hM : 0 ≤ max (V.1 * V.1) (V.2 * V.2) := by have := sqnn V.1; omega
    have hc : 0 ≤ ce (max (V.1 * V.1) (V.2 * V.2)) 65536 := by
      have := ce_mono (b := 65536) (by decide) hM
      have e : ce 0 65536 = 0 := by decide
      omega
    obtain ⟨d1, d2⟩ := hd
    unfold mk at d1 d2
    split at d2
    · simp only at d2; omega
    · rename_i hn; rw [if_neg hn] at d1; exact d1 rfl
  rw [if_neg hz]
  have hx : (((min (V.1 * V.1) (V.2 * V.2) : Int)) : Rat) ≤ (a * 65536) * (b * 65536) ∧ (a * 65536) * (b * 65536) ≤ ((max (V.1 * V.1) (V.2 * V.2) : Int) : Rat) := by
    by_cases hp : 0 < V.1
    · have hp' : (0 : Rat) ≤ (V.1 : Rat) := Rat.intCast_nonneg.2 (by omega)
      have k1 := rmulL hp' b1
      have k2 := rmulL (Rat.le_trans (Rat.le_trans hp' b1) (Rat.le_refl)) a1
      have k3 := rmulL (Rat.le_trans hp' a1) b2
      have k4 := rmulL (Rat.le_trans hp' (Rat.le_trans a1 a2)) a2
      have m1 : ((min (V.1 * V.1) (V.2 * V.2) : Int) : Rat) ≤ ((V.1 * V.1 : Int) : Rat) := ic.2 (by omega)
      have m2 : ((V.2 * V.2 : Int) : Rat) ≤ ((max (V.1 * V.1) (V.2 * V.2) : Int) : Rat) := ic.2 (by omega)
      rw [Rat.intCast_mul] at m1 m2
      constructor <;> grind
    · have hn : V.2 < 0 := by omega
      have hn' : (V.2 : Rat) ≤ 0 := Rat.intCast_nonpos.2 (by omega)
      have k1 := rmulL' hn' b2
      have k2 := rmulL' (Rat.le_trans b2 hn') a2
      have k3 := rmulL' (Rat.le_trans a2 hn') b1
      have k4 := rmulL' (Rat.le_trans (Rat.le_trans a1 a2) hn') a1
      have m1 : ((min (V.1 * V.1) (V.2 * V.2) : Int) : Rat) ≤ ((V.2 * V.2 : Int) : Rat) := ic.2 (by omega)
      have m2 : ((V.1 * V.1 : Int) : Rat) ≤ ((max (V.1 * V.1) (V.2 * V.2) : Int) : Rat) := ic.2 (by omega)
      rw [Rat.intCast_mul] at m1 m2
      constructor <;> grind
  obtain ⟨p, q⟩ := hx
  generalize (min (V.1 * V.1) (V.2 * V.2) : Int) = m at *
  generalize (max (V.1 * V.1) (V.2 * V.2) : Int) = M at *
  obtain ⟨f1, _⟩ := fl_le (x := m) (b := 65536) (by decide)
  obtain ⟨f2, _⟩ := le_ce (x := M) (b := 65536) (by decide)
  have e : ((65536 : Int) : Rat) = 65536 := rfl
  rw [e] at f1 f2
  exact in_mk (by grind) (by grind)
end

/-! ### Slopes of square roots -/
theorem small (δ : Rat) (h : 0 < δ) : ∃ k, 1 / (grid k : Rat) ≤ δ := by
  refine ⟨(1 / δ).ceil.toNat, ?_⟩
  have hN := grid_posR (1 / δ).ceil.toNat
  have h1 : 1 / δ ≤ ((1 / δ).ceil : Rat) := Rat.le_ceil
  have h2 : ((1 / δ).ceil : Rat) ≤ (grid (1 / δ).ceil.toNat : Rat) := ic.2 (by unfold grid; omega)
  have h3 : 1 / δ ≤ (grid (1 / δ).ceil.toNat : Rat) := Rat.le_trans h1 h2
  generalize (grid (1 / δ).ceil.toNat : Rat) = N at *
  refine le_rdiv hN ?_
  have h4 := rmulL (Rat.le_of_lt h) h3
  have h5 : δ * (1 / δ) = 1 := by grind
  rw [h5] at h4; exact h4
theorem slope {u v : Rat} (hu : 0 ≤ u) (huv : u < v) : ∃ k, rt k u < rt k v ∧ 2 * rt k u * (rt k v - rt k u) ≤ v - u ∧ v - u ≤ 2 * rt k v * (rt k v - rt k u) := by
  have hv : 0 < v := by grind
  obtain ⟨M, hM⟩ : ∃ M : Rat, M = 2 * v + 3 := ⟨_, rfl⟩
  have hM0 : 0 < M := by grind
  obtain ⟨g, hg⟩ : ∃ g : Rat, g = (v - u) / M := ⟨_, rfl⟩
  have hg0 : 0 < g := by rw [hg]; exact (Rat.lt_div_iff hM0).2 (by grind)
  have hgM : g * M = v - u := by rw [hg]; exact Rat.div_mul_cancel (by grind)
  obtain ⟨δ, hδ⟩ : ∃ δ : Rat, δ = g * g / (4 * M) := ⟨_, rfl⟩
  have hδ0 : 0 < δ := by rw [hδ]; exact (Rat.lt_div_iff (by grind)).2 (by have := Rat.mul_pos hg0 hg0; grind)
  have hδM : δ * (4 * M) = g * g := by rw [hδ]; exact Rat.div_mul_cancel (by grind)
  have hm : 0 < min (min (g / 2) δ) 1 := by
    have : 0 < g / 2 := (Rat.lt_div_iff (by decide +kernel)).2 (by grind)
    grind
  obtain ⟨k, hk⟩ := small _ hm
  have hk1 : 1 / (grid k : Rat) ≤ g / 2 := by grind
  have hk2 : 1 / (grid k : Rat) ≤ δ := by grind
  have hk3 : 1 / (grid k : Rat) ≤ 1 := by grind
  have hN := grid_posR k
  have hh0 : 0 < 1 / (grid k : Rat) := (Rat.lt_div_iff hN).2 (by grind)
  obtain ⟨e0, e1, e2⟩ := rt_spec k hu
  obtain ⟨f0, f1, f2⟩ := rt_spec k (Rat.le_of_lt hv)
  refine ⟨k, ?_⟩
  generalize rt k u = e at *
  generalize rt k v = f at *
  generalize 1 / (grid k : Rat) = h at *
  have hf : f ≤ v + 1 := Rat.not_lt.1 fun hc => by
    have c1 := Rat.mul_lt_mul_of_pos_left (c := f) hc (by grind)
    have c2 := rmulL (a := (1 : Rat)) (b := f) (c := v) (by grind) (by grind)
    grind
  have he : e ≤ v + 1 := Rat.not_lt.1 fun hc => by
    have c1 := Rat.mul_lt_mul_of_pos_left (c := e) hc (by grind)
    have c2 := rmulL (a := (1 : Rat)) (b := e) (c := v) (by grind) (by grind)
    grind
  -- the difference of the roots is at least g / 2
  have d1 : v - u < (f - e + h) * (f + e + h) := by grind
  have d2 : 0 < f - e + h := Rat.not_le.1 fun hc => by
    have := rmulL' hc (a := 0) (b := f + e + h) (by grind)
    grind
  have d3 : (f - e + h) * (f + e + h) ≤ (f - e + h) * M := rmulL (Rat.le_of_lt d2) (by grind)
  have d4 : g < f - e + h := Rat.lt_of_mul_lt_mul_right (c := M) (by grind) (Rat.le_of_lt hM0)
  have d5 : g / 2 < f - e := by grind
  have g2 : 0 < g / 2 := (Rat.lt_div_iff (by decide +kernel)).2 (by grind)
  have d6 : g / 2 * (g / 2) ≤ (f - e) * (f - e) := by
    have a1 := rmulL (Rat.le_of_lt g2) (Rat.le_of_lt d5)
    have a2 := rmulL (c := f - e) (by grind) (Rat.le_of_lt d5)
    grind
  have d7 : h * M ≤ g / 2 * (g / 2) := by
    have := rmulL (Rat.le_of_lt hM0) hk2
    grind
  have d8 : 2 * f * h + h * h ≤ h * M := by
    have := rmulL (Rat.le_of_lt hh0) (a := 2 * f + h) (b := M) (by grind)
    grind
  have d9 : 2 * e * h + h * h ≤ h * M := by
    have := rmulL (Rat.le_of_lt hh0) (a := 2 * e + h) (b := M) (by grind)
    grind
  refine ⟨by grind, by grind, by grind⟩
end Go.Pl

/- The mean value lemma: induction over the expression. -/
namespace Go.Pl

def sumR (f : Nat → Rat) : Nat → Rat
  | 0 => 0
  | n + 1 => sumR f n + f n
theorem sumR_lin {f g h : Nat → Rat} (c d : Rat) (k : ∀ i, f i = c * g i + d * h i) : ∀ n, sumR f n = c * sumR g n + d * sumR h n
  | 0 => by simp only [sumR]; grind
  | n + 1 => by simp only [sumR, sumR_lin c d k n, k n]; grind
theorem sumR_zero {f : Nat → Rat} (k : ∀ i, f i = 0) : ∀ n, sumR f n = 0
  | 0 => rfl
  | n + 1 => by simp only [sumR, sumR_zero k n, k n]; grind
theorem sumR_one {f : Nat → Rat} {j : Nat} : ∀ {n : Nat}, (∀ i, i < n → i ≠ j → f i = 0) → j < n → sumR f n = f j
  | 0, _, h => by omega
  | n + 1, k, h => by
    by_cases hj : j = n
    · subst hj
      have : ∀ m, m ≤ j → sumR f m = 0 := fun m => by
        induction m with
        | zero => intro _; rfl
        | succ m ih => intro hm; simp only [sumR]; rw [ih (by omega), k m (by omega) (by omega)]; grind
      simp only [sumR]; rw [this j (Nat.le_refl _)]; grind
    · simp only [sumR]; rw [sumR_one (fun i hi => k i (by omega)) (by omega), k n (by omega) (Ne.symm hj)]; grind

/-- Two points with their boxes, and a box that contains both. -/
structure Two where
  n : Nat
  xp : List I
  xq : List I
  xb : List I
  tp : I
  tq : I
  tb : I
  p : List Rat
  q : List Rat
  s : Rat
  t : Rat
  lp : xp.length = n
  lq : xq.length = n
  lb : xb.length = n
  vp : ∀ a ∈ xp, vB a = true
  vq : ∀ a ∈ xq, vB a = true
  vb : ∀ a ∈ xb, vB a = true
  vtp : vB tp = true
  vtq : vB tq = true
  vtb : vB tb = true
  hp : inBox xp p
  hq : inBox xq q
  hbp : inBox xb p
  hbq : inBox xb q
  htp : InI tp s
  htq : InI tq t
  htbp : InI tb s
  htbq : InI tb t
def Two.vr (Z : Two) (i : Nat) : Vr := if i < Z.n then .st i else .tm
def Two.dl (Z : Two) (i : Nat) : Rat := if i < Z.n then (Z.q[i]?).getD 0 - (Z.p[i]?).getD 0 else Z.t - Z.s
/-- What is shown of an expression. -/
structure Mean (Z : Two) (e : Ex) (a b : Rat) (s : Nat → Rat) : Prop where
  ep : InI (ev Z.xp Z.tp e) a
  eq : InI (ev Z.xq Z.tq e) b
  bp : InI (ev Z.xb Z.tb (smp e)) a
  bq : InI (ev Z.xb Z.tb (smp e)) b
  sl : ∀ i, InI (ev Z.xb Z.tb (der (Z.vr i) e)) (s i)
  sm : b - a = sumR (fun i => s i * Z.dl i) (Z.n + 1)
theorem der_num (v : Vr) (c : I) : der v (.num c) = zeroE := der_none _ (by cases v <;> rfl)
theorem zeroE_in {x : List I} {t : I} : InI (ev x t zeroE) 0 := inI_00
theorem mean_num (Z : Two) (c : I) (h : vB c = true) : Mean Z (.num c) ((c.1 : Rat) / 65536) ((c.1 : Rat) / 65536) (fun _ => 0) :=
  ⟨inI_num h, inI_num h, inI_num h, inI_num h, fun i => by rw [der_num]; exact zeroE_in, by rw [sumR_zero (fun i => by grind)]; grind⟩
theorem number1_in {x : List I} {t : I} : InI (ev x t (number 1)) 1 := by rw [number1]; exact inI_11
theorem mean_var (Z : Two) (k : Nat) (h : k < Z.n) : Mean Z (.var k) ((Z.p[k]?).getD 0) ((Z.q[k]?).getD 0) (fun i => if i = k then 1 else 0) := by
  refine ⟨Z.hp k (by rw [Z.lp]; exact h), Z.hq k (by rw [Z.lq]; exact h), Z.hbp k (by rw [Z.lb]; exact h), Z.hbq k (by rw [Z.lb]; exact h), fun i => ?_, ?_⟩
  · rw [der_leaf rfl]
    unfold Two.vr
    by_cases hi : i < Z.n
    · rw [if_pos hi]
      by_cases hk : i = k
      · subst hk; simp only [isV]; simp; exact number1_in
      · have : ¬ (k : Int) = (i : Int) := by omega
        simp only [isV]; simp [this, hk]; rw [number_zero]; exact zeroE_in
    · rw [if_neg hi]
      have hk : i ≠ k := by omega
      simp only [isV]; simp [hk]; rw [number_zero]; exact zeroE_in
  · rw [sumR_one (j := k) (fun i hi hk => by rw [if_neg hk]; grind) (by omega), if_pos rfl]
    unfold Two.dl
    rw [if_pos h]; grind
theorem mean_time (Z : Two) : Mean Z .time Z.s Z.t (fun i => if i < Z.n then 0 else 1) := by
  refine ⟨Z.htp, Z.htq, Z.htbp, Z.htbq, fun i => ?_, ?_⟩
  · rw [der_leaf rfl]
    unfold Two.vr
    by_cases hi : i < Z.n
    · rw [if_pos hi, if_pos hi]; simp only [isV]; simp; rw [number_zero]; exact zeroE_in
    · rw [if_neg hi, if_neg hi]; simp only [isV]; simp; exact number1_in
  · rw [sumR_one (j := Z.n) (fun i hi hk => by rw [if_pos (by omega)]; grind) (by omega), if_neg (by omega)]
    unfold Two.dl
    rw [if_neg (by omega)]; grind
section
variable {Z : Two} {a b : Ex} {u v u' v' : Rat} {s s' : Nat → Rat}
theorem mean_neg (hw : wf Z.n a = true) (h : Mean Z a u v s) : Mean Z (.un .neg a) (-u) (-v) (fun i => -s i) := by
  have hw' : ∀ e, wf Z.n e = true → wf Z.xb.length e = true := fun e he => by rw [Z.lb]; exact he
  refine ⟨in_neg h.ep, in_neg h.eq, T_neg (hw' _ (smp_wf a hw)) h.bp, T_neg (hw' _ (smp_wf a hw)) h.bq, fun i => ?_, ?_⟩
  · rw [der_un_neg]; exact T_neg (hw' _ (der_wf hw)) (h.sl i)
  · rw [sumR_lin (g := fun i => s i * Z.dl i) (h := fun i => s i * Z.dl i) (-1) 0 (fun i => by grind), ← h.sm]; grind
theorem mean_add (h : Mean Z a u v s) (k : Mean Z b u' v' s') : Mean Z (.bin .add a b) (u + u') (v + v') (fun i => s i + s' i) := by
  refine ⟨in_add h.ep k.ep, in_add h.eq k.eq, T_add h.bp k.bp, T_add h.bq k.bq, fun i => ?_, ?_⟩
  · rw [der_add]; exact T_add (h.sl i) (k.sl i)
  · rw [sumR_lin (g := fun i => s i * Z.dl i) (h := fun i => s' i * Z.dl i) 1 1 (fun i => by grind), ← h.sm, ← k.sm]; grind
theorem mean_sub (hw : wf Z.n b = true) (h : Mean Z a u v s) (k : Mean Z b u' v' s') : Mean Z (.bin .sub a b) (u - u') (v - v') (fun i => s i - s' i) := by
  have hw' : ∀ e, wf Z.n e = true → wf Z.xb.length e = true := fun e he => by rw [Z.lb]; exact he
  refine ⟨in_sub h.ep k.ep, in_sub h.eq k.eq, T_sub (hw' _ (smp_wf b hw)) h.bp k.bp, T_sub (hw' _ (smp_wf b hw)) h.bq k.bq, fun i => ?_, ?_⟩
  · rw [der_sub]; exact T_sub (hw' _ (der_wf hw)) (h.sl i) (k.sl i)
  · rw [sumR_lin (g := fun i => s i * Z.dl i) (h := fun i => s' i * Z.dl i) 1 (-1) (fun i => by grind), ← h.sm, ← k.sm]; grind
theorem mean_mul (h : Mean Z a u v s) (k : Mean Z b u' v' s') : Mean Z (.bin .mul a b) (u * u') (v * v') (fun i => s i * v' + u * s' i) := by
  refine ⟨in_mul h.ep k.ep, in_mul h.eq k.eq, T_mul h.bp k.bp, T_mul h.bq k.bq, fun i => ?_, ?_⟩
  · rw [der_mul]; exact T_add (T_mul (h.sl i) k.bq) (T_mul h.bp (k.sl i))
  · rw [sumR_lin (g := fun i => s i * Z.dl i) (h := fun i => s' i * Z.dl i) v' u (fun i => by grind), ← h.sm, ← k.sm]; grind
theorem mid_in {V : I} {x y : Rat} (h : InI V x) (k : InI V y) : InI V ((x + y) / 2) := by
  rcases Rat.le_total (a := x) (b := y) with c | c
  · exact inI_conv h k (by grind) (by grind)
  · exact inI_conv k h (by grind) (by grind)
theorem mean_sqr (hw : wf Z.n a = true) (h : Mean Z a u v s) : Mean Z (.un .sqr a) (u * u) (v * v) (fun i => (2 * ((u + v) / 2)) * s i) := by
  have hw' : ∀ e, wf Z.n e = true → wf Z.xb.length e = true := fun e he => by rw [Z.lb]; exact he
  have hs : ∀ {r}, InI (ev Z.xb Z.tb (smp a)) r → InI (ev Z.xb Z.tb (smp (.un .sqr a))) (r * r) := fun hr => by
    show InI (ev Z.xb Z.tb (smpU .sqr (smp a))) _
    rw [ev_smpU (hw' _ (smp_wf a hw))]; exact in_sq hr
  refine ⟨in_sq h.ep, in_sq h.eq, hs h.bp, hs h.bq, fun i => ?_, ?_⟩
  · rw [der_sqr]
    exact T_mul (T_mul (T_number 2 (by decide)) (mid_in h.bp h.bq)) (h.sl i)
  · rw [sumR_lin (g := fun i => s i * Z.dl i) (h := fun i => s i * Z.dl i) (2 * ((u + v) / 2)) 0 (fun i => by grind), ← h.sm]; grind
/-- Square roots: the roots of the two values are chosen with a slope between them. -/
theorem mean_sqrt (hw : wf Z.n a = true) (h : Mean Z a u v s) : ∃ c d r, Mean Z (.un .sqrt a) c d r := by
  have hw' : ∀ e, wf Z.n e = true → wf Z.xb.length e = true := fun e he => by rw [Z.lb]; exact he
  have hsm : ∀ {r} k, InI (ev Z.xb Z.tb (smp a)) r → InI (ev Z.xb Z.tb (smpU .sqrt (smp a))) (rt k r) := fun k hr => by
    rw [ev_smpU (hw' _ (smp_wf a hw))]; exact in_rt k hr
  have mk : ∀ (k : Nat) (m : Rat), InI (ev Z.xb Z.tb (smpU .sqrt (smp a))) m → rt k v - rt k u = (v - u) / (2 * m) → Mean Z (.un .sqrt a) (rt k u) (rt k v) (fun i => s i / (2 * m)) := by
    intro k m hm he
    refine ⟨in_rt k h.ep, in_rt k h.eq, hsm k h.bp, hsm k h.bq, fun i => ?_, ?_⟩
    · rw [der_sqrt]
      exact T_div (h.sl i) (fun _ => T_mul (T_number 2 (by decide)) hm)
    · rw [sumR_lin (g := fun i => s i * Z.dl i) (h := fun i => s i * Z.dl i) (1 / (2 * m)) 0 (fun i => by grind), ← h.sm, he]; grind
  by_cases huv : v = u
  · subst huv
    exact ⟨_, _, _, mk 0 (rt 0 v) (hsm 0 h.bp) (by grind)⟩
  by_cases hd : defn (ev Z.xb Z.tb (smpMul (number 2) (smpU .sqrt (smp a))))
  · -- the values are not negative
    have hpos : ∀ {r}, InI (ev Z.xb Z.tb (smp a)) r → 0 ≤ r := fun {r} hr => by
      have h2 : InI (ev Z.xb Z.tb (smpU .sqrt (smp a))) 0 → False := fun hz => defn_ne hd (T_mul (T_number 2 (by decide)) hz) (by grind)
      refine Rat.not_lt.1 fun hneg => h2 ?_
      rw [ev_smpU (hw' _ (smp_wf a hw))]
      have := in_rt 0 hr
      rwa [rt_neg 0 (Rat.le_of_lt hneg)] at this
    have hu := hpos h.bp
    have hv := hpos h.bq
    rcases Rat.le_total (a := u) (b := v) with c | c
    · obtain ⟨k, k1, k2, k3⟩ := slope hu (by grind : u < v)
      generalize he : rt k u = e at *
      generalize hf : rt k v = f at *
      have hfe : 0 < f - e := by grind
      have m1 : e ≤ (v - u) / (2 * (f - e)) := rdiv_le (by grind) (by grind)
      have m2 : (v - u) / (2 * (f - e)) ≤ f := le_rdiv (by grind) (by grind)
      have hm := inI_conv (hsm k h.bp) (hsm k h.bq) (m := (v - u) / (2 * (f - e))) (by rw [he]; exact m1) (by rw [hf]; exact m2)
      exact ⟨_, _, _, mk k _ hm (by rw [he, hf]; grind)⟩
    · obtain ⟨k, k1, k2, k3⟩ := slope hv (by grind : v < u)
      generalize he : rt k u = e at *
      generalize hf : rt k v = f at *
      have hfe : 0 < e - f := by grind
      have m1 : f ≤ (u - v) / (2 * (e - f)) := rdiv_le (by grind) (by grind)
      have m2 : (u - v) / (2 * (e - f)) ≤ e := le_rdiv (by grind) (by grind)
      have hm := inI_conv (hsm k h.bq) (hsm k h.bp) (m := (u - v) / (2 * (e - f))) (by rw [hf]; exact m1) (by rw [he]; exact m2)
      exact ⟨_, _, _, mk k _ hm (by rw [he, hf]; grind)⟩
  · obtain ⟨c, hc⟩ : ∃ c : Rat, c = (rt 0 v - rt 0 u) / (v - u) := ⟨_, rfl⟩
    refine ⟨rt 0 u, rt 0 v, fun i => c * s i, in_rt 0 h.ep, in_rt 0 h.eq, hsm 0 h.bp, hsm 0 h.bq, fun i => ?_, ?_⟩
    · rw [der_sqrt]
      refine T_free hd fun hk => ?_
      have := h.sl i
      rw [ev_isK hk] at this
      rw [inI_k0 this]; grind
    · rw [sumR_lin (g := fun i => s i * Z.dl i) (h := fun i => s i * Z.dl i) c 0 (fun i => by grind), ← h.sm, hc]; grind
theorem not_defn_of {V : I} (h : InI V 0) : ¬ defn V := fun hd => defn_ne hd h rfl
theorem sq_undef {V : I} (h : ¬ defn V) (hv : vB V = true) : ¬ defn (sq V) := by
  by_cases he : V = ent
  · subst he; exact h
  · have hz : V.1 ≤ 0 ∧ 0 ≤ V.2 := by
      by_cases h1 : 0 < V.1
      · exact absurd ⟨he, .inl h1⟩ h
      · by_cases h2 : V.2 < 0
        · exact absurd ⟨he, .inr h2⟩ h
        · omega
    have h0 : InI V 0 := .inr ⟨by rw [Rat.zero_mul]; exact Rat.intCast_nonpos.2 hz.1, by rw [Rat.zero_mul]; exact Rat.intCast_nonneg.2 hz.2⟩
    have := in_sq h0
    rw [Rat.zero_mul] at this
    exact not_defn_of this
theorem mean_div (hwb : wf Z.n b = true) (hwa : wf Z.n a = true) (h : Mean Z a u v s) (k : Mean Z b u' v' s') : ∃ c d r, Mean Z (.bin .div a b) c d r := by
  have hw' : ∀ e, wf Z.n e = true → wf Z.xb.length e = true := fun e he => by rw [Z.lb]; exact he
  have hN : ∀ i, InI (ev Z.xb Z.tb (smpSub (smpMul (der (Z.vr i) a) (smp b)) (smpMul (smp a) (der (Z.vr i) b)))) (s i * u' - u * s' i) := fun i =>
    T_sub (hw' _ (smpB_wf (o := .mul) (smp_wf a hwa) (der_wf hwb))) (T_mul (h.sl i) k.bp) (T_mul h.bp (k.sl i))
  by_cases hz : u' = 0 ∨ v' = 0
  · have h0 : InI (ev Z.xb Z.tb (smp b)) 0 := by
      rcases hz with hz | hz
      · rw [← hz]; exact k.bp
      · rw [← hz]; exact k.bq
    have hnd := not_defn_of h0
    have hB : ¬ defn (ev Z.xb Z.tb (smpU .sqr (smp b))) := by
      rw [ev_smpU (hw' _ (smp_wf b hwb))]
      exact sq_undef hnd (ev_valid Z.vb Z.vtb _ (hw' _ (smp_wf b hwb)))
    have hsl : ∀ i, InI (ev Z.xb Z.tb (der (Z.vr i) (.bin .div a b))) 0 := fun i => by rw [der_div]; exact T_free hB (fun _ => rfl)
    have hsum : ∀ c : Rat, c - c = sumR (fun i => 0 * Z.dl i) (Z.n + 1) := fun c => by rw [sumR_zero (fun i => by grind)]; grind
    by_cases hk : isK (smp a) 0 = true
    · have hu : u = 0 := by have := h.bp; rw [ev_isK hk] at this; exact inI_k0 this
      have hv : v = 0 := by have := h.bq; rw [ev_isK hk] at this; exact inI_k0 this
      have e1 : u / u' = 0 := by rw [hu]; grind
      have e2 : v / v' = 0 := by rw [hv]; grind
      refine ⟨0, 0, fun _ => 0, ?_, ?_, T_free hnd (fun _ => rfl), T_free hnd (fun _ => rfl), hsl, hsum 0⟩
      · rw [← e1]; exact in_div h.ep (fun _ => k.ep)
      · rw [← e2]; exact in_div h.eq (fun _ => k.eq)
    · have hfree : ∀ r, InI (ev Z.xb Z.tb (smp (.bin .div a b))) r := fun r => T_free hnd (fun hk' => absurd hk' hk)
      by_cases hu : u' = 0
      · refine ⟨v / v', v / v', fun _ => 0, ?_, in_div h.eq (fun _ => k.eq), hfree _, hfree _, hsl, hsum _⟩
        have : ¬ defn (ev Z.xp Z.tp b) := not_defn_of (hu ▸ k.ep)
        show InI (div _ _) _
        rw [div_undef this]; exact .inl rfl
      · have hv : v' = 0 := by rcases hz with hz | hz; exact absurd hz hu; exact hz
        refine ⟨u / u', u / u', fun _ => 0, in_div h.ep (fun _ => k.ep), ?_, hfree _, hfree _, hsl, hsum _⟩
        have : ¬ defn (ev Z.xq Z.tq b) := not_defn_of (hv ▸ k.eq)
        show InI (div _ _) _
        rw [div_undef this]; exact .inl rfl
  · have hu : u' ≠ 0 := fun e => hz (.inl e)
    have hv : v' ≠ 0 := fun e => hz (.inr e)
    refine ⟨u / u', v / v', fun i => (s i * u' - u * s' i) / (u' * v'), in_div h.ep (fun _ => k.ep), in_div h.eq (fun _ => k.eq), T_div h.bp (fun _ => k.bp), T_div h.bq (fun _ => k.bq), fun i => ?_, ?_⟩
    · rw [der_div]
      exact T_div (hN i) (fun hd => T_sqp (hw' _ (smp_wf b hwb)) k.bp k.bq hd)
    · rw [sumR_lin (g := fun i => s i * Z.dl i) (h := fun i => s' i * Z.dl i) (u' / (u' * v')) (-u / (u' * v')) (fun i => by grind), ← h.sm, ← k.sm]
      grind
end
theorem mean (Z : Two) : ∀ e : Ex, wf Z.n e = true → ∃ u v s, Mean Z e u v s
  | .num c, h => ⟨_, _, _, mean_num Z c h⟩
  | .var i, h => ⟨_, _, _, mean_var Z i (by simpa [wf] using h)⟩
  | .time, _ => ⟨_, _, _, mean_time Z⟩
  | .un o a, h => by
    obtain ⟨u, v, s, k⟩ := mean Z a h
    cases o with
    | neg => exact ⟨_, _, _, mean_neg h k⟩
    | sqr => exact ⟨_, _, _, mean_sqr h k⟩
    | sqrt => exact mean_sqrt h k
  | .bin o a b, h => by
    simp only [wf, Bool.and_eq_true] at h
    obtain ⟨u, v, s, k⟩ := mean Z a h.1
    obtain ⟨u', v', s', k'⟩ := mean Z b h.2
    cases o with
    | add => exact ⟨_, _, _, mean_add k k'⟩
    | sub => exact ⟨_, _, _, mean_sub h.2 k k'⟩
    | mul => exact ⟨_, _, _, mean_mul k k'⟩
    | div => exact mean_div h.2 h.1 k k'
end Go.Pl

/- What the laws of derivatives come to. -/
namespace Go.Pl

theorem inter_of {A B : I} {r : Rat} (hA : vB A = true) (hB : vB B = true) (h : InI A r) (k : InI B r) : interB A B = true := by
  have h1 := vB_bounds hA
  have h2 := vB_bounds hB
  have key : max A.1 B.1 ≤ min A.2 B.2 := by
    rcases h with rfl | ⟨a1, a2⟩
    · simp only [ent]; omega
    · rcases k with rfl | ⟨b1, b2⟩
      · simp only [ent]; omega
      · have c1 : A.1 ≤ B.2 := ic.1 (Rat.le_trans a1 b2)
        have c2 : B.1 ≤ A.2 := ic.1 (Rat.le_trans b1 a2)
        omega
  simp [interB]; omega
theorem inI_pt (z : Int) : InI (pt z) ((z : Rat) / 65536) := in_mk (by grind) (by grind)
theorem inBox_pt (l : List Int) : inBox (l.map pt) (l.map fun (z : Int) => (z : Rat) / 65536) := by
  intro i hi
  rw [List.length_map] at hi
  have e : l[i]? = some l[i] := by simp [hi]
  rw [List.getElem?_map, List.getElem?_map, e]
  exact inI_pt _
theorem mixed_common {xs : List I} {T : I} (v : List Rat) (t : Rat) (hx : ∀ a ∈ xs, vB a = true) (hT : vB T = true) (h1 : inBox xs v) (h2 : InI T t) {e : Ex} (hw : wf xs.length e = true) (i j : Vr) :
    interB (ev xs T (der j (der i e))) (ev xs T (der i (der j e))) = true := by
  have wi := der_wf (v := i) hw
  have wj := der_wf (v := j) hw
  have k1 := in_ev h1 h2 _ (der_wf (v := j) wi)
  have k2 := in_ev h1 h2 _ (der_wf (v := i) wj)
  rw [val_der2 hw] at k1 k2
  rw [val_mixed i j e] at k1
  exact inter_of (ev_valid hx hT _ (der_wf wi)) (ev_valid hx hT _ (der_wf wj)) k1 k2
/-- The inner product of the gradient and the difference. -/
def gradT (xb : List I) (T : I) (e : Ex) (d : Nat → I) : Nat → I
  | 0 => pt 0
  | i + 1 => add (gradT xb T e d i) (mul (ev xb T (der (.st i) e)) (d i))
theorem gradT_valid {xb : List I} {T : I} {e : Ex} {d : Nat → I} : ∀ n, vB (gradT xb T e d n) = true
  | 0 => pt_valid 0
  | n + 1 => add_valid (gradT_valid n) mul_valid
theorem gradT_in {xb : List I} {T : I} {e : Ex} {d : Nat → I} {s r : Nat → Rat} (hs : ∀ i : Nat, InI (ev xb T (der (.st i) e)) (s i)) (hd : ∀ i, InI (d i) (r i)) : ∀ n, InI (gradT xb T e d n) (sumR (fun (i : Nat) => s i * r i) n)
  | 0 => inI_00
  | n + 1 => in_add (gradT_in hs hd n) (in_mul (hs n) (hd n))
def rats (l : List Int) : List Rat := l.map fun (z : Int) => (z : Rat) / 65536
theorem rats_get (l : List Int) (i : Nat) (h : i < l.length) : ((rats l)[i]?).getD 0 = ((((l[i]?).getD 0 : Int)) : Rat) / 65536 := by
  have e : l[i]? = some l[i] := by simp [h]
  unfold rats
  rw [List.getElem?_map, e]; rfl
theorem mean_common {xb : List I} {T : I} {tv : Rat} {ps qs : List Int} {e : Ex} (lp : ps.length = xb.length) (lq : qs.length = xb.length) (vb : ∀ a ∈ xb, vB a = true) (vT : vB T = true) (hT : InI T tv) (hp : inBox xb (rats ps)) (hq : inBox xb (rats qs)) (hw : wf xb.length e = true) :
    interB (sub (ev (qs.map pt) T e) (ev (ps.map pt) T e)) (gradT xb T e (fun i => pt ((qs[i]?).getD 0 - (ps[i]?).getD 0)) xb.length) = true := by
  have vpt : ∀ (l : List Int), ∀ a ∈ l.map pt, vB a = true := fun l a ha => by obtain ⟨z, _, rfl⟩ := List.mem_map.1 ha; exact pt_valid z
  let Z : Two := { n := xb.length, xp := ps.map pt, xq := qs.map pt, xb := xb, tp := T, tq := T, tb := T, p := rats ps, q := rats qs, s := tv, t := tv, lp := by simp [lp], lq := by simp [lq], lb := rfl, vp := vpt ps, vq := vpt qs, vb := vb, vtp := vT, vtq := vT, vtb := vT, hp := inBox_pt ps, hq := inBox_pt qs, hbp := hp, hbq := hq, htp := hT, htq := hT, htbp := hT, htbq := hT }
  obtain ⟨u, v, s, h⟩ := mean Z e hw
  have hprod := gradT_in (xb := xb) (T := T) (e := e) (d := fun i => pt ((qs[i]?).getD 0 - (ps[i]?).getD 0)) (r := fun i => (((qs[i]?).getD 0 - (ps[i]?).getD 0 : Int) : Rat) / 65536) (s := fun i => if i < xb.length then s i else 0)
  have key : InI (gradT xb T e (fun i => pt ((qs[i]?).getD 0 - (ps[i]?).getD 0)) xb.length) (v - u) := by
    have gen : ∀ n, n ≤ xb.length → InI (gradT xb T e (fun i => pt ((qs[i]?).getD 0 - (ps[i]?).getD 0)) n) (sumR (fun i => s i * Z.dl i) n) := by
      intro n
      induction n with
      | zero => intro _; exact inI_00
      | succ n ih =>
        intro hn
        have hsl := h.sl n
        have e1 : Z.vr n = .st n := if_pos (show n < xb.length by omega)
        rw [e1] at hsl
        have e2 : Z.dl n = (((qs[n]?).getD 0 - (ps[n]?).getD 0 : Int) : Rat) / 65536 := by
          have : Z.dl n = ((rats qs)[n]?).getD 0 - ((rats ps)[n]?).getD 0 := if_pos (show n < xb.length by omega)
          rw [this, rats_get _ _ (by omega), rats_get _ _ (by omega), Rat.intCast_sub]; grind
        simp only [gradT, sumR]
        refine in_add (ih (by omega)) (in_mul hsl ?_)
        rw [e2]; exact inI_pt _
    have h1 := gen xb.length (Nat.le_refl _)
    have h2 := h.sm
    simp only [sumR] at h2
    have e3 : Z.dl xb.length = 0 := by
      have : Z.dl xb.length = tv - tv := if_neg (show ¬ xb.length < xb.length by omega)
      rw [this]; grind
    have e4 : v - u = sumR (fun i => s i * Z.dl i) xb.length := by
      rw [h2]
      show sumR (fun i => s i * Z.dl i) xb.length + s xb.length * Z.dl xb.length = _
      rw [e3]; grind
    rw [e4]; exact h1
  have wq : wf (qs.map pt).length e = true := by rw [List.length_map, lq]; exact hw
  have wp : wf (ps.map pt).length e = true := by rw [List.length_map, lp]; exact hw
  exact inter_of (sub_valid (ev_valid (vpt qs) vT e wq) (ev_valid (vpt ps) vT e wp)) (gradT_valid _) (in_sub h.eq h.ep) key

/-! ### Polynomials -/
theorem con_of {A : I} {z : Int} (h : InI A (z : Rat)) : conB A (z * 65536) = true := by
  unfold conB
  rcases h with rfl | ⟨h1, h2⟩
  · simp [entB_iff.2]
  · have e : (z : Rat) * 65536 = ((z * 65536 : Int) : Rat) := by rw [Rat.intCast_mul]; rfl
    rw [e] at h1 h2
    have := ic.1 h1
    have := ic.1 h2
    simp [*]
/-- A polynomial in Horner's form after k steps: its value and its derivatives' values at x. -/
structure Hor (x : Int) (e : Ex) (v f s : Int) (k : Nat) : Prop where
  w : wf 1 e = true
  z : sz e = 4 * k + 1
  z1 : sz (dif (.st 0) e) ≤ 25 * k + 1
  z2 : sz (dif (.st 0) (dif (.st 0) e)) ≤ 300 * k + 1
  v0 : val [(x : Rat)] 0 e = v
  v1 : val [(x : Rat)] 0 (dif (.st 0) e) = f
  v2 : val [(x : Rat)] 0 (dif (.st 0) (dif (.st 0) e)) = s
  b0 : -(10 ^ k : Int) ≤ v ∧ v ≤ 10 ^ k
  b1 : -(10 ^ k : Int) ≤ f ∧ f ≤ 10 ^ k
  b2 : -(10 ^ k : Int) ≤ s ∧ s ≤ 10 ^ k
theorem hor0 (x : Int) : Hor x (number 0) 0 0 0 0 := by
  refine ⟨number_wf' _ _, rfl, ?_, ?_, ?_, ?_, ?_, by decide, by decide, by decide⟩
  · decide
  · decide
  · rw [val0]; rfl
  · rw [show dif (.st 0) (number 0) = number 0 from rfl, val0]; rfl
  · rw [show dif (.st 0) (dif (.st 0) (number 0)) = number 0 from rfl, val0]; rfl
theorem mul_bd {x v B : Int} (hx : -5 ≤ x ∧ x ≤ 5) (h : -B ≤ v ∧ v ≤ B) : -(5 * B) ≤ v * x ∧ v * x ≤ 5 * B := by
  have hB : 0 ≤ B := by omega
  have h1 := Int.mul_nonneg (show 0 ≤ B - v by omega) (show 0 ≤ 5 - x by omega)
  have h2 := Int.mul_nonneg (show 0 ≤ B + v by omega) (show 0 ≤ 5 + x by omega)
  have h3 := Int.mul_nonneg (show 0 ≤ B - v by omega) (show 0 ≤ 5 + x by omega)
  have h4 := Int.mul_nonneg (show 0 ≤ B + v by omega) (show 0 ≤ 5 - x by omega)
  constructor <;> grind
theorem horS {x c : Int} {e : Ex} {v f s : Int} {k : Nat} (hx : -5 ≤ x ∧ x ≤ 5) (hc : -5 ≤ c ∧ c ≤ 5) (hk : k ≤ 4) (h : Hor x e v f s k) :
    Hor x (.bin .add (.bin .mul e (.var 0)) (number c)) (v * x + c) (f * x + v) (s * x + 2 * f) (k + 1) := by
  have hvar : dif (.st 0) (.var 0) = number 1 := rfl
  have hnum : ∀ n, dif (.st 0) (number n) = number 0 := fun n => rfl
  have hp : (10 : Int) ^ (k + 1) = 10 * 10 ^ k := by rw [Int.pow_succ]; omega
  have h1 : (1 : Int) ≤ 10 ^ k := by
    have := Nat.one_le_pow k 10 (by decide)
    exact_mod_cast this
  have B0 := h.b0
  have B1 := h.b1
  have B2 := h.b2
  have m0 := mul_bd hx h.b0
  have m1 := mul_bd hx h.b1
  have m2 := mul_bd hx h.b2
  have z := h.z; have z1 := h.z1; have z2 := h.z2
  generalize (10 : Int) ^ k = B at *
  have vc : val [(x : Rat)] 0 (number c) = c := val_number _ _ c (by omega)
  have vx : val [(x : Rat)] 0 (.var 0) = x := rfl
  refine ⟨by simp [wf, h.w, number_wf'], by simp only [sz_bin, sz_var, sz_number]; omega, ?_, ?_, ?_, ?_, ?_, by omega, by omega, by omega⟩
  · simp only [sz_add, sz_mul, hvar, hnum, sz_number, sz_var]; omega
  · simp only [d_add, d_mul, hvar, hnum, sz_add, sz_mul, sz_bin, sz_number, sz_var]; omega
  · simp only [val, binR, h.v0, vc]; rw [Rat.intCast_add, Rat.intCast_mul]; rfl
  · simp only [d_add, d_mul, hvar, hnum, val, binR, h.v0, h.v1, val1, val0]
    rw [Rat.intCast_add, Rat.intCast_mul]
    show (f : Rat) * (x : Rat) + (v : Rat) * 1 + 0 = _
    grind
  · simp only [d_add, d_mul, hvar, hnum, val, binR, h.v0, h.v1, h.v2, val1, val0]
    rw [Rat.intCast_add, Rat.intCast_mul, Rat.intCast_mul]
    have e2 : ((2 : Int) : Rat) = 2 := rfl
    rw [e2]
    show (s : Rat) * (x : Rat) + (f : Rat) * 1 + ((f : Rat) * 1 + (v : Rat) * 0) + 0 = _
    grind
theorem hor_in {x : Int} {e : Ex} {v f s : Int} {k : Nat} (h : Hor x e v f s k) :
    conB (ev [pt (x * 65536)] (pt 0) (der (.st 0) e)) (f * 65536) = true ∧ conB (ev [pt (x * 65536)] (pt 0) (der (.st 0) (der (.st 0) e))) (s * 65536) = true := by
  have hb : inBox [pt (x * 65536)] [(x : Rat)] := by
    intro i hi
    have : i = 0 := by simp at hi; exact hi
    subst this
    have := inI_pt (x * 65536)
    have e : ((x * 65536 : Int) : Rat) / 65536 = x := by rw [Rat.intCast_mul]; have e : ((65536 : Int) : Rat) = 65536 := rfl; rw [e]; grind
    rw [e] at this
    exact this
  have ht : InI (pt 0) 0 := inI_00
  have k1 := in_ev hb ht _ (der_wf (v := .st 0) h.w)
  have k2 := in_ev hb ht _ (der_wf (v := .st 0) (der_wf (v := .st 0) h.w))
  rw [val_der h.w, h.v1] at k1
  rw [val_der2 h.w, h.v2] at k2
  exact ⟨con_of k1, con_of k2⟩

/-! ### Lie derivatives -/
/-- The Lie derivative's sum after i components. -/
def lieS (xv : List I) (t : I) (g : Ex) (f : List I) : Nat → I
  | 0 => ev xv t (der .tm g)
  | i + 1 => if isK (der (.st i) g) 0 then lieS xv t g f i else add (lieS xv t g f i) (mul (ev xv t (der (.st i) g)) (f.getD i (0, 0)))
theorem lie_var {xv : List I} {t : I} {f : List I} {k : Nat} (hf : ∀ p ∈ f, vB p = true) : ∀ i, i ≤ f.length → lieS xv t (.var k) f i = if k < i then f.getD k (0, 0) else (0, 0)
  | 0, _ => by
    simp only [lieS]
    rw [der_leaf rfl, if_neg (by simp [isV]), number0]; simp [ev]
  | i + 1, h => by
    have ih := lie_var (xv := xv) (t := t) (k := k) hf i (by omega)
    simp only [lieS]
    rw [der_leaf rfl]
    by_cases hk : k = i
    · subst hk
      have e1 : isV (.st (k : Int)) (.var k) = true := by simp [isV]
      rw [if_pos e1, number1]
      have e2 : isK (.num (65536, 65536)) 0 = false := by decide
      rw [e2, if_neg (by simp), if_pos (by omega), ih, if_neg (by omega)]
      have hv : vB (f.getD k (0, 0)) = true := by
        rw [List.getD_eq_getElem?_getD]
        have e : f[k]? = some f[k] := by simp [show k < f.length by omega]
        rw [e]; exact hf _ (List.mem_of_getElem? e)
      simp only [ev]
      rw [mul_one_l hv, add_zero_l hv]
    · have e1 : isV (.st (i : Int)) (.var k) = false := by simp [isV]; omega
      have e3 : (if isV (.st (i : Int)) (.var k) = true then number 1 else number 0) = number 0 := by rw [e1]; rfl
      have e2 : isK (number 0) 0 = true := by decide
      rw [e3, if_pos e2, ih]
      by_cases h1 : k < i
      · rw [if_pos h1, if_pos (by omega)]
      · rw [if_neg h1, if_neg (by omega)]
theorem lie_leaf {xv : List I} {t : I} {g : Ex} {f : List I} (h : ∀ i : Nat, occ (.st i) g = false) : ∀ i, lieS xv t g f i = ev xv t (der .tm g)
  | 0 => rfl
  | i + 1 => by
    simp only [lieS]
    rw [der_none _ (h i), if_pos zero_isK]
    exact lie_leaf h i
/-- The Lie derivative of a system with constant derivatives and the change along its solution. -/
theorem lie_in {xb : List I} {tb : I} {g : Ex} {f : List I} {s r : Nat → Rat} (h0 : InI (ev xb tb (der .tm g)) (s f.length)) (hs : ∀ i : Nat, i < f.length → InI (ev xb tb (der (.st i) g)) (s i)) (hf : ∀ i, i < f.length → InI (f.getD i (0, 0)) (r i)) :
    ∀ n, n ≤ f.length → InI (lieS xb tb g f n) (s f.length + sumR (fun i => s i * r i) n)
  | 0, _ => by
    simp only [lieS, sumR]
    rw [Rat.add_zero]; exact h0
  | n + 1, h => by
    have ih := lie_in h0 hs hf n (by omega)
    have hsn := hs n (by omega)
    simp only [lieS, sumR]
    split
    · rename_i hk
      rw [ev_isK hk] at hsn
      rw [inI_k0 hsn, Rat.zero_mul, Rat.add_zero]; exact ih
    · rw [← Rat.add_assoc]; exact in_add ih (in_mul hsn (hf n (by omega)))
theorem lieS_valid {xv : List I} {t : I} {g : Ex} {f : List I} (hxv : ∀ p ∈ xv, vB p = true) (htv : vB t = true) (hw : wf xv.length g = true) : ∀ i, vB (lieS xv t g f i) = true
  | 0 => ev_valid hxv htv _ (der_wf hw)
  | i + 1 => by
    simp only [lieS]
    split
    · exact lieS_valid hxv htv hw i
    · exact add_valid (lieS_valid hxv htv hw i) mul_valid
theorem hull_in {x y z : Int} (h : (x ≤ z ∧ z ≤ y) ∨ (y ≤ z ∧ z ≤ x)) : InI (hull (x, x) (y, y)) ((z : Rat) / 65536) := by
  refine .inr ⟨?_, ?_⟩
  · have := ic.2 (show (hull (x, x) (y, y)).1 ≤ z by simp only [hull]; omega)
    grind
  · have := ic.2 (show z ≤ (hull (x, x) (y, y)).2 by simp only [hull]; omega)
    grind
theorem pt_small {z : Int} (h : -20000000 < z ∧ z < 20000000) : pt z = (z, z) := mk_num ⟨by omega, by omega⟩ ⟨by omega, by omega⟩
theorem lie_common {g : Ex} {ps cs : List Int} (lc : cs.length = ps.length) (bp : ∀ z ∈ ps, -16777216 < z ∧ z < 16777216) (bc : ∀ z ∈ cs, -1048576 < z ∧ z < 1048576) (hw : wf ps.length g = true) :
    interB (sub (ev ((ps.zipWith (· + ·) cs).map pt) (pt 65536) g) (ev (ps.map pt) (pt 0) g)) (lieS ((ps.zipWith (fun p c => hull (pt p) (pt (p + c))) cs)) (0, 65536) g (cs.map pt) ps.length) = true := by
  have vpt : ∀ (l : List Int), ∀ a ∈ l.map pt, vB a = true := fun l a ha => by obtain ⟨z, _, rfl⟩ := List.mem_map.1 ha; exact pt_valid z
  have hbx : ∀ i, i < ps.length → ∃ p c, ps[i]? = some p ∧ cs[i]? = some c ∧ (-16777216 < p ∧ p < 16777216) ∧ (-1048576 < c ∧ c < 1048576) := fun i hi => by
    have e1 : ps[i]? = some ps[i] := by simp [hi]
    have e2 : cs[i]? = some (cs[i]'(by omega)) := by simp [lc, hi]
    exact ⟨_, _, e1, e2, bp _ (List.mem_of_getElem? e1), bc _ (List.mem_of_getElem? e2)⟩
  obtain ⟨qs, hqs⟩ : ∃ qs, qs = ps.zipWith (· + ·) cs := ⟨_, rfl⟩
  obtain ⟨xb, hxb⟩ : ∃ xb, xb = ps.zipWith (fun p c => hull (pt p) (pt (p + c))) cs := ⟨_, rfl⟩
  rw [← hqs, ← hxb]
  have lq : qs.length = ps.length := by rw [hqs, List.length_zipWith, lc, Nat.min_self]
  have lb : xb.length = ps.length := by rw [hxb, List.length_zipWith, lc, Nat.min_self]
  have gq : ∀ i p c, ps[i]? = some p → cs[i]? = some c → qs[i]? = some (p + c) := fun i p c h k => by rw [hqs, List.getElem?_zipWith, h, k]
  have gb : ∀ i p c, ps[i]? = some p → cs[i]? = some c → xb[i]? = some (hull (pt p) (pt (p + c))) := fun i p c h k => by rw [hxb, List.getElem?_zipWith, h, k]
  have vb : ∀ a ∈ xb, vB a = true := fun a ha => by
    obtain ⟨i, hi⟩ := List.mem_iff_getElem?.1 ha
    have hlt := (List.getElem?_eq_some_iff.1 hi).1
    obtain ⟨p, c, e1, e2, b1, b2⟩ := hbx i (by omega)
    rw [gb i p c e1 e2] at hi
    cases hi
    rw [pt_small (by omega), pt_small (by omega)]
    unfold vB
    rw [Bool.or_eq_true, Bool.and_eq_true, Bool.and_eq_true, numB_iff, numB_iff, decide_eq_true_iff]
    right; simp only [hull]; omega
  have rg : ∀ (l : List Int) (i : Nat) (z : Int), l[i]? = some z → ((rats l)[i]?).getD 0 = (z : Rat) / 65536 := fun l i z h => by
    rw [rats_get _ _ (List.getElem?_eq_some_iff.1 h).1, h]; rfl
  have hin : inBox xb (rats ps) ∧ inBox xb (rats qs) := by
    constructor
    · intro i hi
      obtain ⟨p, c, e1, e2, b1, b2⟩ := hbx i (by omega)
      rw [gb i p c e1 e2, rg _ _ _ e1]
      rw [pt_small (by omega), pt_small (by omega)]
      exact hull_in (by omega)
    · intro i hi
      obtain ⟨p, c, e1, e2, b1, b2⟩ := hbx i (by omega)
      rw [gb i p c e1 e2, rg _ _ _ (gq i p c e1 e2)]
      rw [pt_small (by omega), pt_small (by omega)]
      exact hull_in (by omega)
  have hT0 : InI (0, 65536) 0 := .inr ⟨by decide +kernel, by decide +kernel⟩
  have hT1 : InI (0, 65536) 1 := .inr ⟨by decide +kernel, by decide +kernel⟩
  have p1 : InI (pt 65536) 1 := by rw [show pt 65536 = (65536, 65536) by decide]; exact inI_11
  let Z : Two := { n := ps.length, xp := ps.map pt, xq := qs.map pt, xb := xb, tp := pt 0, tq := pt 65536, tb := (0, 65536), p := rats ps, q := rats qs, s := 0, t := 1, lp := by simp, lq := by simp [lq], lb := lb, vp := vpt ps, vq := vpt qs, vb := vb, vtp := by decide, vtq := by decide, vtb := by decide, hp := inBox_pt ps, hq := inBox_pt qs, hbp := hin.1, hbq := hin.2, htp := inI_00, htq := p1, htbp := hT0, htbq := hT1 }
  obtain ⟨u, v, s, h⟩ := mean Z g hw
  have wq : wf (qs.map pt).length g = true := by rw [List.length_map, lq]; exact hw
  have wp : wf (ps.map pt).length g = true := by rw [List.length_map]; exact hw
  have wb : wf xb.length g = true := by rw [lb]; exact hw
  have hl := lie_in (xb := xb) (tb := (0, 65536)) (g := g) (f := cs.map pt) (s := s) (r := fun i => ((((cs[i]?).getD 0 : Int)) : Rat) / 65536)
    (by have := h.sl ps.length; rw [show Z.vr ps.length = .tm from if_neg (show ¬ ps.length < ps.length by omega)] at this; rw [List.length_map, lc]; exact this)
    (fun i hi => by have := h.sl i; rw [List.length_map, lc] at hi; rw [show Z.vr i = .st i from if_pos (show i < ps.length from hi)] at this; exact this)
    (fun i hi => by
      rw [List.length_map] at hi
      have e : cs[i]? = some cs[i] := by simp [hi]
      rw [List.getD_eq_getElem?_getD, List.getElem?_map, e]
      exact inI_pt _) ps.length (by rw [List.length_map, lc]; exact Nat.le_refl _)
  rw [List.length_map, lc] at hl
  have hsm := h.sm
  simp only [sumR] at hsm
  have e3 : Z.dl ps.length = 1 := by
    have : Z.dl ps.length = 1 - 0 := if_neg (show ¬ ps.length < ps.length by omega)
    rw [this]; grind
  have e4 : ∀ n, n ≤ ps.length → sumR (fun i => s i * Z.dl i) n = sumR (fun i => s i * (((((cs[i]?).getD 0 : Int)) : Rat) / 65536)) n := by
    intro n
    induction n with
    | zero => intro _; rfl
    | succ n ih =>
      intro hn
      simp only [sumR]
      rw [ih (by omega)]
      obtain ⟨p, c, k1, k2, _, _⟩ := hbx n (by omega)
      have : Z.dl n = ((rats qs)[n]?).getD 0 - ((rats ps)[n]?).getD 0 := if_pos (show n < ps.length by omega)
      rw [this, rg _ _ _ (gq n p c k1 k2), rg _ _ _ k1, k2]
      simp only [Option.getD_some]
      rw [Rat.intCast_add]
      have : ((p : Rat) + (c : Rat)) / 65536 - (p : Rat) / 65536 = (c : Rat) / 65536 := by grind
      rw [this]
  have e5 : v - u = s ps.length + sumR (fun i => s i * (((((cs[i]?).getD 0 : Int)) : Rat) / 65536)) ps.length := by
    rw [hsm]
    show sumR (fun i => s i * Z.dl i) ps.length + s ps.length * Z.dl ps.length = _
    rw [e3, e4 _ (Nat.le_refl _)]; grind
  rw [← e5] at hl
  exact inter_of (sub_valid (ev_valid (vpt qs) (by decide) g wq) (ev_valid (vpt ps) (by decide) g wp)) (lieS_valid vb (by decide) wb _) (in_sub h.eq h.ep) hl
end Go.Pl

namespace Go.Proofs.YtohmodcheahpgaaDoor.Arm
open Go.Arm Go.Pl

theorem lieSum_eq (xv : List I) (t : I) (g : Ex) (f : List I) : ∀ i, lieSum xv t g f i = lieS xv t g f i
  | 0 => rfl
  | i + 1 => by simp only [lieSum, lieS, lieSum_eq xv t g f i]
theorem mds_ok {l : List (List Nd)} {most N i : Nat} (hN : 0 < N) : ∀ e ∈ mds l most N i, sz e ≤ 1000000000 ∧ wf N e = true := fun e he => by
  obtain ⟨k, _, rfl⟩ := List.mem_map.1 he
  exact ⟨by have := mde_sz N ((l[k]?).getD []) most; omega, mde_wf hN _ _⟩
theorem leaf_sz {e : Ex} (h : kids e = []) : sz e ≤ 1000000 := by
  cases e with
  | num c => simp [sz_num]
  | var i => simp [sz_var]
  | time => decide
  | un o a => simp [kids] at h
  | bin o a b => simp [kids] at h
theorem dif_leaf_sz (v : Vr) {e : Ex} (h : kids e = []) : sz (dif v e) ≤ 1000000 := by rw [sz_leaf v h]; decide
set_option maxRecDepth 8000 in
theorem l9 (F : List (List Nd)) (l : List Nd) (b : List I) (t : I) (n i : Int) (hn : 0 ≤ n ∧ n ≤ 255) (hi : 0 ≤ i ∧ i ≤ 255) (hF : ∀ r ∈ F, r.length ≤ 200000000000000) (hF2 : F.length ≤ 200000000000000) (hb : b.length ≤ 200000000000000) (H : AH) :
    Sound E 9 [inp F l b t n, .int .u8 i] H (.ret (.bool true)) H := by
  refine sound_of_awp tabOk mixed Tryd.func9 rfl (by rfl) Tryd.ntmps9 (by kernel_rfl) (by simp) ?_
  obtain ⟨N, hN, hN0, hN3⟩ := dimN n hn
  obtain ⟨K, hK, hKN⟩ := modN i hi hN0
  have wi : IntKind.i64.wrap i = i := wrap64 (by omega) (by omega)
  simp [inp]
  refine call_ret (sanityOk _) ?_
  simp
  refine call_ret (lDim F l b t n hn hN _) ?_
  simp
  refine callD_ret0 (fun Hx => r7MadeSystem F 10 N ⟨hN0, by omega⟩ (by decide) hF hF2 Hx) ?_
  simp
  refine callD_ret0 (fun Hx => r3Made b N (by omega) hb Hx) ?_
  simp
  refine callD_ret0 (fun Hx => rMade t Hx) ?_
  have hbv := mdb_valid b N
  have hbl := mdb_len b N
  have htv := madeI_valid t
  have hfs := mds_ok (l := F) (most := 10) (i := N) hN0
  have hfl := mds_len F 10 N N
  generalize mds F 10 N N = fs at *
  generalize mdb b N = box at *
  generalize madeI t = T at *
  obtain ⟨sy, hsy⟩ : ∃ sy : Sys, sy = ⟨nms.take N, fs⟩ := ⟨_, rfl⟩
  rw [← hsy]
  have hsf : sy.f = fs := by rw [hsy]
  have hfs' : ∀ e ∈ sy.f, sz e ≤ 1000000000 ∧ wf box.length e = true := fun e he => by rw [hsf] at he; rw [hbl]; exact hfs e he
  have hsl : sy.f.length ≤ 1000000000 := by rw [hsf]; omega
  have hfv : ∀ p ∈ sy.f.map (ev box T), vB p = true := fun p hp => by obtain ⟨e, he, rfl⟩ := List.mem_map.1 hp; exact ev_valid hbv htv e (hfs' e he).2
  have hfl2 : (sy.f.map (ev box T)).length = N := by rw [List.length_map, hsf, hfl]
  obtain ⟨fv, hfve⟩ : ∃ fv, fv = sy.f.map (ev box T) := ⟨_, rfl⟩
  rw [← hfve] at hfv hfl2
  obtain ⟨p, hp⟩ := get_lt (l := fv) (i := K) (by omega)
  have hpE : ∀ h, fv[K]'h = p := fun h => (List.getElem?_eq_some_iff.1 hp).2
  have v1 : lieSum box T (.var K) fv N = p := by
    rw [lieSum_eq, lie_var hfv N (by omega), if_pos hKN, List.getD_eq_getElem?_getD, hp]; rfl
  have v2 : lieSum box T .time fv N = pt 65536 := by
    rw [lieSum_eq, lie_leaf (fun i => rfl), der_leaf rfl, if_pos (by rfl)]; rfl
  have v3 : lieSum box T (number i) fv N = pt 0 := by
    rw [lieSum_eq, lie_leaf (fun i => rfl), der_leaf rfl, if_neg (by unfold number; simp [isV])]; rfl
  have lie : ∀ (g : Ex) (hg : kids g = []) (hw : wf box.length g = true) Hx, Sound E 43 [sys sy, xs (ser g), bx box, iv T] Hx (.ret (iv (lieSum box T g fv N))) Hx := fun g hg hw Hx => by
    have h := jLieDerivative sy g box T hbv (by omega) htv hfs' hsl (leaf_sz hg) hw (dif_leaf_sz _ hg) (fun j _ => dif_leaf_sz _ hg) Hx
    rwa [← hfve, show sy.f.length = N by rw [hsf, hfl]] at h
  simp [sys]
  refine endD [(11, 13), (12, 15)] (by rfl) (by simp [okW, note, Eff.triv, Eff.wr, Eff.none, upTo, newAt]) ?_
  simp [wi]
  refine bind_ifn (by omega) ?_
  simp [hK]
  refine call_ret (r7Derivatives sy box T hbv (by omega) htv hfs' hsl _) ?_
  rw [← hfve]
  simp
  refine callD_ret0 (fun Hx => mVar K Hx) ?_
  simp
  refine callD_ret0 (fun Hx => lie (.var K) rfl (by simp [wf]; omega) Hx) ?_
  rw [v1]
  simp [bx, hp, hpE]
  refine callD_conv0 (args' := [sys sy, xs (ser .time), bx box, iv T]) (fun Hx => lie .time rfl rfl Hx) (fun Hx => by simp [sys, xs, ser, leafN, bx]) ?_
  rw [v2]
  simp
  refine callD_ret0 (fun Hx => rPoint _ Hx) ?_
  simp [wi]
  refine callD_ret0 (fun Hx => r10Number i (by omega) Hx) ?_
  simp
  refine callD_ret0 (fun Hx => lie (number i) rfl (number_wf' i box.length) Hx) ?_
  rw [v3]
  simp
  refine callD_ret0 (fun Hx => rPoint _ Hx) ?_
  simp
  refine endD [] (by rfl) (by simp [okW, note, Eff.triv, Eff.wr, Eff.none, upTo, newAt]) ?_
  simp
  exact fin1 (rs := [.tmp 4]) (by rfl) (by simp [resA]) (by simp [noF])
end Go.Proofs.YtohmodcheahpgaaDoor.Arm

namespace Go.Proofs.YtohmodcheahpgaaDoor.Arm
open Go.Arm Go.Pl

/-- A row that is being filled. -/
def fillL {α : Type} (f : Nat → α) (z : α) (n i : Nat) : List α := (List.range n).map fun k => if k < i then f k else z
@[simp] theorem fill_len {α : Type} (f : Nat → α) (z : α) (n i : Nat) : (fillL f z n i).length = n := by simp [fillL]
theorem fill_zero {α : Type} (f : Nat → α) (z : α) (n : Nat) : fillL f z n 0 = List.replicate n z := by
  apply List.ext_getElem?; intro k; simp [fillL, List.getElem?_replicate]
  by_cases h : k < n <;> simp [h]
theorem fill_succ {α : Type} (f : Nat → α) (z : α) {n i : Nat} (hi : i < n) : (fillL f z n i).set i (f i) = fillL f z n (i + 1) := by
  apply List.ext_getElem?; intro k
  by_cases h : i = k
  · subst h; rw [List.getElem?_set_self (by rw [fill_len]; exact hi)]; simp [fillL, hi]
  · rw [List.getElem?_set_ne h]
    simp only [fillL, List.getElem?_map]
    by_cases hk : k < n
    · simp [hk]
      by_cases h1 : k < i
      · rw [if_pos h1, if_pos (by omega)]
      · rw [if_neg h1, if_neg (by omega)]
    · simp [hk]
theorem fill_all {α : Type} (f : Nat → α) (z : α) (n : Nat) : fillL f z n n = (List.range n).map f := by
  apply List.ext_getElem?; intro k
  simp only [fillL, List.getElem?_map]
  by_cases hk : k < n <;> simp [hk]
theorem fill_get {α : Type} (f : Nat → α) (z : α) {n i k : Nat} (hk : k < n) : (fillL f z n i)[k]? = some (if k < i then f k else z) := by
  simp [fillL, hk]
theorem zip_range {α β γ : Type} (g : α → β → γ) (a : Nat → α) (b : Nat → β) (n : Nat) : List.zipWith g ((List.range n).map a) ((List.range n).map b) = (List.range n).map fun k => g (a k) (b k) := by
  apply List.ext_getElem?; intro k
  rw [List.getElem?_zipWith]
  by_cases hk : k < n <;> simp [hk]

def LMk (n : Nat) (H : AH) (i : Nat) (fr : AFr) (H' : AH) : Prop :=
  fr 0 = .slice [] false ∧ fr 1 = .int .i64 0 ∧ fr 2 = .int .i64 n ∧ fr 6 = .ptr H.length 1 0 0 ∧ fr 7 = .ptr (H.length + 1) 1 0 0 ∧ fr 8 = .slice (nms.map .str) true ∧ fr 9 = .int .i64 i ∧ i ≤ n ∧
  ((i = 0 ∧ H' = H ++ [.row true 2 [.agg [.nilslice, .nilslice]], .row true 2 [.agg [.nilslice, .nilslice]]]) ∨
   (0 < i ∧ H' = H ++ [.row true 2 [.agg [.nilslice, .nilslice]], .row true 2 [.agg [.ref (H.length + 2) i, .ref (H.length + 3) i]], .row true 1 ((nms.take i).map .str), .row true 1 ((List.replicate i (number 1)).map fun e => xs (ser e))]))
theorem mde_nil (n most : Nat) : mde n [] most = number 1 := by simp [mde, bld]
theorem r7MadeSystemK (n : Nat) (hn : 0 < n ∧ n ≤ 6) (H : AH) : Sound E 41 [.slice [] false, .int .i64 0, .int .i64 n] H (.ret (.agg [.ref (H.length + 2) n, .ref (H.length + 3) n]))
    (H ++ [.row true 2 [.agg [.ref (H.length + 2) n, .ref (H.length + 3) n]], .row true 2 [.agg [.ref (H.length + 2) n, .ref (H.length + 3) n]], .row true 1 ((nms.take n).map .str), .row true 1 ((List.replicate n (number 1)).map fun e => xs (ser e))]) := by
  refine sound_of_awp tabOk mixed Tryd.func41 rfl (by rfl) Tryd.ntmps41 (by kernel_rfl) (by simp) ?_
  simp
  refine loop_count (LMk n H) (fun i => n - i) 0 ⟨by simp, by simp, by simp, by simp, by simp, by simp [nms], by simp, by omega, .inl ⟨rfl, by simp⟩⟩ ?_
  rintro i fr H' ⟨g0, g1, g2, g6, g7, g8, g9, hi, hmem⟩
  have hnl : nms.length = 6 := rfl
  simp [g2, g9]
  refine branch (fun hc => ?_) (fun hc => ?_)
  · have hlt : i < n := by simpa using hc
    have w2 : IntKind.i64.wrap ((i : Int) + 1) = ((i + 1 : Nat) : Int) := by rw [wrap64 (by omega) (by omega)]; omega
    obtain ⟨s, hs⟩ := get_lt (l := nms) (i := i) (by omega)
    have hsE : ∀ h, nms[i]'h = s := fun h => (List.getElem?_eq_some_iff.1 hs).2
    have hst : nms.take (i + 1) = nms.take i ++ [s] := by rw [List.take_add_one, hs]; rfl
    have h00 : (decide ((i : Int) < 0)) = false := by simp
    have hm := fun Hx => r7Made [] 0 n ⟨hn.1, by omega⟩ (by simp) (by decide) Hx
    rw [mde_nil] at hm
    rcases hmem with ⟨rfl, rfl⟩ | ⟨hpos, rfl⟩
    · simp [g0, g7, g8, g9, hs, hsE]
      refine bind_some (app_gen0 (x := .str s) tab67 rfl tab9 rfl (by simp [okc]) rfl (by decide)) ?_
      simp [g7]
      refine endD [(1, 9)] (by rfl) (by simp [okW, note, Eff.triv, Eff.wr, Eff.none, upTo, newAt]) ?_
      simp [g1, g2, g7]
      refine callD_conv0 (args' := [xs [], .int .i64 0, .int .i64 n]) (fun Hx => hm Hx) (by simp [xs]) ?_
      simp [g7, xs]
      refine bind_some (app_gen0 (x := xs (ser (number 1))) tab22 rfl tab23 rfl (by simp [okc, xs]) rfl (by decide)) ?_
      simp [g7]
      refine endD [(1, 9)] (by rfl) (by simp [okW, note, Eff.triv, Eff.wr, Eff.none, upTo, newAt]) ?_
      have w3 : IntKind.i64.wrap 1 = 1 := wrap64 (by decide) (by decide)
      simp [g9, w3]
      refine ⟨1, by show n - 1 < n - 0; omega, by simp [g0], by simp [g1], by simp [g2], by simp [g6], by simp [g7], by simp [g8], by simp, by omega, .inr ⟨by decide, ?_⟩⟩
      rw [hst]; simp [xs]
    · simp [g0, g7, g8, g9, hs, hsE, h00]
      refine bind_some (app_gen (n := i) (x := .str s) (l := (nms.take i).map .str) tab67 rfl tab9 rfl (by simp [okc]) rfl (by decide) (by simp; omega) (by omega) (by simp)) ?_
      simp [g7]
      refine endD [(1, 9)] (by rfl) (by simp [okW, note, Eff.triv, Eff.wr, Eff.none, upTo, newAt]) ?_
      simp [g1, g2, g7]
      refine callD_conv0 (args' := [xs [], .int .i64 0, .int .i64 n]) (fun Hx => hm Hx) (by simp [xs]) ?_
      simp [g7, xs]
      refine bind_some (app_gen (n := i) (x := xs (ser (number 1))) (l := (List.replicate i (number 1)).map fun e => xs (ser e)) tab22 rfl tab23 rfl (by simp [okc, xs]) rfl (by decide) (by simp) (by omega) (by simp [xs])) ?_
      simp [g7]
      refine endD [(1, 9)] (by rfl) (by simp [okW, note, Eff.triv, Eff.wr, Eff.none, upTo, newAt]) ?_
      simp [g9, w2]
      refine ⟨i + 1, by show n - (i + 1) < n - i; omega, by simp [g0], by simp [g1], by simp [g2], by simp [g6], by simp [g7], by simp [g8], by simp, by omega, .inr ⟨by omega, ?_⟩⟩
      rw [hst, List.replicate_succ']; simp [xs]
  · have hge : n ≤ i := by simpa using hc
    have hi' : i = n := by omega
    subst hi'
    rcases hmem with ⟨rfl, rfl⟩ | ⟨hpos, rfl⟩
    · omega
    · simp [g6, g7]
      exact finK (rs := [.cell 6 69]) (vs := [.agg [.ref (H.length + 2) i, .ref (H.length + 3) i]]) (by rfl) (by simp [resA, g6]) rfl
end Go.Proofs.YtohmodcheahpgaaDoor.Arm

namespace Go.Proofs.YtohmodcheahpgaaDoor.Arm
open Go.Arm Go.Pl

def i32s (l : List Int) : AV := .agg (l.map (.int .i32))
def ckF (vs : List Int) (k : Nat) : Int := ((vs[k]?).getD 0).tmod 1048576
def pkF (st : List I) (k : Nat) : Int := ((st[k]?).getD (0, 0)).1
theorem ckF_b (vs : List Int) (k : Nat) : -1048576 < ckF vs k ∧ ckF vs k < 1048576 := by
  unfold ckF
  generalize (vs[k]?).getD 0 = z
  obtain ⟨h1, h2⟩ := tmod_bounds z (b := 1048576) (by decide)
  by_cases h : 0 ≤ z
  · have := h1 h; omega
  · have := h2 (by omega); omega
theorem smi_b (l : List I) (k : Nat) : -16777216 < (smi l k).1 ∧ (smi l k).1 < 16777216 := by
  unfold smi
  cases l[k]? with
  | none => simp
  | some p => have := smallI_bounds p; simp only [Option.map_some, Option.getD_some]; omega
/-- The blocks of the law while it fills its rows. -/
def lblk (A V : AV) (st : List I) (vs : List Int) (N k : Nat) (B : Nat) : AH :=
  [.row true 6 [A], .row true 3 [V],
   .row true 2 [.agg [.ref (B + 4) N, .ref (B + 5) N]], .row true 2 [.agg [.ref (B + 4) N, .ref (B + 5) N]], .row true 1 ((nms.take N).map .str),
   .row true 1 ((fillL (fun j => Ex.num (pt (ckF vs j))) (number 1) N k).map fun e => xs (ser e)),
   .row true 2 [.agg [.ref (B + 4) N, .ref (B + 5) N]],
   .row true 2 ((fillL (fun j => pt (pkF st j + ckF vs j)) (0, 0) N k).map iv),
   .row true 2 ((fillL (fun j => hull (pt (pkF st j)) (pt (pkF st j + ckF vs j))) (0, 0) N k).map iv),
   .row true 2 ((fillL (fun j => pt (pkF st j)) (0, 0) N k).map iv)]
def LLd (g : Ex) (A V : AV) (st : List I) (vs : List Int) (N : Nat) (H : AH) (k : Nat) (fr : AFr) (H' : AH) : Prop :=
  fr 3 = .ptr (H.length + 1) 1 0 0 ∧ fr 5 = .bool true ∧ fr 6 = .int .i64 N ∧ fr 7 = xs (ser g) ∧ fr 8 = bx st ∧ fr 9 = .ptr (H.length + 6) 1 0 0 ∧ fr 10 = .ref (H.length + 7) N ∧ fr 11 = .ref (H.length + 8) N ∧ fr 12 = .ref (H.length + 9) N ∧ fr 13 = .int .i64 k ∧ k ≤ N ∧ H' = H ++ lblk A V st vs N k H.length
set_option maxRecDepth 8000 in
theorem l10 (F : List (List Nd)) (l : List Nd) (b : List I) (t : I) (n : Int) (vs : List Int) (hvs : vs.length = 3) (hv : ∀ z ∈ vs, -2147483648 ≤ z ∧ z ≤ 2147483647) (hn : 0 ≤ n ∧ n ≤ 255) (hl : l.length ≤ 200000000000000) (hb : b.length ≤ 200000000000000) (H : AH) :
    Sound E 10 [inp F l b t n, i32s vs] H (.ret (.bool true)) H := by
  refine sound_of_awp tabOk mixed Tryd.func10 rfl (by rfl) Tryd.ntmps10 (by kernel_rfl) (by simp) ?_
  obtain ⟨N, hN, hN0, hN3⟩ := dimN n hn
  simp [inp, i32s, hvs]
  refine call_ret (sanityOk _) ?_
  simp
  refine call_ret (lDim F l b t n hn hN _) ?_
  simp
  refine callD_ret0 (fun Hx => r7Made l 15 N ⟨hN0, by omega⟩ hl (by decide) Hx) ?_
  simp
  refine callD_ret0 (fun Hx => r4SmallBox b N (by omega) hb Hx) ?_
  simp
  refine endD [] (by rfl) (by simp [okW, note, Eff.triv, Eff.wr, Eff.none, upTo, newAt]) ?_
  have hw := mde_wf hN0 l 15
  have hs := mde_sz N l 15
  have hd := mde_dp N l 15
  generalize mde N l 15 = g at *
  obtain ⟨st, hst⟩ : ∃ st, st = sbx b N N := ⟨_, rfl⟩
  have hstl : st.length = N := by rw [hst, sbx_len]
  have hpb : ∀ k, -16777216 < pkF st k ∧ pkF st k < 16777216 := fun k => by
    unfold pkF
    cases h : st[k]? with
    | none => simp
    | some p =>
      have hm := List.mem_of_getElem? h
      rw [hst] at hm
      obtain ⟨j, hj, rfl⟩ := List.mem_map.1 hm
      have := smi_b b j
      have hj' : j < N := by simpa using hj
      simp only [hj', if_true, Option.getD_some]; exact this
  rw [← hst]
  generalize hA : AV.agg [AV.slice (F.map xs) false, xs l, bx b, AV.int .i64 t.1, AV.int .i64 t.2, AV.int .u8 n] = A at *
  simp
  refine call_conv0 (args' := [.slice [] false, .int .i64 0, .int .i64 N]) (r7MadeSystemK N ⟨hN0, by omega⟩ _) (by simp; rfl) ?_
  simp
  refine bind_if (by omega) ?_
  simp
  refine bind_if (by omega) ?_
  simp
  refine bind_if (by omega) ?_
  simp
  refine endD [] (by rfl) (by simp [okW, note, Eff.triv, Eff.wr, Eff.none, upTo, newAt]) ?_
  simp
  refine loop_count (LLd g A (i32s vs) st vs N H) (fun k => N - k) 0 ⟨by simp, by simp, by simp, by simp, by simp, by simp, by simp, by simp, by simp, by simp, by omega, by simp [lblk, fill_zero, i32s, xs]⟩ ?_
  rintro k fr H' ⟨g3, g5, g6, g7, g8, g9, g10, g11, g12, g13, hk, rfl⟩
  simp [g6, g13]
  refine branch (fun hc => ?_) (fun hc => ?_)
  · have hlt : k < N := by simpa using hc
    obtain ⟨z, hz⟩ := get_lt (l := vs) (i := k) (by omega)
    obtain ⟨p, hp⟩ := get_lt (l := st) (i := k) (by omega)
    have hzE : ∀ h, vs[k]'h = z := fun h => (List.getElem?_eq_some_iff.1 hz).2
    have hpE : ∀ h, st[k]'h = p := fun h => (List.getElem?_eq_some_iff.1 hp).2
    have hzb := hv z (List.mem_of_getElem? hz)
    have hck : z.tmod 1048576 = ckF vs k := by unfold ckF; rw [hz]; rfl
    have hpk : p.1 = pkF st k := by unfold pkF; rw [hp]; rfl
    have cb := ckF_b vs k
    have pb := hpb k
    have wz : IntKind.i64.wrap z = z := wrap64 (by omega) (by omega)
    have wpc : IntKind.i64.wrap (pkF st k + ckF vs k) = pkF st k + ckF vs k := wrap64 (by omega) (by omega)
    have w2 : IntKind.i64.wrap ((k : Int) + 1) = ((k + 1 : Nat) : Int) := by rw [wrap64 (by omega) (by omega)]; omega
    have hk3 : (k : Int) < 3 := by omega
    have s1 := fill_succ (fun j => Ex.num (pt (ckF vs j))) (number 1) hlt
    have s2 := fill_succ (fun j => pt (pkF st j + ckF vs j)) (0, 0) hlt
    have s3 := fill_succ (fun j => hull (pt (pkF st j)) (pt (pkF st j + ckF vs j))) (0, 0) hlt
    have s4 := fill_succ (fun j => pt (pkF st j)) (0, 0) hlt
    have q2 := fill_get (fun j => pt (pkF st j + ckF vs j)) (0, 0) (n := N) (i := k + 1) hlt
    have q4 := fill_get (fun j => pt (pkF st j)) (0, 0) (n := N) (i := k + 1) hlt
    rw [if_pos (by omega)] at q2 q4
    simp [g3, g13, lblk, i32s, hvs, hk3, hz, hzE, wz]
    simp [hck, g9, g13]
    refine callD_ret0 (fun Hx => rPoint _ Hx) ?_
    simp [g9, g13]
    refine callD_ret0 (fun Hx => r7Const _ Hx) ?_
    have m1 : (List.map (fun e => AV.slice ((ser e).map nd) false) (fillL (fun j => Ex.num (pt (ckF vs j))) (number 1) N k)).set k (AV.slice ((ser (Ex.num (pt (ckF vs k)))).map nd) false) = List.map (fun e => AV.slice ((ser e).map nd) false) (fillL (fun j => Ex.num (pt (ckF vs j))) (number 1) N (k + 1)) := by
      rw [← s1, List.map_set]
    have m2 : (List.map iv (fillL (fun j => pt (pkF st j + ckF vs j)) (0, 0) N k)).set k (.agg [.int .i64 (pt (pkF st k + ckF vs k)).1, .int .i64 (pt (pkF st k + ckF vs k)).2]) = List.map iv (fillL (fun j => pt (pkF st j + ckF vs j)) (0, 0) N (k + 1)) := by
      rw [← s2, List.map_set]; rfl
    have m3 : (List.map iv (fillL (fun j => hull (pt (pkF st j)) (pt (pkF st j + ckF vs j))) (0, 0) N k)).set k (.agg [.int .i64 (hull (pt (pkF st k)) (pt (pkF st k + ckF vs k))).1, .int .i64 (hull (pt (pkF st k)) (pt (pkF st k + ckF vs k))).2]) = List.map iv (fillL (fun j => hull (pt (pkF st j)) (pt (pkF st j + ckF vs j))) (0, 0) N (k + 1)) := by
      rw [← s3, List.map_set]; rfl
    have m4 : (List.map iv (fillL (fun j => pt (pkF st j)) (0, 0) N k)).set k (.agg [.int .i64 (pt (pkF st k)).1, .int .i64 (pt (pkF st k)).2]) = List.map iv (fillL (fun j => pt (pkF st j)) (0, 0) N (k + 1)) := by
      rw [← s4, List.map_set]; rfl
    have r2 : (List.map iv (fillL (fun j => pt (pkF st j + ckF vs j)) (0, 0) N (k + 1)))[k]? = some (iv (pt (pkF st k + ckF vs k))) := by rw [List.getElem?_map, q2]; rfl
    have r4 : (List.map iv (fillL (fun j => pt (pkF st j)) (0, 0) N (k + 1)))[k]? = some (iv (pt (pkF st k))) := by rw [List.getElem?_map, q4]; rfl
    have e2 : ∀ h, (fillL (fun j => pt (pkF st j + ckF vs j)) (0, 0) N (k + 1))[k]'h = pt (pkF st k + ckF vs k) := fun h => (List.getElem?_eq_some_iff.1 q2).2
    have e4 : ∀ h, (fillL (fun j => pt (pkF st j)) (0, 0) N (k + 1))[k]'h = pt (pkF st k) := fun h => (List.getElem?_eq_some_iff.1 q4).2
    simp [g9, g13, hlt, xs, m1]
    refine endD [(6, 7)] (by rfl) (by simp [okW, note, Eff.triv, Eff.wr, Eff.none, upTo, newAt]) ?_
    simp [g8, g12, g13, bx, hp, hpE, hpk]
    refine call_ret (rPoint _ _) ?_
    simp [g12, g13, hlt, m4]
    simp [g8, g10, g13, bx, hp, hpE, hpk, wpc]
    refine call_ret (rPoint _ _) ?_
    simp [g10, g13, hlt, m2]
    simp [g10, g11, g12, g13, hlt, e2, e4]
    refine callD_ret0 (fun Hx => rHull _ _ Hx) ?_
    simp [g11, g13, hlt, m3]
    refine endD [(11, 12)] (by rfl) (by simp [okW, note, Eff.triv, Eff.wr, Eff.none, upTo, newAt]) ?_
    simp [g13, w2]
    exact ⟨k + 1, by show N - (k + 1) < N - k; omega, by simp [g3], by simp [g5], by simp [g6], by simp [g7], by simp [g8, bx], by simp [g9], by simp [g10], by simp [g11], by simp [g12], by simp, by omega, by simp [lblk, i32s, xs]⟩
  · have hk' : k = N := by have : ¬ k < N := by simpa using hc
                           omega
    subst hk'
    have hgw2 : (∀ z ∈ (List.range k).map (pkF st), -16777216 < z ∧ z < 16777216) := fun z hz => by obtain ⟨j, _, rfl⟩ := List.mem_map.1 hz; exact hpb j
    have hgw3 : (∀ z ∈ (List.range k).map (ckF vs), -1048576 < z ∧ z < 1048576) := fun z hz => by obtain ⟨j, _, rfl⟩ := List.mem_map.1 hz; exact ckF_b vs j
    have hcom := lie_common (g := g) (ps := (List.range k).map (pkF st)) (cs := (List.range k).map (ckF vs)) (by simp) hgw2 hgw3 (by simpa using hw)
    rw [zip_range, zip_range, List.length_map, List.length_range, List.map_map, List.map_map, List.map_map] at hcom
    obtain ⟨ends, hen⟩ : ∃ ends, ends = (List.range k).map fun j => pt (pkF st j + ckF vs j) := ⟨_, rfl⟩
    obtain ⟨tube, htu⟩ : ∃ tube, tube = (List.range k).map fun j => hull (pt (pkF st j)) (pt (pkF st j + ckF vs j)) := ⟨_, rfl⟩
    obtain ⟨pts, hpt⟩ : ∃ pts, pts = (List.range k).map fun j => pt (pkF st j) := ⟨_, rfl⟩
    obtain ⟨cst, hcs⟩ : ∃ cst, cst = (List.range k).map fun j => Ex.num (pt (ckF vs j)) := ⟨_, rfl⟩
    have hcom' : interB (sub (ev ends (pt 65536) g) (ev pts (pt 0) g)) (lieS tube (0, 65536) g ((List.range k).map fun j => pt (ckF vs j)) k) = true := by rw [hen, htu, hpt]; exact hcom
    have lend : ends.length = k := by simp [hen]
    have ltub : tube.length = k := by simp [htu]
    have lpts : pts.length = k := by simp [hpt]
    have lcst : cst.length = k := by simp [hcs]
    have vend : ∀ p ∈ ends, vB p = true := fun p hp => by rw [hen] at hp; obtain ⟨j, _, rfl⟩ := List.mem_map.1 hp; exact pt_valid _
    have vpts : ∀ p ∈ pts, vB p = true := fun p hp => by rw [hpt] at hp; obtain ⟨j, _, rfl⟩ := List.mem_map.1 hp; exact pt_valid _
    have vtub : ∀ p ∈ tube, vB p = true := fun p hp => by
      rw [htu] at hp; obtain ⟨j, _, rfl⟩ := List.mem_map.1 hp
      have b1 := hpb j
      have b2 := ckF_b vs j
      rw [pt_small (by omega), pt_small (by omega)]
      unfold vB
      rw [Bool.or_eq_true, Bool.and_eq_true, Bool.and_eq_true, numB_iff, numB_iff, decide_eq_true_iff]
      right; simp only [hull]; omega
    have wend : wf ends.length g = true := by rw [lend]; exact hw
    have wpts : wf pts.length g = true := by rw [lpts]; exact hw
    have wtub : wf tube.length g = true := by rw [ltub]; exact hw
    have f1' : fillL (fun j => Ex.num (pt (ckF vs j))) (number 1) k k = cst := by rw [fill_all, hcs]
    have f2' : fillL (fun j => pt (pkF st j + ckF vs j)) (0, 0) k k = ends := by rw [fill_all, hen]
    have f3' : fillL (fun j => hull (pt (pkF st j)) (pt (pkF st j + ckF vs j))) (0, 0) k k = tube := by rw [fill_all, htu]
    have f4' : fillL (fun j => pt (pkF st j)) (0, 0) k k = pts := by rw [fill_all, hpt]
    simp only [lblk, f1', f2', f3', f4']
    have t1 : vB (pt 65536) = true := by decide
    have t0 : vB (pt 0) = true := by decide
    have tb : vB ((0, 65536) : I) = true := by decide
    have ve1 := ev_valid vend t1 g wend
    have ve2 := ev_valid vpts t0 g wpts
    obtain ⟨sy, hsy⟩ : ∃ sy : Sys, sy = ⟨nms.take k, cst⟩ := ⟨_, rfl⟩
    have hsf : sy.f = cst := by rw [hsy]
    have hfs' : ∀ e ∈ sy.f, sz e ≤ 1000000000 ∧ wf tube.length e = true := fun e he => by
      rw [hsf, hcs] at he; obtain ⟨j, _, rfl⟩ := List.mem_map.1 he
      exact ⟨by rw [sz_num]; decide, pt_valid _⟩
    have zt := ((sz_dp 5 g hd).2 .tm).1
    rw [f1_5] at zt
    have zs : ∀ j : Nat, sz (dif (.st j) g) ≤ 302 := fun j => by have := ((sz_dp 5 g hd).2 (.st j)).1; rw [f1_5] at this; exact this
    have hfe : sy.f.map (ev tube (0, 65536)) = (List.range k).map fun j => pt (ckF vs j) := by rw [hsf, hcs, List.map_map]; rfl
    have lie := fun Hx => jLieDerivative sy g tube (0, 65536) vtub (by omega) tb hfs' (by rw [hsf]; omega) (by omega) wtub (by omega) (fun j _ => by have := zs j; omega) Hx
    rw [hfe, lieSum_eq, show sy.f.length = k by rw [hsf, lcst]] at lie
    obtain ⟨R, hR⟩ : ∃ R, R = lieS tube (0, 65536) g ((List.range k).map fun j => pt (ckF vs j)) k := ⟨_, rfl⟩
    rw [← hR] at lie hcom'
    have vR : vB R = true := by rw [hR]; exact lieS_valid vtub tb wtub _
    simp [g7, g10]
    refine call_ret (rPoint _ _) ?_
    simp [g10]
    refine call_conv0 (args' := [xs (ser g), bx ends, iv (pt 65536)]) (r7Eval ends (pt 65536) vend (by omega) t1 _ g (Nat.le_refl _) (by omega) wend _) (by simp [bx, lend]; rfl) ?_
    simp [g7, g12]
    refine call_ret (rPoint _ _) ?_
    simp [g12]
    refine call_conv0 (args' := [xs (ser g), bx pts, iv (pt 0)]) (r7Eval pts (pt 0) vpts (by omega) t0 _ g (Nat.le_refl _) (by omega) wpts _) (by simp [bx, lpts]; rfl) ?_
    simp
    refine call_ret (rSub _ _ ve1 ve2 _) ?_
    generalize sub (ev ends (pt 65536) g) (ev pts (pt 0) g) = D at *
    simp [g7, g9, g11]
    refine call_conv0 (args' := [sys sy, xs (ser g), bx tube, iv (0, 65536)]) (lie _) (by simp [bx, ltub, lcst, sys, hsy, show min k nms.length = k by have : nms.length = 6 := rfl; omega]; rfl) ?_
    simp
    refine call_ret (rValid _ _) ?_
    rw [vR]
    simp
    refine call_ret (rIntersect _ _ _) ?_
    rw [hcom']
    simp [g5]
    exact fin1 (rs := [.tmp 4]) (by rfl) (by simp [resA]) (by simp [noF])
end Go.Proofs.YtohmodcheahpgaaDoor.Arm

namespace Go.Proofs.YtohmodcheahpgaaDoor.Arm
open Go.Arm Go.Pl

theorem okUx {n : Nat} {v : AV} (h : OkA tab (n + 3) 49 v) : ∃ l : List Int, v = ux l ∧ ∀ x ∈ l, 0 ≤ x ∧ x ≤ 65535 := by
  obtain ⟨l, rfl, hl, _⟩ := okRow (f := .int .u16) (p := fun x => 0 ≤ x ∧ x ≤ 65535) tab49 rfl tab94 (by decide) (fun x hx => by
    obtain ⟨a, rfl, ha⟩ := okInt tab94 rfl hx
    exact ⟨a, rfl, wfU16 ha⟩) h
  exact ⟨l, rfl, hl⟩
theorem flat_int {k : IntKind} (l : List Int) : (l.map (AV.int k)).flatMap AV.cells = l.map (.int k) := by
  induction l with
  | nil => rfl
  | cons a r ih => simp only [List.map_cons, List.flatMap_cons, ih]; rfl
theorem okInts {n m : Nat} {k : IntKind} {p : Int → Prop} {t e : TypeId} {i ie : TI} {v : AV} (hi : tab t = some i) (hd : i.d = .arr m e) (he : tab e = some ie) (hk : ie.d = .int k) (hp : ∀ x, (Lit.int k x).wf = true → p x) (h : OkA tab (n + 2) t v) : ∃ l : List Int, v = .agg (l.map (.int k)) ∧ l.length = m ∧ ∀ x ∈ l, p x := by
  obtain ⟨vs, hl, rfl, hv⟩ := okArr hi hd h
  obtain ⟨l, rfl, hl'⟩ := list_of (f := .int k) (p := p) (xs := vs) (fun x hx => by
    obtain ⟨a, rfl, ha⟩ := okInt he hk (hv x hx)
    exact ⟨a, rfl, hp a ha⟩)
  exact ⟨l, by rw [flat_int], by simpa using hl, hl'⟩
end Go.Proofs.YtohmodcheahpgaaDoor.Arm
