/- Part of a proof: what the functions of the program do to abstract states, step by step. -/
import Derived.Test.YtfjjckepnkkgjaaGreatDoorM4
import Derived.WalkKit
import Derived.Stop.Asserts
import Derived.Lib.IfaceEq
import Derived.RowKitTokens
import Derived.Test.YtfjjckepnkkgjaaGreatDoorTie
import Derived.Test.YtfjjckepnkkgjaaGreatDoorCards
import Derived.ProofKit
import Derived.Stop.Joined
import Derived.SevenTiedAt
set_option linter.unusedVariables false
set_option linter.unusedSimpArgs false
namespace Go.Proofs.YtfjjckepnkkgjaaGreatDoor.Arm
open Go.Arm Go.Pl
def fndA : Option (List I) → AV
  | some d => bx d
  | none => .nilslice
theorem pEnclose (T : Tp) (x : List I) (t h : Int) (hT : tpOk T) (hx : allV x) (hxn : x.length = T.n) (hn : 1 ≤ T.n) (hh : 0 ≤ h ∧ h ≤ 1000000000) (ht : -1000000000 ≤ t ∧ t ≤ 1000000000) (H : AH) :
    Sound E 117 [tpA T, bx x, .agg [.int .i64 t, .int .i64 h]] H (.ret (encA (enclS T x t h))) H := by
  refine sound_of_awp tabOk mixed Tryz.func117 rfl (by rfl) Tryz.ntmps117 (by kernel_rfl) (by simp) ?_
  have hsm := hT.small
  have henc : enclS T x t h = (candP T x t h 8 (hullB x (imageB T x x t h))).findSome? hitP := encS_cand T x t h 8 _
  have hcand := candP_ok (T := T) (t := t) (h := h) hx 8 (hullB x (imageB T x x t h)) (hullB_valid hx (imageB_valid hx)) (by rw [hullB_len])
  rw [henc]
  have hI1 := fun bl H1 M hM hY => pCandidates1 T x t h (H.length + 4) (H.length + 3) (H.length + 5) bl M H1 hT hx hxn hh ht hM hY
  generalize candP T x t h 8 (hullB x (imageB T x x t h)) = L at *
  simp [tpA]
  refine call_ret (by simpa [tpA] using pCandidates T x t h _) ?_
  simp
  refine range_it 9 (by rfl) (fun N hN => ?_)
  generalize hk : (LK.mk N _ _ _) = k at hN ⊢
  generalize hf : List.map _ (List.range 9) = frs
  have h4 : frs[8]? = some (.ptr (H.length + 2) 1 0 0) := by rw [← hf]; simp
  let MM : Option (List I) → LSt → AH := fun r st => H ++ [.row true 3 [tpA T], .row true 2 [.agg [.int .i64 t, .int .i64 h]], .row true 1 [fndA r], .row true 3 [tpA T], .row true 1 [bx x], .row true 2 [.agg [.int .i64 t, .int .i64 h]], .loop k st frs]
  have halt : ∀ r st, alters (MM none .ready) (MM r st) := fun r st => alters_of ⟨.same _, .same _, .inr (.inl (by cases r <;> simp [fndA, noFB, noFs, noF, bx, iv_noFs])), .same _, .same _, .same _, .loop, trivial⟩
  have hP : ∀ r st, CandM T x t h (H.length + 4) (H.length + 3) (H.length + 5) (MM r st) := fun r st => ⟨⟨true, by simp [MM]⟩, ⟨true, by simp [MM]⟩, ⟨true, by simp [MM]⟩⟩
  have hround : ∀ p ∈ L, ∀ (J : AH), YSound E (H.length + 6) [bx p.1, bx p.2] (MM none .ready ++ J) (.bool (!(subI p.2 p.1))) (MM (hitP p) (if subI p.2 p.1 then .done (.exit 0) else .ready) ++ J) := by
    intro p hp J
    obtain ⟨q1, q2, q3, q4⟩ := hcand p hp
    refine yield_sound tabOk mixed (k := k) (frs := frs) (by simp [MM]) (by rw [← hk]; rfl) hN ?_
    have ka := congrArg LK.assign hk
    have kb := congrArg LK.body hk
    have kp := congrArg LK.ps hk
    dsimp only at ka kb kp
    rw [← ka, ← kb, ← kp]
    clear ka kb kp hk hf hN
    simp [roundFr]
    rw [assignK_normal]
    refine ⟨by simp [MM], ?_⟩
    simp [MM]
    refine call_ret (bSubset p.2 p.1 (by omega) (by omega) _) ?_
    simp
    refine branch (fun hs => ?_) (fun hs => ?_)
    · simp [h4, hs, fndA, bx]
      rw [roundK_exit]
      refine ⟨by simp, rfl, ?_⟩
      have := Leaves.alters (J := J) (X := []) (halt (some p.2) (.done (.exit 0)))
      simpa [MM, hitP, hs, fndA, bx] using this
    · simp [hs]
      rw [roundK_normal]
      refine ⟨by simp, rfl, ?_⟩
      have := Leaves.alters (J := J) (X := []) (halt none .ready)
      simpa [MM, hitP, hs, fndA, bx] using this
  have hrun : ∀ l : List (List I × List I), (∀ p ∈ l, p ∈ L) → YRuns E (H.length + 6) (CandM T x t h (H.length + 4) (H.length + 3) (H.length + 5)) (candA l) (MM none .ready) (MM (l.findSome? hitP) (if (l.findSome? hitP).isSome then .done (.exit 0) else .ready)) := by
    intro l
    induction l with
    | nil => intro _; exact .nil _
    | cons p l ih =>
      intro hl
      have hr := hround p (hl p (by simp))
      rw [List.findSome?_cons]
      cases hs : subI p.2 p.1 with
      | true =>
        have e : hitP p = some p.2 := by simp [hitP, hs]
        rw [hs, e] at hr
        rw [e]
        exact .stop (halt _ _) (hP _ _) hr
      | false =>
        have e : hitP p = none := by simp [hitP, hs]
        rw [hs, e] at hr
        rw [e]
        exact .go (halt _ _) (hP _ _) hr (ih fun q hq => hl q (by simp [hq]))
  have hS := hI1 (H.length + 6) _ _ (hP none .ready) (hrun L fun p hp => hp)
  have hmem : ∀ d, L.findSome? hitP = some d → d ≠ [] := by
    intro d hd
    obtain ⟨p, hp, hpd⟩ := List.exists_of_findSome?_eq_some hd
    have := hcand p hp
    unfold hitP at hpd
    split at hpd
    · cases hpd
      intro h0
      have h1 := this.2.2.2
      rw [h0] at h1
      simp at h1; omega
    · cases hpd
  cases hr : L.findSome? hitP with
  | none =>
    rw [hr] at hS
    refine ⟨_, _, k, .ready, frs, by simpa [MM, fndA, tpA] using hS, by simp, ?_⟩
    simp [jumpA, binOpA, binA, eqA, nilI]
    refine endD [] (by rfl) (by simp [okW, note, Eff.triv, Eff.wr, Eff.none, upTo, newAt]) ?_
    simp
    exact ⟨[.nilslice, .bool false], [.nilslice, .bool false], by simp [show (Tryz.f117).results.toList = [.tmp 6, .tmp 7] from rfl, resA], .drop (by simp [noFs, noF]), rfl⟩
  | some d =>
    rw [hr] at hS
    refine ⟨_, _, k, .done (.exit 0), frs, by simpa [MM, fndA, tpA] using hS, by simp, ?_⟩
    have hd := hmem d hr
    obtain ⟨p, r, rfl⟩ : ∃ p r, d = p :: r := by cases d with
      | nil => exact absurd rfl hd
      | cons p r => exact ⟨p, r, rfl⟩
    simp [jumpA, bx, binOpA, binA, eqA, nilI]
    refine endD [] (by rfl) (by simp [okW, note, Eff.triv, Eff.wr, Eff.none, upTo, newAt]) ?_
    simp
    exact ⟨[bx (p :: r), .bool true], [bx (p :: r), .bool true], by simp [show (Tryz.f117).results.toList = [.tmp 6, .tmp 7] from rfl, resA, bx], .drop (by simp only [noFs, noF, bx, iv_noFs, Bool.and_self]), rfl⟩
end Go.Proofs.YtfjjckepnkkgjaaGreatDoor.Arm

namespace Go.Proofs.YtfjjckepnkkgjaaGreatDoor.Arm
open Go.Arm Go.Pl
def zsA : AV := .agg [.int .i64 0, .int .i64 0, .nilslice, .nilslice, .nilslice, .nilslice]
def sgO : Option Sg → AV
  | some s => .tuple [sgA s, .bool true]
  | none => .tuple [zsA, .bool false]
theorem kBounded (s : Sg) (h1 : s.to.length ≤ 1000000) (h2 : s.tube.length ≤ 1000000) (H : AH) : Sound E 120 [sgA s] H (.ret (sgO (if boundedB s.tube && boundedB s.to then some s else none))) H := by
  refine sound_of_awp tabOk mixed Tryz.func120 rfl (by rfl) Tryz.ntmps120 (by kernel_rfl) (by simp) ?_
  have hS := fun b Hx hl => sContainsFunc b 127 [] entB Hx hl (fun p _ => by simpa using iIsEntire p Hx)
  have e : ∀ b : List I, boundedB b = !(b.any entB) := fun b => by
    unfold boundedB
    rw [List.not_any_eq_all_not]
  simp only [e]
  obtain ⟨t, h, frm, pre, tube, to⟩ := s
  simp only at h1 h2 ⊢
  simp [sgA, bx]
  refine call_ret (by simpa [bx] using hS tube _ h2) ?_
  simp
  cases m1 : tube.any entB with
  | true =>
    simp
    exact ⟨[zsA, .bool false], [zsA, .bool false], by simp [show (Tryz.f120).results.toList = [.cell 2 47, .tmp 3] from rfl, resA, zsA], .drop (by simp [noFs, noF, zsA]), rfl⟩
  | false =>
    simp
    refine call_ret (by simpa [bx] using hS to _ h1) ?_
    simp
    cases m2 : to.any entB with
    | true =>
      simp
      exact ⟨[zsA, .bool false], [zsA, .bool false], by simp [show (Tryz.f120).results.toList = [.cell 2 47, .tmp 3] from rfl, resA, zsA], .drop (by simp [noFs, noF, zsA]), rfl⟩
    | false =>
      simp
      exact ⟨[sgA ⟨t, h, frm, pre, tube, to⟩, .bool true], [sgA ⟨t, h, frm, pre, tube, to⟩, .bool true], by simp [show (Tryz.f120).results.toList = [.cell 2 47, .tmp 3] from rfl, resA, sgA, bx], .drop (by simp only [noFs, noF, sgA, bx, iv_noFs, Bool.and_self]), rfl⟩
theorem kStep1 (T : Tp) (x b : List I) (t h lo hi : Int) (order : Nat) (c4 c5 c10 c6 c7 : Nat) (w4 w5 w10 w6 w7 : Bool) (hT : tpOk T) (hx : allV x) (hxn : x.length = T.n) (hb : allV b) (hbn : b.length = T.n) (hh : 0 ≤ h ∧ h ≤ 1000000000) (ht : -1000000000 ≤ t ∧ t ≤ 1000000000) (hp : vB (lo, hi) = true) (ho : 1 ≤ order ∧ order ≤ 900) (H : AH)
    (m4 : H[c4]? = some (.row w4 3 [tpA T])) (m5 : H[c5]? = some (.row w5 1 [bx x])) (m10 : H[c10]? = some (.row w10 1 [bx b])) (m6 : H[c6]? = some (.row w6 2 [.agg [.int .i64 t, .int .i64 h]])) (m7 : H[c7]? = some (.row w7 1 [.int .i64 order])) :
    Sound E 118 [.int .i64 lo, .int .i64 hi, .ptr c4 1 0 0, .ptr c5 1 0 0, .ptr c10 1 0 0, .ptr c6 1 0 0, .ptr c7 1 0 0] H (.ret (bx (enclAt T x b t h (lo, hi) order))) H := by
  refine sound_of_awp tabOk mixed Tryz.func118 rfl (by rfl) Tryz.ntmps118 (by kernel_rfl) (by simp) ?_
  have hS := kEnclosureAt T x b t h (lo, hi) order hT hx hxn hb hbn hh ht hp ho H
  generalize enclAt T x b t h (lo, hi) order = r at *
  simp only [tpA] at m4
  simp only [bx] at m5 m10
  simp [m4, m5, m6, m7, m10]
  refine call_ret (by simpa [tpA, bx] using hS) ?_
  simp
  exact fin0 (rs := [.tmp 9]) (by rfl) (by simp [resA, bx])
theorem restrB_valid {a b : List I} (ha : allV a) (hb : allV b) : allV (restrB a b) := rangeV fun i => restrI_valid (atN_valid ha i) (atN_valid hb i)
theorem restrB_len (a b : List I) : (restrB a b).length = a.length := by simp [restrB]
theorem enclAt_ok {T : Tp} {x b : List I} {t h : Int} {part : I} {order : Nat} (hT : tpOk T) (hx : allV x) (hb : allV b) (hh : 0 ≤ h ∧ h ≤ 1000000000) (ht : -1000000000 ≤ t ∧ t ≤ 1000000000) (hp : vB part = true) :
    allV (enclAt T x b t h part order) ∧ (enclAt T x b t h part order).length = T.n := by
  have htv : vB (t, t + h) = true := vB_pair (by omega) (by omega) (by omega)
  have htv2 : vB (t, t) = true := vB_pair (by omega) (by omega) (by omega)
  have hr := withRem_rows (coefS_rows (order := order) hT hx htv2) (remS_valid (order := order) hT hb htv)
  unfold enclAt
  refine ⟨restrB_valid (fun p hp => ?_) hb, by rw [restrB_len, evalS_len, withRem_len, coefS_len hT hx htv2]⟩
  obtain ⟨q, hq, rfl⟩ := List.mem_map.1 hp
  exact hornS_valid (hr q hq).2
theorem enclS_ok {T : Tp} {x d : List I} {t h : Int} (hx : allV x) (h0 : enclS T x t h = some d) : allV d ∧ d.length = x.length := by
  rw [show enclS T x t h = (candP T x t h 8 (hullB x (imageB T x x t h))).findSome? hitP from encS_cand T x t h 8 _] at h0
  obtain ⟨p, hp, hpd⟩ := List.exists_of_findSome?_eq_some h0
  have := candP_ok hx 8 _ (hullB_valid hx (imageB_valid hx)) (by rw [hullB_len]) p hp
  unfold hitP at hpd
  split at hpd
  · cases hpd; exact this.2.2
  · cases hpd
theorem kIntervalStep (T : Tp) (x : List I) (t h : Int) (order : Nat) (hT : tpOk T) (hx : allV x) (hxn : x.length = T.n) (hn : 1 ≤ T.n) (hh : 0 ≤ h ∧ h ≤ 1000000000) (ht : -1000000000 ≤ t ∧ t ≤ 1000000000) (ho : 1 ≤ order ∧ order ≤ 900) (H : AH) :
    Sound E 92 [tpA T, bx x, .agg [.int .i64 t, .int .i64 h], .int .i64 order] H (.ret (sgO (istepS T x t h order))) H := by
  refine sound_of_awp tabOk mixed Tryz.func92 rfl (by rfl) Tryz.ntmps92 (by kernel_rfl) (by simp) ?_
  have hsm := hT.small
  have hE := pEnclose T x t h hT hx hxn hn hh ht
  unfold istepS
  cases hr : enclS T x t h with
  | none =>
    rw [hr] at hE
    simp [tpA, bx]
    refine call_ret (by simpa [tpA, bx] using hE _) ?_
    simp [encA]
    exact ⟨[zsA, .bool false], [zsA, .bool false], by simp [show (Tryz.f92).results.toList = [.cell 8 47, .tmp 9] from rfl, resA, zsA], .drop (by simp [noFs, noF, zsA]), rfl⟩
  | some b =>
    rw [hr] at hE
    obtain ⟨hbv, hbl⟩ := enclS_ok hx hr
    have hp1 : vB (0, h) = true := vB_pair (by omega) (by omega) (by omega)
    have hp2 : vB (h, h) = true := vB_pair (by omega) (by omega) (by omega)
    have hS1 := fun lo hi hp c4 c5 c10 c6 c7 Hx m4 m5 m10 m6 m7 => kStep1 T x b t h lo hi order c4 c5 c10 c6 c7 true true true true true hT hx hxn hbv (by omega) hh ht hp ho Hx m4 m5 m10 m6 m7
    have k1 := enclAt_ok (order := order) hT hx hbv hh ht hp1
    have k2 := enclAt_ok (order := order) hT hx hbv hh ht hp2
    have hA := hS1 0 h hp1
    have hB := hS1 h h hp2
    have hK := kBounded ⟨t, h, x, b, enclAt T x b t h (0, h) order, enclAt T x b t h (h, h) order⟩ (by simp only; omega) (by simp only; omega)
    simp only at hK ⊢
    generalize (if (boundedB (enclAt T x b t h (0, h) order) && boundedB (enclAt T x b t h (h, h) order)) = true then some (Sg.mk t h x b (enclAt T x b t h (0, h) order) (enclAt T x b t h (h, h) order)) else none) = R at *
    generalize enclAt T x b t h (0, h) order = A at *
    generalize enclAt T x b t h (h, h) order = B at *
    simp [tpA, bx]
    refine call_ret (by simpa [tpA, bx] using hE _) ?_
    simp [encA, bx]
    refine callD_rdA (fun X => by simpa using hA _ _ _ _ _ _ (by simp [tpA]) (by simp [bx]) (by simp [bx]) (by simp) (by simp)) ?_
    simp
    refine callD_rdA (fun X => by simpa using hB _ _ _ _ _ _ (by simp [tpA]) (by simp [bx]) (by simp [bx]) (by simp) (by simp)) ?_
    simp [bx]
    refine callD_ret0 (fun Hx => by simpa [sgA, bx] using hK Hx) ?_
    cases R with
    | none =>
      simp [sgO, zsA]
      refine endD [(9, 20), (15, 20)] (by rfl) (by simp [okW, note, Eff.triv, Eff.wr, Eff.none, upTo, newAt]) ?_
      simp
      exact ⟨[zsA, .bool false], [zsA, .bool false], by simp [show (Tryz.f92).results.toList = [.cell 8 47, .tmp 9] from rfl, resA, zsA], .drop (by simp [noFs, noF, zsA]), rfl⟩
    | some s =>
      simp [sgO, sgA, bx]
      refine endD [(9, 20), (15, 20)] (by rfl) (by simp [okW, note, Eff.triv, Eff.wr, Eff.none, upTo, newAt]) ?_
      simp
      exact ⟨[sgA s, .bool true], [sgA s, .bool true], by simp [show (Tryz.f92).results.toList = [.cell 8 47, .tmp 9] from rfl, resA, sgA, bx], .drop (by simp only [noFs, noF, sgA, bx, iv_noFs, Bool.and_self]), rfl⟩
end Go.Proofs.YtfjjckepnkkgjaaGreatDoor.Arm

namespace Go.Arm
open Go.RowKit
theorem alters.set (H : AH) (b : Nat) {k : ABlk} (hk : noFB H.length k = true) : alters H (H.set b k) := by
  refine ⟨by simp, fun c => ?_⟩
  by_cases h : b = c
  · subst h
    by_cases hlt : b < H.length
    · exact .inr (.inl ⟨k, by simp [hlt], hk⟩)
    · left; rw [List.set_eq_of_length_le (by omega)]
  · left; rw [List.getElem?_set_ne h]
inductive YTurns (E : Env) (b : Nat) (C : List Nat) : List (List AV × (AH → AH)) → AH → AH → Prop
  | nil (H : AH) : YTurns E b C [] H H
  | stop {a : List AV} {f : AH → AH} {r : List (List AV × (AH → AH))} {H H' : AH} (h1 : alters H H') (h2 : ∀ c ∈ C, H'[c]? = H[c]?) (h3 : ∀ J : AH, YSound E b a (H ++ J) (.bool false) (H' ++ J)) : YTurns E b C ((a, f) :: r) H H'
  | go {a : List AV} {f : AH → AH} {r : List (List AV × (AH → AH))} {H H1 H' : AH} (h1 : alters H H1) (h2 : ∀ c ∈ C, H1[c]? = H[c]?) (h3 : ∀ J : AH, YSound E b a (H ++ J) (.bool true) (H1 ++ J)) (h4 : YTurns E b C r (f H1) H') : YTurns E b C ((a, f) :: r) H H'
theorem YTurns.cases_cons {E : Env} {b : Nat} {C : List Nat} {a : List AV} {f : AH → AH} {r : List (List AV × (AH → AH))} {H H' : AH} (h : YTurns E b C ((a, f) :: r) H H') :
    ∃ (go : Bool) (H1 : AH), Arm.alters H H1 ∧ (∀ c ∈ C, H1[c]? = H[c]?) ∧ (∀ J : AH, YSound E b a (H ++ J) (.bool go) (H1 ++ J)) ∧ (go = false → H1 = H') ∧ (go = true → YTurns E b C r (f H1) H') := by
  cases h with
  | stop h1 h2 h3 => exact ⟨false, _, h1, h2, h3, fun _ => rfl, nofun⟩
  | go h1 h2 h3 h4 => exact ⟨true, _, h1, h2, h3, nofun, fun _ => h4⟩
end Go.Arm

namespace Go.Pl
theorem tdiv2 {h : Int} (h0 : 0 ≤ h) : h.tdiv 2 = h / 2 := Int.tdiv_eq_ediv_of_nonneg h0
theorem candS_fuel (c : Ct) (hl : 1 ≤ c.least) : ∀ (k : Nat) (h : Int) (n : Nat), 1 ≤ h → h.toNat ≤ k → h.toNat < n → candS c n h = candS c (h.toNat + 1) h
  | 0, h, n, h1, hk, hn => by omega
  | k + 1, h, n, h1, hk, hn => by
    obtain ⟨m, rfl⟩ : ∃ m, n = m + 1 := ⟨n - 1, by omega⟩
    simp only [candS]
    split
    · rfl
    · rename_i hd
      have e := tdiv2 (h := h) (by omega)
      have h2 : 1 ≤ h.tdiv 2 := by omega
      have h3 : (h.tdiv 2).toNat < h.toNat := by omega
      rw [candS_fuel c hl k (h.tdiv 2) m h2 (by omega) (by omega), candS_fuel c hl k (h.tdiv 2) h.toNat h2 (by omega) h3]
theorem cands_cons {c : Ct} {h : Int} (hl : 1 ≤ c.least) (h1 : 1 ≤ h) : cands c h = h :: if h.tdiv 2 < c.least then [] else cands c (h.tdiv 2) := by
  unfold cands
  have : candS c (h.toNat + 1) h = h :: if h.tdiv 2 < c.least then [] else candS c h.toNat (h.tdiv 2) := rfl
  rw [this]
  split
  · rfl
  · have e := tdiv2 (h := h) (by omega)
    rw [candS_fuel c hl _ (h.tdiv 2) h.toNat (by omega) (Nat.le_refl _) (by omega)]
theorem cands_bound {c : Ct} (hl : 1 ≤ c.least) : ∀ (k : Nat) {h : Int}, 1 ≤ h → h.toNat ≤ k → ∀ g ∈ cands c h, 1 ≤ g ∧ g ≤ h
  | 0, h, h1, hk, g, hg => by omega
  | k + 1, h, h1, hk, g, hg => by
    rw [cands_cons hl h1] at hg
    rcases List.mem_cons.1 hg with rfl | hg
    · omega
    · split at hg
      · cases hg
      · have e := tdiv2 (h := h) (by omega)
        have := cands_bound hl k (h := h.tdiv 2) (by omega) (by omega) g hg
        omega
end Go.Pl

namespace Go.Proofs.YtfjjckepnkkgjaaGreatDoor.Arm
open Go.Arm Go.Pl
theorem cCandidates (c : Ct) (h : Int) (H : AH) : Sound E 91 [ctA c, .int .i64 h] H (.ret (.func (.func 115) [] [.ptr (H.length + 1) 1 0 0, .ptr H.length 1 0 0])) (H ++ [.row true 5 [ctA c], .row true 1 [.int .i64 h]]) := by
  refine sound_of_awp tabOk mixed Tryz.func91 rfl (by rfl) Tryz.ntmps91 (by kernel_rfl) (by simp) ?_
  simp [ctA]
  exact finK (rs := [.tmp 4]) (vs := [.func (.func 115) [] [.ptr (H.length + 1) 1 0 0, .ptr H.length 1 0 0]]) (by rfl) (by simp [resA]) rfl
def turnA (c : Ct) (ch : Nat) (l : List Int) : List (List AV × (AH → AH)) := l.map fun h => ([.int .i64 h], fun M => M.set ch (.row true 1 [.int .i64 (shrinkS c h).1]))
def LCn (c : Ct) (ch cc bl : Nat) (H H1 : AH) (n : Nat) (fr : AFr) (H' : AH) : Prop :=
  fr 0 = .yld bl ∧ fr 1 = .ptr ch 1 0 0 ∧ fr 2 = .ptr cc 1 0 0 ∧ ∃ M J, H' = M ++ J ∧ alters H M ∧ (∃ w, M[cc]? = some (.row w 5 [ctA c])) ∧
  ((n = 0 ∧ (∃ e, fr 4 = .int .i64 e ∧ e ≠ 0) ∧ M = H1) ∨ ∃ h : Int, 1 ≤ h ∧ h ≤ 1000000000 ∧ n = h.toNat + 1 ∧ fr 4 = .int .i64 0 ∧ M[ch]? = some (.row true 1 [.int .i64 h]) ∧ YTurns E bl [ch, cc] (turnA c ch (cands c h)) M H1)
theorem cCandidates1 (c : Ct) (h : Int) (ch cc bl : Nat) (H H1 : AH) (hh : 1 ≤ h ∧ h ≤ 1000000000) (hl : 1 ≤ c.least) (hne : ch ≠ cc) (hc : ∃ w, H[cc]? = some (.row w 5 [ctA c])) (hm : H[ch]? = some (.row true 1 [.int .i64 h]))
    (hY : YTurns E bl [ch, cc] (turnA c ch (cands c h)) H H1) :
    Sound E 115 [.yld bl, .ptr ch 1 0 0, .ptr cc 1 0 0] H (.ret (.tuple [])) H1 := by
  refine sound_of_awp tabOk mixed Tryz.func115 rfl (by rfl) Tryz.ntmps115 (by kernel_rfl) (by simp) ?_
  simp
  refine loop_count (LCn c ch cc bl H H1) (fun n => n) (h.toNat + 1) ⟨by simp, by simp, by simp, H, [], by simp, .refl H, hc, .inr ⟨h, hh.1, hh.2, rfl, by simp, hm, hY⟩⟩ ?_
  clear hc hm hY hh
  clear h
  rintro n fr H' ⟨g0, g1, g2, M, J, rfl, hal, ⟨w, hc⟩, hst⟩
  rcases hst with ⟨rfl, ⟨e, g4, he⟩, rfl⟩ | ⟨h, h1, h2, rfl, g4, hm, hY⟩
  · have he2 : (e == 0) = false := by simpa using he
    simp [g4, he2]
    exact finY (by rfl) hal
  · have hml := (List.getElem?_eq_some_iff.1 hm).1
    rw [cands_cons hl h1] at hY
    obtain ⟨go, M1, a1, a2, a3, a4, a5⟩ := YTurns.cases_cons (show YTurns E bl [ch, cc] (([.int .i64 h], fun M => M.set ch (.row true 1 [.int .i64 (shrinkS c h).1])) :: turnA c ch (if h.tdiv 2 < c.least then [] else cands c (h.tdiv 2))) M H1 from hY)
    have b1 := a2 ch (by simp)
    have b2 := a2 cc (by simp)
    rw [hm] at b1
    rw [hc] at b2
    have hm1l := (List.getElem?_eq_some_iff.1 b1).1
    simp only [ctA] at b2
    simp [g0, g1, g4, hm, get_old hm]
    refine call_yld (by simpa using a3 J) ?_
    simp
    refine branch (fun hg => ?_) (fun hg => ?_)
    · simp [g1, g2, b1, b2, get_old b1, get_old b2]
      refine call_ret (by simpa [ctA] using cShrink c h (by omega) _) ?_
      simp [shA, g1, b1, get_old b1]
      have hY2 := a5 (by simpa using hg)
      have e2 := tdiv2 (h := h) (by omega)
      have hcc : (M1.set ch (.row true 1 [.int .i64 (shrinkS c h).1]))[cc]? = some (.row w 5 [ctA c]) := by rw [List.getElem?_set_ne hne]; simpa [ctA] using b2
      by_cases hs : h.tdiv 2 < c.least
      · rw [if_pos hs] at hY2
        cases hY2
        have hs2 : shrinkS c h = (0, 130) := by unfold shrinkS; rw [if_pos hs]
        exact ⟨0, by show 0 < h.toNat + 1; omega, by simp [g0], by simp [g1], by simp [g2], _, J, List.set_append_left _ _ hm1l, (hal.trans a1).trans (alters.set _ _ (by simp [noFB, noFs, noF])), ⟨w, hcc⟩, .inl ⟨rfl, ⟨130, by simp [hs2], by omega⟩, rfl⟩⟩
      · rw [if_neg hs] at hY2
        have hs2 : shrinkS c h = (h.tdiv 2, 0) := by unfold shrinkS; rw [if_neg hs]
        refine ⟨(h.tdiv 2).toNat + 1, by show (h.tdiv 2).toNat + 1 < h.toNat + 1; omega, by simp [g0], by simp [g1], by simp [g2], _, J, List.set_append_left _ _ hm1l, (hal.trans a1).trans (alters.set _ _ (by simp [noFB, noFs, noF])), ⟨w, hcc⟩, .inr ⟨h.tdiv 2, by omega, by omega, rfl, by simp [hs2], ?_, hY2⟩⟩
        rw [List.getElem?_set_self hm1l, hs2]
    · have e := a4 hg
      subst e
      simp
      exact finY (by rfl) (hal.trans a1)
end Go.Proofs.YtfjjckepnkkgjaaGreatDoor.Arm

namespace Go.Pl
structure SgOk (T : Tp) (x : List I) (t h : Int) (s : Sg) : Prop where
  ht : s.t = t
  hh : s.h = h
  hx : s.frm = x
  vpre : allV s.pre
  npre : s.pre.length = T.n
  vtube : allV s.tube
  ntube : s.tube.length = T.n
  vto : allV s.to
  nto : s.to.length = T.n
theorem horn_val {h : I} : ∀ {s : List I}, allV s → vB (hornS s h) = true
  | [], _ => (by decide : vB (0, 0) = true)
  | [a], hs => hs a (by simp)
  | a :: b :: r, hs => add_valid mul_valid (hs a (by simp))
theorem coefS_okL {T : Tp} {x : List I} {t : I} {order : Nat} (hT : tpOk T) (hx : allV x) (ht : vB t = true) : (coefS T x t order).length = T.n ∧ ∀ q ∈ coefS T x t order, allV q :=
  ⟨(expS_ok hT hx ht order).2.len, (expS_ok hT hx ht order).2.val⟩
theorem enclAt_okL {T : Tp} {x b : List I} {t h : Int} {part : I} {order : Nat} (hT : tpOk T) (hx : allV x) (hb : allV b) (hh : 0 ≤ h ∧ h ≤ 1000000000) (ht : -1000000000 ≤ t ∧ t ≤ 1000000000) :
    allV (enclAt T x b t h part order) ∧ (enclAt T x b t h part order).length = T.n := by
  have htv : vB (t, t + h) = true := vB_pair (by omega) (by omega) (by omega)
  have htv2 : vB (t, t) = true := vB_pair (by omega) (by omega) (by omega)
  obtain ⟨c1, c2⟩ := coefS_okL (order := order) hT hx htv2
  obtain ⟨d1, d2⟩ := coefS_okL (order := order + 1) hT hb htv
  have hR : allV (remS T b t h order) := fun p hp => by
    obtain ⟨q, hq, rfl⟩ := List.mem_map.1 hp
    exact atN_valid (d2 q hq) _
  unfold enclAt
  refine ⟨rangeV fun i => restrI_valid (atN_valid (fun p hp => ?_) i) (atN_valid hb i), by simp [restrB, evalS, withRem, c1]⟩
  obtain ⟨q, hq, rfl⟩ := List.mem_map.1 hp
  simp only [withRem, List.mem_map, List.mem_range] at hq
  obtain ⟨j, hj, rfl⟩ := hq
  exact horn_val (allV_snoc (rowN_valid c2 j) (atN_valid hR j))
theorem enclS_okL {T : Tp} {x d : List I} {t h : Int} (hx : allV x) (h0 : enclS T x t h = some d) : allV d ∧ d.length = x.length := by
  rw [show enclS T x t h = (candP T x t h 8 (hullB x (imageB T x x t h))).findSome? hitP from encS_cand T x t h 8 _] at h0
  obtain ⟨p, hp, hpd⟩ := List.exists_of_findSome?_eq_some h0
  have := candP_ok hx 8 _ (hullB_valid hx (imageB_valid hx)) (by rw [hullB_len]) p hp
  unfold hitP at hpd
  split at hpd
  · cases hpd; exact this.2.2
  · cases hpd
theorem istepS_ok {T : Tp} {x : List I} {t h : Int} {order : Nat} {s : Sg} (hT : tpOk T) (hx : allV x) (hxn : x.length = T.n) (hh : 0 ≤ h ∧ h ≤ 1000000000) (ht : -1000000000 ≤ t ∧ t ≤ 1000000000) (hs : istepS T x t h order = some s) : SgOk T x t h s := by
  unfold istepS at hs
  cases hr : enclS T x t h with
  | none => rw [hr] at hs; cases hs
  | some b =>
    rw [hr] at hs
    obtain ⟨hbv, hbl⟩ := enclS_okL hx hr
    have k1 := enclAt_okL (part := (0, h)) (order := order) hT hx hbv hh ht
    have k2 := enclAt_okL (part := (h, h)) (order := order) hT hx hbv hh ht
    simp only at hs
    split at hs
    · cases hs
      exact ⟨rfl, rfl, rfl, hbv, by simp only; omega, k1.1, k1.2, k2.1, k2.2⟩
    · cases hs
theorem accS_ok {T : Tp} {x : List I} {c : Ct} {t h : Int} {s : Sg} (hT : tpOk T) (hx : allV x) (hxn : x.length = T.n) (hh : 0 ≤ h ∧ h ≤ 1000000000) (ht : -1000000000 ≤ t ∧ t ≤ 1000000000) (hs : accS T x c t h = some s) : SgOk T x t h s := by
  unfold accS at hs
  split at hs
  · rename_i s' h'
    split at hs
    · cases hs; exact istepS_ok hT hx hxn hh ht h'
    · cases hs
  · cases hs
structure rqOk (w : Rq) : Prop where
  order : 1 ≤ w.ctrl.order ∧ w.ctrl.order ≤ 900
  least : 1 ≤ w.ctrl.least
  t : -1000000000 ≤ w.t ∧ w.t ≤ 1000000000
  last : w.t < w.last ∧ w.last ≤ 1000000000
  h : 1 ≤ w.h ∧ w.h ≤ 1000000000
theorem advS_ok {T : Tp} {x : List I} {w : Rq} {s : Sg} (hT : tpOk T) (hx : allV x) (hxn : x.length = T.n) (hw : rqOk w) (h : advS T x w = some s) :
    s.h ∈ cands w.ctrl (firstH w) ∧ 1 ≤ s.h ∧ s.h ≤ firstH w ∧ accS T x w.ctrl w.t s.h = some s ∧ SgOk T x w.t s.h s := by
  unfold advS at h
  obtain ⟨g, hg, hs⟩ := List.exists_of_findSome?_eq_some h
  have hb := cands_bound (c := w.ctrl) hw.least _ (by have := hw.last; have := hw.h; unfold firstH; omega) (Nat.le_refl _) g hg
  have hf : firstH w ≤ 1000000000 := by have := hw.h; unfold firstH; omega
  have hok := accS_ok hT hx hxn (by omega) hw.t hs
  have := hok.hh
  subst this
  exact ⟨hg, hb.1, hb.2, hs, hok⟩
def nxS (w : Rq) (s : Sg) : Int := growS w.ctrl (if s.h = firstH w then w.h else s.h)
end Go.Pl

namespace Go.Proofs.YtfjjckepnkkgjaaGreatDoor.Arm
open Go.Arm Go.Pl
def segC : Option Sg → AV
  | some s => sgA s
  | none => zsA
def nxC (w : Rq) : Option Sg → Int
  | some s => growS w.ctrl (if s.h = firstH w then w.h else s.h)
  | none => 0
def advA (p : Sg × Int × Int) : AV := .tuple [sgA p.1, .int .i64 p.2.1, .int .i64 p.2.2]
def advZ : AV := .tuple [zsA, .int .i64 0, .int .i64 130]
def advO (w : Rq) : Option Sg → AV
  | some s => advA (s, nxC w (some s), 0)
  | none => advZ
theorem cAdvance (T : Tp) (x : List I) (w : Rq) (hT : tpOk T) (hx : allV x) (hxn : x.length = T.n) (hn : 1 ≤ T.n) (hw : rqOk w) (H : AH) :
    Sound E 54 [tpA T, bx x, rqA w] H (.ret (advO w (advS T x w))) H := by
  refine sound_of_awp tabOk mixed Tryz.func54 rfl (by rfl) Tryz.ntmps54 (by kernel_rfl) (by simp) ?_
  have hsm := hT.small
  obtain ⟨wo, wl, wt, wlast, wh⟩ := hw
  have hf1 : 1 ≤ firstH w ∧ firstH w ≤ 1000000000 := by unfold firstH; omega
  have hfe : (if w.last - w.t < w.h then w.last - w.t else w.h) = firstH w := by unfold firstH; split <;> omega
  have wsub : IntKind.i64.wrap (w.last - w.t) = w.last - w.t := wrap64 (by omega) (by omega)
  have hor : ((w.ctrl.order.toNat : Nat) : Int) = w.ctrl.order := by omega
  have hst := fun (h : Int) (h1 : 1 ≤ h ∧ h ≤ firstH w) => kIntervalStep T x w.t h w.ctrl.order.toNat hT hx hxn hn (by omega) wt (by omega)
  have hok := fun (h : Int) (h1 : 1 ≤ h ∧ h ≤ firstH w) s (hs : istepS T x w.t h w.ctrl.order.toNat = some s) => istepS_ok hT hx hxn (by omega) wt hs
  have hcb := cands_bound wl (firstH w).toNat (h := firstH w) hf1.1 (Nat.le_refl _)
  simp [tpA, bx, rqA, wsub, hfe]
  refine call_ret (by simpa [ctA] using cCandidates w.ctrl (firstH w) _) ?_
  simp
  refine range_it 10 (by rfl) (fun N hN => ?_)
  generalize hk : (LK.mk N _ _ _) = k at hN ⊢
  generalize hf : List.map _ (List.range 10) = frs
  have q3 : frs[3]? = some (.ptr H.length 1 0 0) := by rw [← hf]; simp
  have q4 : frs[4]? = some (.ptr (H.length + 1) 1 0 0) := by rw [← hf]; simp
  have q5 : frs[5]? = some (.ptr (H.length + 2) 1 0 0) := by rw [← hf]; simp
  have q6 : frs[6]? = some (.ptr (H.length + 3) 1 0 0) := by rw [← hf]; simp
  have q7 : frs[7]? = some (.ptr (H.length + 4) 1 0 0) := by rw [← hf]; simp
  have q8 : frs[8]? = some (.ptr (H.length + 5) 1 0 0) := by rw [← hf]; simp
  have q9 : frs[9]? = some (.ptr (H.length + 6) 1 0 0) := by rw [← hf]; simp
  let MM : Int → Option Sg → LSt → AH := fun hv o st => H ++ [.row true 3 [tpA T], .row true 1 [bx x], .row true 8 [rqA w], .row true 6 [segC o], .row true 1 [.int .i64 (nxC w o)], .row true 1 [.int .i64 0], .row true 1 [.int .i64 (firstH w)], .row true 5 [ctA w.ctrl], .row true 1 [.int .i64 hv], .loop k st frs]
  have halt : ∀ hv o st, alters (MM hv none .ready) (MM hv o st) := fun hv o st => alters_of ⟨.same _, .same _, .same _, .inr (.inl (by cases o <;> simp [segC, zsA, sgA, noFB, noFs, noF, bx, iv_noFs])), .inr (.inl (by simp [noFB, noFs, noF])), .same _, .same _, .same _, .same _, .loop, trivial⟩
  have hC : ∀ hv o st, ∀ c ∈ [H.length + 8, H.length + 7], (MM hv o st)[c]? = (MM hv none .ready)[c]? := fun hv o st c hc => by
    simp at hc
    rcases hc with rfl | rfl <;> simp [MM]
  have hround : ∀ (hv h : Int), 1 ≤ h ∧ h ≤ firstH w → ∀ (J : AH), YSound E (H.length + 9) [.int .i64 h] (MM hv none .ready ++ J) (.bool (accS T x w.ctrl w.t h).isNone) (MM hv (accS T x w.ctrl w.t h) (if (accS T x w.ctrl w.t h).isSome then .done .ret else .ready) ++ J) := by
    intro hv h h1 J
    refine yield_sound tabOk mixed (k := k) (frs := frs) (by simp [MM]) (by rw [← hk]; rfl) hN ?_
    have ka := congrArg LK.assign hk
    have kb := congrArg LK.body hk
    have kp := congrArg LK.ps hk
    dsimp only at ka kb kp
    rw [← ka, ← kb, ← kp]
    clear ka kb kp hk hf hN
    have hS := hst h h1
    rw [hor] at hS
    cases hr : istepS T x w.t h w.ctrl.order.toNat with
    | none =>
      have hacc : accS T x w.ctrl w.t h = none := by unfold accS; rw [hr]
      rw [hacc]
      rw [hr] at hS
      simp [roundFr]
      rw [assignK_normal]
      refine ⟨by simp [MM], ?_⟩
      simp [MM, q3, q4, q5, tpA, bx, rqA]
      refine call_ret (by simpa [tpA, bx] using hS _) ?_
      simp [sgO, zsA]
      rw [roundK_normal]
      refine ⟨by simp, rfl, ?_⟩
      have := Leaves.alters (J := J) (X := [.row true 6 [zsA]]) (halt hv none .ready)
      simpa [MM, segC, zsA, tpA, bx, rqA, nxC] using this
    | some s =>
      have hso := hok h h1 s hr
      rw [hr] at hS
      have hA := cAccept w.ctrl s hso.vto hso.vtube (by rw [hso.nto]; omega) (by rw [hso.ntube]; omega)
      cases ha : (narrowB w.ctrl.wide s.to && narrowB w.ctrl.wide s.tube) with
      | false =>
        have hacc : accS T x w.ctrl w.t h = none := by unfold accS; rw [hr]; simp only [ha]; rfl
        rw [hacc]
        rw [ha] at hA
        simp [roundFr]
        rw [assignK_normal]
        refine ⟨by simp [MM], ?_⟩
        simp [MM, q3, q4, q5, tpA, bx, rqA]
        refine call_ret (by simpa [tpA, bx] using hS _) ?_
        simp [sgO, sgA, bx, q5]
        refine call_ret (by simpa [sgA, bx, ctA] using hA _) ?_
        simp
        rw [roundK_normal]
        refine ⟨by simp, rfl, ?_⟩
        have := Leaves.alters (J := J) (X := [.row true 6 [sgA s]]) (halt hv none .ready)
        simpa [MM, segC, sgA, zsA, tpA, bx, rqA, nxC, ctA] using this
      | true =>
        have hacc : accS T x w.ctrl w.t h = some s := by unfold accS; rw [hr]; simp only [ha]; rfl
        rw [hacc]
        rw [ha] at hA
        simp [roundFr]
        rw [assignK_normal]
        refine ⟨by simp [MM], ?_⟩
        simp [MM, q3, q4, q5, tpA, bx, rqA]
        refine call_ret (by simpa [tpA, bx] using hS _) ?_
        simp [sgO, sgA, bx, q5]
        refine call_ret (by simpa [sgA, bx, ctA] using hA _) ?_
        simp [q9]
        refine branch (fun he => ?_) (fun he => ?_)
        · have heP : h = firstH w := by simpa using he
          simp [q5, q6, q7, q8, heP]
          refine callD_ret0 (fun Hx => by simpa [ctA] using cGrow w.ctrl w.h (by omega) Hx) ?_
          simp [q5, q6, q7, q8]
          refine endD [] (by rfl) (by simp [okW, note, Eff.triv, Eff.wr, Eff.none, upTo, newAt]) ?_
          simp
          rw [roundK_ret]
          refine ⟨by simp, rfl, ?_⟩
          have := Leaves.alters (J := J) (X := [.row true 6 [sgA s]]) (halt hv (some s) (.done .ret))
          simpa [MM, segC, sgA, zsA, tpA, bx, rqA, nxC, hso.hh, heP, ctA] using this
        · have heP : h ≠ firstH w := by simpa using he
          simp [q5, q6, q7, q8, heP]
          refine callD_ret0 (fun Hx => by simpa [ctA] using cGrow w.ctrl h (by omega) Hx) ?_
          simp [q5, q6, q7, q8]
          refine endD [] (by rfl) (by simp [okW, note, Eff.triv, Eff.wr, Eff.none, upTo, newAt]) ?_
          simp
          rw [roundK_ret]
          refine ⟨by simp, rfl, ?_⟩
          have := Leaves.alters (J := J) (X := [.row true 6 [sgA s]]) (halt hv (some s) (.done .ret))
          simpa [MM, segC, sgA, zsA, tpA, bx, rqA, nxC, hso.hh, heP, ctA] using this
  have hrun : ∀ l : List Int, (∀ g ∈ l, 1 ≤ g ∧ g ≤ firstH w) → ∀ hv, ∃ hv', YTurns E (H.length + 9) [H.length + 8, H.length + 7] (turnA w.ctrl (H.length + 8) l) (MM hv none .ready) (MM hv' (l.findSome? (accS T x w.ctrl w.t)) (if (l.findSome? (accS T x w.ctrl w.t)).isSome then .done .ret else .ready)) := by
    intro l
    induction l with
    | nil => intro _ hv; exact ⟨hv, .nil _⟩
    | cons h l ih =>
      intro hl hv
      have hr := hround hv h (hl h (by simp))
      rw [List.findSome?_cons]
      cases hs : accS T x w.ctrl w.t h with
      | some s =>
        rw [hs] at hr
        exact ⟨hv, .stop (halt _ _ _) (hC _ _ _) hr⟩
      | none =>
        rw [hs] at hr
        obtain ⟨hv', hY⟩ := ih (fun g hg => hl g (by simp [hg])) (shrinkS w.ctrl h).1
        refine ⟨hv', .go (halt hv none .ready) (hC hv none .ready) hr ?_⟩
        have e : (MM hv none .ready).set (H.length + 8) (.row true 1 [.int .i64 (shrinkS w.ctrl h).1]) = MM (shrinkS w.ctrl h).1 none .ready := by simp [MM]
        dsimp only
        rw [e]; exact hY
  obtain ⟨hv', hY⟩ := hrun (cands w.ctrl (firstH w)) hcb (firstH w)
  have hS := cCandidates1 w.ctrl (firstH w) (H.length + 8) (H.length + 7) (H.length + 9) (MM (firstH w) none .ready) _ hf1 wl (by omega) ⟨true, by simp [MM]⟩ (by simp [MM]) hY
  have hadv : (cands w.ctrl (firstH w)).findSome? (accS T x w.ctrl w.t) = advS T x w := rfl
  rw [hadv] at hS
  cases hr : advS T x w with
  | none =>
    rw [hr] at hS
    refine ⟨_, _, k, .ready, frs, by simpa [MM, segC, nxC, zsA, tpA, bx, rqA, ctA] using hS, by simp, ?_⟩
    simp [jumpA]
    exact ⟨[zsA, .int .i64 0, .int .i64 130], [zsA, .int .i64 0, .int .i64 130], by simp [show (Tryz.f54).results.toList = [.cell 6 47, .cell 7 2, .cell 8 38] from rfl, resA, zsA], .drop (by simp [noFs, noF, zsA]), rfl⟩
  | some s =>
    rw [hr] at hS
    refine ⟨_, _, k, .done .ret, frs, by simpa [MM, segC, nxC, zsA, tpA, bx, rqA, ctA] using hS, by simp, ?_⟩
    simp [jumpA]
    exact ⟨[sgA s, .int .i64 (nxC w (some s)), .int .i64 0], [sgA s, .int .i64 (nxC w (some s)), .int .i64 0], by simp [show (Tryz.f54).results.toList = [.cell 6 47, .cell 7 2, .cell 8 38] from rfl, resA, sgA, bx, nxC], .drop (by simp only [noFs, noF, sgA, bx, iv_noFs, Bool.and_self]), rfl⟩
def erO : Option Sg → Int
  | some _ => 0
  | none => 130
theorem advO_eq (w : Rq) (o : Option Sg) : advO w o = .tuple [segC o, .int .i64 (nxC w o), .int .i64 (erO o)] := by cases o <;> rfl
end Go.Proofs.YtfjjckepnkkgjaaGreatDoor.Arm

namespace Go.Proofs.YtfjjckepnkkgjaaGreatDoor.Arm
open Go.Arm Go.Pl
def mkOp (x : Ins) : Int := 1 + low (IntKind.i64.wrap (x.op + 9)) 255 % 10
def mkO (i : Nat) (x : Ins) : Int := if i = 0 ∧ 0 < arity (mkOp x) then 2 else mkOp x
def mkI (N i : Nat) (x : Ins) : Ins :=
  ⟨mkO i x, if mkO i x = 2 then low x.a 255 % N else if 0 < arity (mkO i x) then low x.a 255 % i else 0, if 1 < arity (mkO i x) then low x.b 255 % i else 0, if mkO i x = 1 then nearI x.c 4096 else (0, 0)⟩
theorem mkOp_b (x : Ins) : 1 ≤ mkOp x ∧ mkOp x ≤ 10 := by
  have h1 := Int.emod_nonneg (low (IntKind.i64.wrap (x.op + 9)) 255) (b := 10) (by decide)
  have h2 := Int.emod_lt_of_pos (low (IntKind.i64.wrap (x.op + 9)) 255) (b := 10) (by decide)
  unfold mkOp; omega
theorem mkI_ok {N i : Nat} (hN : 0 < N) (x : Ins) : insOk N i (mkI N i x) := by
  have hb := mkOp_b x
  have hm1 := Int.emod_nonneg (low x.a 255) (b := (N : Int)) (by omega)
  have hm2 := Int.emod_lt_of_pos (low x.a 255) (b := (N : Int)) (by omega)
  have hO : (1 ≤ mkO i x ∧ mkO i x ≤ 10) ∧ (0 < arity (mkO i x) → 0 < i) := by
    unfold mkO
    split
    · exact ⟨by omega, fun h => absurd h (by decide)⟩
    · rename_i h
      refine ⟨hb, fun h2 => ?_⟩
      have : ¬ i = 0 := fun e => h ⟨e, h2⟩
      omega
  obtain ⟨ho, hi⟩ := hO
  unfold insOk mkI
  simp only
  generalize mkO i x = o at *
  by_cases o1 : o = 1
  · subst o1; exact .inl ⟨rfl, by rw [if_pos rfl]; exact nearI_valid _ (by decide)⟩
  by_cases o2 : o = 2
  · subst o2; exact .inr (.inl ⟨rfl, by rw [if_pos rfl]; exact hm1, by rw [if_pos rfl]; exact hm2⟩)
  by_cases o3 : o = 3
  · subst o3; exact .inr (.inr (.inl rfl))
  by_cases o4 : o ≤ 6
  · have ha : arity o = 1 := by unfold arity; rw [if_neg (by omega), if_pos (by omega)]
    have hi0 := hi (by omega)
    have h1 := Int.emod_nonneg (low x.a 255) (b := (i : Int)) (by omega)
    have h2 := Int.emod_lt_of_pos (low x.a 255) (b := (i : Int)) (by omega)
    rw [ha]
    simp only [if_neg o2, if_pos (show (0 : Int) < 1 by decide), if_neg (show ¬ (1 : Int) < 1 by decide)]
    exact .inr (.inr (.inr (.inl ⟨by omega, by omega, h1, h2, trivial⟩)))
  · have ha : arity o = 2 := by unfold arity; rw [if_neg (by omega), if_neg (by omega), if_pos (by omega)]
    have hi0 := hi (by omega)
    have h1 := Int.emod_nonneg (low x.a 255) (b := (i : Int)) (by omega)
    have h2 := Int.emod_lt_of_pos (low x.a 255) (b := (i : Int)) (by omega)
    have h3 := Int.emod_nonneg (low x.b 255) (b := (i : Int)) (by omega)
    have h4 := Int.emod_lt_of_pos (low x.b 255) (b := (i : Int)) (by omega)
    rw [ha]
    simp only [if_neg o2, if_pos (show (0 : Int) < 2 by decide), if_pos (show (1 : Int) < 2 by decide)]
    exact .inr (.inr (.inr (.inr ⟨by omega, by omega, h1, h2, h3, h4⟩)))
structure Rt where
  n : Int
  L : List Ins
  out : List Int
def ints (l : List Int) : AV := .slice (l.map fun k : Int => .int .i64 k) false
def rtA (c : Rt) : AV := .agg [.int .i64 c.n, .slice (c.L.map insA) false, ints c.out]
def mkN (c : Rt) : Nat := (1 + low c.n 255 % 3).toNat
theorem mkN_b (c : Rt) : (mkN c : Int) = 1 + low c.n 255 % 3 ∧ 1 ≤ mkN c ∧ mkN c ≤ 3 := by
  have h1 := Int.emod_nonneg (low c.n 255) (b := 3) (by decide)
  have h2 := Int.emod_lt_of_pos (low c.n 255) (b := 3) (by decide)
  unfold mkN; omega
def mkL (c : Rt) (i : Nat) : List Ins := (List.range i).map fun k => mkI (mkN c) k ((c.L[k]?).getD ⟨0, 0, 0, (0, 0)⟩)
theorem mkL_succ (c : Rt) (i : Nat) : mkL c (i + 1) = mkL c i ++ [mkI (mkN c) i ((c.L[i]?).getD ⟨0, 0, 0, (0, 0)⟩)] := by simp [mkL, List.range_succ]
theorem mkL_len (c : Rt) (i : Nat) : (mkL c i).length = i := by simp [mkL]
def mkC (c : Rt) (most : Nat) : Nat := min c.L.length most
def mkLL (c : Rt) (most : Nat) : List Ins := if mkC c most = 0 then [⟨2, 0, 0, (0, 0)⟩] else mkL c (mkC c most)
def mkAt (c : Rt) (m i : Nat) : Nat := match c.out[i]? with
  | some x => (low x 65535 % m).toNat
  | none => m - 1
def mkT (c : Rt) (most : Nat) : Tp := ⟨mkN c, mkLL c most, (List.range (mkN c)).map (mkAt c (mkLL c most).length)⟩
theorem mkLL_len (c : Rt) (most : Nat) (hm : most ≤ 1000) : 1 ≤ (mkLL c most).length ∧ (mkLL c most).length ≤ 1000 := by
  unfold mkLL
  split
  · simp
  · rename_i h
    rw [mkL_len]; unfold mkC at *; omega
theorem mkAt_lt (c : Rt) {m : Nat} (hm : 0 < m) (i : Nat) : mkAt c m i < m := by
  unfold mkAt
  split
  · rename_i x _
    have h1 := Int.emod_nonneg (low x 65535) (b := (m : Int)) (by omega)
    have h2 := Int.emod_lt_of_pos (low x 65535) (b := (m : Int)) (by omega)
    omega
  · omega
theorem mkT_ok (c : Rt) (most : Nat) (hm : most ≤ 1000) : tpOk (mkT c most) := by
  have hl := mkLL_len c most hm
  have hN := mkN_b c
  refine ⟨fun i x hx => ?_, by simp [mkT], fun k hk => ?_, by show mkN c ≤ 1000; omega, by show (mkLL c most).length ≤ 100000; omega⟩
  · show insOk (mkN c) i x
    have hx' : (mkLL c most)[i]? = some x := hx
    unfold mkLL at hx'
    split at hx'
    · cases i with
      | zero => simp at hx'; subst hx'; exact .inr (.inl ⟨rfl, Int.le_refl _, by show (0 : Int) < mkN c; omega⟩)
      | succ i => simp at hx'
    · have hlt : i < mkC c most := by have := (List.getElem?_eq_some_iff.1 hx').1; rw [mkL_len] at this; exact this
      simp [mkL, hlt] at hx'
      subst hx'
      exact mkI_ok (by omega) _
  · obtain ⟨j, _, rfl⟩ := List.mem_map.1 hk
    exact mkAt_lt c (by omega) j
theorem pushIns {H J : AH} {v v0 : AV} {l : List Ins} {x : Ins} (hacc : Arm.Acc H J v 5 (l.map insA) v0) (h0 : emptyA v0 = true) (hl : l.length ≤ 1000000000) :
    ∃ v' J', appendA tab (H ++ J) 22 v (.slice [insA x] true) = some (v', H ++ J') ∧ Arm.Acc H J' v' 5 ((l ++ [x]).map insA) v0 ∧ (∀ j y, J[j]? = some y → (∀ n, v ≠ .ref (H.length + j) n) → J'[j]? = some y) ∧ J.length ≤ J'.length ∧ (∀ j n, v' = .ref (H.length + j) n → (∃ m, v = .ref (H.length + j) m) ∨ J.length ≤ j) := by
  obtain ⟨v', J', hap, hacc', hk, hle, hn⟩ := Acc.push (T := tab) (t := 22) (e := 63) (x := .slice [insA x] true) (ys := [insA x]) hacc tab22 rfl tab63 h0 rfl (by simp [insA, okc]) ⟨by decide, by simp⟩ (by simp; omega) (by simp; omega)
  exact ⟨v', J', hap, by simpa using hacc', hk, hle, hn⟩
def LMk (c : Rt) (most : Nat) (H : AH) (i : Nat) (fr : AFr) (H' : AH) : Prop :=
  fr 1 = .int .i64 most ∧ fr 2 = .ptr H.length 1 0 0 ∧ fr 4 = .ptr (H.length + 1) 1 0 0 ∧ fr 5 = .ptr (H.length + 2) 1 0 0 ∧ fr 6 = .int .i64 i ∧ i ≤ mkC c most ∧
  ∃ v J, (i = 0 → v = .nilslice) ∧ H' = H ++ (.row true 3 [rtA c] :: .row true 3 [.agg [.int .i64 0, .nilslice, .nilslice]] :: .row true 3 [.agg [.int .i64 (mkN c), v, .nilslice]] :: J) ∧ Arm.Acc (H ++ [.row true 3 [rtA c], .row true 3 [.agg [.int .i64 0, .nilslice, .nilslice]], .row true 3 [.agg [.int .i64 (mkN c), v, .nilslice]]]) J v 5 ((mkL c i).map insA) .nilslice
def LWv (c : Rt) (most : Nat) (H J : AH) (w : AV) : Prop := (w = .slice [insA ⟨2, 0, 0, (0, 0)⟩] true ∧ mkLL c most = [⟨2, 0, 0, (0, 0)⟩]) ∨ ∃ kk m, w = .ref (H.length + (kk + 3)) m ∧ m = (mkLL c most).length ∧ J[kk]? = some (.row true 5 ((mkLL c most).map insA))
def outL (c : Rt) (m i : Nat) : List AV := (List.range i).map fun k => .int .i64 (mkAt c m k : Nat)
def LOv (c : Rt) (m i : Nat) (H J : AH) (w vo : AV) : Prop := (vo = .nilslice ∧ i = 0) ∨ ∃ k2, vo = .ref (H.length + (k2 + 3)) i ∧ J[k2]? = some (.row true 1 (outL c m i)) ∧ ∀ n, w ≠ .ref (H.length + (k2 + 3)) n
def LM2 (c : Rt) (most : Nat) (H : AH) (i : Nat) (fr : AFr) (H' : AH) : Prop :=
  fr 2 = .ptr H.length 1 0 0 ∧ fr 4 = .ptr (H.length + 1) 1 0 0 ∧ fr 5 = .ptr (H.length + 2) 1 0 0 ∧ fr 9 = .int .i64 i ∧ i ≤ mkN c ∧
  ∃ w vo J, H' = H ++ (.row true 3 [rtA c] :: .row true 3 [.agg [.int .i64 0, .nilslice, .nilslice]] :: .row true 3 [.agg [.int .i64 (mkN c), w, vo]] :: J) ∧ LWv c most H J w ∧ LOv c (mkLL c most).length i H J w vo
theorem app_intN {H : AH} {k : Int} {f : Bool} : appendA tab H 23 .nilslice (.slice [.int .i64 k] f) = some (.ref H.length 1, H ++ [.row true 1 [.int .i64 k]]) := by
  have h2 : appendA tab H 23 .nilslice (.slice [.int .i64 k] f) = growA i3 H .nilslice [.int .i64 k] := by
    simp only [appendA, tab23, tab3, els]
    rfl
  rw [h2]
  rfl
theorem app_int {H : AH} {k : Int} {l : List AV} {b n : Nat} {f : Bool} (hn : l.length = n) (hnb : n ≤ 1000000000) (hH : H[b]? = some (.row true 1 l)) :
    appendA tab H 23 (.ref b n) (.slice [.int .i64 k] f) = some (.ref b (n + 1), H.set b (.row true 1 (l ++ [.int .i64 k]))) :=
  app_row tab23 rfl tab3 rfl (by decide) (by simp [okc]) (by simp) (by decide) hn hnb hH
theorem outL_succ (c : Rt) (m i : Nat) : outL c m (i + 1) = outL c m i ++ [.int .i64 (mkAt c m i : Nat)] := by simp [outL, List.range_succ]
theorem outL_len (c : Rt) (m i : Nat) : (outL c m i).length = i := by simp [outL]
set_option maxHeartbeats 4000000 in
theorem r8Made (c : Rt) (most : Nat) (hm : most ≤ 1000) (hl : c.L.length ≤ 200000000000000) (ho : c.out.length ≤ 200000000000000) (H : AH) : Sound E 50 [rtA c, .int .i64 most] H (.ret (tpA (mkT c most))) H := by
  refine sound_of_awp tabOk mixed Tryz.func50 rfl (by rfl) Tryz.ntmps50 (by kernel_rfl) (by simp) ?_
  obtain ⟨hN1, hN2⟩ := mkN_b c
  have a255 := and255
  have lb := fun x => low_bounds x (m := 255) (by decide)
  have wN : IntKind.i64.wrap (1 + IntKind.i64.wrap ((low c.n 255).tmod 3)) = (mkN c : Int) := by
    have h0 := lb c.n
    rw [Int.tmod_eq_emod_of_nonneg h0.1, wrap64 (n := low c.n 255 % 3) (by omega) (by omega), wrap64 (by omega) (by omega), hN1]
  have wN2 : IntKind.i64.wrap (1 + (low c.n 255).tmod 3) = (mkN c : Int) := by
    have h0 := lb c.n
    rw [Int.tmod_eq_emod_of_nonneg h0.1, wrap64 (by omega) (by omega), hN1]
  simp [rtA, a255, wN, wN2]
  refine loop_count (LMk c most H) (fun i => mkC c most - i) 0 ⟨by simp, by simp, by simp, by simp, by simp, by omega, .nilslice, [], fun _ => rfl, by simp [rtA], .inl ⟨by simp [mkL], rfl⟩⟩ ?_
  rintro i fr H' ⟨g1, g2, g4, g5, g6, hi, v, J, hv0, rfl, hacc⟩
  by_cases h1 : i < c.L.length
  · by_cases h2 : i < most
    · have hlt : i < mkC c most := by unfold mkC; omega
      obtain ⟨x, hx⟩ := get_lt h1
      have hxE : ∀ h, c.L[i]'h = x := fun h => (List.getElem?_eq_some_iff.1 hx).2
      have hA := fun op Hx => r8Arity op Hx
      have hmo := mkOp_b x
      have wop : IntKind.i64.wrap (1 + (low (IntKind.i64.wrap (x.op + 9)) 255).tmod 10) = mkOp x := by
        have h0 := lb (IntKind.i64.wrap (x.op + 9))
        rw [Int.tmod_eq_emod_of_nonneg h0.1, wrap64 (by omega) (by omega)]; rfl
      have w2 : IntKind.i64.wrap ((i : Int) + 1) = ((i + 1 : Nat) : Int) := by rw [wrap64 (by omega) (by omega)]; omega
      have hNne : ¬ (mkN c : Int) = 0 := by omega
      have hNn : ¬ mkN c = 0 := by omega
      have wr1 : IntKind.i64.wrap 1 = 1 := wrap64 (by decide) (by decide)
      have wan : (low x.a 255).tmod (mkN c) = low x.a 255 % mkN c := Int.tmod_eq_emod_of_nonneg (lb x.a).1
      simp [g1, g2, g5, g6, rtA, h1, h2, hx, hxE, insA, a255, wop]
      by_cases hi0 : i = 0
      · subst hi0
        simp [g6]
        refine call_ret (hA (mkOp x) _) ?_
        simp
        refine branch (fun hb => ?_) (fun hb => ?_)
        · have hb' : 0 < arity (mkOp x) := by simpa using hb
          have hO : mkO 0 x = 2 := by unfold mkO; rw [if_pos ⟨rfl, hb'⟩]
          have hine : True := trivial
          have hiN : True := trivial
          have wai : True := trivial
          have wbi : True := trivial
          simp
          have ha : arity (2) = 0 := rfl
          have e2 : ((2) == 2) = true := rfl
          have e1 : ((2) == 1) = false := rfl
          have hy : mkI (mkN c) 0 x = ⟨2, low x.a 255 % mkN c, 0, (0, 0)⟩ := by unfold mkI; rw [hO]; simp [show arity 2 = 0 from rfl]
          refine call_ret (hA (2) _) ?_
          simp [ha, g2, g5, g6, rtA, h1, hx, hxE, insA, a255, hine, hiN, wai, wbi, wan]
          refine call_ret (hA (2) _) ?_
          simp [ha, e2, e1, g2, g5, g6, rtA, h1, hx, hxE, insA, a255, hine, hiN, wai, wbi, wan, hNne, hNn]
          refine endD [] (by rfl) (by simp [okW, note, Eff.triv, Eff.wr, Eff.none, upTo, newAt]) ?_
          simp [e2, e1, g2, g5, g6, rtA, h1, hx, hxE, insA, a255, wan, hNne, hNn]
          obtain ⟨v', J', hap, hacc', _⟩ := pushIns (x := mkI (mkN c) 0 x) (hacc.len (L := [.row true 5 [insA (mkI (mkN c) 0 x)]])) rfl (by rw [mkL_len]; omega)
          obtain ⟨kk', hv', hJk'⟩ : ∃ kk', v' = .ref (H.length + (kk' + 3)) 1 ∧ J'[kk']? = some (.row true 5 ((mkL c 1).map insA)) := by
            rcases hacc' with ⟨h0', _⟩ | ⟨kk', h1', h2'⟩
            · simp at h0'
            · exact ⟨kk', by rw [h1']; simp [mkL_len]; omega, by rw [mkL_succ]; simpa [hx] using h2'⟩
          subst hv'
          rw [hy] at hap
          refine bind_some (by simpa [insA, rtA] using hap) ?_
          simp [g5, g6, w2, wr1]
          exact ⟨1, by show mkC c most - 1 < mkC c most - 0; omega, by simp [g1], by simp [g2], by simp [g4], by simp [g5], by simp, by omega, .ref (H.length + (kk' + 3)) 1, J', fun h => by omega, by simp [rtA], .inr ⟨kk', by simp [mkL_len]; omega, hJk'⟩⟩
        · have hb' : ¬ 0 < arity (mkOp x) := by simpa using hb
          have hO : mkO 0 x = mkOp x := by unfold mkO; rw [if_neg (fun h => hb' h.2)]
          have hine : True := trivial
          have hiN : True := trivial
          have wai : True := trivial
          have wbi : True := trivial
          have h3 : mkOp x ≤ 3 := by unfold arity at hb'; split at hb' <;> first | omega | (split at hb' <;> first | omega | (split at hb' <;> omega))
          rcases (show mkOp x = 1 ∨ mkOp x = 2 ∨ mkOp x = 3 by omega) with h0 | h0 | h0
          · rw [h0] at hO ⊢
            try simp
            have ha : arity (1) = 0 := rfl
            have e2 : ((1) == 2) = false := rfl
            have e1 : ((1) == 1) = true := rfl
            have hy : mkI (mkN c) 0 x = ⟨1, 0, 0, nearI x.c 4096⟩ := by unfold mkI; rw [hO]; simp [show arity 1 = 0 from rfl]
            refine call_ret (hA (1) _) ?_
            simp [ha, g2, g5, g6, rtA, h1, hx, hxE, insA, a255, hine, hiN, wai, wbi, wan]
            refine call_ret (hA (1) _) ?_
            simp [ha, e2, e1, g2, g5, g6, rtA, h1, hx, hxE, insA, a255, hine, hiN, wai, wbi, wan, hNne, hNn]
            refine call_ret (rNear x.c 4096 (by decide) _) ?_
            simp [g2, g5, g6, rtA]
            obtain ⟨v', J', hap, hacc', _⟩ := pushIns (x := mkI (mkN c) 0 x) (hacc.len (L := [.row true 5 [insA (mkI (mkN c) 0 x)]])) rfl (by rw [mkL_len]; omega)
            obtain ⟨kk', hv', hJk'⟩ : ∃ kk', v' = .ref (H.length + (kk' + 3)) 1 ∧ J'[kk']? = some (.row true 5 ((mkL c 1).map insA)) := by
              rcases hacc' with ⟨h0', _⟩ | ⟨kk', h1', h2'⟩
              · simp at h0'
              · exact ⟨kk', by rw [h1']; simp [mkL_len]; omega, by rw [mkL_succ]; simpa [hx] using h2'⟩
            subst hv'
            rw [hy] at hap
            refine bind_some (by simpa [insA, rtA] using hap) ?_
            simp [g5, g6, w2, wr1]
            exact ⟨1, by show mkC c most - 1 < mkC c most - 0; omega, by simp [g1], by simp [g2], by simp [g4], by simp [g5], by simp, by omega, .ref (H.length + (kk' + 3)) 1, J', fun h => by omega, by simp [rtA], .inr ⟨kk', by simp [mkL_len]; omega, hJk'⟩⟩
          · rw [h0] at hO ⊢
            try simp
            have ha : arity (2) = 0 := rfl
            have e2 : ((2) == 2) = true := rfl
            have e1 : ((2) == 1) = false := rfl
            have hy : mkI (mkN c) 0 x = ⟨2, low x.a 255 % mkN c, 0, (0, 0)⟩ := by unfold mkI; rw [hO]; simp [show arity 2 = 0 from rfl]
            refine call_ret (hA (2) _) ?_
            simp [ha, g2, g5, g6, rtA, h1, hx, hxE, insA, a255, hine, hiN, wai, wbi, wan]
            refine call_ret (hA (2) _) ?_
            simp [ha, e2, e1, g2, g5, g6, rtA, h1, hx, hxE, insA, a255, hine, hiN, wai, wbi, wan, hNne, hNn]
            refine endD [] (by rfl) (by simp [okW, note, Eff.triv, Eff.wr, Eff.none, upTo, newAt]) ?_
            simp [e2, e1, g2, g5, g6, rtA, h1, hx, hxE, insA, a255, wan, hNne, hNn]
            obtain ⟨v', J', hap, hacc', _⟩ := pushIns (x := mkI (mkN c) 0 x) (hacc.len (L := [.row true 5 [insA (mkI (mkN c) 0 x)]])) rfl (by rw [mkL_len]; omega)
            obtain ⟨kk', hv', hJk'⟩ : ∃ kk', v' = .ref (H.length + (kk' + 3)) 1 ∧ J'[kk']? = some (.row true 5 ((mkL c 1).map insA)) := by
              rcases hacc' with ⟨h0', _⟩ | ⟨kk', h1', h2'⟩
              · simp at h0'
              · exact ⟨kk', by rw [h1']; simp [mkL_len]; omega, by rw [mkL_succ]; simpa [hx] using h2'⟩
            subst hv'
            rw [hy] at hap
            refine bind_some (by simpa [insA, rtA] using hap) ?_
            simp [g5, g6, w2, wr1]
            exact ⟨1, by show mkC c most - 1 < mkC c most - 0; omega, by simp [g1], by simp [g2], by simp [g4], by simp [g5], by simp, by omega, .ref (H.length + (kk' + 3)) 1, J', fun h => by omega, by simp [rtA], .inr ⟨kk', by simp [mkL_len]; omega, hJk'⟩⟩
          · rw [h0] at hO ⊢
            try simp
            have ha : arity (3) = 0 := rfl
            have e2 : ((3) == 2) = false := rfl
            have e1 : ((3) == 1) = false := rfl
            have hy : mkI (mkN c) 0 x = ⟨3, 0, 0, (0, 0)⟩ := by unfold mkI; rw [hO]; simp [show arity 3 = 0 from rfl]
            refine call_ret (hA (3) _) ?_
            simp [ha, g2, g5, g6, rtA, h1, hx, hxE, insA, a255, hine, hiN, wai, wbi, wan]
            refine call_ret (hA (3) _) ?_
            simp [ha, e2, e1, g2, g5, g6, rtA, h1, hx, hxE, insA, a255, hine, hiN, wai, wbi, wan, hNne, hNn]
            obtain ⟨v', J', hap, hacc', _⟩ := pushIns (x := mkI (mkN c) 0 x) (hacc.len (L := [.row true 5 [insA (mkI (mkN c) 0 x)]])) rfl (by rw [mkL_len]; omega)
            obtain ⟨kk', hv', hJk'⟩ : ∃ kk', v' = .ref (H.length + (kk' + 3)) 1 ∧ J'[kk']? = some (.row true 5 ((mkL c 1).map insA)) := by
              rcases hacc' with ⟨h0', _⟩ | ⟨kk', h1', h2'⟩
              · simp at h0'
              · exact ⟨kk', by rw [h1']; simp [mkL_len]; omega, by rw [mkL_succ]; simpa [hx] using h2'⟩
            subst hv'
            rw [hy] at hap
            refine bind_some (by simpa [insA, rtA] using hap) ?_
            simp [g5, g6, w2, wr1]
            exact ⟨1, by show mkC c most - 1 < mkC c most - 0; omega, by simp [g1], by simp [g2], by simp [g4], by simp [g5], by simp, by omega, .ref (H.length + (kk' + 3)) 1, J', fun h => by omega, by simp [rtA], .inr ⟨kk', by simp [mkL_len]; omega, hJk'⟩⟩
      · have hO : mkO i x = mkOp x := by unfold mkO; rw [if_neg (fun h => hi0 h.1)]
        have hi0' : ((i : Int) == 0) = false := by rw [beq_eq_false_iff_ne]; omega
        have hine : ¬ (i : Int) = 0 := by omega
        have hiN : ¬ i = 0 := hi0
        have tm : ∀ y : Int, (low y 255).tmod i = low y 255 % i := fun y => Int.tmod_eq_emod_of_nonneg (lb y).1
        have wm : ∀ y : Int, IntKind.i64.wrap (low y 255 % i) = low y 255 % i := fun y => by have p1 := Int.emod_nonneg (low y 255) hine; have p2 := Int.emod_lt_of_pos (low y 255) (b := (i : Int)) (by omega); exact wrap64 (by omega) (by omega)
        have wai : (low x.a 255).tmod i = low x.a 255 % i := tm _
        have wbi : (low x.b 255).tmod i = low x.b 255 % i := tm _
        simp [hi0']
        rcases (show mkOp x = 1 ∨ mkOp x = 2 ∨ mkOp x = 3 ∨ (4 ≤ mkOp x ∧ mkOp x ≤ 6) ∨ 7 ≤ mkOp x by omega) with h0 | h0 | h0 | h0 | h0
        · rw [h0] at hO ⊢
          try simp
          have ha : arity (1) = 0 := rfl
          have e2 : ((1) == 2) = false := rfl
          have e1 : ((1) == 1) = true := rfl
          have hy : mkI (mkN c) i x = ⟨1, 0, 0, nearI x.c 4096⟩ := by unfold mkI; rw [hO]; simp [show arity 1 = 0 from rfl]
          refine call_ret (hA (1) _) ?_
          simp [ha, g2, g5, g6, rtA, h1, hx, hxE, insA, a255, hine, hiN, wai, wbi, wan]
          refine call_ret (hA (1) _) ?_
          simp [ha, e2, e1, g2, g5, g6, rtA, h1, hx, hxE, insA, a255, hine, hiN, wai, wbi, wan, hNne, hNn]
          refine call_ret (rNear x.c 4096 (by decide) _) ?_
          simp [g2, g5, g6, rtA]
          obtain ⟨v', J', hap, hacc', _⟩ := pushIns (x := mkI (mkN c) i x) (hacc.len (L := [.row true 5 [insA (mkI (mkN c) i x)]])) rfl (by rw [mkL_len]; omega)
          obtain ⟨kk', hv', hJk'⟩ : ∃ kk', v' = .ref (H.length + (kk' + 3)) (i + 1) ∧ J'[kk']? = some (.row true 5 ((mkL c (i + 1)).map insA)) := by
            rcases hacc' with ⟨h0', _⟩ | ⟨kk', h1', h2'⟩
            · simp at h0'
            · exact ⟨kk', by rw [h1']; simp [mkL_len]; omega, by rw [mkL_succ]; simpa [hx] using h2'⟩
          subst hv'
          rw [hy] at hap
          refine bind_some (by simpa [insA, rtA] using hap) ?_
          simp [g5, g6, w2, wr1]
          exact ⟨i + 1, by show mkC c most - (i + 1) < mkC c most - i; omega, by simp [g1], by simp [g2], by simp [g4], by simp [g5], by simp, by omega, .ref (H.length + (kk' + 3)) (i + 1), J', fun h => by omega, by simp [rtA], .inr ⟨kk', by simp [mkL_len]; omega, hJk'⟩⟩
        · rw [h0] at hO ⊢
          try simp
          have ha : arity (2) = 0 := rfl
          have e2 : ((2) == 2) = true := rfl
          have e1 : ((2) == 1) = false := rfl
          have hy : mkI (mkN c) i x = ⟨2, low x.a 255 % mkN c, 0, (0, 0)⟩ := by unfold mkI; rw [hO]; simp [show arity 2 = 0 from rfl]
          refine call_ret (hA (2) _) ?_
          simp [ha, g2, g5, g6, rtA, h1, hx, hxE, insA, a255, hine, hiN, wai, wbi, wan]
          refine call_ret (hA (2) _) ?_
          simp [ha, e2, e1, g2, g5, g6, rtA, h1, hx, hxE, insA, a255, hine, hiN, wai, wbi, wan, hNne, hNn]
          refine endD [] (by rfl) (by simp [okW, note, Eff.triv, Eff.wr, Eff.none, upTo, newAt]) ?_
          simp [e2, e1, g2, g5, g6, rtA, h1, hx, hxE, insA, a255, wan, hNne, hNn]
          obtain ⟨v', J', hap, hacc', _⟩ := pushIns (x := mkI (mkN c) i x) (hacc.len (L := [.row true 5 [insA (mkI (mkN c) i x)]])) rfl (by rw [mkL_len]; omega)
          obtain ⟨kk', hv', hJk'⟩ : ∃ kk', v' = .ref (H.length + (kk' + 3)) (i + 1) ∧ J'[kk']? = some (.row true 5 ((mkL c (i + 1)).map insA)) := by
            rcases hacc' with ⟨h0', _⟩ | ⟨kk', h1', h2'⟩
            · simp at h0'
            · exact ⟨kk', by rw [h1']; simp [mkL_len]; omega, by rw [mkL_succ]; simpa [hx] using h2'⟩
          subst hv'
          rw [hy] at hap
          refine bind_some (by simpa [insA, rtA] using hap) ?_
          simp [g5, g6, w2, wr1]
          exact ⟨i + 1, by show mkC c most - (i + 1) < mkC c most - i; omega, by simp [g1], by simp [g2], by simp [g4], by simp [g5], by simp, by omega, .ref (H.length + (kk' + 3)) (i + 1), J', fun h => by omega, by simp [rtA], .inr ⟨kk', by simp [mkL_len]; omega, hJk'⟩⟩
        · rw [h0] at hO ⊢
          try simp
          have ha : arity (3) = 0 := rfl
          have e2 : ((3) == 2) = false := rfl
          have e1 : ((3) == 1) = false := rfl
          have hy : mkI (mkN c) i x = ⟨3, 0, 0, (0, 0)⟩ := by unfold mkI; rw [hO]; simp [show arity 3 = 0 from rfl]
          refine call_ret (hA (3) _) ?_
          simp [ha, g2, g5, g6, rtA, h1, hx, hxE, insA, a255, hine, hiN, wai, wbi, wan]
          refine call_ret (hA (3) _) ?_
          simp [ha, e2, e1, g2, g5, g6, rtA, h1, hx, hxE, insA, a255, hine, hiN, wai, wbi, wan, hNne, hNn]
          obtain ⟨v', J', hap, hacc', _⟩ := pushIns (x := mkI (mkN c) i x) (hacc.len (L := [.row true 5 [insA (mkI (mkN c) i x)]])) rfl (by rw [mkL_len]; omega)
          obtain ⟨kk', hv', hJk'⟩ : ∃ kk', v' = .ref (H.length + (kk' + 3)) (i + 1) ∧ J'[kk']? = some (.row true 5 ((mkL c (i + 1)).map insA)) := by
            rcases hacc' with ⟨h0', _⟩ | ⟨kk', h1', h2'⟩
            · simp at h0'
            · exact ⟨kk', by rw [h1']; simp [mkL_len]; omega, by rw [mkL_succ]; simpa [hx] using h2'⟩
          subst hv'
          rw [hy] at hap
          refine bind_some (by simpa [insA, rtA] using hap) ?_
          simp [g5, g6, w2, wr1]
          exact ⟨i + 1, by show mkC c most - (i + 1) < mkC c most - i; omega, by simp [g1], by simp [g2], by simp [g4], by simp [g5], by simp, by omega, .ref (H.length + (kk' + 3)) (i + 1), J', fun h => by omega, by simp [rtA], .inr ⟨kk', by simp [mkL_len]; omega, hJk'⟩⟩
        · have h02 : ¬ mkOp x = 2 := by omega
          have h01 : ¬ mkOp x = 1 := by omega
          have ha : arity (mkOp x) = 1 := by unfold arity; rw [if_neg (by omega), if_pos (by omega)]
          have e2 : ((mkOp x) == 2) = false := by rw [beq_eq_false_iff_ne]; exact h02
          have e1 : ((mkOp x) == 1) = false := by rw [beq_eq_false_iff_ne]; exact h01
          have hy : mkI (mkN c) i x = ⟨mkOp x, low x.a 255 % i, 0, (0, 0)⟩ := by unfold mkI; rw [hO, ha, if_neg h02, if_neg h01]; rfl
          refine call_ret (hA (mkOp x) _) ?_
          simp [ha, g2, g5, g6, rtA, h1, hx, hxE, insA, a255, hine, hiN, wai, wbi, wan]
          refine call_ret (hA (mkOp x) _) ?_
          simp [ha, e2, e1, g2, g5, g6, rtA, h1, hx, hxE, insA, a255, hine, hiN, wai, wbi, wan, hNne, hNn]
          obtain ⟨v', J', hap, hacc', _⟩ := pushIns (x := mkI (mkN c) i x) (hacc.len (L := [.row true 5 [insA (mkI (mkN c) i x)]])) rfl (by rw [mkL_len]; omega)
          obtain ⟨kk', hv', hJk'⟩ : ∃ kk', v' = .ref (H.length + (kk' + 3)) (i + 1) ∧ J'[kk']? = some (.row true 5 ((mkL c (i + 1)).map insA)) := by
            rcases hacc' with ⟨h0', _⟩ | ⟨kk', h1', h2'⟩
            · simp at h0'
            · exact ⟨kk', by rw [h1']; simp [mkL_len]; omega, by rw [mkL_succ]; simpa [hx] using h2'⟩
          subst hv'
          rw [hy] at hap
          refine bind_some (by simpa [insA, rtA] using hap) ?_
          simp [g5, g6, w2, wr1]
          exact ⟨i + 1, by show mkC c most - (i + 1) < mkC c most - i; omega, by simp [g1], by simp [g2], by simp [g4], by simp [g5], by simp, by omega, .ref (H.length + (kk' + 3)) (i + 1), J', fun h => by omega, by simp [rtA], .inr ⟨kk', by simp [mkL_len]; omega, hJk'⟩⟩
        · have h02 : ¬ mkOp x = 2 := by omega
          have h01 : ¬ mkOp x = 1 := by omega
          have ha : arity (mkOp x) = 2 := by unfold arity; rw [if_neg (by omega), if_neg (by omega), if_pos (by omega)]
          have e2 : ((mkOp x) == 2) = false := by rw [beq_eq_false_iff_ne]; exact h02
          have e1 : ((mkOp x) == 1) = false := by rw [beq_eq_false_iff_ne]; exact h01
          have hy : mkI (mkN c) i x = ⟨mkOp x, low x.a 255 % i, low x.b 255 % i, (0, 0)⟩ := by unfold mkI; rw [hO, ha, if_neg h02, if_neg h01]; rfl
          refine call_ret (hA (mkOp x) _) ?_
          simp [ha, g2, g5, g6, rtA, h1, hx, hxE, insA, a255, hine, hiN, wai, wbi, wan]
          refine call_ret (hA (mkOp x) _) ?_
          simp [ha, e2, e1, g2, g5, g6, rtA, h1, hx, hxE, insA, a255, hine, hiN, wai, wbi, wan, hNne, hNn]
          obtain ⟨v', J', hap, hacc', _⟩ := pushIns (x := mkI (mkN c) i x) (hacc.len (L := [.row true 5 [insA (mkI (mkN c) i x)]])) rfl (by rw [mkL_len]; omega)
          obtain ⟨kk', hv', hJk'⟩ : ∃ kk', v' = .ref (H.length + (kk' + 3)) (i + 1) ∧ J'[kk']? = some (.row true 5 ((mkL c (i + 1)).map insA)) := by
            rcases hacc' with ⟨h0', _⟩ | ⟨kk', h1', h2'⟩
            · simp at h0'
            · exact ⟨kk', by rw [h1']; simp [mkL_len]; omega, by rw [mkL_succ]; simpa [hx] using h2'⟩
          subst hv'
          rw [hy] at hap
          refine bind_some (by simpa [insA, rtA] using hap) ?_
          simp [g5, g6, w2, wr1]
          exact ⟨i + 1, by show mkC c most - (i + 1) < mkC c most - i; omega, by simp [g1], by simp [g2], by simp [g4], by simp [g5], by simp, by omega, .ref (H.length + (kk' + 3)) (i + 1), J', fun h => by omega, by simp [rtA], .inr ⟨kk', by simp [mkL_len]; omega, hJk'⟩⟩
    · have hi' : i = mkC c most := by unfold mkC at *; omega
      simp [g1, g2, g5, g6, rtA, h1, h2]
      by_cases h0 : mkC c most = 0
      · have hv : v = .nilslice := hv0 (by omega)
        subst hv
        simp [g5]
        refine loop_count (LM2 c most H) (fun i => mkN c - i) 0 ⟨by simp [g2], by simp [g4], by simp [g5], by simp, by omega, .slice [insA ⟨2, 0, 0, (0, 0)⟩] true, .nilslice, J, by simp [insA, rtA], .inl ⟨rfl, by unfold mkLL; rw [if_pos h0]⟩, .inl ⟨rfl, rfl⟩⟩ ?_
        clear g1 g2 g4 g5 g6 hacc hv0
        rintro i fr H' ⟨g2, g4, g5, g9, hi, w, vo, J, rfl, hw, hvo⟩
        have hmb := mkLL_len c most hm
        have w2 : IntKind.i64.wrap ((i : Int) + 1) = ((i + 1 : Nat) : Int) := by rw [wrap64 (by omega) (by omega)]; omega
        have wr1 : IntKind.i64.wrap 1 = 1 := wrap64 (by decide) (by decide)
        simp [g5, g9]
        refine branch (fun hc => ?_) (fun hc => ?_)
        · have hlt : i < mkN c := by simpa using hc
          rcases hw with ⟨rfl, hML⟩ | ⟨kk, m, rfl, hmm, hJ⟩
          · rcases hvo with ⟨rfl, rfl⟩ | ⟨k2, rfl, hJo, hne⟩
            · by_cases ho1 : 0 < c.out.length
              · have hm1 : (mkLL c most).length = 1 := by rw [hML]; rfl
                have wml : IntKind.i64.wrap 0 = 0 := wrap64 (by decide) (by decide)
                obtain ⟨y, hy⟩ := get_lt ho1
                have hyE : ∀ h, c.out[0]'h = y := fun h => (List.getElem?_eq_some_iff.1 hy).2
                have hat : ((mkAt c (mkLL c most).length 0 : Nat) : Int) = (low y 65535).tmod (1 : Int) := by
                  have q0 := low_bounds y (m := 65535) (by decide)
                  have q1 := Int.emod_nonneg (low y 65535) (b := ((mkLL c most).length : Int)) (by omega)
                  rw [show (1 : Int) = ((mkLL c most).length : Int) by omega, Int.tmod_eq_emod_of_nonneg q0.1]
                  unfold mkAt; rw [hy]; exact Int.toNat_of_nonneg q1
                simp at hat
                simp [g2, g5, g9, rtA, ints, ho1, insA, wml]
                simp [g2, g5, g9, rtA, ints, hy, hyE, and64k, insA]
                refine endD [] (by rfl) (by simp [okW, note, Eff.triv, Eff.wr, Eff.none, upTo, newAt]) ?_
                simp [g2, g5, g9, rtA, ints, insA]
                refine bind_some (by simpa [rtA, ints, insA, hat] using app_intN (k := ((mkAt c (mkLL c most).length 0 : Nat) : Int))) ?_
                simp [g5, g9, wr1, rtA, ints, insA]
                exact ⟨1, by show mkN c - 1 < mkN c - 0; omega, by simp [g2], by simp [g4], by simp [g5], by simp, by omega, _, .ref (H.length + (J.length + 3)) (1), J ++ [.row true 1 (outL c (mkLL c most).length 1)], by simp [rtA, ints, insA, outL, hat], .inl ⟨rfl, hML⟩, .inr ⟨J.length, rfl, by simp, fun n h => by cases h⟩⟩
              · have hm1 : (mkLL c most).length = 1 := by rw [hML]; rfl
                have wml : IntKind.i64.wrap 0 = 0 := wrap64 (by decide) (by decide)
                have hy : c.out[0]? = none := by rw [List.getElem?_eq_none_iff]; omega
                have hat : ((mkAt c (mkLL c most).length 0 : Nat) : Int) = ((1 - 1 : Nat) : Int) := by unfold mkAt; rw [hy]; simp only; omega
                simp at hat
                simp [g2, g5, g9, rtA, ints, ho1, insA, wml]
                refine bind_some (by simpa [rtA, ints, insA, hat] using app_intN (k := ((mkAt c (mkLL c most).length 0 : Nat) : Int))) ?_
                simp [g5, g9, wr1, rtA, ints, insA]
                exact ⟨1, by show mkN c - 1 < mkN c - 0; omega, by simp [g2], by simp [g4], by simp [g5], by simp, by omega, _, .ref (H.length + (J.length + 3)) (1), J ++ [.row true 1 (outL c (mkLL c most).length 1)], by simp [rtA, ints, insA, outL, hat], .inl ⟨rfl, hML⟩, .inr ⟨J.length, rfl, by simp, fun n h => by cases h⟩⟩
            · by_cases ho1 : i < c.out.length
              · have hm1 : (mkLL c most).length = 1 := by rw [hML]; rfl
                have wml : IntKind.i64.wrap 0 = 0 := wrap64 (by decide) (by decide)
                have hJo2 := old hJo
                have hol := outL_len c (mkLL c most).length i
                obtain ⟨y, hy⟩ := get_lt ho1
                have hyE : ∀ h, c.out[i]'h = y := fun h => (List.getElem?_eq_some_iff.1 hy).2
                have hat : ((mkAt c (mkLL c most).length i : Nat) : Int) = (low y 65535).tmod (1 : Int) := by
                  have q0 := low_bounds y (m := 65535) (by decide)
                  have q1 := Int.emod_nonneg (low y 65535) (b := ((mkLL c most).length : Int)) (by omega)
                  rw [show (1 : Int) = ((mkLL c most).length : Int) by omega, Int.tmod_eq_emod_of_nonneg q0.1]
                  unfold mkAt; rw [hy]; exact Int.toNat_of_nonneg q1
                simp at hat
                simp [g2, g5, g9, rtA, ints, ho1, insA, hJo, hJo2, wml]
                simp [g2, g5, g9, rtA, ints, hy, hyE, and64k, insA, hJo, hJo2]
                refine endD [] (by rfl) (by simp [okW, note, Eff.triv, Eff.wr, Eff.none, upTo, newAt]) ?_
                simp [g2, g5, g9, rtA, ints, insA, hJo, hJo2]
                refine bind_some (by simpa [rtA, ints, insA, hat] using app_int (k := ((mkAt c (mkLL c most).length i : Nat) : Int)) (l := outL c (mkLL c most).length i) (b := H.length + (k2 + 3)) (n := i) hol (by omega) (by simpa using hJo)) ?_
                simp [g5, g9, w2, rtA, ints, insA]
                exact ⟨i + 1, by show mkN c - (i + 1) < mkN c - i; omega, by simp [g2], by simp [g4], by simp [g5], by simp, by omega, _, .ref (H.length + (k2 + 3)) (i + 1), J.set k2 (.row true 1 (outL c (mkLL c most).length (i + 1))), by simp [rtA, ints, insA, outL_succ, hat], .inl ⟨rfl, hML⟩, .inr ⟨k2, rfl, set_get hJo, hne⟩⟩
              · have hm1 : (mkLL c most).length = 1 := by rw [hML]; rfl
                have wml : IntKind.i64.wrap 0 = 0 := wrap64 (by decide) (by decide)
                have hJo2 := old hJo
                have hol := outL_len c (mkLL c most).length i
                have hy : c.out[i]? = none := by rw [List.getElem?_eq_none_iff]; omega
                have hat : ((mkAt c (mkLL c most).length i : Nat) : Int) = ((1 - 1 : Nat) : Int) := by unfold mkAt; rw [hy]; simp only; omega
                simp at hat
                simp [g2, g5, g9, rtA, ints, ho1, insA, hJo, hJo2, wml]
                refine bind_some (by simpa [rtA, ints, insA, hat] using app_int (k := ((mkAt c (mkLL c most).length i : Nat) : Int)) (l := outL c (mkLL c most).length i) (b := H.length + (k2 + 3)) (n := i) hol (by omega) (by simpa using hJo)) ?_
                simp [g5, g9, w2, rtA, ints, insA]
                exact ⟨i + 1, by show mkN c - (i + 1) < mkN c - i; omega, by simp [g2], by simp [g4], by simp [g5], by simp, by omega, _, .ref (H.length + (k2 + 3)) (i + 1), J.set k2 (.row true 1 (outL c (mkLL c most).length (i + 1))), by simp [rtA, ints, insA, outL_succ, hat], .inl ⟨rfl, hML⟩, .inr ⟨k2, rfl, set_get hJo, hne⟩⟩
          · rcases hvo with ⟨rfl, rfl⟩ | ⟨k2, rfl, hJo, hne⟩
            · by_cases ho1 : 0 < c.out.length
              · have hml : ((mkLL c most).map insA).length = m := by simp [hmm]
                have hJ2 := old hJ
                have hkl := (List.getElem?_eq_some_iff.1 hJ).1
                have hmne : ¬ m = 0 := by omega
                have wml : IntKind.i64.wrap ((m : Int) - 1) = ((m - 1 : Nat) : Int) := by rw [wrap64 (by omega) (by omega)]; omega
                obtain ⟨y, hy⟩ := get_lt ho1
                have hyE : ∀ h, c.out[0]'h = y := fun h => (List.getElem?_eq_some_iff.1 hy).2
                have hat : ((mkAt c (mkLL c most).length 0 : Nat) : Int) = (low y 65535).tmod (m : Int) := by
                  have q0 := low_bounds y (m := 65535) (by decide)
                  have q1 := Int.emod_nonneg (low y 65535) (b := ((mkLL c most).length : Int)) (by omega)
                  rw [show (m : Int) = ((mkLL c most).length : Int) by omega, Int.tmod_eq_emod_of_nonneg q0.1]
                  unfold mkAt; rw [hy]; exact Int.toNat_of_nonneg q1
                simp [g2, g5, g9, rtA, ints, ho1, hJ, hJ2, hml, wml]
                simp [g2, g5, g9, rtA, ints, hy, hyE, and64k, hJ, hJ2, hml, hmne]
                refine endD [] (by rfl) (by simp [okW, note, Eff.triv, Eff.wr, Eff.none, upTo, newAt]) ?_
                simp [g2, g5, g9, rtA, ints, hJ, hJ2, hml]
                refine bind_some (by simpa [rtA, ints, insA, hat] using app_intN (k := ((mkAt c (mkLL c most).length 0 : Nat) : Int))) ?_
                simp [g5, g9, wr1, rtA, ints, insA]
                exact ⟨1, by show mkN c - 1 < mkN c - 0; omega, by simp [g2], by simp [g4], by simp [g5], by simp, by omega, _, .ref (H.length + (J.length + 3)) (1), J ++ [.row true 1 (outL c (mkLL c most).length 1)], by simp [rtA, ints, insA, outL, hat], .inr ⟨kk, m, rfl, hmm, hJ2 _⟩, .inr ⟨J.length, rfl, by simp, fun n h => by simp at h; omega⟩⟩
              · have hml : ((mkLL c most).map insA).length = m := by simp [hmm]
                have hJ2 := old hJ
                have hkl := (List.getElem?_eq_some_iff.1 hJ).1
                have hmne : ¬ m = 0 := by omega
                have wml : IntKind.i64.wrap ((m : Int) - 1) = ((m - 1 : Nat) : Int) := by rw [wrap64 (by omega) (by omega)]; omega
                have hy : c.out[0]? = none := by rw [List.getElem?_eq_none_iff]; omega
                have hat : ((mkAt c (mkLL c most).length 0 : Nat) : Int) = ((m - 1 : Nat) : Int) := by unfold mkAt; rw [hy]; simp only; omega
                simp [g2, g5, g9, rtA, ints, ho1, hJ, hJ2, hml, wml]
                refine bind_some (by simpa [rtA, ints, insA, hat] using app_intN (k := ((mkAt c (mkLL c most).length 0 : Nat) : Int))) ?_
                simp [g5, g9, wr1, rtA, ints, insA]
                exact ⟨1, by show mkN c - 1 < mkN c - 0; omega, by simp [g2], by simp [g4], by simp [g5], by simp, by omega, _, .ref (H.length + (J.length + 3)) (1), J ++ [.row true 1 (outL c (mkLL c most).length 1)], by simp [rtA, ints, insA, outL, hat], .inr ⟨kk, m, rfl, hmm, hJ2 _⟩, .inr ⟨J.length, rfl, by simp, fun n h => by simp at h; omega⟩⟩
            · by_cases ho1 : i < c.out.length
              · have hml : ((mkLL c most).map insA).length = m := by simp [hmm]
                have hJ2 := old hJ
                have hkl := (List.getElem?_eq_some_iff.1 hJ).1
                have hmne : ¬ m = 0 := by omega
                have wml : IntKind.i64.wrap ((m : Int) - 1) = ((m - 1 : Nat) : Int) := by rw [wrap64 (by omega) (by omega)]; omega
                have hJo2 := old hJo
                have hol := outL_len c (mkLL c most).length i
                obtain ⟨y, hy⟩ := get_lt ho1
                have hyE : ∀ h, c.out[i]'h = y := fun h => (List.getElem?_eq_some_iff.1 hy).2
                have hat : ((mkAt c (mkLL c most).length i : Nat) : Int) = (low y 65535).tmod (m : Int) := by
                  have q0 := low_bounds y (m := 65535) (by decide)
                  have q1 := Int.emod_nonneg (low y 65535) (b := ((mkLL c most).length : Int)) (by omega)
                  rw [show (m : Int) = ((mkLL c most).length : Int) by omega, Int.tmod_eq_emod_of_nonneg q0.1]
                  unfold mkAt; rw [hy]; exact Int.toNat_of_nonneg q1
                simp [g2, g5, g9, rtA, ints, ho1, hJ, hJ2, hml, hJo, hJo2, wml]
                simp [g2, g5, g9, rtA, ints, hy, hyE, and64k, hJ, hJ2, hml, hJo, hJo2, hmne]
                refine endD [] (by rfl) (by simp [okW, note, Eff.triv, Eff.wr, Eff.none, upTo, newAt]) ?_
                simp [g2, g5, g9, rtA, ints, hJ, hJ2, hml, hJo, hJo2]
                refine bind_some (by simpa [rtA, ints, insA, hat] using app_int (k := ((mkAt c (mkLL c most).length i : Nat) : Int)) (l := outL c (mkLL c most).length i) (b := H.length + (k2 + 3)) (n := i) hol (by omega) (by simpa using hJo)) ?_
                simp [g5, g9, w2, rtA, ints, insA]
                exact ⟨i + 1, by show mkN c - (i + 1) < mkN c - i; omega, by simp [g2], by simp [g4], by simp [g5], by simp, by omega, _, .ref (H.length + (k2 + 3)) (i + 1), J.set k2 (.row true 1 (outL c (mkLL c most).length (i + 1))), by simp [rtA, ints, insA, outL_succ, hat], .inr ⟨kk, m, rfl, hmm, by rw [List.getElem?_set_ne (fun e => hne m (by rw [e]))]; exact hJ⟩, .inr ⟨k2, rfl, set_get hJo, hne⟩⟩
              · have hml : ((mkLL c most).map insA).length = m := by simp [hmm]
                have hJ2 := old hJ
                have hkl := (List.getElem?_eq_some_iff.1 hJ).1
                have hmne : ¬ m = 0 := by omega
                have wml : IntKind.i64.wrap ((m : Int) - 1) = ((m - 1 : Nat) : Int) := by rw [wrap64 (by omega) (by omega)]; omega
                have hJo2 := old hJo
                have hol := outL_len c (mkLL c most).length i
                have hy : c.out[i]? = none := by rw [List.getElem?_eq_none_iff]; omega
                have hat : ((mkAt c (mkLL c most).length i : Nat) : Int) = ((m - 1 : Nat) : Int) := by unfold mkAt; rw [hy]; simp only; omega
                simp [g2, g5, g9, rtA, ints, ho1, hJ, hJ2, hml, hJo, hJo2, wml]
                refine bind_some (by simpa [rtA, ints, insA, hat] using app_int (k := ((mkAt c (mkLL c most).length i : Nat) : Int)) (l := outL c (mkLL c most).length i) (b := H.length + (k2 + 3)) (n := i) hol (by omega) (by simpa using hJo)) ?_
                simp [g5, g9, w2, rtA, ints, insA]
                exact ⟨i + 1, by show mkN c - (i + 1) < mkN c - i; omega, by simp [g2], by simp [g4], by simp [g5], by simp, by omega, _, .ref (H.length + (k2 + 3)) (i + 1), J.set k2 (.row true 1 (outL c (mkLL c most).length (i + 1))), by simp [rtA, ints, insA, outL_succ, hat], .inr ⟨kk, m, rfl, hmm, by rw [List.getElem?_set_ne (fun e => hne m (by rw [e]))]; exact hJ⟩, .inr ⟨k2, rfl, set_get hJo, hne⟩⟩
        · have hi' : i = mkN c := by
            have : ¬ i < mkN c := by simpa using hc
            omega
          subst hi'
          rcases hvo with ⟨_, h⟩ | ⟨k2, rfl, hJo, hne⟩
          · omega
          have hJo2 := old hJo
          have hol := outL_len c (mkLL c most).length (mkN c)
          have hO : (outL c (mkLL c most).length (mkN c)) = (mkT c most).out.map fun k : Nat => .int .i64 k := by simp [outL, mkT]
          have hT : tpA (mkT c most) = .agg [.int .i64 (mkN c), .slice ((mkLL c most).map insA) false, .slice (outL c (mkLL c most).length (mkN c)) false] := by rw [hO]; rfl
          have hnO : ∀ n, noFs n (outL c (mkLL c most).length (mkN c)) = true := fun n => noFs_iff.2 fun x hx => by obtain ⟨y, _, rfl⟩ := List.mem_map.1 hx; simp [noF]
          rw [hT]
          generalize hoo : outL c (mkLL c most).length (mkN c) = oo at *
          rcases hw with ⟨rfl, hML⟩ | ⟨kk, m, rfl, hmm, hJ⟩
          · rw [hML]
            simp [g4, g5, rtA]
            exact finC (rs := [.cell 4 25]) (vs := [.agg [.int .i64 (mkN c), .slice [insA ⟨2, 0, 0, (0, 0)⟩] true, .ref (H.length + (k2 + 3)) (mkN c)]]) (vs' := [.agg [.int .i64 (mkN c), .slice [insA ⟨2, 0, 0, (0, 0)⟩] false, .slice oo false]]) (J' := .row true 3 [rtA c] :: .row true 3 [.agg [.int .i64 (mkN c), .slice [insA ⟨2, 0, 0, (0, 0)⟩] true, .ref (H.length + (k2 + 3)) (mkN c)]] :: .row true 3 [.agg [.int .i64 (mkN c), .slice [insA ⟨2, 0, 0, (0, 0)⟩] true, .ref (H.length + (k2 + 3)) (mkN c)]] :: J.set k2 (.row false 1 oo)) (by rfl) (by simp [resA, g4]) (by simp [hJo, hol, rtA]) (by simp [noFs, noF, insA, hnO]) rfl
          · have hne2 : kk ≠ k2 := fun e => hne m (by rw [e])
            have hml : ((mkLL c most).map insA).length = m := by simp [hmm]
            have hJo3 : ∀ x, (J.set kk x)[k2]? = some (.row true 1 oo) := fun x => by rw [List.getElem?_set_ne hne2]; exact hJo
            have hnL : ∀ n, noFs n ((mkLL c most).map insA) = true := fun n => noFs_iff.2 fun x hx => by obtain ⟨y, _, rfl⟩ := List.mem_map.1 hx; simp [noF, insA, noFs]
            generalize (mkLL c most).map insA = ll at *
            simp [g4, g5, rtA]
            exact finC (rs := [.cell 4 25]) (vs := [.agg [.int .i64 (mkN c), .ref (H.length + (kk + 3)) m, .ref (H.length + (k2 + 3)) (mkN c)]]) (vs' := [.agg [.int .i64 (mkN c), .slice ll false, .slice oo false]]) (J' := .row true 3 [rtA c] :: .row true 3 [.agg [.int .i64 (mkN c), .ref (H.length + (kk + 3)) m, .ref (H.length + (k2 + 3)) (mkN c)]] :: .row true 3 [.agg [.int .i64 (mkN c), .ref (H.length + (kk + 3)) m, .ref (H.length + (k2 + 3)) (mkN c)]] :: (J.set kk (.row false 5 ll)).set k2 (.row false 1 oo)) (by rfl) (by simp [resA, g4]) (by simp [hJ, hJo3, hol, hml, rtA]) (by simp [noFs, noF, hnL, hnO]) rfl
      · rcases hacc with ⟨h0', _⟩ | ⟨kk, hv, hJk⟩
        · have := congrArg List.length h0'
          simp [mkL_len] at this
          omega
        · have hLL : mkLL c most = mkL c i := by unfold mkLL; rw [if_neg h0, hi']
          have hv2 : v = .ref (H.length + (kk + 3)) i := by rw [hv]; simp [mkL_len]; omega
          subst hv2
          have hln : (mkL c i).length = i := mkL_len c i
          have hi0 : ((i : Int) == 0) = false := by rw [beq_eq_false_iff_ne]; omega
          rw [← hLL] at hJk hln
          have hln2 : ((mkLL c most).map insA).length = i := by simp [hln]
          generalize hLM : (mkLL c most).map insA = ll at *
          simp [g5, hJk, hln2, hi0]
          refine loop_count (LM2 c most H) (fun i => mkN c - i) 0 ⟨by simp [g2], by simp [g4], by simp [g5], by simp, by omega, .ref (H.length + (kk + 3)) i, .nilslice, J, by simp [rtA], .inr ⟨kk, i, rfl, hln.symm, by rw [hLM]; exact hJk⟩, .inl ⟨rfl, rfl⟩⟩ ?_
          clear g1 g2 g4 g5 g6 hv0 hv hJk hln hln2 hLL hi0 hLM
          rintro i fr H' ⟨g2, g4, g5, g9, hi, w, vo, J, rfl, hw, hvo⟩
          have hmb := mkLL_len c most hm
          have w2 : IntKind.i64.wrap ((i : Int) + 1) = ((i + 1 : Nat) : Int) := by rw [wrap64 (by omega) (by omega)]; omega
          have wr1 : IntKind.i64.wrap 1 = 1 := wrap64 (by decide) (by decide)
          simp [g5, g9]
          refine branch (fun hc => ?_) (fun hc => ?_)
          · have hlt : i < mkN c := by simpa using hc
            rcases hw with ⟨rfl, hML⟩ | ⟨kk, m, rfl, hmm, hJ⟩
            · rcases hvo with ⟨rfl, rfl⟩ | ⟨k2, rfl, hJo, hne⟩
              · by_cases ho1 : 0 < c.out.length
                · have hm1 : (mkLL c most).length = 1 := by rw [hML]; rfl
                  have wml : IntKind.i64.wrap 0 = 0 := wrap64 (by decide) (by decide)
                  obtain ⟨y, hy⟩ := get_lt ho1
                  have hyE : ∀ h, c.out[0]'h = y := fun h => (List.getElem?_eq_some_iff.1 hy).2
                  have hat : ((mkAt c (mkLL c most).length 0 : Nat) : Int) = (low y 65535).tmod (1 : Int) := by
                    have q0 := low_bounds y (m := 65535) (by decide)
                    have q1 := Int.emod_nonneg (low y 65535) (b := ((mkLL c most).length : Int)) (by omega)
                    rw [show (1 : Int) = ((mkLL c most).length : Int) by omega, Int.tmod_eq_emod_of_nonneg q0.1]
                    unfold mkAt; rw [hy]; exact Int.toNat_of_nonneg q1
                  simp at hat
                  simp [g2, g5, g9, rtA, ints, ho1, insA, wml]
                  simp [g2, g5, g9, rtA, ints, hy, hyE, and64k, insA]
                  refine endD [] (by rfl) (by simp [okW, note, Eff.triv, Eff.wr, Eff.none, upTo, newAt]) ?_
                  simp [g2, g5, g9, rtA, ints, insA]
                  refine bind_some (by simpa [rtA, ints, insA, hat] using app_intN (k := ((mkAt c (mkLL c most).length 0 : Nat) : Int))) ?_
                  simp [g5, g9, wr1, rtA, ints, insA]
                  exact ⟨1, by show mkN c - 1 < mkN c - 0; omega, by simp [g2], by simp [g4], by simp [g5], by simp, by omega, _, .ref (H.length + (J.length + 3)) (1), J ++ [.row true 1 (outL c (mkLL c most).length 1)], by simp [rtA, ints, insA, outL, hat], .inl ⟨rfl, hML⟩, .inr ⟨J.length, rfl, by simp, fun n h => by cases h⟩⟩
                · have hm1 : (mkLL c most).length = 1 := by rw [hML]; rfl
                  have wml : IntKind.i64.wrap 0 = 0 := wrap64 (by decide) (by decide)
                  have hy : c.out[0]? = none := by rw [List.getElem?_eq_none_iff]; omega
                  have hat : ((mkAt c (mkLL c most).length 0 : Nat) : Int) = ((1 - 1 : Nat) : Int) := by unfold mkAt; rw [hy]; simp only; omega
                  simp at hat
                  simp [g2, g5, g9, rtA, ints, ho1, insA, wml]
                  refine bind_some (by simpa [rtA, ints, insA, hat] using app_intN (k := ((mkAt c (mkLL c most).length 0 : Nat) : Int))) ?_
                  simp [g5, g9, wr1, rtA, ints, insA]
                  exact ⟨1, by show mkN c - 1 < mkN c - 0; omega, by simp [g2], by simp [g4], by simp [g5], by simp, by omega, _, .ref (H.length + (J.length + 3)) (1), J ++ [.row true 1 (outL c (mkLL c most).length 1)], by simp [rtA, ints, insA, outL, hat], .inl ⟨rfl, hML⟩, .inr ⟨J.length, rfl, by simp, fun n h => by cases h⟩⟩
              · by_cases ho1 : i < c.out.length
                · have hm1 : (mkLL c most).length = 1 := by rw [hML]; rfl
                  have wml : IntKind.i64.wrap 0 = 0 := wrap64 (by decide) (by decide)
                  have hJo2 := old hJo
                  have hol := outL_len c (mkLL c most).length i
                  obtain ⟨y, hy⟩ := get_lt ho1
                  have hyE : ∀ h, c.out[i]'h = y := fun h => (List.getElem?_eq_some_iff.1 hy).2
                  have hat : ((mkAt c (mkLL c most).length i : Nat) : Int) = (low y 65535).tmod (1 : Int) := by
                    have q0 := low_bounds y (m := 65535) (by decide)
                    have q1 := Int.emod_nonneg (low y 65535) (b := ((mkLL c most).length : Int)) (by omega)
                    rw [show (1 : Int) = ((mkLL c most).length : Int) by omega, Int.tmod_eq_emod_of_nonneg q0.1]
                    unfold mkAt; rw [hy]; exact Int.toNat_of_nonneg q1
                  simp at hat
                  simp [g2, g5, g9, rtA, ints, ho1, insA, hJo, hJo2, wml]
                  simp [g2, g5, g9, rtA, ints, hy, hyE, and64k, insA, hJo, hJo2]
                  refine endD [] (by rfl) (by simp [okW, note, Eff.triv, Eff.wr, Eff.none, upTo, newAt]) ?_
                  simp [g2, g5, g9, rtA, ints, insA, hJo, hJo2]
                  refine bind_some (by simpa [rtA, ints, insA, hat] using app_int (k := ((mkAt c (mkLL c most).length i : Nat) : Int)) (l := outL c (mkLL c most).length i) (b := H.length + (k2 + 3)) (n := i) hol (by omega) (by simpa using hJo)) ?_
                  simp [g5, g9, w2, rtA, ints, insA]
                  exact ⟨i + 1, by show mkN c - (i + 1) < mkN c - i; omega, by simp [g2], by simp [g4], by simp [g5], by simp, by omega, _, .ref (H.length + (k2 + 3)) (i + 1), J.set k2 (.row true 1 (outL c (mkLL c most).length (i + 1))), by simp [rtA, ints, insA, outL_succ, hat], .inl ⟨rfl, hML⟩, .inr ⟨k2, rfl, set_get hJo, hne⟩⟩
                · have hm1 : (mkLL c most).length = 1 := by rw [hML]; rfl
                  have wml : IntKind.i64.wrap 0 = 0 := wrap64 (by decide) (by decide)
                  have hJo2 := old hJo
                  have hol := outL_len c (mkLL c most).length i
                  have hy : c.out[i]? = none := by rw [List.getElem?_eq_none_iff]; omega
                  have hat : ((mkAt c (mkLL c most).length i : Nat) : Int) = ((1 - 1 : Nat) : Int) := by unfold mkAt; rw [hy]; simp only; omega
                  simp at hat
                  simp [g2, g5, g9, rtA, ints, ho1, insA, hJo, hJo2, wml]
                  refine bind_some (by simpa [rtA, ints, insA, hat] using app_int (k := ((mkAt c (mkLL c most).length i : Nat) : Int)) (l := outL c (mkLL c most).length i) (b := H.length + (k2 + 3)) (n := i) hol (by omega) (by simpa using hJo)) ?_
                  simp [g5, g9, w2, rtA, ints, insA]
                  exact ⟨i + 1, by show mkN c - (i + 1) < mkN c - i; omega, by simp [g2], by simp [g4], by simp [g5], by simp, by omega, _, .ref (H.length + (k2 + 3)) (i + 1), J.set k2 (.row true 1 (outL c (mkLL c most).length (i + 1))), by simp [rtA, ints, insA, outL_succ, hat], .inl ⟨rfl, hML⟩, .inr ⟨k2, rfl, set_get hJo, hne⟩⟩
            · rcases hvo with ⟨rfl, rfl⟩ | ⟨k2, rfl, hJo, hne⟩
              · by_cases ho1 : 0 < c.out.length
                · have hml : ((mkLL c most).map insA).length = m := by simp [hmm]
                  have hJ2 := old hJ
                  have hkl := (List.getElem?_eq_some_iff.1 hJ).1
                  have hmne : ¬ m = 0 := by omega
                  have wml : IntKind.i64.wrap ((m : Int) - 1) = ((m - 1 : Nat) : Int) := by rw [wrap64 (by omega) (by omega)]; omega
                  obtain ⟨y, hy⟩ := get_lt ho1
                  have hyE : ∀ h, c.out[0]'h = y := fun h => (List.getElem?_eq_some_iff.1 hy).2
                  have hat : ((mkAt c (mkLL c most).length 0 : Nat) : Int) = (low y 65535).tmod (m : Int) := by
                    have q0 := low_bounds y (m := 65535) (by decide)
                    have q1 := Int.emod_nonneg (low y 65535) (b := ((mkLL c most).length : Int)) (by omega)
                    rw [show (m : Int) = ((mkLL c most).length : Int) by omega, Int.tmod_eq_emod_of_nonneg q0.1]
                    unfold mkAt; rw [hy]; exact Int.toNat_of_nonneg q1
                  simp [g2, g5, g9, rtA, ints, ho1, hJ, hJ2, hml, wml]
                  simp [g2, g5, g9, rtA, ints, hy, hyE, and64k, hJ, hJ2, hml, hmne]
                  refine endD [] (by rfl) (by simp [okW, note, Eff.triv, Eff.wr, Eff.none, upTo, newAt]) ?_
                  simp [g2, g5, g9, rtA, ints, hJ, hJ2, hml]
                  refine bind_some (by simpa [rtA, ints, insA, hat] using app_intN (k := ((mkAt c (mkLL c most).length 0 : Nat) : Int))) ?_
                  simp [g5, g9, wr1, rtA, ints, insA]
                  exact ⟨1, by show mkN c - 1 < mkN c - 0; omega, by simp [g2], by simp [g4], by simp [g5], by simp, by omega, _, .ref (H.length + (J.length + 3)) (1), J ++ [.row true 1 (outL c (mkLL c most).length 1)], by simp [rtA, ints, insA, outL, hat], .inr ⟨kk, m, rfl, hmm, hJ2 _⟩, .inr ⟨J.length, rfl, by simp, fun n h => by simp at h; omega⟩⟩
                · have hml : ((mkLL c most).map insA).length = m := by simp [hmm]
                  have hJ2 := old hJ
                  have hkl := (List.getElem?_eq_some_iff.1 hJ).1
                  have hmne : ¬ m = 0 := by omega
                  have wml : IntKind.i64.wrap ((m : Int) - 1) = ((m - 1 : Nat) : Int) := by rw [wrap64 (by omega) (by omega)]; omega
                  have hy : c.out[0]? = none := by rw [List.getElem?_eq_none_iff]; omega
                  have hat : ((mkAt c (mkLL c most).length 0 : Nat) : Int) = ((m - 1 : Nat) : Int) := by unfold mkAt; rw [hy]; simp only; omega
                  simp [g2, g5, g9, rtA, ints, ho1, hJ, hJ2, hml, wml]
                  refine bind_some (by simpa [rtA, ints, insA, hat] using app_intN (k := ((mkAt c (mkLL c most).length 0 : Nat) : Int))) ?_
                  simp [g5, g9, wr1, rtA, ints, insA]
                  exact ⟨1, by show mkN c - 1 < mkN c - 0; omega, by simp [g2], by simp [g4], by simp [g5], by simp, by omega, _, .ref (H.length + (J.length + 3)) (1), J ++ [.row true 1 (outL c (mkLL c most).length 1)], by simp [rtA, ints, insA, outL, hat], .inr ⟨kk, m, rfl, hmm, hJ2 _⟩, .inr ⟨J.length, rfl, by simp, fun n h => by simp at h; omega⟩⟩
              · by_cases ho1 : i < c.out.length
                · have hml : ((mkLL c most).map insA).length = m := by simp [hmm]
                  have hJ2 := old hJ
                  have hkl := (List.getElem?_eq_some_iff.1 hJ).1
                  have hmne : ¬ m = 0 := by omega
                  have wml : IntKind.i64.wrap ((m : Int) - 1) = ((m - 1 : Nat) : Int) := by rw [wrap64 (by omega) (by omega)]; omega
                  have hJo2 := old hJo
                  have hol := outL_len c (mkLL c most).length i
                  obtain ⟨y, hy⟩ := get_lt ho1
                  have hyE : ∀ h, c.out[i]'h = y := fun h => (List.getElem?_eq_some_iff.1 hy).2
                  have hat : ((mkAt c (mkLL c most).length i : Nat) : Int) = (low y 65535).tmod (m : Int) := by
                    have q0 := low_bounds y (m := 65535) (by decide)
                    have q1 := Int.emod_nonneg (low y 65535) (b := ((mkLL c most).length : Int)) (by omega)
                    rw [show (m : Int) = ((mkLL c most).length : Int) by omega, Int.tmod_eq_emod_of_nonneg q0.1]
                    unfold mkAt; rw [hy]; exact Int.toNat_of_nonneg q1
                  simp [g2, g5, g9, rtA, ints, ho1, hJ, hJ2, hml, hJo, hJo2, wml]
                  simp [g2, g5, g9, rtA, ints, hy, hyE, and64k, hJ, hJ2, hml, hJo, hJo2, hmne]
                  refine endD [] (by rfl) (by simp [okW, note, Eff.triv, Eff.wr, Eff.none, upTo, newAt]) ?_
                  simp [g2, g5, g9, rtA, ints, hJ, hJ2, hml, hJo, hJo2]
                  refine bind_some (by simpa [rtA, ints, insA, hat] using app_int (k := ((mkAt c (mkLL c most).length i : Nat) : Int)) (l := outL c (mkLL c most).length i) (b := H.length + (k2 + 3)) (n := i) hol (by omega) (by simpa using hJo)) ?_
                  simp [g5, g9, w2, rtA, ints, insA]
                  exact ⟨i + 1, by show mkN c - (i + 1) < mkN c - i; omega, by simp [g2], by simp [g4], by simp [g5], by simp, by omega, _, .ref (H.length + (k2 + 3)) (i + 1), J.set k2 (.row true 1 (outL c (mkLL c most).length (i + 1))), by simp [rtA, ints, insA, outL_succ, hat], .inr ⟨kk, m, rfl, hmm, by rw [List.getElem?_set_ne (fun e => hne m (by rw [e]))]; exact hJ⟩, .inr ⟨k2, rfl, set_get hJo, hne⟩⟩
                · have hml : ((mkLL c most).map insA).length = m := by simp [hmm]
                  have hJ2 := old hJ
                  have hkl := (List.getElem?_eq_some_iff.1 hJ).1
                  have hmne : ¬ m = 0 := by omega
                  have wml : IntKind.i64.wrap ((m : Int) - 1) = ((m - 1 : Nat) : Int) := by rw [wrap64 (by omega) (by omega)]; omega
                  have hJo2 := old hJo
                  have hol := outL_len c (mkLL c most).length i
                  have hy : c.out[i]? = none := by rw [List.getElem?_eq_none_iff]; omega
                  have hat : ((mkAt c (mkLL c most).length i : Nat) : Int) = ((m - 1 : Nat) : Int) := by unfold mkAt; rw [hy]; simp only; omega
                  simp [g2, g5, g9, rtA, ints, ho1, hJ, hJ2, hml, hJo, hJo2, wml]
                  refine bind_some (by simpa [rtA, ints, insA, hat] using app_int (k := ((mkAt c (mkLL c most).length i : Nat) : Int)) (l := outL c (mkLL c most).length i) (b := H.length + (k2 + 3)) (n := i) hol (by omega) (by simpa using hJo)) ?_
                  simp [g5, g9, w2, rtA, ints, insA]
                  exact ⟨i + 1, by show mkN c - (i + 1) < mkN c - i; omega, by simp [g2], by simp [g4], by simp [g5], by simp, by omega, _, .ref (H.length + (k2 + 3)) (i + 1), J.set k2 (.row true 1 (outL c (mkLL c most).length (i + 1))), by simp [rtA, ints, insA, outL_succ, hat], .inr ⟨kk, m, rfl, hmm, by rw [List.getElem?_set_ne (fun e => hne m (by rw [e]))]; exact hJ⟩, .inr ⟨k2, rfl, set_get hJo, hne⟩⟩
          · have hi' : i = mkN c := by
              have : ¬ i < mkN c := by simpa using hc
              omega
            subst hi'
            rcases hvo with ⟨_, h⟩ | ⟨k2, rfl, hJo, hne⟩
            · omega
            have hJo2 := old hJo
            have hol := outL_len c (mkLL c most).length (mkN c)
            have hO : (outL c (mkLL c most).length (mkN c)) = (mkT c most).out.map fun k : Nat => .int .i64 k := by simp [outL, mkT]
            have hT : tpA (mkT c most) = .agg [.int .i64 (mkN c), .slice ((mkLL c most).map insA) false, .slice (outL c (mkLL c most).length (mkN c)) false] := by rw [hO]; rfl
            have hnO : ∀ n, noFs n (outL c (mkLL c most).length (mkN c)) = true := fun n => noFs_iff.2 fun x hx => by obtain ⟨y, _, rfl⟩ := List.mem_map.1 hx; simp [noF]
            rw [hT]
            generalize hoo : outL c (mkLL c most).length (mkN c) = oo at *
            rcases hw with ⟨rfl, hML⟩ | ⟨kk, m, rfl, hmm, hJ⟩
            · rw [hML]
              simp [g4, g5, rtA]
              exact finC (rs := [.cell 4 25]) (vs := [.agg [.int .i64 (mkN c), .slice [insA ⟨2, 0, 0, (0, 0)⟩] true, .ref (H.length + (k2 + 3)) (mkN c)]]) (vs' := [.agg [.int .i64 (mkN c), .slice [insA ⟨2, 0, 0, (0, 0)⟩] false, .slice oo false]]) (J' := .row true 3 [rtA c] :: .row true 3 [.agg [.int .i64 (mkN c), .slice [insA ⟨2, 0, 0, (0, 0)⟩] true, .ref (H.length + (k2 + 3)) (mkN c)]] :: .row true 3 [.agg [.int .i64 (mkN c), .slice [insA ⟨2, 0, 0, (0, 0)⟩] true, .ref (H.length + (k2 + 3)) (mkN c)]] :: J.set k2 (.row false 1 oo)) (by rfl) (by simp [resA, g4]) (by simp [hJo, hol, rtA]) (by simp [noFs, noF, insA, hnO]) rfl
            · have hne2 : kk ≠ k2 := fun e => hne m (by rw [e])
              have hml : ((mkLL c most).map insA).length = m := by simp [hmm]
              have hJo3 : ∀ x, (J.set kk x)[k2]? = some (.row true 1 oo) := fun x => by rw [List.getElem?_set_ne hne2]; exact hJo
              have hnL : ∀ n, noFs n ((mkLL c most).map insA) = true := fun n => noFs_iff.2 fun x hx => by obtain ⟨y, _, rfl⟩ := List.mem_map.1 hx; simp [noF, insA, noFs]
              generalize (mkLL c most).map insA = ll at *
              simp [g4, g5, rtA]
              exact finC (rs := [.cell 4 25]) (vs := [.agg [.int .i64 (mkN c), .ref (H.length + (kk + 3)) m, .ref (H.length + (k2 + 3)) (mkN c)]]) (vs' := [.agg [.int .i64 (mkN c), .slice ll false, .slice oo false]]) (J' := .row true 3 [rtA c] :: .row true 3 [.agg [.int .i64 (mkN c), .ref (H.length + (kk + 3)) m, .ref (H.length + (k2 + 3)) (mkN c)]] :: .row true 3 [.agg [.int .i64 (mkN c), .ref (H.length + (kk + 3)) m, .ref (H.length + (k2 + 3)) (mkN c)]] :: (J.set kk (.row false 5 ll)).set k2 (.row false 1 oo)) (by rfl) (by simp [resA, g4]) (by simp [hJ, hJo3, hol, hml, rtA]) (by simp [noFs, noF, hnL, hnO]) rfl
  · have hi' : i = mkC c most := by unfold mkC at *; omega
    simp [g1, g2, g5, g6, rtA, h1]
    by_cases h0 : mkC c most = 0
    · have hv : v = .nilslice := hv0 (by omega)
      subst hv
      simp [g5]
      refine loop_count (LM2 c most H) (fun i => mkN c - i) 0 ⟨by simp [g2], by simp [g4], by simp [g5], by simp, by omega, .slice [insA ⟨2, 0, 0, (0, 0)⟩] true, .nilslice, J, by simp [insA, rtA], .inl ⟨rfl, by unfold mkLL; rw [if_pos h0]⟩, .inl ⟨rfl, rfl⟩⟩ ?_
      clear g1 g2 g4 g5 g6 hacc hv0
      rintro i fr H' ⟨g2, g4, g5, g9, hi, w, vo, J, rfl, hw, hvo⟩
      have hmb := mkLL_len c most hm
      have w2 : IntKind.i64.wrap ((i : Int) + 1) = ((i + 1 : Nat) : Int) := by rw [wrap64 (by omega) (by omega)]; omega
      have wr1 : IntKind.i64.wrap 1 = 1 := wrap64 (by decide) (by decide)
      simp [g5, g9]
      refine branch (fun hc => ?_) (fun hc => ?_)
      · have hlt : i < mkN c := by simpa using hc
        rcases hw with ⟨rfl, hML⟩ | ⟨kk, m, rfl, hmm, hJ⟩
        · rcases hvo with ⟨rfl, rfl⟩ | ⟨k2, rfl, hJo, hne⟩
          · by_cases ho1 : 0 < c.out.length
            · have hm1 : (mkLL c most).length = 1 := by rw [hML]; rfl
              have wml : IntKind.i64.wrap 0 = 0 := wrap64 (by decide) (by decide)
              obtain ⟨y, hy⟩ := get_lt ho1
              have hyE : ∀ h, c.out[0]'h = y := fun h => (List.getElem?_eq_some_iff.1 hy).2
              have hat : ((mkAt c (mkLL c most).length 0 : Nat) : Int) = (low y 65535).tmod (1 : Int) := by
                have q0 := low_bounds y (m := 65535) (by decide)
                have q1 := Int.emod_nonneg (low y 65535) (b := ((mkLL c most).length : Int)) (by omega)
                rw [show (1 : Int) = ((mkLL c most).length : Int) by omega, Int.tmod_eq_emod_of_nonneg q0.1]
                unfold mkAt; rw [hy]; exact Int.toNat_of_nonneg q1
              simp at hat
              simp [g2, g5, g9, rtA, ints, ho1, insA, wml]
              simp [g2, g5, g9, rtA, ints, hy, hyE, and64k, insA]
              refine endD [] (by rfl) (by simp [okW, note, Eff.triv, Eff.wr, Eff.none, upTo, newAt]) ?_
              simp [g2, g5, g9, rtA, ints, insA]
              refine bind_some (by simpa [rtA, ints, insA, hat] using app_intN (k := ((mkAt c (mkLL c most).length 0 : Nat) : Int))) ?_
              simp [g5, g9, wr1, rtA, ints, insA]
              exact ⟨1, by show mkN c - 1 < mkN c - 0; omega, by simp [g2], by simp [g4], by simp [g5], by simp, by omega, _, .ref (H.length + (J.length + 3)) (1), J ++ [.row true 1 (outL c (mkLL c most).length 1)], by simp [rtA, ints, insA, outL, hat], .inl ⟨rfl, hML⟩, .inr ⟨J.length, rfl, by simp, fun n h => by cases h⟩⟩
            · have hm1 : (mkLL c most).length = 1 := by rw [hML]; rfl
              have wml : IntKind.i64.wrap 0 = 0 := wrap64 (by decide) (by decide)
              have hy : c.out[0]? = none := by rw [List.getElem?_eq_none_iff]; omega
              have hat : ((mkAt c (mkLL c most).length 0 : Nat) : Int) = ((1 - 1 : Nat) : Int) := by unfold mkAt; rw [hy]; simp only; omega
              simp at hat
              simp [g2, g5, g9, rtA, ints, ho1, insA, wml]
              refine bind_some (by simpa [rtA, ints, insA, hat] using app_intN (k := ((mkAt c (mkLL c most).length 0 : Nat) : Int))) ?_
              simp [g5, g9, wr1, rtA, ints, insA]
              exact ⟨1, by show mkN c - 1 < mkN c - 0; omega, by simp [g2], by simp [g4], by simp [g5], by simp, by omega, _, .ref (H.length + (J.length + 3)) (1), J ++ [.row true 1 (outL c (mkLL c most).length 1)], by simp [rtA, ints, insA, outL, hat], .inl ⟨rfl, hML⟩, .inr ⟨J.length, rfl, by simp, fun n h => by cases h⟩⟩
          · by_cases ho1 : i < c.out.length
            · have hm1 : (mkLL c most).length = 1 := by rw [hML]; rfl
              have wml : IntKind.i64.wrap 0 = 0 := wrap64 (by decide) (by decide)
              have hJo2 := old hJo
              have hol := outL_len c (mkLL c most).length i
              obtain ⟨y, hy⟩ := get_lt ho1
              have hyE : ∀ h, c.out[i]'h = y := fun h => (List.getElem?_eq_some_iff.1 hy).2
              have hat : ((mkAt c (mkLL c most).length i : Nat) : Int) = (low y 65535).tmod (1 : Int) := by
                have q0 := low_bounds y (m := 65535) (by decide)
                have q1 := Int.emod_nonneg (low y 65535) (b := ((mkLL c most).length : Int)) (by omega)
                rw [show (1 : Int) = ((mkLL c most).length : Int) by omega, Int.tmod_eq_emod_of_nonneg q0.1]
                unfold mkAt; rw [hy]; exact Int.toNat_of_nonneg q1
              simp at hat
              simp [g2, g5, g9, rtA, ints, ho1, insA, hJo, hJo2, wml]
              simp [g2, g5, g9, rtA, ints, hy, hyE, and64k, insA, hJo, hJo2]
              refine endD [] (by rfl) (by simp [okW, note, Eff.triv, Eff.wr, Eff.none, upTo, newAt]) ?_
              simp [g2, g5, g9, rtA, ints, insA, hJo, hJo2]
              refine bind_some (by simpa [rtA, ints, insA, hat] using app_int (k := ((mkAt c (mkLL c most).length i : Nat) : Int)) (l := outL c (mkLL c most).length i) (b := H.length + (k2 + 3)) (n := i) hol (by omega) (by simpa using hJo)) ?_
              simp [g5, g9, w2, rtA, ints, insA]
              exact ⟨i + 1, by show mkN c - (i + 1) < mkN c - i; omega, by simp [g2], by simp [g4], by simp [g5], by simp, by omega, _, .ref (H.length + (k2 + 3)) (i + 1), J.set k2 (.row true 1 (outL c (mkLL c most).length (i + 1))), by simp [rtA, ints, insA, outL_succ, hat], .inl ⟨rfl, hML⟩, .inr ⟨k2, rfl, set_get hJo, hne⟩⟩
            · have hm1 : (mkLL c most).length = 1 := by rw [hML]; rfl
              have wml : IntKind.i64.wrap 0 = 0 := wrap64 (by decide) (by decide)
              have hJo2 := old hJo
              have hol := outL_len c (mkLL c most).length i
              have hy : c.out[i]? = none := by rw [List.getElem?_eq_none_iff]; omega
              have hat : ((mkAt c (mkLL c most).length i : Nat) : Int) = ((1 - 1 : Nat) : Int) := by unfold mkAt; rw [hy]; simp only; omega
              simp at hat
              simp [g2, g5, g9, rtA, ints, ho1, insA, hJo, hJo2, wml]
              refine bind_some (by simpa [rtA, ints, insA, hat] using app_int (k := ((mkAt c (mkLL c most).length i : Nat) : Int)) (l := outL c (mkLL c most).length i) (b := H.length + (k2 + 3)) (n := i) hol (by omega) (by simpa using hJo)) ?_
              simp [g5, g9, w2, rtA, ints, insA]
              exact ⟨i + 1, by show mkN c - (i + 1) < mkN c - i; omega, by simp [g2], by simp [g4], by simp [g5], by simp, by omega, _, .ref (H.length + (k2 + 3)) (i + 1), J.set k2 (.row true 1 (outL c (mkLL c most).length (i + 1))), by simp [rtA, ints, insA, outL_succ, hat], .inl ⟨rfl, hML⟩, .inr ⟨k2, rfl, set_get hJo, hne⟩⟩
        · rcases hvo with ⟨rfl, rfl⟩ | ⟨k2, rfl, hJo, hne⟩
          · by_cases ho1 : 0 < c.out.length
            · have hml : ((mkLL c most).map insA).length = m := by simp [hmm]
              have hJ2 := old hJ
              have hkl := (List.getElem?_eq_some_iff.1 hJ).1
              have hmne : ¬ m = 0 := by omega
              have wml : IntKind.i64.wrap ((m : Int) - 1) = ((m - 1 : Nat) : Int) := by rw [wrap64 (by omega) (by omega)]; omega
              obtain ⟨y, hy⟩ := get_lt ho1
              have hyE : ∀ h, c.out[0]'h = y := fun h => (List.getElem?_eq_some_iff.1 hy).2
              have hat : ((mkAt c (mkLL c most).length 0 : Nat) : Int) = (low y 65535).tmod (m : Int) := by
                have q0 := low_bounds y (m := 65535) (by decide)
                have q1 := Int.emod_nonneg (low y 65535) (b := ((mkLL c most).length : Int)) (by omega)
                rw [show (m : Int) = ((mkLL c most).length : Int) by omega, Int.tmod_eq_emod_of_nonneg q0.1]
                unfold mkAt; rw [hy]; exact Int.toNat_of_nonneg q1
              simp [g2, g5, g9, rtA, ints, ho1, hJ, hJ2, hml, wml]
              simp [g2, g5, g9, rtA, ints, hy, hyE, and64k, hJ, hJ2, hml, hmne]
              refine endD [] (by rfl) (by simp [okW, note, Eff.triv, Eff.wr, Eff.none, upTo, newAt]) ?_
              simp [g2, g5, g9, rtA, ints, hJ, hJ2, hml]
              refine bind_some (by simpa [rtA, ints, insA, hat] using app_intN (k := ((mkAt c (mkLL c most).length 0 : Nat) : Int))) ?_
              simp [g5, g9, wr1, rtA, ints, insA]
              exact ⟨1, by show mkN c - 1 < mkN c - 0; omega, by simp [g2], by simp [g4], by simp [g5], by simp, by omega, _, .ref (H.length + (J.length + 3)) (1), J ++ [.row true 1 (outL c (mkLL c most).length 1)], by simp [rtA, ints, insA, outL, hat], .inr ⟨kk, m, rfl, hmm, hJ2 _⟩, .inr ⟨J.length, rfl, by simp, fun n h => by simp at h; omega⟩⟩
            · have hml : ((mkLL c most).map insA).length = m := by simp [hmm]
              have hJ2 := old hJ
              have hkl := (List.getElem?_eq_some_iff.1 hJ).1
              have hmne : ¬ m = 0 := by omega
              have wml : IntKind.i64.wrap ((m : Int) - 1) = ((m - 1 : Nat) : Int) := by rw [wrap64 (by omega) (by omega)]; omega
              have hy : c.out[0]? = none := by rw [List.getElem?_eq_none_iff]; omega
              have hat : ((mkAt c (mkLL c most).length 0 : Nat) : Int) = ((m - 1 : Nat) : Int) := by unfold mkAt; rw [hy]; simp only; omega
              simp [g2, g5, g9, rtA, ints, ho1, hJ, hJ2, hml, wml]
              refine bind_some (by simpa [rtA, ints, insA, hat] using app_intN (k := ((mkAt c (mkLL c most).length 0 : Nat) : Int))) ?_
              simp [g5, g9, wr1, rtA, ints, insA]
              exact ⟨1, by show mkN c - 1 < mkN c - 0; omega, by simp [g2], by simp [g4], by simp [g5], by simp, by omega, _, .ref (H.length + (J.length + 3)) (1), J ++ [.row true 1 (outL c (mkLL c most).length 1)], by simp [rtA, ints, insA, outL, hat], .inr ⟨kk, m, rfl, hmm, hJ2 _⟩, .inr ⟨J.length, rfl, by simp, fun n h => by simp at h; omega⟩⟩
          · by_cases ho1 : i < c.out.length
            · have hml : ((mkLL c most).map insA).length = m := by simp [hmm]
              have hJ2 := old hJ
              have hkl := (List.getElem?_eq_some_iff.1 hJ).1
              have hmne : ¬ m = 0 := by omega
              have wml : IntKind.i64.wrap ((m : Int) - 1) = ((m - 1 : Nat) : Int) := by rw [wrap64 (by omega) (by omega)]; omega
              have hJo2 := old hJo
              have hol := outL_len c (mkLL c most).length i
              obtain ⟨y, hy⟩ := get_lt ho1
              have hyE : ∀ h, c.out[i]'h = y := fun h => (List.getElem?_eq_some_iff.1 hy).2
              have hat : ((mkAt c (mkLL c most).length i : Nat) : Int) = (low y 65535).tmod (m : Int) := by
                have q0 := low_bounds y (m := 65535) (by decide)
                have q1 := Int.emod_nonneg (low y 65535) (b := ((mkLL c most).length : Int)) (by omega)
                rw [show (m : Int) = ((mkLL c most).length : Int) by omega, Int.tmod_eq_emod_of_nonneg q0.1]
                unfold mkAt; rw [hy]; exact Int.toNat_of_nonneg q1
              simp [g2, g5, g9, rtA, ints, ho1, hJ, hJ2, hml, hJo, hJo2, wml]
              simp [g2, g5, g9, rtA, ints, hy, hyE, and64k, hJ, hJ2, hml, hJo, hJo2, hmne]
              refine endD [] (by rfl) (by simp [okW, note, Eff.triv, Eff.wr, Eff.none, upTo, newAt]) ?_
              simp [g2, g5, g9, rtA, ints, hJ, hJ2, hml, hJo, hJo2]
              refine bind_some (by simpa [rtA, ints, insA, hat] using app_int (k := ((mkAt c (mkLL c most).length i : Nat) : Int)) (l := outL c (mkLL c most).length i) (b := H.length + (k2 + 3)) (n := i) hol (by omega) (by simpa using hJo)) ?_
              simp [g5, g9, w2, rtA, ints, insA]
              exact ⟨i + 1, by show mkN c - (i + 1) < mkN c - i; omega, by simp [g2], by simp [g4], by simp [g5], by simp, by omega, _, .ref (H.length + (k2 + 3)) (i + 1), J.set k2 (.row true 1 (outL c (mkLL c most).length (i + 1))), by simp [rtA, ints, insA, outL_succ, hat], .inr ⟨kk, m, rfl, hmm, by rw [List.getElem?_set_ne (fun e => hne m (by rw [e]))]; exact hJ⟩, .inr ⟨k2, rfl, set_get hJo, hne⟩⟩
            · have hml : ((mkLL c most).map insA).length = m := by simp [hmm]
              have hJ2 := old hJ
              have hkl := (List.getElem?_eq_some_iff.1 hJ).1
              have hmne : ¬ m = 0 := by omega
              have wml : IntKind.i64.wrap ((m : Int) - 1) = ((m - 1 : Nat) : Int) := by rw [wrap64 (by omega) (by omega)]; omega
              have hJo2 := old hJo
              have hol := outL_len c (mkLL c most).length i
              have hy : c.out[i]? = none := by rw [List.getElem?_eq_none_iff]; omega
              have hat : ((mkAt c (mkLL c most).length i : Nat) : Int) = ((m - 1 : Nat) : Int) := by unfold mkAt; rw [hy]; simp only; omega
              simp [g2, g5, g9, rtA, ints, ho1, hJ, hJ2, hml, hJo, hJo2, wml]
              refine bind_some (by simpa [rtA, ints, insA, hat] using app_int (k := ((mkAt c (mkLL c most).length i : Nat) : Int)) (l := outL c (mkLL c most).length i) (b := H.length + (k2 + 3)) (n := i) hol (by omega) (by simpa using hJo)) ?_
              simp [g5, g9, w2, rtA, ints, insA]
              exact ⟨i + 1, by show mkN c - (i + 1) < mkN c - i; omega, by simp [g2], by simp [g4], by simp [g5], by simp, by omega, _, .ref (H.length + (k2 + 3)) (i + 1), J.set k2 (.row true 1 (outL c (mkLL c most).length (i + 1))), by simp [rtA, ints, insA, outL_succ, hat], .inr ⟨kk, m, rfl, hmm, by rw [List.getElem?_set_ne (fun e => hne m (by rw [e]))]; exact hJ⟩, .inr ⟨k2, rfl, set_get hJo, hne⟩⟩
      · have hi' : i = mkN c := by
          have : ¬ i < mkN c := by simpa using hc
          omega
        subst hi'
        rcases hvo with ⟨_, h⟩ | ⟨k2, rfl, hJo, hne⟩
        · omega
        have hJo2 := old hJo
        have hol := outL_len c (mkLL c most).length (mkN c)
        have hO : (outL c (mkLL c most).length (mkN c)) = (mkT c most).out.map fun k : Nat => .int .i64 k := by simp [outL, mkT]
        have hT : tpA (mkT c most) = .agg [.int .i64 (mkN c), .slice ((mkLL c most).map insA) false, .slice (outL c (mkLL c most).length (mkN c)) false] := by rw [hO]; rfl
        have hnO : ∀ n, noFs n (outL c (mkLL c most).length (mkN c)) = true := fun n => noFs_iff.2 fun x hx => by obtain ⟨y, _, rfl⟩ := List.mem_map.1 hx; simp [noF]
        rw [hT]
        generalize hoo : outL c (mkLL c most).length (mkN c) = oo at *
        rcases hw with ⟨rfl, hML⟩ | ⟨kk, m, rfl, hmm, hJ⟩
        · rw [hML]
          simp [g4, g5, rtA]
          exact finC (rs := [.cell 4 25]) (vs := [.agg [.int .i64 (mkN c), .slice [insA ⟨2, 0, 0, (0, 0)⟩] true, .ref (H.length + (k2 + 3)) (mkN c)]]) (vs' := [.agg [.int .i64 (mkN c), .slice [insA ⟨2, 0, 0, (0, 0)⟩] false, .slice oo false]]) (J' := .row true 3 [rtA c] :: .row true 3 [.agg [.int .i64 (mkN c), .slice [insA ⟨2, 0, 0, (0, 0)⟩] true, .ref (H.length + (k2 + 3)) (mkN c)]] :: .row true 3 [.agg [.int .i64 (mkN c), .slice [insA ⟨2, 0, 0, (0, 0)⟩] true, .ref (H.length + (k2 + 3)) (mkN c)]] :: J.set k2 (.row false 1 oo)) (by rfl) (by simp [resA, g4]) (by simp [hJo, hol, rtA]) (by simp [noFs, noF, insA, hnO]) rfl
        · have hne2 : kk ≠ k2 := fun e => hne m (by rw [e])
          have hml : ((mkLL c most).map insA).length = m := by simp [hmm]
          have hJo3 : ∀ x, (J.set kk x)[k2]? = some (.row true 1 oo) := fun x => by rw [List.getElem?_set_ne hne2]; exact hJo
          have hnL : ∀ n, noFs n ((mkLL c most).map insA) = true := fun n => noFs_iff.2 fun x hx => by obtain ⟨y, _, rfl⟩ := List.mem_map.1 hx; simp [noF, insA, noFs]
          generalize (mkLL c most).map insA = ll at *
          simp [g4, g5, rtA]
          exact finC (rs := [.cell 4 25]) (vs := [.agg [.int .i64 (mkN c), .ref (H.length + (kk + 3)) m, .ref (H.length + (k2 + 3)) (mkN c)]]) (vs' := [.agg [.int .i64 (mkN c), .slice ll false, .slice oo false]]) (J' := .row true 3 [rtA c] :: .row true 3 [.agg [.int .i64 (mkN c), .ref (H.length + (kk + 3)) m, .ref (H.length + (k2 + 3)) (mkN c)]] :: .row true 3 [.agg [.int .i64 (mkN c), .ref (H.length + (kk + 3)) m, .ref (H.length + (k2 + 3)) (mkN c)]] :: (J.set kk (.row false 5 ll)).set k2 (.row false 1 oo)) (by rfl) (by simp [resA, g4]) (by simp [hJ, hJo3, hol, hml, rtA]) (by simp [noFs, noF, hnL, hnO]) rfl
    · rcases hacc with ⟨h0', _⟩ | ⟨kk, hv, hJk⟩
      · have := congrArg List.length h0'
        simp [mkL_len] at this
        omega
      · have hLL : mkLL c most = mkL c i := by unfold mkLL; rw [if_neg h0, hi']
        have hv2 : v = .ref (H.length + (kk + 3)) i := by rw [hv]; simp [mkL_len]; omega
        subst hv2
        have hln : (mkL c i).length = i := mkL_len c i
        have hi0 : ((i : Int) == 0) = false := by rw [beq_eq_false_iff_ne]; omega
        rw [← hLL] at hJk hln
        have hln2 : ((mkLL c most).map insA).length = i := by simp [hln]
        generalize hLM : (mkLL c most).map insA = ll at *
        simp [g5, hJk, hln2, hi0]
        refine loop_count (LM2 c most H) (fun i => mkN c - i) 0 ⟨by simp [g2], by simp [g4], by simp [g5], by simp, by omega, .ref (H.length + (kk + 3)) i, .nilslice, J, by simp [rtA], .inr ⟨kk, i, rfl, hln.symm, by rw [hLM]; exact hJk⟩, .inl ⟨rfl, rfl⟩⟩ ?_
        clear g1 g2 g4 g5 g6 hv0 hv hJk hln hln2 hLL hi0 hLM
        rintro i fr H' ⟨g2, g4, g5, g9, hi, w, vo, J, rfl, hw, hvo⟩
        have hmb := mkLL_len c most hm
        have w2 : IntKind.i64.wrap ((i : Int) + 1) = ((i + 1 : Nat) : Int) := by rw [wrap64 (by omega) (by omega)]; omega
        have wr1 : IntKind.i64.wrap 1 = 1 := wrap64 (by decide) (by decide)
        simp [g5, g9]
        refine branch (fun hc => ?_) (fun hc => ?_)
        · have hlt : i < mkN c := by simpa using hc
          rcases hw with ⟨rfl, hML⟩ | ⟨kk, m, rfl, hmm, hJ⟩
          · rcases hvo with ⟨rfl, rfl⟩ | ⟨k2, rfl, hJo, hne⟩
            · by_cases ho1 : 0 < c.out.length
              · have hm1 : (mkLL c most).length = 1 := by rw [hML]; rfl
                have wml : IntKind.i64.wrap 0 = 0 := wrap64 (by decide) (by decide)
                obtain ⟨y, hy⟩ := get_lt ho1
                have hyE : ∀ h, c.out[0]'h = y := fun h => (List.getElem?_eq_some_iff.1 hy).2
                have hat : ((mkAt c (mkLL c most).length 0 : Nat) : Int) = (low y 65535).tmod (1 : Int) := by
                  have q0 := low_bounds y (m := 65535) (by decide)
                  have q1 := Int.emod_nonneg (low y 65535) (b := ((mkLL c most).length : Int)) (by omega)
                  rw [show (1 : Int) = ((mkLL c most).length : Int) by omega, Int.tmod_eq_emod_of_nonneg q0.1]
                  unfold mkAt; rw [hy]; exact Int.toNat_of_nonneg q1
                simp at hat
                simp [g2, g5, g9, rtA, ints, ho1, insA, wml]
                simp [g2, g5, g9, rtA, ints, hy, hyE, and64k, insA]
                refine endD [] (by rfl) (by simp [okW, note, Eff.triv, Eff.wr, Eff.none, upTo, newAt]) ?_
                simp [g2, g5, g9, rtA, ints, insA]
                refine bind_some (by simpa [rtA, ints, insA, hat] using app_intN (k := ((mkAt c (mkLL c most).length 0 : Nat) : Int))) ?_
                simp [g5, g9, wr1, rtA, ints, insA]
                exact ⟨1, by show mkN c - 1 < mkN c - 0; omega, by simp [g2], by simp [g4], by simp [g5], by simp, by omega, _, .ref (H.length + (J.length + 3)) (1), J ++ [.row true 1 (outL c (mkLL c most).length 1)], by simp [rtA, ints, insA, outL, hat], .inl ⟨rfl, hML⟩, .inr ⟨J.length, rfl, by simp, fun n h => by cases h⟩⟩
              · have hm1 : (mkLL c most).length = 1 := by rw [hML]; rfl
                have wml : IntKind.i64.wrap 0 = 0 := wrap64 (by decide) (by decide)
                have hy : c.out[0]? = none := by rw [List.getElem?_eq_none_iff]; omega
                have hat : ((mkAt c (mkLL c most).length 0 : Nat) : Int) = ((1 - 1 : Nat) : Int) := by unfold mkAt; rw [hy]; simp only; omega
                simp at hat
                simp [g2, g5, g9, rtA, ints, ho1, insA, wml]
                refine bind_some (by simpa [rtA, ints, insA, hat] using app_intN (k := ((mkAt c (mkLL c most).length 0 : Nat) : Int))) ?_
                simp [g5, g9, wr1, rtA, ints, insA]
                exact ⟨1, by show mkN c - 1 < mkN c - 0; omega, by simp [g2], by simp [g4], by simp [g5], by simp, by omega, _, .ref (H.length + (J.length + 3)) (1), J ++ [.row true 1 (outL c (mkLL c most).length 1)], by simp [rtA, ints, insA, outL, hat], .inl ⟨rfl, hML⟩, .inr ⟨J.length, rfl, by simp, fun n h => by cases h⟩⟩
            · by_cases ho1 : i < c.out.length
              · have hm1 : (mkLL c most).length = 1 := by rw [hML]; rfl
                have wml : IntKind.i64.wrap 0 = 0 := wrap64 (by decide) (by decide)
                have hJo2 := old hJo
                have hol := outL_len c (mkLL c most).length i
                obtain ⟨y, hy⟩ := get_lt ho1
                have hyE : ∀ h, c.out[i]'h = y := fun h => (List.getElem?_eq_some_iff.1 hy).2
                have hat : ((mkAt c (mkLL c most).length i : Nat) : Int) = (low y 65535).tmod (1 : Int) := by
                  have q0 := low_bounds y (m := 65535) (by decide)
                  have q1 := Int.emod_nonneg (low y 65535) (b := ((mkLL c most).length : Int)) (by omega)
                  rw [show (1 : Int) = ((mkLL c most).length : Int) by omega, Int.tmod_eq_emod_of_nonneg q0.1]
                  unfold mkAt; rw [hy]; exact Int.toNat_of_nonneg q1
                simp at hat
                simp [g2, g5, g9, rtA, ints, ho1, insA, hJo, hJo2, wml]
                simp [g2, g5, g9, rtA, ints, hy, hyE, and64k, insA, hJo, hJo2]
                refine endD [] (by rfl) (by simp [okW, note, Eff.triv, Eff.wr, Eff.none, upTo, newAt]) ?_
                simp [g2, g5, g9, rtA, ints, insA, hJo, hJo2]
                refine bind_some (by simpa [rtA, ints, insA, hat] using app_int (k := ((mkAt c (mkLL c most).length i : Nat) : Int)) (l := outL c (mkLL c most).length i) (b := H.length + (k2 + 3)) (n := i) hol (by omega) (by simpa using hJo)) ?_
                simp [g5, g9, w2, rtA, ints, insA]
                exact ⟨i + 1, by show mkN c - (i + 1) < mkN c - i; omega, by simp [g2], by simp [g4], by simp [g5], by simp, by omega, _, .ref (H.length + (k2 + 3)) (i + 1), J.set k2 (.row true 1 (outL c (mkLL c most).length (i + 1))), by simp [rtA, ints, insA, outL_succ, hat], .inl ⟨rfl, hML⟩, .inr ⟨k2, rfl, set_get hJo, hne⟩⟩
              · have hm1 : (mkLL c most).length = 1 := by rw [hML]; rfl
                have wml : IntKind.i64.wrap 0 = 0 := wrap64 (by decide) (by decide)
                have hJo2 := old hJo
                have hol := outL_len c (mkLL c most).length i
                have hy : c.out[i]? = none := by rw [List.getElem?_eq_none_iff]; omega
                have hat : ((mkAt c (mkLL c most).length i : Nat) : Int) = ((1 - 1 : Nat) : Int) := by unfold mkAt; rw [hy]; simp only; omega
                simp at hat
                simp [g2, g5, g9, rtA, ints, ho1, insA, hJo, hJo2, wml]
                refine bind_some (by simpa [rtA, ints, insA, hat] using app_int (k := ((mkAt c (mkLL c most).length i : Nat) : Int)) (l := outL c (mkLL c most).length i) (b := H.length + (k2 + 3)) (n := i) hol (by omega) (by simpa using hJo)) ?_
                simp [g5, g9, w2, rtA, ints, insA]
                exact ⟨i + 1, by show mkN c - (i + 1) < mkN c - i; omega, by simp [g2], by simp [g4], by simp [g5], by simp, by omega, _, .ref (H.length + (k2 + 3)) (i + 1), J.set k2 (.row true 1 (outL c (mkLL c most).length (i + 1))), by simp [rtA, ints, insA, outL_succ, hat], .inl ⟨rfl, hML⟩, .inr ⟨k2, rfl, set_get hJo, hne⟩⟩
          · rcases hvo with ⟨rfl, rfl⟩ | ⟨k2, rfl, hJo, hne⟩
            · by_cases ho1 : 0 < c.out.length
              · have hml : ((mkLL c most).map insA).length = m := by simp [hmm]
                have hJ2 := old hJ
                have hkl := (List.getElem?_eq_some_iff.1 hJ).1
                have hmne : ¬ m = 0 := by omega
                have wml : IntKind.i64.wrap ((m : Int) - 1) = ((m - 1 : Nat) : Int) := by rw [wrap64 (by omega) (by omega)]; omega
                obtain ⟨y, hy⟩ := get_lt ho1
                have hyE : ∀ h, c.out[0]'h = y := fun h => (List.getElem?_eq_some_iff.1 hy).2
                have hat : ((mkAt c (mkLL c most).length 0 : Nat) : Int) = (low y 65535).tmod (m : Int) := by
                  have q0 := low_bounds y (m := 65535) (by decide)
                  have q1 := Int.emod_nonneg (low y 65535) (b := ((mkLL c most).length : Int)) (by omega)
                  rw [show (m : Int) = ((mkLL c most).length : Int) by omega, Int.tmod_eq_emod_of_nonneg q0.1]
                  unfold mkAt; rw [hy]; exact Int.toNat_of_nonneg q1
                simp [g2, g5, g9, rtA, ints, ho1, hJ, hJ2, hml, wml]
                simp [g2, g5, g9, rtA, ints, hy, hyE, and64k, hJ, hJ2, hml, hmne]
                refine endD [] (by rfl) (by simp [okW, note, Eff.triv, Eff.wr, Eff.none, upTo, newAt]) ?_
                simp [g2, g5, g9, rtA, ints, hJ, hJ2, hml]
                refine bind_some (by simpa [rtA, ints, insA, hat] using app_intN (k := ((mkAt c (mkLL c most).length 0 : Nat) : Int))) ?_
                simp [g5, g9, wr1, rtA, ints, insA]
                exact ⟨1, by show mkN c - 1 < mkN c - 0; omega, by simp [g2], by simp [g4], by simp [g5], by simp, by omega, _, .ref (H.length + (J.length + 3)) (1), J ++ [.row true 1 (outL c (mkLL c most).length 1)], by simp [rtA, ints, insA, outL, hat], .inr ⟨kk, m, rfl, hmm, hJ2 _⟩, .inr ⟨J.length, rfl, by simp, fun n h => by simp at h; omega⟩⟩
              · have hml : ((mkLL c most).map insA).length = m := by simp [hmm]
                have hJ2 := old hJ
                have hkl := (List.getElem?_eq_some_iff.1 hJ).1
                have hmne : ¬ m = 0 := by omega
                have wml : IntKind.i64.wrap ((m : Int) - 1) = ((m - 1 : Nat) : Int) := by rw [wrap64 (by omega) (by omega)]; omega
                have hy : c.out[0]? = none := by rw [List.getElem?_eq_none_iff]; omega
                have hat : ((mkAt c (mkLL c most).length 0 : Nat) : Int) = ((m - 1 : Nat) : Int) := by unfold mkAt; rw [hy]; simp only; omega
                simp [g2, g5, g9, rtA, ints, ho1, hJ, hJ2, hml, wml]
                refine bind_some (by simpa [rtA, ints, insA, hat] using app_intN (k := ((mkAt c (mkLL c most).length 0 : Nat) : Int))) ?_
                simp [g5, g9, wr1, rtA, ints, insA]
                exact ⟨1, by show mkN c - 1 < mkN c - 0; omega, by simp [g2], by simp [g4], by simp [g5], by simp, by omega, _, .ref (H.length + (J.length + 3)) (1), J ++ [.row true 1 (outL c (mkLL c most).length 1)], by simp [rtA, ints, insA, outL, hat], .inr ⟨kk, m, rfl, hmm, hJ2 _⟩, .inr ⟨J.length, rfl, by simp, fun n h => by simp at h; omega⟩⟩
            · by_cases ho1 : i < c.out.length
              · have hml : ((mkLL c most).map insA).length = m := by simp [hmm]
                have hJ2 := old hJ
                have hkl := (List.getElem?_eq_some_iff.1 hJ).1
                have hmne : ¬ m = 0 := by omega
                have wml : IntKind.i64.wrap ((m : Int) - 1) = ((m - 1 : Nat) : Int) := by rw [wrap64 (by omega) (by omega)]; omega
                have hJo2 := old hJo
                have hol := outL_len c (mkLL c most).length i
                obtain ⟨y, hy⟩ := get_lt ho1
                have hyE : ∀ h, c.out[i]'h = y := fun h => (List.getElem?_eq_some_iff.1 hy).2
                have hat : ((mkAt c (mkLL c most).length i : Nat) : Int) = (low y 65535).tmod (m : Int) := by
                  have q0 := low_bounds y (m := 65535) (by decide)
                  have q1 := Int.emod_nonneg (low y 65535) (b := ((mkLL c most).length : Int)) (by omega)
                  rw [show (m : Int) = ((mkLL c most).length : Int) by omega, Int.tmod_eq_emod_of_nonneg q0.1]
                  unfold mkAt; rw [hy]; exact Int.toNat_of_nonneg q1
                simp [g2, g5, g9, rtA, ints, ho1, hJ, hJ2, hml, hJo, hJo2, wml]
                simp [g2, g5, g9, rtA, ints, hy, hyE, and64k, hJ, hJ2, hml, hJo, hJo2, hmne]
                refine endD [] (by rfl) (by simp [okW, note, Eff.triv, Eff.wr, Eff.none, upTo, newAt]) ?_
                simp [g2, g5, g9, rtA, ints, hJ, hJ2, hml, hJo, hJo2]
                refine bind_some (by simpa [rtA, ints, insA, hat] using app_int (k := ((mkAt c (mkLL c most).length i : Nat) : Int)) (l := outL c (mkLL c most).length i) (b := H.length + (k2 + 3)) (n := i) hol (by omega) (by simpa using hJo)) ?_
                simp [g5, g9, w2, rtA, ints, insA]
                exact ⟨i + 1, by show mkN c - (i + 1) < mkN c - i; omega, by simp [g2], by simp [g4], by simp [g5], by simp, by omega, _, .ref (H.length + (k2 + 3)) (i + 1), J.set k2 (.row true 1 (outL c (mkLL c most).length (i + 1))), by simp [rtA, ints, insA, outL_succ, hat], .inr ⟨kk, m, rfl, hmm, by rw [List.getElem?_set_ne (fun e => hne m (by rw [e]))]; exact hJ⟩, .inr ⟨k2, rfl, set_get hJo, hne⟩⟩
              · have hml : ((mkLL c most).map insA).length = m := by simp [hmm]
                have hJ2 := old hJ
                have hkl := (List.getElem?_eq_some_iff.1 hJ).1
                have hmne : ¬ m = 0 := by omega
                have wml : IntKind.i64.wrap ((m : Int) - 1) = ((m - 1 : Nat) : Int) := by rw [wrap64 (by omega) (by omega)]; omega
                have hJo2 := old hJo
                have hol := outL_len c (mkLL c most).length i
                have hy : c.out[i]? = none := by rw [List.getElem?_eq_none_iff]; omega
                have hat : ((mkAt c (mkLL c most).length i : Nat) : Int) = ((m - 1 : Nat) : Int) := by unfold mkAt; rw [hy]; simp only; omega
                simp [g2, g5, g9, rtA, ints, ho1, hJ, hJ2, hml, hJo, hJo2, wml]
                refine bind_some (by simpa [rtA, ints, insA, hat] using app_int (k := ((mkAt c (mkLL c most).length i : Nat) : Int)) (l := outL c (mkLL c most).length i) (b := H.length + (k2 + 3)) (n := i) hol (by omega) (by simpa using hJo)) ?_
                simp [g5, g9, w2, rtA, ints, insA]
                exact ⟨i + 1, by show mkN c - (i + 1) < mkN c - i; omega, by simp [g2], by simp [g4], by simp [g5], by simp, by omega, _, .ref (H.length + (k2 + 3)) (i + 1), J.set k2 (.row true 1 (outL c (mkLL c most).length (i + 1))), by simp [rtA, ints, insA, outL_succ, hat], .inr ⟨kk, m, rfl, hmm, by rw [List.getElem?_set_ne (fun e => hne m (by rw [e]))]; exact hJ⟩, .inr ⟨k2, rfl, set_get hJo, hne⟩⟩
        · have hi' : i = mkN c := by
            have : ¬ i < mkN c := by simpa using hc
            omega
          subst hi'
          rcases hvo with ⟨_, h⟩ | ⟨k2, rfl, hJo, hne⟩
          · omega
          have hJo2 := old hJo
          have hol := outL_len c (mkLL c most).length (mkN c)
          have hO : (outL c (mkLL c most).length (mkN c)) = (mkT c most).out.map fun k : Nat => .int .i64 k := by simp [outL, mkT]
          have hT : tpA (mkT c most) = .agg [.int .i64 (mkN c), .slice ((mkLL c most).map insA) false, .slice (outL c (mkLL c most).length (mkN c)) false] := by rw [hO]; rfl
          have hnO : ∀ n, noFs n (outL c (mkLL c most).length (mkN c)) = true := fun n => noFs_iff.2 fun x hx => by obtain ⟨y, _, rfl⟩ := List.mem_map.1 hx; simp [noF]
          rw [hT]
          generalize hoo : outL c (mkLL c most).length (mkN c) = oo at *
          rcases hw with ⟨rfl, hML⟩ | ⟨kk, m, rfl, hmm, hJ⟩
          · rw [hML]
            simp [g4, g5, rtA]
            exact finC (rs := [.cell 4 25]) (vs := [.agg [.int .i64 (mkN c), .slice [insA ⟨2, 0, 0, (0, 0)⟩] true, .ref (H.length + (k2 + 3)) (mkN c)]]) (vs' := [.agg [.int .i64 (mkN c), .slice [insA ⟨2, 0, 0, (0, 0)⟩] false, .slice oo false]]) (J' := .row true 3 [rtA c] :: .row true 3 [.agg [.int .i64 (mkN c), .slice [insA ⟨2, 0, 0, (0, 0)⟩] true, .ref (H.length + (k2 + 3)) (mkN c)]] :: .row true 3 [.agg [.int .i64 (mkN c), .slice [insA ⟨2, 0, 0, (0, 0)⟩] true, .ref (H.length + (k2 + 3)) (mkN c)]] :: J.set k2 (.row false 1 oo)) (by rfl) (by simp [resA, g4]) (by simp [hJo, hol, rtA]) (by simp [noFs, noF, insA, hnO]) rfl
          · have hne2 : kk ≠ k2 := fun e => hne m (by rw [e])
            have hml : ((mkLL c most).map insA).length = m := by simp [hmm]
            have hJo3 : ∀ x, (J.set kk x)[k2]? = some (.row true 1 oo) := fun x => by rw [List.getElem?_set_ne hne2]; exact hJo
            have hnL : ∀ n, noFs n ((mkLL c most).map insA) = true := fun n => noFs_iff.2 fun x hx => by obtain ⟨y, _, rfl⟩ := List.mem_map.1 hx; simp [noF, insA, noFs]
            generalize (mkLL c most).map insA = ll at *
            simp [g4, g5, rtA]
            exact finC (rs := [.cell 4 25]) (vs := [.agg [.int .i64 (mkN c), .ref (H.length + (kk + 3)) m, .ref (H.length + (k2 + 3)) (mkN c)]]) (vs' := [.agg [.int .i64 (mkN c), .slice ll false, .slice oo false]]) (J' := .row true 3 [rtA c] :: .row true 3 [.agg [.int .i64 (mkN c), .ref (H.length + (kk + 3)) m, .ref (H.length + (k2 + 3)) (mkN c)]] :: .row true 3 [.agg [.int .i64 (mkN c), .ref (H.length + (kk + 3)) m, .ref (H.length + (k2 + 3)) (mkN c)]] :: (J.set kk (.row false 5 ll)).set k2 (.row false 1 oo)) (by rfl) (by simp [resA, g4]) (by simp [hJ, hJo3, hol, hml, rtA]) (by simp [noFs, noF, hnL, hnO]) rfl
end Go.Proofs.YtfjjckepnkkgjaaGreatDoor.Arm

namespace Go.Pl
theorem sg_ext {a b : Sg} (h1 : a.t = b.t) (h2 : a.h = b.h) (h3 : a.frm = b.frm) (h4 : a.pre = b.pre) (h5 : a.tube = b.tube) (h6 : a.to = b.to) : a = b := by
  cases a; cases b; simp only at h1 h2 h3 h4 h5 h6; subst h1 h2 h3 h4 h5 h6; rfl
instance : DecidableEq Sg := fun a b => decidable_of_decidable_of_iff (p := a.t = b.t ∧ a.h = b.h ∧ a.frm = b.frm ∧ a.pre = b.pre ∧ a.tube = b.tube ∧ a.to = b.to) ⟨fun ⟨h1, h2, h3, h4, h5, h6⟩ => sg_ext h1 h2 h3 h4 h5 h6, fun h => by subst h; exact ⟨rfl, rfl, rfl, rfl, rfl, rfl⟩⟩
def consS (s : Sg) : Except Int (List Sg) → Except Int (List Sg)
  | .ok l => .ok (s :: l)
  | .error e => .error e
def intS (T : Tp) (c : Ct) (last : Int) : Nat → List I → Int → Int → Except Int (List Sg)
  | 0, x, t, h => if t < last then (match advS T x ⟨c, t, last, h⟩ with
      | none => .error 130
      | some _ => .error 140) else .ok []
  | n + 1, x, t, h => if t < last then (match advS T x ⟨c, t, last, h⟩ with
      | none => .error 130
      | some s => consS s (intS T c last n s.to (s.t + s.h) (nxS ⟨c, t, last, h⟩ s))) else .ok []
theorem intS_end {T : Tp} {c : Ct} {last : Int} {n : Nat} {x : List I} {t h : Int} (ht : ¬ t < last) : intS T c last n x t h = .ok [] := by
  cases n <;> simp [intS, ht]
theorem intS_none {T : Tp} {c : Ct} {last : Int} {n : Nat} {x : List I} {t h : Int} (ht : t < last) (ha : advS T x ⟨c, t, last, h⟩ = none) : intS T c last n x t h = .error 130 := by
  cases n <;> simp [intS, ht, ha]
theorem intS_full {T : Tp} {c : Ct} {last : Int} {x : List I} {t h : Int} {s : Sg} (ht : t < last) (ha : advS T x ⟨c, t, last, h⟩ = some s) : intS T c last 0 x t h = .error 140 := by
  simp [intS, ht, ha]
theorem intS_some {T : Tp} {c : Ct} {last : Int} {n : Nat} {x : List I} {t h : Int} {s : Sg} (ht : t < last) (ha : advS T x ⟨c, t, last, h⟩ = some s) :
    intS T c last (n + 1) x t h = consS s (intS T c last n s.to (s.t + s.h) (nxS ⟨c, t, last, h⟩ s)) := by
  simp [intS, ht, ha]
def appS (l : List Sg) : Except Int (List Sg) → Except Int (List Sg)
  | .ok r => .ok (l ++ r)
  | .error e => .error e
theorem appS_cons (l : List Sg) (s : Sg) (r : Except Int (List Sg)) : appS l (consS s r) = appS (l ++ [s]) r := by
  cases r <;> simp [appS, consS]
theorem appS_nil (r : Except Int (List Sg)) : appS [] r = r := by cases r <;> simp [appS]
def Chn (Q : List I → Int → Sg → Prop) : List I → Int → List Sg → Prop
  | _, _, [] => True
  | x, t, s :: l => Q x t s ∧ Chn Q s.to (s.t + s.h) l
def endT : Int → List Sg → Int
  | t, [] => t
  | _, s :: l => endT (s.t + s.h) l
theorem Chn.mono {Q R : List I → Int → Sg → Prop} (h : ∀ x t s, Q x t s → R x t s) : ∀ {x : List I} {t : Int} {l : List Sg}, Chn Q x t l → Chn R x t l
  | _, _, [], _ => trivial
  | _, _, _ :: _, hc => ⟨h _ _ _ hc.1, hc.2.mono h⟩
theorem Chn.get {Q : List I → Int → Sg → Prop} : ∀ {x : List I} {t : Int} {l : List Sg}, Chn Q x t l → ∀ (i : Nat) s, l[i]? = some s → ∃ x' t', Q x' t' s
  | _, _, [], _, i, s, h => by simp at h
  | x, t, a :: l, hc, 0, s, h => by simp at h; subst h; exact ⟨x, t, hc.1⟩
  | x, t, a :: l, hc, i + 1, s, h => hc.2.get i s (by simpa using h)
theorem Chn.next {Q : List I → Int → Sg → Prop} : ∀ {x : List I} {t : Int} {l : List Sg}, Chn Q x t l → ∀ (i : Nat) s s', l[i]? = some s → l[i + 1]? = some s' → Q s.to (s.t + s.h) s'
  | _, _, [], _, i, s, s', h, _ => by simp at h
  | x, t, a :: [], hc, i, s, s', h, h' => by simp at h'
  | x, t, a :: b :: l, hc, 0, s, s', h, h' => by simp at h h'; subst h; subst h'; exact hc.2.1
  | x, t, a :: b :: l, hc, i + 1, s, s', h, h' => hc.2.next i s s' (by simpa using h) (by simpa using h')
structure StOk (T : Tp) (c : Ct) (last : Int) (x : List I) (t : Int) (s : Sg) : Prop where
  vx : allV x
  nx : x.length = T.n
  bt : -1000000000 ≤ t ∧ t < last ∧ last ≤ 1000000000
  bh : 1 ≤ s.h ∧ t + s.h ≤ last
  acc : accS T x c t s.h = some s
  ok : SgOk T x t s.h s
structure hzOk (c : Ct) (t last : Int) : Prop where
  order : 1 ≤ c.order ∧ c.order ≤ 900
  least : 1 ≤ c.least
  most : 1 ≤ c.most ∧ c.most ≤ 1000000000
  t : -1000000000 ≤ t ∧ t ≤ 1000000000
  last : last ≤ 1000000000
theorem hzOk.rq {c : Ct} {t last h : Int} (k : hzOk c t last) (ht : t < last) (hh : 1 ≤ h ∧ h ≤ 1000000000) : rqOk ⟨c, t, last, h⟩ := ⟨k.order, k.least, k.t, ⟨ht, k.last⟩, hh⟩
theorem hzOk.step {c : Ct} {t last t' : Int} (k : hzOk c t last) (h1 : t ≤ t') (h2 : t' ≤ last) : hzOk c t' last := ⟨k.order, k.least, k.most, ⟨by have := k.t; omega, by have := k.last; omega⟩, k.last⟩
theorem nxS_b {c : Ct} {t last h : Int} (k : hzOk c t last) (hh : 1 ≤ h ∧ h ≤ 1000000000) {s : Sg} (hs : 1 ≤ s.h) : 1 ≤ nxS ⟨c, t, last, h⟩ s ∧ nxS ⟨c, t, last, h⟩ s ≤ 1000000000 := by
  have := k.most
  unfold nxS growS
  simp only
  split <;> omega
theorem intS_chn {T : Tp} {c : Ct} {last : Int} (hT : tpOk T) : ∀ {n : Nat} {x : List I} {t h : Int} {l : List Sg}, hzOk c t last → t ≤ last → 1 ≤ h ∧ h ≤ 1000000000 → allV x → x.length = T.n → intS T c last n x t h = .ok l →
    l.length ≤ n ∧ Chn (StOk T c last) x t l ∧ endT t l = last ∧ (t < last → 1 ≤ l.length) := by
  intro n
  induction n with
  | zero =>
    intro x t h l k htl hh hx hxn hi
    by_cases ht : t < last
    · cases ha : advS T x ⟨c, t, last, h⟩ with
      | none => rw [intS_none ht ha] at hi; cases hi
      | some s => rw [intS_full ht ha] at hi; cases hi
    · rw [intS_end ht] at hi
      cases hi
      exact ⟨by simp, trivial, by simp only [endT]; omega, fun h => absurd h ht⟩
  | succ n ih =>
    intro x t h l k htl hh hx hxn hi
    by_cases ht : t < last
    · cases ha : advS T x ⟨c, t, last, h⟩ with
      | none => rw [intS_none ht ha] at hi; cases hi
      | some s =>
        rw [intS_some ht ha] at hi
        obtain ⟨a1, a2, a3, a4, a5⟩ := advS_ok hT hx hxn (k.rq ht hh) ha
        have hst := a5.ht
        have hf : firstH ⟨c, t, last, h⟩ ≤ last - t := by unfold firstH; simp only; omega
        cases hr : intS T c last n s.to (s.t + s.h) (nxS ⟨c, t, last, h⟩ s) with
        | error e => rw [hr] at hi; cases hi
        | ok r =>
          rw [hr] at hi
          cases hi
          have hst2 : s.t = t := hst
          obtain ⟨b1, b2, b3, b4⟩ := ih (k.step (by omega) (by omega)) (by omega) (nxS_b k hh a2) a5.vto a5.nto hr
          exact ⟨by simp; omega, ⟨⟨hx, hxn, ⟨k.t.1, ht, k.last⟩, ⟨a2, by omega⟩, a4, a5⟩, b2⟩, b3, fun _ => by simp⟩
    · rw [intS_end ht] at hi
      cases hi
      exact ⟨by simp, trivial, by simp only [endT]; omega, fun h => absurd h ht⟩
def Ctg : Int → List Sg → Prop
  | _, [] => True
  | t, s :: l => s.t = t ∧ 1 ≤ s.h ∧ Ctg (s.t + s.h) l
theorem Ctg.ge : ∀ {l : List Sg} {t : Int}, Ctg t l → ∀ s ∈ l, t ≤ s.t ∧ 1 ≤ s.h ∧ s.t + s.h ≤ endT t l
  | [], t, _, s, h => by cases h
  | a :: l, t, hc, s, h => by
    have hend : ∀ {l : List Sg} {t : Int}, Ctg t l → t ≤ endT t l := by
      intro l
      induction l with
      | nil => intro t _; exact Int.le_refl _
      | cons b l ih => intro t hc; have := ih hc.2.2; have := hc.2.1; have := hc.1; simp only [endT]; omega
    obtain ⟨h1, h2, h3⟩ := hc
    rcases List.mem_cons.1 h with rfl | h
    · exact ⟨by omega, h2, hend h3⟩
    · have := Ctg.ge h3 s h
      exact ⟨by omega, this.2.1, this.2.2⟩
theorem Ctg.pair : ∀ {l : List Sg} {t : Int}, Ctg t l → l.Pairwise fun a b => a.t + a.h ≤ b.t ∧ 1 ≤ a.h ∧ 1 ≤ b.h
  | [], t, _ => .nil
  | a :: l, t, hc => .cons (fun b hb => by
      have := hc.2.2.ge b hb
      exact ⟨this.1, hc.2.1, this.2.1⟩) hc.2.2.pair
theorem idx_iff {α : Type} {p : α → Bool} : ∀ {l : List α}, (l.Pairwise fun a b => p a = true → p b = true) → ∀ (k : Nat) s, l[k]? = some s → (p s = true ↔ l.findIdx p ≤ k)
  | [], _, k, s, h => by simp at h
  | a :: l, hp, k, s, h => by
    rw [List.findIdx_cons]
    cases hpa : p a with
    | true =>
      simp
      cases k with
      | zero => simp at h; subst h; exact hpa
      | succ k =>
        have hm : s ∈ l := List.mem_of_getElem? (by simpa using h)
        exact (List.pairwise_cons.1 hp).1 s hm hpa
    | false =>
      simp
      cases k with
      | zero => simp at h; subst h; simp [hpa]
      | succ k =>
        have := idx_iff (List.pairwise_cons.1 hp).2 k s (by simpa using h)
        rw [this]; omega
theorem Ctg.idxT {l : List Sg} {t : Int} (h : Ctg t l) (τ : Int) (k : Nat) (s : Sg) (hs : l[k]? = some s) : decide (τ < s.t) = decide (l.findIdx (fun s => decide (τ < s.t)) ≤ k) := by
  have := idx_iff (p := fun s : Sg => decide (τ < s.t)) (l := l) (h.pair.imp fun {a b} hab hp => by simp at hp ⊢; omega) k s hs
  rw [Bool.eq_iff_iff]
  simpa using this
theorem Ctg.idxE {l : List Sg} {t : Int} (h : Ctg t l) (τ : Int) (k : Nat) (s : Sg) (hs : l[k]? = some s) : decide (τ ≤ s.t + s.h) = decide (l.findIdx (fun s => decide (τ ≤ s.t + s.h)) ≤ k) := by
  have := idx_iff (p := fun s : Sg => decide (τ ≤ s.t + s.h)) (l := l) (h.pair.imp fun {a b} hab hp => by simp at hp ⊢; omega) k s hs
  rw [Bool.eq_iff_iff]
  simpa using this
def boxs (s : Sg) : List (List I) := [s.frm, s.pre, s.tube, s.to]
def boxN (n : Nat) (b : List I) : Bool := b.length == n && validB b
def segB (n : Nat) (t : Int) (s : Sg) : Bool := decide (1 ≤ s.h) && s.t == t && numB s.t && numB s.h && numB (s.t + s.h) && (boxs s).all (boxN n)
def flowsB (n : Nat) : Int → List Sg → Bool
  | _, [] => true
  | t, s :: r => segB n t s && flowsB n (s.t + s.h) r
def flowB (l : List Sg) : Bool := match l with
  | [] => false
  | s :: _ => decide (l.length ≤ 256) && flowsB s.frm.length s.t l
theorem boxs_len (s : Sg) : (boxs s).length = 4 := rfl
end Go.Pl

namespace Go.Proofs.YtfjjckepnkkgjaaGreatDoor.Arm
open Go.Arm Go.Pl
theorem fValid (a : Int) (H : AH) : Sound E 52 [.int .i64 a] H (.ret (.bool (numB a))) H := by
  refine sound_of_awp tabOk mixed Tryz.func52 rfl (by rfl) Tryz.ntmps52 (by kernel_rfl) (by simp) ?_
  simp
  refine gateT (fun h => ?_) (fun h => ?_)
  all_goals
    simp [h]
    exact fin0 (rs := [.tmp 2]) (by rfl) (by simp [resA, numB, h])
theorem iValid (p : I) (H : AH) : Sound E 103 [iv p] H (.ret (.bool (vB p))) H := by
  refine sound_of_awp tabOk mixed Tryz.func103 rfl (by rfl) Tryz.ntmps103 (by kernel_rfl) (by simp) ?_
  simp
  refine call_ret (iIsEntire p _) ?_
  simp
  refine gateF (fun h => ?_) (fun h => ?_)
  · simp [h]
    refine call_ret (fValid _ _) ?_
    simp [h]
    refine gateT (fun h2 => ?_) (fun h2 => ?_)
    · simp [h, h2]
      refine call_ret (fValid _ _) ?_
      simp [h, h2]
      refine gateT (fun h3 => ?_) (fun h3 => ?_)
      all_goals
        simp [h, h2, h3]
        exact fin1 (rs := [.tmp 2]) (by rfl) (by simp [resA, vB, h, h2, h3]) (by simp [noF])
    · simp [h, h2]
      exact fin1 (rs := [.tmp 2]) (by rfl) (by simp [resA, vB, h, h2]) (by simp [noF])
  · simp [h]
    exact fin1 (rs := [.tmp 2]) (by rfl) (by simp [resA, vB, h]) (by simp [noF])
theorem bValid1 (p : I) (H : AH) : Sound E 102 [iv p] H (.ret (.bool (!vB p))) H := by
  refine sound_of_awp tabOk mixed Tryz.func102 rfl (by rfl) Tryz.ntmps102 (by kernel_rfl) (by simp) ?_
  simp
  refine call_ret (iValid p _) ?_
  simp
  exact fin1 (rs := [.tmp 2]) (by rfl) (by simp [resA]) (by simp [noF])
theorem bValid (b : List I) (hb : b.length ≤ 1000000) (H : AH) : Sound E 60 [bx b] H (.ret (.bool (validB b))) H := by
  refine sound_of_awp tabOk mixed Tryz.func60 rfl (by rfl) Tryz.ntmps60 (by kernel_rfl) (by simp) ?_
  have hS := fun Hx => sContainsFunc b 102 [] (fun p => !vB p) Hx hb (fun p _ => by simpa using bValid1 p Hx)
  simp only [bx] at hS
  simp [bx]
  refine gateT (fun h => ?_) (fun h => ?_)
  · simp [h]
    refine gateT (fun h2 => ?_) (fun h2 => ?_)
    · simp [h, h2]
      refine call_ret (by simpa using hS _) ?_
      simp [h, h2]
      refine fin0 (rs := [.tmp 2]) (by rfl) ?_
      simp at h h2
      have h3 : 1 ≤ b.length := by omega
      have h4 : b.length ≤ 6 := by omega
      simp [resA, validB, h3, h4]
      exact List.not_all_eq_any_not.symm
    · simp [h, h2]
      refine fin0 (rs := [.tmp 2]) (by rfl) ?_
      simp at h h2
      have h3 : ¬ b.length ≤ 6 := by omega
      simp [resA, validB, h3]
  · simp [h]
    refine fin0 (rs := [.tmp 2]) (by rfl) ?_
    have h3 : ¬ 1 ≤ b.length := by simp at h; omega
    simp [resA, validB, h3]
end Go.Proofs.YtfjjckepnkkgjaaGreatDoor.Arm

namespace Go.Proofs.YtfjjckepnkkgjaaGreatDoor.Arm
open Go.Arm Go.Pl
theorem allT {α : Type} {p : α → Bool} {l : List α} {i : Nat} {x : α} (h : (l.take i).all p = true) (hx : l[i]? = some x) (hp : p x = true) : (l.take (i + 1)).all p = true := by
  rw [List.take_add_one, hx]; simp only [List.all_append, h]; simpa using hp
theorem allE {α : Type} {p : α → Bool} {l : List α} {i : Nat} (h : (l.take i).all p = true) (hi : ¬ i < l.length) : l.all p = true := by
  rwa [List.take_of_length_le (by omega)] at h
theorem allN {α : Type} {p : α → Bool} {l : List α} {i : Nat} {x : α} (hx : l[i]? = some x) (hp : p x = false) : l.all p = false := by
  rw [List.all_eq_false]; exact ⟨x, List.mem_of_getElem? hx, by simp [hp]⟩
theorem dropA {α : Type} {l : List α} {i : Nat} {p : α} (h : l[i]? = some p) : l.drop i = p :: l.drop (i + 1) := by
  obtain ⟨hi, rfl⟩ := List.getElem?_eq_some_iff.1 h
  exact List.drop_eq_getElem_cons hi
def sgL (l : List Sg) : AV := .slice (l.map sgA) false
def smallS (s : Sg) : Prop := s.frm.length ≤ 1000000 ∧ s.pre.length ≤ 1000000 ∧ s.tube.length ≤ 1000000 ∧ s.to.length ≤ 1000000
theorem sgA_noF (s : Sg) (m : Nat) : noF m (sgA s) = true := by simp only [sgA, bx, noF, noFs, iv_noFs, Bool.and_self]
theorem sgs_noFs (l : List Sg) (n : Nat) : noFs n (l.map sgA) = true := noFs_iff.2 fun x hx => by obtain ⟨y, _, rfl⟩ := List.mem_map.1 hx; exact sgA_noF y n
set_option maxRecDepth 10000 in
theorem r12SameS (a b : Sg) (ha : smallS a) (hb : smallS b) (H : AH) : Sound E 101 [sgA a, sgA b] H (.ret (.bool (decide (a = b)))) H := by
  refine sound_of_awp tabOk mixed Tryz.func101 rfl (by rfl) Tryz.ntmps101 (by kernel_rfl) (by simp) ?_
  have c1 := fun Hx => r3Same a.frm b.frm ha.1 hb.1 Hx
  have c2 := fun Hx => r3Same a.pre b.pre ha.2.1 hb.2.1 Hx
  have c3 := fun Hx => r3Same a.tube b.tube ha.2.2.1 hb.2.2.1 Hx
  have c4 := fun Hx => r3Same a.to b.to ha.2.2.2 hb.2.2.2 Hx
  simp only [bx] at c1 c2 c3 c4
  simp [sgA, bx]
  refine gateT (fun e0 => ?_) (fun e0 => ?_)
  rotate_left
  · simp [e0]
    exact fin1 (rs := [.tmp 4]) (by rfl) (by simp [resA]; rintro rfl; simp at e0) (by simp [noF])
  simp [e0]
  refine gateT (fun e1 => ?_) (fun e1 => ?_)
  rotate_left
  · simp [e1, e0]
    exact fin1 (rs := [.tmp 4]) (by rfl) (by simp [resA]; rintro rfl; simp at e1) (by simp [noF])
  simp [e0, e1]
  refine call_ret (by simpa using c1 _) ?_
  simp [e0, e1]
  refine gateT (fun e2 => ?_) (fun e2 => ?_)
  rotate_left
  · simp [e2, e0, e1]
    exact fin1 (rs := [.tmp 4]) (by rfl) (by simp [resA]; rintro rfl; simp at e2) (by simp [noF])
  simp [e0, e1, e2]
  refine call_ret (by simpa using c2 _) ?_
  simp [e0, e1, e2]
  refine gateT (fun e3 => ?_) (fun e3 => ?_)
  rotate_left
  · simp [e3, e0, e1, e2]
    exact fin1 (rs := [.tmp 4]) (by rfl) (by simp [resA]; rintro rfl; simp at e3) (by simp [noF])
  simp [e0, e1, e2, e3]
  refine call_ret (by simpa using c3 _) ?_
  simp [e0, e1, e2, e3]
  refine gateT (fun e4 => ?_) (fun e4 => ?_)
  rotate_left
  · simp [e4, e0, e1, e2, e3]
    exact fin1 (rs := [.tmp 4]) (by rfl) (by simp [resA]; rintro rfl; simp at e4) (by simp [noF])
  simp [e0, e1, e2, e3, e4]
  refine call_ret (by simpa using c4 _) ?_
  simp [e0, e1, e2, e3, e4]
  simp at e0 e1 e2 e3 e4
  exact fin1 (rs := [.tmp 4]) (by rfl) (by simp [resA]; exact ⟨fun h => sg_ext e0 e1 e2 e3 e4 h, fun h => by rw [h]⟩) (by simp [noF])
def LSa (a : List Sg) (H : AH) (i : Nat) (fr : AFr) (H' : AH) : Prop :=
  fr 0 = sgL a ∧ fr 1 = sgL a ∧ fr 5 = .int .i64 i ∧ (∃ J, H' = H ++ J) ∧ i ≤ a.length
theorem r12SameAll (a : List Sg) (ha : a.length ≤ 1000000) (hs : ∀ s ∈ a, smallS s) (H : AH) : Sound E 59 [sgL a, sgL a] H (.ret (.bool true)) H := by
  refine sound_of_awp tabOk mixed Tryz.func59 rfl (by rfl) Tryz.ntmps59 (by kernel_rfl) (by simp) ?_
  simp [sgL]
  refine loop_count (LSa a H) (fun i => a.length - i) 0 ⟨by simp [sgL], by simp [sgL], by simp, ⟨[], by simp⟩, by simp⟩ ?_
  rintro i fr H' ⟨h0, h1, h5, ⟨J, rfl⟩, hi⟩
  simp [h0, h5, sgL]
  refine branch (fun hl => ?_) (fun hl => ?_)
  · have hl' : i < a.length := by simpa using hl
    obtain ⟨p, hp⟩ := get_lt hl'
    have hpE : ∀ h, a[i]'h = p := fun h => (List.getElem?_eq_some_iff.1 hp).2
    have hS := fun Hx => r12SameS p p (hs p (List.mem_of_getElem? hp)) (hs p (List.mem_of_getElem? hp)) Hx
    rw [decide_eq_true rfl] at hS
    have w2 : IntKind.i64.wrap ((i : Int) + 1) = ((i + 1 : Nat) : Int) := by rw [wrap64 (by omega) (by omega)]; omega
    simp [h0, h1, h5, sgL, hp, hpE, sgA, bx]
    refine callD_ret0 (fun Hx => by simpa [sgA, bx] using hS Hx) ?_
    simp
    refine endD [] (by rfl) (by simp [okW, note, Eff.triv, Eff.wr, Eff.none, upTo, newAt, h0, h1]) ?_
    simp [h5, w2]
    exact ⟨i + 1, by show a.length - (i + 1) < a.length - i; omega, by simp [h0, sgL], by simp [h1, sgL], by simp, ⟨_, rfl⟩, by omega⟩
  · simp
    exact fin1 (rs := [.tmp 4]) (by rfl) (by simp [resA]) (by simp [noF])
theorem r14Same (a : List Sg) (ha : a.length ≤ 1000000) (hs : ∀ s ∈ a, smallS s) (H : AH) : Sound E 16 [sgL a, sgL a] H (.ret (.bool true)) H := by
  refine sound_of_awp tabOk mixed Tryz.func16 rfl (by rfl) Tryz.ntmps16 (by kernel_rfl) (by simp) ?_
  simp
  refine call_ret (by simpa using r12SameAll a ha hs _) ?_
  simp
  exact fin0 (rs := [.tmp 4]) (by rfl) (by simp [resA])
theorem r14SameN (H : AH) : Sound E 16 [.nilslice, .nilslice] H (.ret (.bool true)) H := by
  have := (r14Same [] (by simp) (by simp) H).weaken (args := [.nilslice, .nilslice]) (by simp only [sgL, List.map_nil]; exact ⟨Wk.nil, Wk.nil, trivial⟩)
  exact this
def LVa (l : List Sg) (n : Nat) (t0 : Int) (H : AH) (i : Nat) (fr : AFr) (H' : AH) : Prop :=
  fr 0 = sgL l ∧ fr 20 = sgL l ∧ fr 21 = .int .i64 l.length ∧ fr 22 = .int .i64 i ∧ i ≤ l.length ∧ (∃ t, fr 3 = .int .i64 t ∧ flowsB n t0 l = flowsB n t (l.drop i)) ∧ ∃ J, H' = H ++ J
def MVa (l : List Sg) (n : Nat) (t : Int) (p : Sg) (H : AH) (i : Nat) (j : Nat) (fr : AFr) (H' : AH) : Prop :=
  fr 0 = sgL l ∧ fr 20 = sgL l ∧ fr 21 = .int .i64 l.length ∧ fr 22 = .int .i64 i ∧ fr 3 = .int .i64 t ∧ fr 69 = .agg ((boxs p).map bx) ∧ fr 70 = .int .i64 j ∧ j ≤ 4 ∧ ((boxs p).take j).all (boxN n) = true ∧ ∃ J, H' = H ++ J
set_option maxRecDepth 10000 in
theorem wValid (l : List Sg) (hl1 : l.length ≤ 1000000) (hs : ∀ s ∈ l, ∀ b ∈ boxs s, b.length ≤ 1000000) (H : AH) : Sound E 18 [sgL l] H (.ret (.bool (flowB l))) H := by
  refine sound_of_awp tabOk mixed Tryz.func18 rfl (by rfl) Tryz.ntmps18 (by kernel_rfl) (by simp) ?_
  simp [sgL]
  refine gateF (fun g1 => ?_) (fun g1 => ?_)
  rotate_left
  · simp [g1]
    exact fin0 (rs := [.tmp 2]) (by rfl) (by
      have : l = [] := by simp at g1; exact List.length_eq_zero_iff.1 (by omega)
      subst this; simp [resA, flowB])
  simp [g1]
  obtain ⟨s0, r0, rfl⟩ : ∃ s0 r0, l = s0 :: r0 := by cases l with
    | nil => simp at g1
    | cons a b => exact ⟨a, b, rfl⟩
  generalize hl : s0 :: r0 = l at *
  have h0 : l[0]? = some s0 := by rw [← hl]; rfl
  have hfl : flowB l = (decide (l.length ≤ 256) && flowsB s0.frm.length s0.t l) := by rw [← hl]; rfl
  refine branch (fun g2 => ?_) (fun g2 => ?_)
  · simp
    exact fin0 (rs := [.tmp 2]) (by rfl) (by
      have : ¬ l.length ≤ 256 := by simp at g2; omega
      rw [hfl]; simp [resA, this])
  have f2 : l.length ≤ 256 := by simp at g2; omega
  have cert : flowB l = flowsB s0.frm.length s0.t l := by rw [hfl]; simp [f2]
  have h0E : ∀ h, l[0]'h = s0 := fun h => (List.getElem?_eq_some_iff.1 h0).2
  have hpos : 0 < l.length := by rw [← hl]; simp
  simp [h0, h0E, hpos, sgA, bx]
  refine loop_count (LVa l s0.frm.length s0.t H) (fun i => l.length - i) 0 ⟨by simp [sgL], by simp [sgL], by simp, by simp, by omega, ⟨s0.t, by simp, by simp⟩, [], by simp⟩ ?_
  rintro i fr H' ⟨k0, k20, k21, k22, hi, ⟨t, k3, hfs⟩, J, rfl⟩
  simp [k21, k22]
  refine branch (fun hc => ?_) (fun hc => ?_)
  rotate_left
  · simp at hc
    simp
    have : l.drop i = [] := List.drop_of_length_le (by omega)
    exact fin1 (rs := [.tmp 2]) (by rfl) (by rw [cert, hfs, this]; simp [resA, flowsB]) (by simp [noF])
  have hc : i < l.length := by simpa using hc
  obtain ⟨p, hp⟩ := get_lt hc
  have hpE : ∀ h, l[i]'h = p := fun h => (List.getElem?_eq_some_iff.1 hp).2
  have hpb := hs p (List.mem_of_getElem? hp)
  have bad : segB s0.frm.length t p = false → flowB l = false := by
    intro h; rw [cert, hfs, dropA hp]; simp [flowsB, h]
  simp [k20, k22, hp, hpE, sgL, sgA, bx]
  refine gateF (fun e1 => ?_) (fun e1 => ?_)
  rotate_left
  · simp [e1, k3]
    exact fin1 (rs := [.tmp 2]) (by rfl) (by rw [bad (by simp at e1; simp [segB]; (try intros); first | omega | simp_all | (simp_all; omega))]; simp [resA]) (by simp [noF])
  simp [e1, k3]
  refine gateF (fun e2 => ?_) (fun e2 => ?_)
  rotate_left
  · simp [e2, e1, k3]
    exact fin1 (rs := [.tmp 2]) (by rfl) (by rw [bad (by simp at e2; simp [segB]; (try intros); first | omega | simp_all | (simp_all; omega))]; simp [resA]) (by simp [noF])
  simp [e1, e2, k3]
  refine call_ret (fValid p.t _) ?_
  simp [e1, e2, k3]
  refine gateF (fun e3 => ?_) (fun e3 => ?_)
  rotate_left
  · simp [e3, e1, e2, k3]
    exact fin1 (rs := [.tmp 2]) (by rfl) (by rw [bad (by simp at e3; simp [segB]; (try intros); first | omega | simp_all | (simp_all; omega))]; simp [resA]) (by simp [noF])
  simp [e1, e2, e3, k3]
  refine call_ret (fValid p.h _) ?_
  simp [e1, e2, e3, k3]
  refine gateF (fun e4 => ?_) (fun e4 => ?_)
  rotate_left
  · simp [e4, e1, e2, e3, k3]
    exact fin1 (rs := [.tmp 2]) (by rfl) (by rw [bad (by simp at e4; simp [segB]; (try intros); first | omega | simp_all | (simp_all; omega))]; simp [resA]) (by simp [noF])
  have v1 := numB_iff.1 (show numB p.t = true by simpa using e3)
  have v2 := numB_iff.1 (show numB p.h = true by simpa using e4)
  have w1 : IntKind.i64.wrap (p.t + p.h) = p.t + p.h := wrap64 (by omega) (by omega)
  simp [e1, e2, e3, e4, k3, w1]
  refine call_ret (fValid _ _) ?_
  simp [e1, e2, e3, e4, k3, w1]
  refine branch (fun e5 => ?_) (fun e5 => ?_)
  · simp
    exact fin1 (rs := [.tmp 2]) (by rfl) (by rw [bad (by simp at e5; simp [segB]; (try intros); first | omega | simp_all | (simp_all; omega))]; simp [resA]) (by simp [noF])
  simp [w1]
  refine loop_count (MVa l s0.frm.length (p.t + p.h) p H i) (fun j => 4 - j) 0 ⟨by simp [k0], by simp [k20], by simp [k21], by simp [k22], by simp, by simp [boxs, bx], by simp, by omega, by simp, _, rfl⟩ ?_
  rintro j fr H' ⟨k0, k20, k21, k22, k3, k69, k70, hj, hall, J, rfl⟩
  simp [k70]
  refine branch (fun hjc => ?_) (fun hjc => ?_)
  · simp at hjc
    obtain ⟨b, hb⟩ := get_lt (l := boxs p) (i := j) (by rw [boxs_len]; omega)
    have hbE : ∀ h, (boxs p)[j]'h = b := fun h => (List.getElem?_eq_some_iff.1 hb).2
    have hbl := hpb b (List.mem_of_getElem? hb)
    have badb : boxN s0.frm.length b = false → flowB l = false := fun h => bad (by simp [segB, allN hb h])
    have hj4 : ((j : Int) < 4) := by omega
    have hj5 : j < (boxs p).length := by rw [boxs_len]; omega
    have hV := fun Hx => bValid b hbl Hx
    simp only [bx] at hV
    simp [k69, k70, hb, hbE, k0, h0, h0E, hpos, hj4, hj5, sgL, sgA, bx]
    refine gateF (fun e6 => ?_) (fun e6 => ?_)
    rotate_left
    · simp [e6]
      exact fin1 (rs := [.tmp 2]) (by rfl) (by rw [badb (by simp at e6; simp [boxN]; intro h; omega)]; simp [resA]) (by simp [noF])
    simp [e6]
    refine call_ret (by simpa using hV _) ?_
    simp [e6]
    refine branch (fun e7 => ?_) (fun e7 => ?_)
    · simp
      exact fin1 (rs := [.tmp 2]) (by rfl) (by rw [badb (by simp at e7; simp [boxN, e7])]; simp [resA]) (by simp [noF])
    simp (disch := omega) [k70, wrap64]
    have hbn : boxN s0.frm.length b = true := by simp at e6 e7; simp [boxN, e7]; omega
    exact ⟨j + 1, by dsimp only; omega, by simp [k0], by simp [k20], by simp [k21], by simp [k22], by simp [k3], by simp [k69], by simp, by omega, allT hall hb hbn, J, rfl⟩
  · simp at hjc
    have hall' := allE hall (by rw [boxs_len]; omega)
    simp (disch := omega) [k22, wrap64]
    have good : segB s0.frm.length t p = true := by
      simp at e1 e2 e3 e4 e5
      simp only [segB, Bool.and_eq_true, decide_eq_true_eq, beq_iff_eq]
      exact ⟨⟨⟨⟨⟨by omega, e2⟩, e3⟩, e4⟩, e5⟩, hall'⟩
    exact ⟨i + 1, by dsimp only; omega, by simp [k0], by simp [k20], by simp [k21], by simp, by omega, ⟨p.t + p.h, by simp [k3], by rw [hfs, dropA hp]; simp [flowsB, good]⟩, _, rfl⟩
end Go.Proofs.YtfjjckepnkkgjaaGreatDoor.Arm

namespace Go.Arm
open Go.RowKit
section
variable {G : Gh} {w : World} {m : Nat} {σ : Nat → Option Nat}
theorem BlkOk.moveRow0 (hd : ∀ c k, σ c = some k → ownr G c = none) {c : Nat} (hc : c < m) (hs : σ c = none) {wr : Bool} {sz : Nat} {xs xs' : List AV} (h : BlkOk G w c (.row wr sz xs)) (hl : xs'.length = xs.length)
    (hx : ∀ (i : Nat) x x', xs[i]? = some x → xs'[i]? = some x' → RenX m σ x x') : BlkOk (mvG G m σ) w c (.row wr sz xs') := by
  have ho : ownr (mvG G m σ) c = ownr G c := by rw [mv_own, if_pos hc, hs]
  obtain ⟨L, h1, h2, h3, h4, h5, h6, h7, c', e, h8, h9, hv⟩ := h
  have hget : ∀ (i : Nat) x', xs'[i]? = some x' → ∃ x, xs[i]? = some x ∧ RenX m σ x x' := fun i x' hi => by
    have hlt := (List.getElem?_eq_some_iff.1 hi).1
    exact ⟨xs[i], by simp, hx i _ x' (by simp) hi⟩
  refine ⟨L, ho.trans h1, by rw [h2, hl], h3, fun x' hx' => ?_, by rw [hl]; exact h5, h6, by rw [hl]; exact h7, c', e, h8, h9, fun i x' j a' hi hj => ?_⟩
  · obtain ⟨i, hi⟩ := List.mem_iff_getElem?.1 hx'
    obtain ⟨x, hx1, hx2⟩ := hget i x' hi
    rw [← hx2.1]; exact h4 x (List.mem_of_getElem? hx1)
  · obtain ⟨x, hx1, hx2⟩ := hget i x' hi
    have hjl : j < x.cells.length := by rw [hx2.1]; exact (List.getElem?_eq_some_iff.1 hj).1
    obtain ⟨v, g1, g2⟩ := hv i x j x.cells[j] hx1 (by simp)
    exact ⟨v, g1, (hx2.2 j _ a' (by simp) hj).vr hd g2⟩
end
structure FillW (H HJ H' : AH) (r r' : AV) (σ : Nat → Option Nat) : Prop where
  dead : ∀ c k, σ c = some k → c < H.length ∧ H[c]? = some .dead ∧ HJ[c]? = some .dead ∧ H.length ≤ k
  inj : ∀ c c' k, σ c = some k → σ c' = some k → c = c'
  len : H'.length = H.length
  keep : ∀ c, c < H.length → σ c = none → (HJ[c]? = H[c]? ∧ H'[c]? = H[c]?) ∨ (∃ k, HJ[c]? = some k ∧ H'[c]? = some k ∧ noFB H.length k = true) ∨
    (∃ k st st' frs, H[c]? = some (.loop k st frs) ∧ HJ[c]? = some (.loop k st' frs) ∧ H'[c]? = some (.loop k st' frs)) ∨
    ∃ wr sz xs xs', HJ[c]? = some (.row wr sz xs) ∧ H'[c]? = some (.row wr sz xs') ∧ xs'.length = xs.length ∧ ∀ (i : Nat) x x', xs[i]? = some x → xs'[i]? = some x' → RenX H.length σ x x'
  fill : ∀ c k, σ c = some k → ∃ wr sz xs xs', HJ[k]? = some (.row wr sz xs) ∧ H'[c]? = some (.row wr sz xs') ∧ xs'.length = xs.length ∧ ∀ (i : Nat) x x', xs[i]? = some x → xs'[i]? = some x' → RenX H.length σ x x'
  res : RenV H.length σ r r'
theorem FillW.ok {Γ : Nat → Option (List AV)} {G G' : Gh} {w w' : World} {H HJ H' : AH} {r r' : AV} {σ : Nat → Option Nat} (h : FillW H HJ H' r r' σ) (hI : Inv Γ G w H) (e : Ext G w G' w') (i : Inv Γ G' w' HJ) {u : Value} (hu : VR G' w' r u) :
    ∃ G'', Ext G w G'' w' ∧ Inv Γ G'' w' H' ∧ VR G'' w' r' u := by
  obtain ⟨hd, hi, hl, hk, hf, hr⟩ := h
  have hd' : ∀ c k, σ c = some k → ownr G' c = none := fun c k hs => i.blk c _ (hd c k hs).2.2.1
  have e1 : Ext G w (mvG G' H.length σ) w' := by
    refine ⟨e.os, e.tape, e.output, e.size, e.keep, fun c L hc => ?_, fun c L' hc hlt => ?_⟩
    · obtain ⟨L', h1, h2⟩ := e.own c L hc
      have hc0 := own_lt hc
      rw [hI.len] at hc0
      cases hs : σ c with
      | some k => have := hI.blk c _ (hd c k hs).2.1; rw [show ownr G c = none from this] at hc; cases hc
      | none => exact ⟨L', by rw [mv_own, if_pos hc0, hs]; exact h1, h2⟩
    · rcases (mv_some hc).2 with ⟨k, hs, h1⟩ | ⟨_, h1⟩
      · obtain ⟨L, h2, _⟩ := e.back k L' h1 hlt
        have := own_lt h2
        rw [hI.len] at this
        have := (hd c k hs).2.2.2
        omega
      · exact e.back c L' h1 hlt
  refine ⟨_, e1, ⟨by simp [mvG, hl], fun c x hx => ?_, ?_, fun g cs hg => (hI.glob g cs hg).mono e1⟩, hr.vr hd' hu⟩
  · have hc : c < H.length := by rw [← hl]; exact (List.getElem?_eq_some_iff.1 hx).1
    cases hs : σ c with
    | none =>
      rcases hk c hc hs with ⟨h1, h2⟩ | ⟨k, h1, h2, hn⟩ | ⟨k, st, st', frs, h0, h1, h2⟩ | ⟨wr, sz, xs, xs', h1, h2, h3, h4⟩
      · rw [h2] at hx
        have hn := (hI.blk c x hx).noF
        rw [hI.len] at hn
        exact (i.blk c x (h1.trans hx)).move hd' hc hs hn
      · rw [h2] at hx; cases hx
        exact (i.blk c _ h1).move hd' hc hs hn
      · rw [h2] at hx; cases hx
        have hn := (hI.blk c _ h0).noF
        rw [hI.len] at hn
        exact (i.blk c _ h1).move hd' hc hs hn
      · rw [h2] at hx; cases hx
        exact (i.blk c _ h1).moveRow0 hd' hc hs h3 h4
    | some k =>
      obtain ⟨wr, sz, xs, xs', h1, h2, h3, h4⟩ := hf c k hs
      rw [h2] at hx; cases hx
      exact (i.blk k _ h1).moveRow hd' hc hs h3 h4
  · intro c c' L L' h1 h2 h3
    obtain ⟨g0, g1⟩ := mv_some h1
    obtain ⟨q0, q1⟩ := mv_some h2
    rcases g1 with ⟨k, s1, g1⟩ | ⟨s1, g1⟩ <;> rcases q1 with ⟨k', s2, q1⟩ | ⟨s2, q1⟩
    · have := i.inj k k' L L' g1 q1 h3; subst this; exact hi c c' k s1 s2
    · have := i.inj k c' L L' g1 q1 h3; have := (hd c k s1).2.2.2; omega
    · have := i.inj c k' L L' g1 q1 h3; have := (hd c' k' s2).2.2.2; omega
    · exact i.inj c c' L L' g1 q1 h3
theorem YSound.fillw {E : Env} {b : Nat} {args : List AV} {H HJ H' : AH} {v v' : AV} {σ : Nat → Option Nat} (h : YSound E b args H v HJ) (hs : FillW H HJ H' v v' σ) : YSound E b args H v' H' := by
  intro F n hF G w vs L hI hv hL hfx
  obtain ⟨fn, tmps, assign, body, h1, h2⟩ := h F n hF G w vs L hI hv hL hfx
  refine ⟨fn, tmps, assign, body, h1, h2.mono ?_⟩
  rintro r w1 ⟨u, rfl, G', e, i, hu⟩
  obtain ⟨G'', e2, i2, r2⟩ := hs.ok hI e i hu
  exact ⟨u, rfl, G'', e2, i2, r2⟩
theorem FillW.one {H0 H HJ H' : AH} {v : AV} {pl k oc sz n : Nat} {xs : List AV} (hp : H[pl]? = some .dead) (hpJ : HJ[pl]? = some .dead) (hkl : H.length ≤ k) (hk : HJ[k]? = some (.row true sz xs)) (hl : H'.length = H.length)
    (ho : HJ[oc]? = some (.row true 1 [.ref k n])) (ho' : H'[oc]? = some (.row true 1 [.ref pl n])) (hp' : H'[pl]? = some (.row true sz xs)) (hne : oc ≠ pl) (hn : noFs H.length xs = true) (hv : noF H.length v = true)
    (hc : ∀ c, c < H.length → c ≠ pl → c ≠ oc → (HJ[c]? = H[c]? ∧ H'[c]? = H[c]?) ∨ (∃ k, HJ[c]? = some k ∧ H'[c]? = some k ∧ noFB H.length k = true) ∨ (∃ k st st' frs, H[c]? = some (.loop k st frs) ∧ HJ[c]? = some (.loop k st' frs) ∧ H'[c]? = some (.loop k st' frs))) :
    FillW H HJ H' v v (fun c => if c = pl then some k else none) := by
  have hpl := (List.getElem?_eq_some_iff.1 hp).1
  have σp : ∀ c j, (fun c => if c = pl then some k else none) c = some j → c = pl ∧ j = k := fun c j h => by
    simp only at h
    split at h
    · rename_i e; cases h; exact ⟨e, rfl⟩
    · cases h
  have hrow : ∀ (i : Nat) x x', xs[i]? = some x → xs[i]? = some x' → RenX H.length (fun c => if c = pl then some k else none) x x' := fun i x x' h1 h2 => by
    rw [h1] at h2; cases h2
    refine ⟨rfl, fun j a a' ha ha' => ?_⟩
    rw [ha] at ha'; cases ha'
    exact .old (noFs_get (noF_cells.2 (noFs_get hn h1)) ha)
  refine ⟨fun c j h => ?_, fun c c' j h h' => ?_, hl, fun c hcl hs => ?_, fun c j h => ?_, .old hv⟩
  · obtain ⟨rfl, rfl⟩ := σp c j h
    exact ⟨hpl, hp, hpJ, hkl⟩
  · rw [(σp c j h).1, (σp c' j h').1]
  · have hcp : c ≠ pl := by intro e; subst e; simp at hs
    by_cases hco : c = oc
    · subst hco
      refine .inr (.inr (.inr ⟨true, 1, _, _, ho, ho', rfl, fun i x x' h1 h2 => ?_⟩))
      cases i with
      | zero =>
        simp at h1 h2; subst h1; subst h2
        refine ⟨rfl, fun j a a' ha ha' => ?_⟩
        cases j with
        | zero => simp [AV.cells] at ha ha'; subst ha; subst ha'; exact .ref (by simp) hpl
        | succ j => simp [AV.cells] at ha
      | succ i => simp at h1
    · rcases hc c hcl hcp hco with h | h | h
      · exact .inl h
      · exact .inr (.inl h)
      · exact .inr (.inr (.inl h))
  · obtain ⟨rfl, rfl⟩ := σp c j h
    exact ⟨true, sz, xs, xs, hk, hp', rfl, hrow⟩
end Go.Arm

namespace Go.Proofs.YtfjjckepnkkgjaaGreatDoor.Arm
open Go.Arm Go.Pl
theorem app_ivN {H : AH} {p : I} {f : Bool} : appendA tab H 26 .nilslice (.slice [iv p] f) = some (.ref H.length 1, H ++ [.row true 2 [iv p]]) := by
  have h2 : appendA tab H 26 .nilslice (.slice [iv p] f) = growA i54 H .nilslice [iv p] := by
    simp only [appendA, tab26, tab54, els]
    rfl
  rw [h2]
  rfl
def hullK (a b : List I) (i : Nat) : List I := (List.range i).map fun j => hull (atN a j) (atN b j)
theorem hullK_succ (a b : List I) (i : Nat) : hullK a b (i + 1) = hullK a b i ++ [hull (atN a i) (atN b i)] := by simp [hullK, List.range_succ]
theorem hullK_len (a b : List I) (i : Nat) : (hullK a b i).length = i := by simp [hullK]
def HuP (a b : List I) (i : Nat) : ABlk := if i = 0 then .dead else .row true 2 ((hullK a b i).map iv)
def HuC (B i : Nat) : AV := if i = 0 then .nilslice else .ref B i
theorem bHull (a b : List I) (hab : a.length ≤ b.length) (hl : a.length ≤ 1000000) (ha : 1 ≤ a.length) (H : AH) : Sound E 106 [bx a, bx b] H (.ret (bx (hullB a b))) H := by
  refine sound_of_awp_pad (1) tabOk mixed Tryz.func106 rfl (by rfl) Tryz.ntmps106 (by kernel_rfl) (by simp) ?_
  rw [show List.replicate 1 ABlk.dead = [.dead] from rfl]
  simp
  refine call_ret (by simpa using bPairs a b _) ?_
  simp
  refine range_it 6 (by rfl) (fun N hN => ?_)
  generalize hk : (LK.mk N _ _ _) = k at hN ⊢
  generalize hf : List.map _ (List.range 6) = frs
  have h5 : frs[5]? = some (.ptr (H.length + 1) 1 0 0) := by rw [← hf]; simp
  let MM : Nat → AH := fun i => H ++ [HuP a b i, .row true 1 [HuC H.length i], .row true 1 [bx a], .row true 1 [bx b], .loop k .ready frs]
  have hP : ∀ i, PairM a b (H.length + 2) (H.length + 3) (MM i) := fun i => ⟨⟨true, by simp [MM]⟩, ⟨true, by simp [MM]⟩⟩
  have nC : ∀ i, noF (H.length + 5) (HuC H.length i) = true := fun i => by unfold HuC; split <;> simp [noF]
  have nP : ∀ i, noFB (H.length + 5) (HuP a b i) = true := fun i => by unfold HuP; split <;> simp only [noFB, iv_noFs]
  have halt : ∀ i j, alters (MM i) (MM j) := fun i j => alters_of ⟨.inr (.inl (by simpa using nP j)), .inr (.inl (by simp [noFB, noFs, nC])), .same _, .same _, .same _, trivial⟩
  have hround : ∀ (i : Nat) (p q : I), i < a.length → atN a i = p → atN b i = q → ∀ (J : AH), YSound E (H.length + 4) [iv p, iv q] (MM i ++ J) (.bool true) (MM (i + 1) ++ J) := by
    intro i p q hi hp hq J
    have hs : hullK a b (i + 1) = hullK a b i ++ [hull p q] := by rw [hullK_succ, hp, hq]
    have hln := hullK_len a b i
    rcases Nat.eq_zero_or_pos i with h0 | h0
    · subst h0
      rw [show MM 0 = H ++ [.dead, .row true 1 [.nilslice], .row true 1 [bx a], .row true 1 [bx b], .loop k .ready frs] from rfl]
      have hs1 : hullK a b 1 = [hull p q] := by rw [hs]; simp [hullK]
      have eP : HuP a b 1 = .row true 2 [iv (hull p q)] := by unfold HuP; rw [hs1]; rfl
      refine YSound.fillw (HJ := H ++ [.dead, .row true 1 [.ref (H.length + 5 + J.length + 2) 1], .row true 1 [bx a], .row true 1 [bx b], .loop k .ready frs] ++ J ++ [.row true 2 [iv p], .row true 2 [iv q], .row true 2 [iv (hull p q)]]) (v := .bool true) ?_
        (FillW.one (H0 := H) (pl := H.length) (k := H.length + 5 + J.length + 2) (oc := H.length + 1) (sz := 2) (n := 1) (xs := [iv (hull p q)]) ?_ ?_ ?_ ?_ ?_ ?_ ?_ ?_ ?_ ?_ ?_ ?_)
      · refine yield_sound tabOk mixed (k := k) (frs := frs) (by simp) (by rw [← hk]; rfl) hN ?_
        have ka := congrArg LK.assign hk
        have kb := congrArg LK.body hk
        have kp := congrArg LK.ps hk
        dsimp only at ka kb kp
        rw [← ka, ← kb, ← kp]
        clear ka kb kp hk hf hN
        simp [roundFr]
        rw [assignK_normal]
        refine ⟨by simp, ?_⟩
        simp [h5]
        refine callD_ret0 (fun Hx => iHull p q Hx) ?_
        simp
        refine bind_some (app_ivN (p := hull p q)) ?_
        simp [h5]
        refine endD [(0, 6)] (by rfl) (by simp [okW, note, Eff.triv, Eff.wr, Eff.none, upTo, newAt]) ?_
        simp
        rw [roundK_normal]
        refine ⟨by simp, rfl, ?_⟩
        have e : H.length + 5 + J.length + 2 = H.length + (J.length + 2 + 5) := by omega
        rw [e]
        simp
        exact .keep _ _
      · simp
      · simp
      · simp; omega
      · rw [List.getElem?_append_right (by simp; omega)]
        rw [show H.length + 5 + J.length + 2 - (H ++ [ABlk.dead, .row true 1 [.ref (H.length + 5 + J.length + 2) 1], .row true 1 [bx a], .row true 1 [bx b], .loop k .ready frs] ++ J).length = 2 by simp; omega]
        rfl
      · simp [MM]
      · simp
      · simp [MM, HuC]
      · simp [MM, eP]
      · omega
      · simp [noFs, noF]
      · simp [noF]
      · intro c hc h1 h2
        left
        have eJ : (H ++ [ABlk.dead, .row true 1 [.ref (H.length + 5 + J.length + 2) 1], .row true 1 [bx a], .row true 1 [bx b], .loop k .ready frs] ++ J ++ [.row true 2 [iv p], .row true 2 [iv q], .row true 2 [iv (hull p q)]]) = ((H ++ [ABlk.dead, .row true 1 [.nilslice], .row true 1 [bx a], .row true 1 [bx b], .loop k .ready frs] ++ J).set (H.length + 1) (.row true 1 [.ref (H.length + 5 + J.length + 2) 1])) ++ [.row true 2 [iv p], .row true 2 [iv q], .row true 2 [iv (hull p q)]] := by simp
        have eH : MM (0 + 1) ++ J = ((H ++ [ABlk.dead, .row true 1 [.nilslice], .row true 1 [bx a], .row true 1 [bx b], .loop k .ready frs] ++ J).set H.length (HuP a b 1)).set (H.length + 1) (.row true 1 [.ref H.length 1]) := by simp [MM, HuC]
        rw [eJ, eH]
        generalize hM : H ++ [ABlk.dead, .row true 1 [.nilslice], .row true 1 [bx a], .row true 1 [bx b], .loop k .ready frs] ++ J = M0 at hc ⊢
        refine ⟨?_, ?_⟩
        · rw [List.getElem?_append_left (by simpa using hc), List.getElem?_set_ne (Ne.symm h2)]
        · rw [List.getElem?_set_ne (Ne.symm h2), List.getElem?_set_ne (Ne.symm h1)]
    · have eM : MM i = H ++ [.row true 2 ((hullK a b i).map iv), .row true 1 [.ref H.length i], .row true 1 [bx a], .row true 1 [bx b], .loop k .ready frs] := by
        simp only [MM, HuP, HuC, if_neg (show ¬ i = 0 by omega)]
      have eM2 : MM (i + 1) = H ++ [.row true 2 ((hullK a b i ++ [hull p q]).map iv), .row true 1 [.ref H.length (i + 1)], .row true 1 [bx a], .row true 1 [bx b], .loop k .ready frs] := by
        simp only [MM, HuP, HuC, if_neg (show ¬ i + 1 = 0 by omega), hs]
      have ha2 := halt i (i + 1)
      rw [eM, eM2] at *
      refine yield_sound tabOk mixed (k := k) (frs := frs) (by simp) (by rw [← hk]; rfl) hN ?_
      have ka := congrArg LK.assign hk
      have kb := congrArg LK.body hk
      have kp := congrArg LK.ps hk
      dsimp only at ka kb kp
      rw [← ka, ← kb, ← kp]
      clear ka kb kp hk hf hN
      generalize hullK a b i = W at *
      simp [roundFr]
      rw [assignK_normal]
      refine ⟨by simp, ?_⟩
      simp [h5]
      refine callD_ret0 (fun Hx => iHull p q Hx) ?_
      simp
      refine bind_some (app_iv (p := hull p q) (l := W.map iv) (by simp [hln]) (by omega) (by simp)) ?_
      simp [h5]
      refine endD [(0, 6)] (by rfl) (by simp [okW, note, Eff.triv, Eff.wr, Eff.none, upTo, newAt]) ?_
      simp
      rw [roundK_normal]
      refine ⟨by simp, rfl, ?_⟩
      have := Leaves.alters (J := J) (X := [.row true 2 [iv p], .row true 2 [iv q]]) ha2
      simpa using this
  have hrun : ∀ n i, a.length - i = n → i ≤ a.length → YRuns E (H.length + 4) (PairM a b (H.length + 2) (H.length + 3)) (pairsA a b i) (MM i) (MM a.length) := by
    intro n
    induction n with
    | zero => intro i hi hle; rw [pairsA_nil (by omega), show i = a.length by omega]; exact .nil _
    | succ n ih =>
      intro i hi hle
      rw [pairsA_cons (by omega)]
      exact .go (halt _ _) (hP _) (hround i _ _ (by omega) rfl rfl) (ih (i + 1) (by omega) (by omega))
  have hS := bPairs1 a b _ _ (H.length + 4) _ _ hab hl (hP 0) (hrun a.length 0 rfl (by omega))
  have e0 : MM 0 = H ++ [.dead, .row true 1 [.nilslice], .row true 1 [bx a], .row true 1 [bx b], .loop k .ready frs] := rfl
  have e1 : MM a.length = H ++ [.row true 2 ((hullK a b a.length).map iv), .row true 1 [.ref H.length a.length], .row true 1 [bx a], .row true 1 [bx b], .loop k .ready frs] := by
    simp only [MM, HuP, HuC, if_neg (show ¬ a.length = 0 by omega)]
  rw [e0, e1] at hS
  refine ⟨_, _, k, .ready, frs, by simpa using hS, by simp, ?_⟩
  simp [jumpA]
  exact finS (t := 4) (v := .ref (H.length + 0) a.length) (v0 := .nilslice) (sz := 2) (xs := (hullB a b).map iv) (by rfl) (by simp) (.inr ⟨0, by simp [hullB], by simp [hullB, hullK]⟩) rfl (iv_noFs _ _)
end Go.Proofs.YtfjjckepnkkgjaaGreatDoor.Arm

namespace Go.Pl
def hullL : List (List I) → Option (List I)
  | [] => none
  | b :: r => some (r.foldl hullB b)
theorem hullL_snoc {L : List (List I)} {b : List I} : hullL (L ++ [b]) = some (match hullL L with | none => b | some c => hullB c b) := by
  cases L with
  | nil => rfl
  | cons a r => simp [hullL, List.foldl_append]
structure HullOf (n : Nat) (L : List (List I)) (B : List I) : Prop where
  len : B.length = n
  sub : ∀ b ∈ L, ∀ i, i < n → (atN B i).1 ≤ (atN b i).1 ∧ (atN b i).2 ≤ (atN B i).2
  lo : ∀ i, i < n → ∃ b ∈ L, (atN b i).1 = (atN B i).1
  hi : ∀ i, i < n → ∃ b ∈ L, (atN b i).2 = (atN B i).2
theorem hullB_at {a b : List I} {i : Nat} (h : i < a.length) : atN (hullB a b) i = hull (atN a i) (atN b i) := by
  simp [hullB, atN, h]
theorem hullOf_foldl {n : Nat} : ∀ (r : List (List I)) (L : List (List I)) (b : List I), HullOf n L b → HullOf n (L ++ r) (r.foldl hullB b)
  | [], L, b, h => by simpa using h
  | c :: r, L, b, h => by
    have : HullOf n (L ++ [c]) (hullB b c) := by
      have e : ∀ i, i < n → atN (hullB b c) i = hull (atN b i) (atN c i) := fun i hi => hullB_at (by rw [h.len]; exact hi)
      refine ⟨by rw [hullB_len, h.len], fun d hd i hi => ?_, fun i hi => ?_, fun i hi => ?_⟩
      · rw [e i hi]
        rcases List.mem_append.1 hd with hd | hd
        · have := h.sub d hd i hi
          exact ⟨by show min _ _ ≤ _; omega, by show _ ≤ max _ _; omega⟩
        · simp at hd; subst hd
          exact ⟨by show min _ _ ≤ _; omega, by show _ ≤ max _ _; omega⟩
      · rw [e i hi]
        obtain ⟨d, hd, h1⟩ := h.lo i hi
        show ∃ b' ∈ _, _ = min _ _
        rcases Int.le_total (atN b i).1 (atN c i).1 with k | k
        · exact ⟨d, by simp [hd], by omega⟩
        · exact ⟨c, by simp, by omega⟩
      · rw [e i hi]
        obtain ⟨d, hd, h1⟩ := h.hi i hi
        show ∃ b' ∈ _, _ = max _ _
        rcases Int.le_total (atN b i).2 (atN c i).2 with k | k
        · exact ⟨c, by simp, by omega⟩
        · exact ⟨d, by simp [hd], by omega⟩
    have := hullOf_foldl r (L ++ [c]) (hullB b c) this
    simpa using this
theorem hullL_of {n : Nat} {L : List (List I)} {B : List I} (hn : ∀ b ∈ L, b.length = n) (h : hullL L = some B) : HullOf n L B := by
  cases L with
  | nil => cases h
  | cons b r =>
    simp only [hullL, Option.some.injEq] at h
    subst h
    have h0 : HullOf n [b] b := ⟨hn b (by simp), fun c hc i _ => by simp at hc; subst hc; exact ⟨Int.le_refl _, Int.le_refl _⟩, fun i _ => ⟨b, by simp, rfl⟩, fun i _ => ⟨b, by simp, rfl⟩⟩
    exact hullOf_foldl r [b] b h0
theorem HullOf.subI {n : Nat} {L M : List (List I)} {B C : List I} (h : HullOf n L B) (k : HullOf n M C) (hs : ∀ b ∈ L, b ∈ M) : subI B C = true := by
  unfold Pl.subI
  rw [List.all_eq_true]
  intro i hi
  have hi' : i < n := by rw [← h.len]; exact List.mem_range.1 hi
  obtain ⟨b, hb, e⟩ := h.lo i hi'
  obtain ⟨c, hc, f⟩ := h.hi i hi'
  have := k.sub b (hs b hb) i hi'
  have := k.sub c (hs c hc) i hi'
  simp only [subB, Bool.and_eq_true, decide_eq_true_eq]
  omega
def durP (u : I) (s : Sg) : Bool := decide (u.1 ≤ s.t + s.h) && decide (s.t ≤ u.2)
def durL (l : List Sg) (u : I) : List Sg := l.filter (durP u)
def durS (l : List Sg) (u : I) : Option (List I) := hullL ((durL l u).map (·.tube))
theorem filter_mono {α : Type} {p : α → Bool} : ∀ {l : List α}, (l.Pairwise fun a b => p a = true → p b = true) → l.filter p = l.drop (l.findIdx p)
  | [], _ => rfl
  | a :: l, h => by
    rw [List.findIdx_cons]
    cases hp : p a with
    | true =>
      have : ∀ b ∈ l, p b = true := fun b hb => (List.pairwise_cons.1 h).1 b hb hp
      simp [hp, List.filter_eq_self.2 this]
    | false => simp [hp, filter_mono (List.pairwise_cons.1 h).2]
theorem filter_anti {α : Type} {p : α → Bool} : ∀ {l : List α}, (l.Pairwise fun a b => p b = true → p a = true) → l.filter p = l.takeWhile p
  | [], _ => rfl
  | a :: l, h => by
    cases hp : p a with
    | true => simp [hp, filter_anti (List.pairwise_cons.1 h).2]
    | false =>
      have : ∀ b ∈ l, ¬ p b = true := fun b hb hb2 => by have := (List.pairwise_cons.1 h).1 b hb hb2; rw [hp] at this; cases this
      simp [hp]
      intro b hb; simpa using this b hb
theorem durL_eq {l : List Sg} {t : Int} (h : Ctg t l) (u : I) : durL l u = (l.drop (l.findIdx fun s => decide (u.1 ≤ s.t + s.h))).takeWhile fun s => decide (s.t ≤ u.2) := by
  have e1 := filter_mono (p := fun s : Sg => decide (u.1 ≤ s.t + s.h)) (l := l) (h.pair.imp fun {a b} hab hp => by simp at hp ⊢; omega)
  have e2 := filter_anti (p := fun s : Sg => decide (s.t ≤ u.2)) (l := l.filter fun s => decide (u.1 ≤ s.t + s.h)) ((h.pair.sublist List.filter_sublist).imp fun {a b} hab hp => by simp at hp ⊢; omega)
  rw [e1] at e2
  rw [← e2, ← e1, List.filter_filter]
  unfold durL
  congr 1
  funext s
  rw [Bool.and_comm]; rfl
def atS (l : List Sg) (τ : Int) : Option (List I) :=
  match l[0]?, l[l.length - 1]? with
  | some a, some z => if τ < a.t ∨ z.t + z.h < τ then none else match l[l.findIdx (fun s => decide (τ < s.t)) - 1]? with
    | some s => some (if s.t = τ then s.frm else if τ = z.t + z.h then z.to else s.tube)
    | none => none
  | _, _ => none
end Go.Pl

namespace Go.Proofs.YtfjjckepnkkgjaaGreatDoor.Arm
open Go.Arm Go.Pl
theorem sSearch (n r : Nat) (g : FuncId) (caps : List AV) (H : AH) (hn : n ≤ 1000000) (hr : r ≤ n) (hf : ∀ k : Nat, k < n → Sound E g ([.int .i64 (k : Int)] ++ caps) H (.ret (.bool (decide (r ≤ k)))) H) :
    Sound E 62 [.int .i64 (n : Int), .func (.func g) [] caps] H (.ret (.int .i64 (r : Int))) H := by
  refine sound_of_awp tabOk mixed Tryz.func62 rfl (by rfl) Tryz.ntmps62 (by kernel_rfl) (by simp) ?_
  simp
  refine loop_count (fun (s : Nat × Nat) fr H' => fr 1 = .func (.func g) [] caps ∧ fr 5 = .int .i64 (s.1 : Int) ∧ fr 6 = .int .i64 (s.2 : Int) ∧ s.1 ≤ r ∧ r ≤ s.2 ∧ s.2 ≤ n ∧ H' = H) (fun s => s.2 - s.1) (0, n) ⟨by simp, by simp, by simp, by omega, hr, Nat.le_refl _, rfl⟩ ?_
  rintro ⟨i, j⟩ fr H' ⟨g1, g5, g6, hi, hj, hjn, rfl⟩
  simp only at g5 g6 hi hj hjn
  simp [g5, g6]
  refine branch (fun hc => ?_) (fun hc => ?_)
  · have hlt : i < j := by simpa using hc
    obtain ⟨m, hm⟩ : ∃ m : Nat, m = (i + j) / 2 := ⟨_, rfl⟩
    have w1 : IntKind.i64.wrap ((i : Int) + (j : Int)) = ((i + j : Nat) : Int) := by rw [wrap64 (by omega) (by omega)]; omega
    have w2 : IntKind.u64.wrap ((i + j : Nat) : Int) = ((i + j : Nat) : Int) := wrapu64 (by omega) (by omega)
    have w3 : ((i + j : Nat) : Int).fdiv 2 = (m : Int) := by rw [Int.fdiv_eq_ediv_of_nonneg _ (by omega)]; omega
    have w4 : IntKind.u64.wrap (m : Int) = (m : Int) := wrapu64 (by omega) (by omega)
    have w5 : IntKind.i64.wrap (m : Int) = (m : Int) := wrap64 (by omega) (by omega)
    have w6 : IntKind.i64.wrap ((m : Int) + 1) = ((m + 1 : Nat) : Int) := by rw [wrap64 (by omega) (by omega)]; omega
    have hS := hf m (by omega)
    have wA : IntKind.i64.wrap ((IntKind.u64.wrap ((i : Int) + (j : Int))).fdiv (2 ^ min 1 IntKind.u64.bits)) = (m : Int) := by
      have e1 : IntKind.u64.wrap ((i : Int) + (j : Int)) = ((i + j : Nat) : Int) := by rw [wrapu64 (by omega) (by omega)]; omega
      have e2 : (2 : Int) ^ min 1 IntKind.u64.bits = 2 := by decide
      rw [e1, e2, w3, w5]
    simp [g5, g6, w1, wA, g1]
    refine call_ret (by simpa using hS) ?_
    simp
    refine branch (fun hq => ?_) (fun hq => ?_)
    · have hq' : m < r := by simp at hq; omega
      simp [w6]
      exact ⟨(m + 1, j), by show j - (m + 1) < j - i; omega, by simp [g1], by simp, by simp [g6], by show m + 1 ≤ r; omega, hj, hjn, rfl⟩
    · have hq' : r ≤ m := by simp at hq; omega
      simp
      exact ⟨(i, m), by show m - i < j - i; omega, by simp [g1], by simp [g5], by simp, hi, hq', by show m ≤ n; omega, rfl⟩
  · have hlt : ¬ i < j := by simpa using hc
    have : i = r := by omega
    subst this
    simp [g5]
    exact fin0 (rs := [.tmp 4]) (by rfl) (by simp [resA, g5])
theorem wEnd (l : List Sg) (z : Sg) (hz : l[l.length - 1]? = some z) (hl : l.length ≤ 1000000) (hb : -2147483648 ≤ z.t ∧ z.t ≤ 2147483648 ∧ 0 ≤ z.h ∧ z.h ≤ 2147483648) (H : AH) :
    Sound E 17 [sgL l] H (.ret (.tuple [bx z.to, .int .i64 (z.t + z.h), .bool true])) H := by
  refine sound_of_awp tabOk mixed Tryz.func17 rfl (by rfl) Tryz.ntmps17 (by kernel_rfl) (by simp) ?_
  have hlt := (List.getElem?_eq_some_iff.1 hz).1
  have hzE : ∀ h, l[l.length - 1]'h = z := fun h => (List.getElem?_eq_some_iff.1 hz).2
  have w1 : IntKind.i64.wrap ((l.length : Int) - 1) = ((l.length - 1 : Nat) : Int) := by rw [wrap64 (by omega) (by omega)]; omega
  have w2 : IntKind.i64.wrap (z.t + z.h) = z.t + z.h := wrap64 (by omega) (by omega)
  have hne : ((l.length : Int) == 0) = false := by rw [beq_eq_false_iff_ne]; omega
  simp [sgL, hne, w1, hz, hzE, hlt, sgA, bx, w2]
  refine endD [] (by rfl) (by simp [okW, note, Eff.triv, Eff.wr, Eff.none, upTo, newAt]) ?_
  simp
  exact ⟨[bx z.to, .int .i64 (z.t + z.h), .bool true], [bx z.to, .int .i64 (z.t + z.h), .bool true], by simp [show (Tryz.f17).results.toList = [.tmp 2, .tmp 3, .tmp 4] from rfl, resA, bx], .drop (by simp only [noFs, noF, bx, iv_noFs, Bool.and_self]), rfl⟩
theorem wAt1 (l : List Sg) (τ : Int) (k : Nat) (s : Sg) (hk : l[k]? = some s) (b c : Nat) (w1 w2 : Bool) (H : AH) (hb : H[b]? = some (.row w1 1 [sgL l])) (hc : H[c]? = some (.row w2 1 [.int .i64 τ])) :
    Sound E 63 [.int .i64 k, .ptr b 1 0 0, .ptr c 1 0 0] H (.ret (.bool (decide (τ < s.t)))) H := by
  refine sound_of_awp tabOk mixed Tryz.func63 rfl (by rfl) Tryz.ntmps63 (by kernel_rfl) (by simp) ?_
  have hlt := (List.getElem?_eq_some_iff.1 hk).1
  have hkE : ∀ h, l[k]'h = s := fun h => (List.getElem?_eq_some_iff.1 hk).2
  simp only [sgL] at hb
  simp [hb, hc, hk, hkE, hlt, sgA]
  refine endD [] (by rfl) (by simp [okW, note, Eff.triv, Eff.wr, Eff.none, upTo, newAt]) ?_
  simp
  exact fin0 (rs := [.tmp 4]) (by rfl) (by simp [resA])
theorem wDuring1 (l : List Sg) (u : I) (k : Nat) (s : Sg) (hk : l[k]? = some s) (hs : -2147483648 ≤ s.t ∧ s.t ≤ 2147483648 ∧ 0 ≤ s.h ∧ s.h ≤ 2147483648) (b c : Nat) (w1 w2 : Bool) (H : AH) (hb : H[b]? = some (.row w1 1 [sgL l])) (hc : H[c]? = some (.row w2 2 [iv u])) :
    Sound E 64 [.int .i64 k, .ptr b 1 0 0, .ptr c 1 0 0] H (.ret (.bool (decide (u.1 ≤ s.t + s.h)))) H := by
  refine sound_of_awp tabOk mixed Tryz.func64 rfl (by rfl) Tryz.ntmps64 (by kernel_rfl) (by simp) ?_
  have hlt := (List.getElem?_eq_some_iff.1 hk).1
  have hkE : ∀ h, l[k]'h = s := fun h => (List.getElem?_eq_some_iff.1 hk).2
  have w2 : IntKind.i64.wrap (s.t + s.h) = s.t + s.h := wrap64 (by omega) (by omega)
  simp only [sgL] at hb
  simp only [iv] at hc
  simp [hb, hc, hk, hkE, hlt, sgA, w2]
  refine endD [] (by rfl) (by simp [okW, note, Eff.triv, Eff.wr, Eff.none, upTo, newAt]) ?_
  simp
  exact fin0 (rs := [.tmp 4]) (by rfl) (by simp [resA])
def tmS (s : Sg) : Prop := -2147483648 ≤ s.t ∧ s.t ≤ 2147483648 ∧ 0 ≤ s.h ∧ s.h ≤ 2147483648
def atR : Option (List I) → AV
  | none => .tuple [.nilslice, .bool false]
  | some b => .tuple [bx b, .bool true]
theorem wAt (l : List Sg) (t0 τ : Int) (hc : Ctg t0 l) (hl : 1 ≤ l.length ∧ l.length ≤ 1000000) (hb : ∀ s ∈ l, tmS s) (H : AH) : Sound E 23 [sgL l, .int .i64 τ] H (.ret (atR (atS l τ))) H := by
  refine sound_of_awp tabOk mixed Tryz.func23 rfl (by rfl) Tryz.ntmps23 (by kernel_rfl) (by simp) ?_
  obtain ⟨a, h0⟩ : ∃ a, l[0]? = some a := ⟨l[0], by simp⟩
  obtain ⟨z, hz⟩ : ∃ z, l[l.length - 1]? = some z := ⟨l[l.length - 1], by rw [List.getElem?_eq_getElem]⟩
  have hzb := hb z (List.mem_of_getElem? hz)
  have hE := fun Hx => wEnd l z hz hl.2 hzb Hx
  have h0E : ∀ h, l[0]'h = a := fun h => (List.getElem?_eq_some_iff.1 h0).2
  have hpos : 0 < l.length := by omega
  generalize hr : l.findIdx (fun s => decide (τ < s.t)) = r
  have hS := fun (Hx : AH) (b c : Nat) (hb2 : Hx[b]? = some (.row true 1 [sgL l])) (hc2 : Hx[c]? = some (.row true 1 [.int .i64 τ])) =>
    sSearch l.length r 63 [.ptr b 1 0 0, .ptr c 1 0 0] Hx hl.2 (by rw [← hr]; exact List.findIdx_le_length) (fun k hk => by
      have hk2 : l[k]? = some l[k] := by simp [hk]
      have := hc.idxT τ k l[k] hk2
      rw [hr] at this
      rw [← this]
      exact wAt1 l τ k l[k] hk2 b c true true Hx hb2 hc2)
  simp only [sgL] at hS hE
  simp [sgL]
  refine call_ret (by simpa using hE _) ?_
  have hat : ∀ s, l[r - 1]? = some s → atS l τ = if τ < a.t ∨ z.t + z.h < τ then none else some (if s.t = τ then s.frm else if τ = z.t + z.h then z.to else s.tube) := fun s hs => by
    unfold atS
    simp only [h0, hz, hr, hs]
  have hres : (Tryz.f23).results.toList = [.tmp 4, .tmp 5] := rfl
  by_cases e1 : τ < a.t
  · have hv : atS l τ = none := by unfold atS; simp only [h0, hz]; rw [if_pos (.inl e1)]
    simp [h0, h0E, hpos, sgA, bx, e1]
    refine endD [] (by rfl) (by simp [okW, note, Eff.triv, Eff.wr, Eff.none, upTo, newAt]) ?_
    simp
    rw [hv]
    exact ⟨[.nilslice, .bool false], [.nilslice, .bool false], by simp [hres, resA], .drop (by simp [noFs, noF]), rfl⟩
  by_cases e2 : z.t + z.h < τ
  · have hv : atS l τ = none := by unfold atS; simp only [h0, hz]; rw [if_pos (.inr e2)]
    simp [h0, h0E, hpos, sgA, bx, e1, e2]
    refine endD [] (by rfl) (by simp [okW, note, Eff.triv, Eff.wr, Eff.none, upTo, newAt]) ?_
    simp
    rw [hv]
    exact ⟨[.nilslice, .bool false], [.nilslice, .bool false], by simp [hres, resA], .drop (by simp [noFs, noF]), rfl⟩
  have hrl : r ≤ l.length := by rw [← hr]; exact List.findIdx_le_length
  have hr1 : 1 ≤ r := by
    have := hc.idxT τ 0 a h0
    rw [hr] at this
    rcases Nat.eq_zero_or_pos r with e | e
    · subst e; simp at this; omega
    · exact e
  obtain ⟨s, hs⟩ : ∃ s, l[r - 1]? = some s := ⟨l[r - 1]'(by omega), by rw [List.getElem?_eq_getElem]⟩
  have hsE : ∀ h, l[r - 1]'h = s := fun h => (List.getElem?_eq_some_iff.1 hs).2
  have hv : atS l τ = some (if s.t = τ then s.frm else if τ = z.t + z.h then z.to else s.tube) := by rw [hat s hs, if_neg (by omega)]
  have w1 : IntKind.i64.wrap ((r : Int) - 1) = ((r - 1 : Nat) : Int) := by rw [wrap64 (by omega) (by omega)]; omega
  have hlt : r - 1 < l.length := by omega
  rw [hv]
  simp [h0, h0E, hpos, sgA, bx, e1, e2]
  refine endD [] (by rfl) (by simp [okW, note, Eff.triv, Eff.wr, Eff.none, upTo, newAt]) ?_
  simp
  refine call_ret (by simpa using hS _ H.length (H.length + 1) (by simp) (by simp)) ?_
  by_cases e3 : s.t = τ
  · simp [w1, hs, hsE, hlt, sgA, bx, e3]
    refine endD [] (by rfl) (by simp [okW, note, Eff.triv, Eff.wr, Eff.none, upTo, newAt]) ?_
    simp [w1, hs, hsE, hlt, sgA, bx]
    exact ⟨[bx s.frm, .bool true], [bx s.frm, .bool true], by simp [hres, resA, bx], .drop (by simp only [noFs, noF, bx, iv_noFs, Bool.and_self]), rfl⟩
  · have e3' : (s.t == τ) = false := by simpa using e3
    by_cases e4 : τ = z.t + z.h
    · have e4' : (τ == z.t + z.h) = true := by simpa using e4
      simp [w1, hs, hsE, hlt, sgA, bx, e3']
      refine endD [] (by rfl) (by simp [okW, note, Eff.triv, Eff.wr, Eff.none, upTo, newAt]) ?_
      simp [e4']
      rw [if_neg e3, if_pos e4]
      exact ⟨[bx z.to, .bool true], [bx z.to, .bool true], by simp [hres, resA, bx], .drop (by simp only [noFs, noF, bx, iv_noFs, Bool.and_self]), rfl⟩
    · have e4' : (τ == z.t + z.h) = false := by simpa using e4
      simp [w1, hs, hsE, hlt, sgA, bx, e3']
      refine endD [] (by rfl) (by simp [okW, note, Eff.triv, Eff.wr, Eff.none, upTo, newAt]) ?_
      simp [w1, hs, hsE, hlt, sgA, bx, e4']
      rw [if_neg e3, if_neg e4]
      exact ⟨[bx s.tube, .bool true], [bx s.tube, .bool true], by simp [hres, resA, bx], .drop (by simp only [noFs, noF, bx, iv_noFs, Bool.and_self]), rfl⟩
end Go.Proofs.YtfjjckepnkkgjaaGreatDoor.Arm

namespace Go.Proofs.YtfjjckepnkkgjaaGreatDoor.Arm
open Go.Arm Go.Pl
@[simp] theorem bin_ns {H : AH} (z : Bool) : binOpA tab H .eql 26 .nilslice .nilslice z = some (.bool true, H) := by simp [binOpA, binA, eqA, nilI]
@[simp] theorem bin_nc {H : AH} {x : AV} {l : List AV} {f : Bool} (z : Bool) : binOpA tab H .eql 26 (.slice (x :: l) f) .nilslice z = some (.bool false, H) := by simp [binOpA, binA, eqA, nilI]
@[simp] theorem bin_ns' {H : AH} (z : Bool) : binOpA tab H .neq 26 .nilslice .nilslice z = some (.bool false, H) := by simp [binOpA, binA, eqA, nilI]
@[simp] theorem bin_nc' {H : AH} {x : AV} {l : List AV} {f : Bool} (z : Bool) : binOpA tab H .neq 26 (.slice (x :: l) f) .nilslice z = some (.bool true, H) := by simp [binOpA, binA, eqA, nilI]
theorem finU0 {E : Env} {fr : AFr} {fn : Func} {rs : List ResultVar} {H0 H1 : AH} {v : AV} {e : AExit} (hr : fn.results.toList = rs) (h : resA E fr H1 rs = some [v]) (hl : H1.length = H0.length)
    (hb : ∀ b : Nat, H1[b]? = H0[b]? ∨ ∃ k, H1[b]? = some k ∧ noFB H0.length k = true) (hv : noF H0.length v = true) (hx : e = .ret ∨ e = .normal := by simp) : bodyK E fn H0 (.ret v) H1 e fr H1 := by
  have := finU (J := []) hr (by rw [List.append_nil]; exact h) hl hb hv hx
  rwa [List.append_nil] at this
def hullC : Option (List I) → AV
  | none => .nilslice
  | some b => bx b
def hullO : Option (List I) → List I → List I
  | none, b => b
  | some d, b => hullB d b
theorem wHull (H : AH) : Sound E 65 [] H (.ret (.func (.func 105) [] [.ptr H.length 1 0 0])) (H ++ [.row true 1 [.nilslice]]) := by
  refine sound_of_awp tabOk mixed Tryz.func65 rfl (by rfl) Tryz.ntmps65 (by kernel_rfl) (by simp) ?_
  simp
  exact finK (rs := [.tmp 0]) (vs := [.func (.func 105) [] [.ptr H.length 1 0 0]]) (by rfl) (by simp [resA]) rfl
theorem wHull1 (o : Option (List I)) (b : List I) (c : Nat) (H : AH) (hc : H[c]? = some (.row true 1 [hullC o])) (hd : ∀ d, o = some d → 1 ≤ d.length ∧ d.length ≤ b.length) (hl : b.length ≤ 1000000) :
    Sound E 105 [bx b, .ptr c 1 0 0] H (.ret (bx (hullO o b))) (H.set c (.row true 1 [hullC (some (hullO o b))])) := by
  refine sound_of_awp tabOk mixed Tryz.func105 rfl (by rfl) Tryz.ntmps105 (by kernel_rfl) (by simp) ?_
  have hcl := (List.getElem?_eq_some_iff.1 hc).1
  cases o with
  | none =>
    simp only [hullC] at hc
    have hg := fun x => set_get (x := x) hc
    simp [hc, hg, hullO, hullC, bx]
    exact finU0 (rs := [.tmp 3]) (by rfl) (by simp [resA]) (by simp) (set_blocks (by simp only [noFB, noFs, noF, iv_noFs, Bool.and_self])) (by simp only [noF, iv_noFs])
  | some d =>
    obtain ⟨h1, h2⟩ := hd d rfl
    obtain ⟨p, d', rfl⟩ : ∃ p d', d = p :: d' := by cases d with
      | nil => simp at h1
      | cons p d' => exact ⟨p, d', rfl⟩
    have hS := fun Hx => bHull (p :: d') b h2 (by omega) h1 Hx
    generalize hr : hullB (p :: d') b = r at *
    simp only [hullC, bx, List.map_cons] at hc hS
    have hg := fun x => set_get (x := x) hc
    simp [hc, hullO, hullC, hr, bx]
    refine call_ret (by simpa using hS _) ?_
    simp [hc, hg]
    exact finU0 (rs := [.tmp 3]) (by rfl) (by simp [resA]) (by simp) (set_blocks (by simp only [noFB, noFs, noF, iv_noFs, Bool.and_self])) (by simp only [noF, iv_noFs])
theorem hullL_len {n : Nat} {L : List (List I)} {B : List I} (hn : ∀ b ∈ L, b.length = n) (h : hullL L = some B) : B.length = n := (hullL_of hn h).len
def accL (L : List Sg) (i : Nat) : Option (List I) := hullL ((L.take i).map (·.tube))
theorem accL_eq (L : List Sg) (i : Nat) : hullL ((L.take i).map (·.tube)) = accL L i := rfl
def LDu (l : List Sg) (u : I) (L : List Sg) (H : AH) (i : Nat) (fr : AFr) (H' : AH) : Prop :=
  fr 3 = .ptr (H.length + 1) 1 0 0 ∧ fr 7 = hullC (accL L i) ∧ fr 8 = .func (.func 105) [] [.ptr (H.length + 2) 1 0 0] ∧ fr 18 = sgL L ∧ fr 19 = .int .i64 L.length ∧ fr 20 = .int .i64 i ∧ i ≤ L.length ∧
  L.takeWhile (fun s => decide (s.t ≤ u.2)) = L.take i ++ (L.drop i).takeWhile (fun s => decide (s.t ≤ u.2)) ∧
  ∃ J, H' = H ++ (.row true 1 [sgL l] :: .row true 2 [iv u] :: .row true 1 [hullC (accL L i)] :: J)
theorem wDuring (l : List Sg) (t0 : Int) (u : I) (n : Nat) (hn1 : 1 ≤ n ∧ n ≤ 1000000) (hc : Ctg t0 l) (hl : l.length ≤ 1000000) (hb : ∀ s ∈ l, tmS s) (hn : ∀ s ∈ l, s.tube.length = n) (H : AH) :
    Sound E 24 [sgL l, iv u] H (.ret (atR (durS l u))) H := by
  refine sound_of_awp tabOk mixed Tryz.func24 rfl (by rfl) Tryz.ntmps24 (by kernel_rfl) (by simp) ?_
  generalize hr : l.findIdx (fun s => decide (u.1 ≤ s.t + s.h)) = r
  have hrl : r ≤ l.length := by rw [← hr]; exact List.findIdx_le_length
  have hS := fun (Hx : AH) (b c : Nat) (hb2 : Hx[b]? = some (.row true 1 [sgL l])) (hc2 : Hx[c]? = some (.row true 2 [iv u])) =>
    sSearch l.length r 64 [.ptr b 1 0 0, .ptr c 1 0 0] Hx hl hrl (fun k hk => by
      have hk2 : l[k]? = some l[k] := by simp [hk]
      have := hc.idxE u.1 k l[k] hk2
      rw [hr] at this
      rw [← this]
      exact wDuring1 l u k l[k] hk2 (hb _ (List.getElem_mem hk)) b c true true Hx hb2 hc2)
  have hdur := durL_eq hc u
  rw [hr] at hdur
  have hd : durS l u = hullL ((((l.drop r).takeWhile fun s => decide (s.t ≤ u.2))).map (·.tube)) := by rw [← hdur]; rfl
  have hLn : ∀ s ∈ l.drop r, s.tube.length = n := fun s hs => hn s (List.mem_of_mem_drop hs)
  have hLl : (l.drop r).length = l.length - r := List.length_drop
  rw [hd]
  simp only [sgL] at hS
  simp [sgL]
  refine call_ret (by simpa using hS _ H.length (H.length + 1) (by simp) (by simp)) ?_
  simp
  refine call_ret (by simpa using wHull _) ?_
  have hcut : List.drop r (List.take l.length (l.map sgA)) = (l.drop r).map sgA := by rw [List.take_of_length_le (by simp), List.map_drop]
  simp [hrl]
  refine bind_if (szOk_map fun x => by simp [sgA]) ?_
  rw [hcut]
  generalize hL : l.drop r = L at *
  have hres : (Tryz.f24).results.toList = [.tmp 4, .tmp 5] := rfl
  simp
  refine loop_count (LDu l u L H) (fun i => L.length - i) 0 ⟨by simp, by simp [accL, hullL, hullC], by simp, by simp [sgL], by simp, by simp, by omega, by simp, [], by simp [sgL, accL, hullL, hullC]⟩ ?_
  rintro i fr H' ⟨g3, g7, g8, g18, g19, g20, hi, htw, J, rfl⟩
  have hall : ∀ b, accL L i = some b → b.length = n := fun b hb => hullL_len (fun c hc => by
    obtain ⟨s, hs, rfl⟩ := List.mem_map.1 hc
    exact hLn s (List.mem_of_mem_take hs)) hb
  simp [g19, g20]
  refine branch (fun hcb => ?_) (fun hcb => ?_)
  · have hlt : i < L.length := by simpa using hcb
    obtain ⟨p, hp⟩ := get_lt hlt
    have hpE : ∀ h, L[i]'h = p := fun h => (List.getElem?_eq_some_iff.1 hp).2
    have w2 : IntKind.i64.wrap ((i : Int) + 1) = ((i + 1 : Nat) : Int) := by rw [wrap64 (by omega) (by omega)]; omega
    have hdr : L.drop i = p :: L.drop (i + 1) := dropA hp
    have htk : L.take (i + 1) = L.take i ++ [p] := by rw [List.take_add_one, hp]; rfl
    simp [g3, g18, g20, sgL, hp, hpE, sgA, bx]
    refine branch (fun hq => ?_) (fun hq => ?_)
    · have hq' : ¬ p.t ≤ u.2 := by simp at hq; omega
      have he : L.takeWhile (fun s => decide (s.t ≤ u.2)) = L.take i := by rw [htw, hdr, List.takeWhile_cons, if_neg (by simpa using hq')]; simp
      rw [he, accL_eq]
      simp
      cases ho : accL L i with
      | none =>
        rw [ho] at g7
        simp [g7, hullC]
        exact ⟨[.nilslice, .bool false], [.nilslice, .bool false], by simp [hres, resA, g7, hullC], .drop (by simp [noFs, noF]), rfl⟩
      | some b =>
        have hbl := hall b ho
        obtain ⟨q, b', rfl⟩ : ∃ q b', b = q :: b' := by cases b with
          | nil => simp at hbl; omega
          | cons q b' => exact ⟨q, b', rfl⟩
        rw [ho] at g7
        simp [g7, hullC, bx]
        exact ⟨[bx (q :: b'), .bool true], [bx (q :: b'), .bool true], by simp [hres, resA, g7, hullC, bx], .drop (by simp only [noFs, noF, bx, iv_noFs, Bool.and_self]), rfl⟩
    · have hq' : p.t ≤ u.2 := by simp at hq; omega
      have hpl := hLn p (List.mem_of_getElem? hp)
      have hS1 := fun (Hx : AH) hc2 => wHull1 (accL L i) p.tube (H.length + 2) Hx hc2 (fun d hd => by have := hall d hd; omega) (by omega)
      have hnew : accL L (i + 1) = some (hullO (accL L i) p.tube) := by
        unfold accL
        rw [htk, List.map_append, List.map_cons, List.map_nil, hullL_snoc]
        cases hullL ((L.take i).map (·.tube)) <;> rfl
      generalize accL L i = o at *
      simp only [bx] at hS1
      simp [g8]
      refine call_ret (by simpa using hS1 _ (by simp)) ?_
      simp [g20, w2]
      exact ⟨i + 1, by show L.length - (i + 1) < L.length - i; omega, by simp [g3], by simp [hnew, hullC, bx], by simp [g8], by simp [g18, sgL], by simp [g19], by simp, by omega,
        by rw [htw, hdr, htk, List.takeWhile_cons, if_pos (by simpa using hq')]; simp, J ++ [.row true 6 [sgA p]], by simp [hnew, sgL, sgA, bx]⟩
  · have hi' : i = L.length := by have : ¬ i < L.length := by simpa using hcb
                                  omega
    have he : L.takeWhile (fun s => decide (s.t ≤ u.2)) = L.take i := by rw [htw, hi']; simp
    rw [he, accL_eq]
    simp
    cases ho : accL L i with
    | none =>
      rw [ho] at g7
      simp [g7, hullC]
      exact ⟨[.nilslice, .bool false], [.nilslice, .bool false], by simp [hres, resA, g7, hullC], .drop (by simp [noFs, noF]), rfl⟩
    | some b =>
      have hbl := hall b ho
      obtain ⟨q, b', rfl⟩ : ∃ q b', b = q :: b' := by cases b with
        | nil => simp at hbl; omega
        | cons q b' => exact ⟨q, b', rfl⟩
      rw [ho] at g7
      simp [g7, hullC, bx]
      exact ⟨[bx (q :: b'), .bool true], [bx (q :: b'), .bool true], by simp [hres, resA, g7, hullC, bx], .drop (by simp only [noFs, noF, bx, iv_noFs, Bool.and_self]), rfl⟩
end Go.Proofs.YtfjjckepnkkgjaaGreatDoor.Arm

namespace Go.Arm
open Go.RowKit
theorem fenced_wd {F : Fence} (hF : Wd F) (P : Program) : Machine.fenced P F = Machine.fenced P Fence.wide := by
  funext m
  apply propext
  exact ⟨fun _ => fenced_wide P m, fun _ => by
    intro g _
    exact ⟨fun h => (by rw [hF.1.2] at h; cases h), .inl (hF.2 _), fun f _ => hF.2 f, fun d hd => (by rw [hF.1.1] at hd; cases hd)⟩⟩
theorem callsIn_wd {F : Fence} (hF : Wd F) {n : Nat} {P : Program} {f : FuncId} {args : Array Value} {w : World} {R : Ending → World → Prop} (h : Calls P f args w R) : CallsIn F n P f args w R := by
  have h' := (callsIn_wide (n := n)).2 h
  refine ⟨hF.2 f, fun cs _ => ?_⟩
  rw [fenced_wd hF]
  exact h'.2 cs (room_wide _)
theorem sound_of_calls {E : Env} {f : FuncId} {args : List AV} {H H' : AH} {e : AEnd} (hb : HasBody E.P f)
    (h : ∀ (G : Gh) (w : World) (vs : Array Value), Inv E.Γ G w H → VL G w args vs.toList → Calls E.P f vs w fun r w' => ∃ G', Ext G w G' w' ∧ Inv E.Γ G' w' H' ∧ EndRel G' w' e r) : Sound E f args H e H' :=
  ⟨hb, fun _ _ hF G w vs hI hv => callsIn_wd hF (h G w vs hI hv)⟩
end Go.Arm

namespace Go.Proofs.YtfjjckepnkkgjaaGreatDoor.Arm
open Go.Arm Go.Pl
open Go.RowKit Go.Extern.Stop Go.Stop Go.Extern
def typeOfE : Array Value → Sem Value := Extern.ReflectliteType.typeOf
def compE : Array Value → Sem Value := Extern.ReflectliteType.method fun t => do Extern.Rtype.noPackHeld "Comparable" t; pure (.bool (← typeInfo t).comparable)
theorem eTypeOf (v : Value) (w : World) : (typeOfE #[.iface 38 v]).run Tryz.prog w = .ok (.iface 185 (.agg #[typeHandle Tryz.prog 38])) w := by kernel_rfl
theorem eComp (w : World) : (compE #[.agg #[typeHandle Tryz.prog 38]]).run Tryz.prog w = .ok (.bool true) w := by kernel_rfl
theorem eMethod (k : Nat) (v : Value) (w : World) : (Go.method (k + 1) 185 v "Comparable").run Tryz.prog w = .ok (244, v) w := by kernel_rfl
theorem eComparable : (Tryz.prog.info? 38).map (·.comparable) = some true := by kernel_rfl
theorem eNoIs (v : Value) (xT : TypeId) (w : World) : (Instr.typeAssert (.iface 38 v) xT 187 true).run Tryz.prog w = .ok (.tuple #[.nilIface, .bool false]) w := run_typeAssert_lacksB Tryz.underlying187 (by kernel_rfl) (by kernel_rfl) v xT w
theorem eNoUnwrap (v : Value) (xT : TypeId) (w : World) : (Instr.typeAssert (.iface 38 v) xT 190 true).run Tryz.prog w = .ok (.tuple #[.nilIface, .bool false]) w := run_typeAssert_lacksB Tryz.underlying190 (by kernel_rfl) (by kernel_rfl) v xT w
theorem eNoUnwraps (v : Value) (xT : TypeId) (w : World) : (Instr.typeAssert (.iface 38 v) xT 192 true).run Tryz.prog w = .ok (.tuple #[.nilIface, .bool false]) w := run_typeAssert_lacksB Tryz.underlying192 (by kernel_rfl) (by kernel_rfl) v xT w
theorem eEql (a b : Int) (w : World) : (binOp .eql 156 (.iface 38 (.int .i64 a)) (.iface 38 (.int .i64 b))).run Tryz.prog w = .ok (.bool (a == b)) w := Go.Lib.run_eql_iface_int w a b Tryz.underlying156 eComparable Tryz.underlying38
set_option maxRecDepth 100000 in
set_option maxHeartbeats 4000000 in
theorem callsIs (a b : Int) (w : World) :
    Calls Tryz.prog 55 #[.iface 38 (.int .i64 a), .iface 38 (.int .i64 b)] w fun e w' => e = .returned (.bool (a == b)) ∧ w' = w := by
  have h8 := @run_callFunc_extern Tryz.prog 95 _ typeOfE Tryz.func95 (by kernel_rfl) (by kernel_rfl) (by kernel_rfl) (by kernel_rfl)
  have h32 := @run_callFunc_extern Tryz.prog 244 _ compE Tryz.func244 (by kernel_rfl) (by kernel_rfl) (by kernel_rfl) (by kernel_rfl)
  have tT := eTypeOf
  have cT := eComp
  have mR := eMethod
  have nE := eNoIs
  have uE := eNoUnwrap
  have vE := eNoUnwraps
  have heq := eEql a b w
  cases hab : (a == b) with
  | true =>
    rw [hab] at heq
    go_enter Tryz.func55, Tryz.ntmps55
    go_wp2
    refine wp_loop_rounds 1 ?_
    rw [rounds_succ]
    go_wp2
    go_ret
    exact ⟨rfl, rfl⟩
  | false =>
    rw [hab] at heq
    go_enter Tryz.func55, Tryz.ntmps55
    go_wp2
    refine wp_loop_rounds 1 ?_
    rw [rounds_succ]
    go_wp2
    go_ret
    exact ⟨rfl, rfl⟩
def erA (e : Int) : AV := .iface 38 (.int .i64 e)
theorem eIs (a b : Int) (H : AH) : Sound E 55 [erA a, erA b] H (.ret (.bool (a == b))) H := by
  refine sound_of_calls ⟨_, Tryz.func55, rfl, by rfl⟩ (fun G w vs hI hv => ?_)
  obtain ⟨u1, u2, rfl, h1, h2⟩ : ∃ u1 u2, vs = #[u1, u2] ∧ VR G w (erA a) u1 ∧ VR G w (erA b) u2 := by
    obtain ⟨l⟩ := vs
    have hl := hv.1
    simp at hl
    match l, hl with
    | [u1, u2], _ => exact ⟨u1, u2, rfl, hv.2 0 _ _ rfl rfl, hv.2 1 _ _ rfl rfl⟩
  cases h1 with
  | iface h1 =>
    cases h1
    cases h2 with
    | iface h2 =>
      cases h2
      refine (callsIs a b w).mono ?_
      rintro e w' ⟨rfl, rfl⟩
      exact ⟨G, .refl _ _, hI, .bool _⟩
end Go.Proofs.YtfjjckepnkkgjaaGreatDoor.Arm

namespace Go.Proofs.YtfjjckepnkkgjaaGreatDoor.Arm
open Go.Arm Go.Pl
def hzA (c : Ct) (t last : Int) : AV := .agg [.int .i64 c.order, .int .i64 c.first, .int .i64 c.least, .int .i64 c.most, .int .i64 c.wide, .int .i64 t, .int .i64 last]
def intR : Except Int (List Sg) → AV
  | .ok l => .tuple [sgL l, .int .i64 0]
  | .error e => .tuple [.nilslice, .int .i64 e]
def badH (c : Ct) (t last : Int) : Prop := validC c = false ∨ numB t = false ∨ numB last = false ∨ last ≤ t
theorem wIntegrateBad (T : Tp) (x : List I) (c : Ct) (t last : Int) (hb : badH c t last) (H : AH) : Sound E 14 [tpA T, bx x, hzA c t last] H (.ret (intR (.error 1))) H := by
  refine sound_of_awp tabOk mixed Tryz.func14 rfl (by rfl) Tryz.ntmps14 (by kernel_rfl) (by simp) ?_
  have hV := cValid c
  have hres : (Tryz.f14).results.toList = [.tmp 6, .tmp 7] := rfl
  simp [tpA, hzA]
  refine call_ret (by simpa [ctA] using hV _) ?_
  cases h1 : validC c with
  | false =>
    simp
    exact ⟨[.nilslice, .int .i64 1], [.nilslice, .int .i64 1], by simp [hres, resA], .drop (by simp [noFs, noF]), rfl⟩
  | true =>
    simp
    refine call_ret (fValid t _) ?_
    cases h2 : numB t with
    | false =>
      simp
      exact ⟨[.nilslice, .int .i64 1], [.nilslice, .int .i64 1], by simp [hres, resA], .drop (by simp [noFs, noF]), rfl⟩
    | true =>
      simp
      refine call_ret (fValid last _) ?_
      cases h3 : numB last with
      | false =>
        simp
        exact ⟨[.nilslice, .int .i64 1], [.nilslice, .int .i64 1], by simp [hres, resA], .drop (by simp [noFs, noF]), rfl⟩
      | true =>
        have h4 : last ≤ t := by rcases hb with h | h | h | h <;> simp_all
        simp [h4]
        exact ⟨[.nilslice, .int .i64 1], [.nilslice, .int .i64 1], by simp [hres, resA], .drop (by simp [noFs, noF]), rfl⟩
theorem pushSg {H J : AH} {v v0 : AV} {l : List Sg} {s : Sg} (hacc : Acc H J v 6 (l.map sgA) v0) (h0 : emptyA v0 = true) (hl : l.length ≤ 1000000000) :
    ∃ v' J', appendA tab (H ++ J) 37 v (.slice [sgA s] true) = some (v', H ++ J') ∧ Acc H J' v' 6 ((l ++ [s]).map sgA) v0 ∧ (∀ j y, J[j]? = some y → (∀ n, v ≠ .ref (H.length + j) n) → J'[j]? = some y) ∧ J.length ≤ J'.length ∧ (∀ j n, v' = .ref (H.length + j) n → (∃ m, v = .ref (H.length + j) m) ∨ J.length ≤ j) := by
  obtain ⟨v', J', hap, hacc', hk, hle, hn⟩ := Acc.push (T := tab) (t := 37) (e := 47) (x := .slice [sgA s] true) (ys := [sgA s]) hacc tab37 rfl tab47 h0 rfl (by simp [sgA, bx, okc]) ⟨by decide, by simp⟩ (by simp; omega) (by simp; omega)
  exact ⟨v', J', hap, by simpa using hacc', hk, hle, hn⟩
def LInt (T : Tp) (c : Ct) (t last : Int) (R : Except Int (List Sg)) (H : AH) (n : Nat) (fr : AFr) (H' : AH) : Prop :=
  ∃ l x t' h, fr 3 = .ptr H.length 1 0 0 ∧ fr 5 = .ptr (H.length + 1) 1 0 0 ∧ fr 9 = .ptr (H.length + 2) 1 0 0 ∧ fr 1 = bx x ∧ allV x ∧ x.length = T.n ∧ hzOk c t' last ∧ t' ≤ last ∧ (1 ≤ h ∧ h ≤ 1000000000) ∧
  l.length + n = 256 ∧ R = appS l (intS T c last n x t' h) ∧ ∃ J, H' = H ++ (.row true 3 [tpA T] :: .row true 7 [hzA c t last] :: .row true 8 [rqA ⟨c, t', last, h⟩] :: J) ∧ Acc (H ++ [.row true 3 [tpA T], .row true 7 [hzA c t last], .row true 8 [rqA ⟨c, t', last, h⟩]]) J (fr 8) 6 (l.map sgA) .nilslice
theorem accRebase {H H2 J : AH} {v v0 : AV} {sz : Nat} {l : List AV} (h : Arm.Acc H J v sz l v0) (hl : H2.length = H.length) : Arm.Acc H2 J v sz l v0 := by
  rcases h with h | ⟨k, h1, h2⟩
  · exact .inl h
  · exact .inr ⟨k, by rw [h1, hl], h2⟩
theorem finS2 {E : Env} {fr : AFr} {fn : Func} {t u : Tmp} {H0 J : AH} {v v0 w : AV} {sz : Nat} {xs : List AV} {e : AExit} (hr : fn.results.toList = [.tmp t, .tmp u]) (h : fr t = v) (h2 : fr u = w) (hw : ∀ H, conv H w = (w, H)) (hwn : noF H0.length w = true) (hacc : Arm.Acc H0 J v sz xs v0) (h0 : emptyA v0 = true) (hv : noFs H0.length xs = true)
    (hx : e = .ret ∨ e = .normal := by simp) : bodyK E fn H0 (.ret (.tuple [.slice xs false, w])) H0 e fr (H0 ++ J) := by
  obtain ⟨J', hc, _⟩ := hacc.conv h0
  have hnot : ∀ cs, v ≠ .agg cs := by
    rintro cs rfl
    rcases hacc with ⟨_, h2⟩ | ⟨k, h2, _⟩
    · rw [← h2] at h0; cases h0
    · cases h2
  have hcv : conv (H0 ++ J) v = conv1 (H0 ++ J) v := by cases v <;> first | rfl | exact absurd rfl (hnot _)
  exact finC (rs := [.tmp t, .tmp u]) (vs := [v, w]) (vs' := [.slice xs false, w]) (J' := J') hr (by simp [resA, h, h2]) (by simp only [convL, hcv, hc, hw]) (by simp [noFs, noF, hv, hwn]) rfl hx
set_option maxHeartbeats 1000000 in
theorem wIntegrate (T : Tp) (x : List I) (c : Ct) (t last : Int) (hT : tpOk T) (hx : allV x) (hxn : x.length = T.n) (hn : 1 ≤ T.n) (hk : hzOk c t last) (hv : validC c = true) (htl : t < last) (hi : 1 ≤ initS c (last - t) ∧ initS c (last - t) ≤ 1000000000) (H : AH) :
    Sound E 14 [tpA T, bx x, hzA c t last] H (.ret (intR (intS T c last 256 x t (initS c (last - t))))) H := by
  refine sound_of_awp tabOk mixed Tryz.func14 rfl (by rfl) Tryz.ntmps14 (by kernel_rfl) (by simp) ?_
  have hV := cValid c
  rw [hv] at hV
  have hres : (Tryz.f14).results.toList = [.tmp 6, .tmp 7] := rfl
  have kt := hk.t
  have kl := hk.last
  have n1 : numB t = true := numB_iff.2 (by omega)
  have n2 : numB last = true := numB_iff.2 (by omega)
  have hF1 := fValid t
  have hF2 := fValid last
  rw [n1] at hF1
  rw [n2] at hF2
  have h4 : ¬ last ≤ t := by omega
  have wsub : IntKind.i64.wrap (last - t) = last - t := wrap64 (by omega) (by omega)
  have hI := fun Hx => cInitial c (last - t) Hx
  have hor : ((c.order.toNat : Nat) : Int) = c.order := by have := hk.order; omega
  simp [tpA, hzA]
  refine call_ret (by simpa [ctA] using hV _) ?_
  simp
  refine call_ret (hF1 _) ?_
  simp
  refine call_ret (hF2 _) ?_
  simp [h4, wsub]
  refine callD_ret0 (fun Hx => by simpa [ctA] using hI Hx) ?_
  simp
  refine endD [(15, 16)] (by rfl) (by simp [okW, note, Eff.triv, Eff.wr, Eff.none, upTo, newAt]) ?_
  simp
  generalize hh0 : initS c (last - t) = h0 at *
  generalize hR : intS T c last 256 x t h0 = R
  refine loop_count (LInt T c t last R H) (fun n => n + 1) 256 ⟨[], x, t, h0, by simp, by simp, by simp, by simp [bx], hx, hxn, hk, by omega, hi, by simp, by rw [appS_nil, hR], [], by simp [tpA, hzA, rqA], .inl ⟨by simp, by simp⟩⟩ ?_
  clear hR hh0 hi hx hxn hI wsub h4 hF1 hF2 n1 n2 kt
  clear h0 x
  rintro n fr H' ⟨l, x, t', h, g3, g5, g9, g1, hx, hxn, hk', htl', hh, hln, hR, J, rfl, hacc⟩
  have kt := hk'.t
  simp [g3, g5, g9, hzA, rqA]
  refine branch (fun hc => ?_) (fun hc => ?_)
  · have hlt : t' < last := by simpa using hc
    have hw := hk'.rq hlt hh
    have hA := cAdvance T x ⟨c, t', last, h⟩ hT hx hxn hn hw
    rw [advO_eq] at hA
    cases hr : advS T x ⟨c, t', last, h⟩ with
    | none =>
      rw [hr] at hA
      rw [intS_none hlt hr] at hR
      simp [g1, g3, g9, tpA, rqA]
      refine call_ret (by simpa [tpA, rqA] using hA _) ?_
      simp [segC, zsA, erO, nxC]
      refine call_ret (by simpa [erA] using eIs 130 0 _) ?_
      simp
      rw [hR]
      exact ⟨[.nilslice, .int .i64 130], [.nilslice, .int .i64 130], by simp [hres, resA], .drop (by simp [noFs, noF]), rfl⟩
    | some s =>
      obtain ⟨a1, a2, a3, a4, a5⟩ := advS_ok hT hx hxn hw hr
      have hst : s.t = t' := a5.ht
      have hf : firstH ⟨c, t', last, h⟩ ≤ last - t' := by unfold firstH; simp only; omega
      rw [hr] at hA
      have w1 : IntKind.i64.wrap (s.t + s.h) = s.t + s.h := wrap64 (by omega) (by omega)
      simp [g1, g3, g9, tpA, rqA]
      refine call_ret (by simpa [tpA, rqA] using hA _) ?_
      simp [segC, sgA, bx, erO]
      refine call_ret (by simpa [erA] using eIs 0 0 _) ?_
      simp
      have hl3 : l.length ≤ 256 := by omega
      have hnx := nxS_b hk' hh (s := s) a2
      have hstep := hk'.step (t' := s.t + s.h) (by omega) (by omega)
      obtain ⟨v', J', hap, hacc', hold, _, _⟩ := pushSg (s := s) (hacc.len (L := [.row true 6 [sgA s]])) rfl (by omega)
      rcases hacc with ⟨h0, hv8⟩ | ⟨kk, hv8, hJk⟩
      · have hl0 : l = [] := by simpa using h0
        subst hl0
        obtain ⟨m, rfl⟩ : ∃ m, n = m + 1 := ⟨n - 1, by simp at hln; omega⟩
        rw [intS_some hlt hr, appS_cons] at hR
        have hs6 := hold J.length (.row true 6 [sgA s]) (by simp) (by rw [hv8]; intro n hh; cases hh)
        clear hold
        simp only [sgA, bx] at hs6
        simp [hv8]
        refine bind_some (by simpa [sgA, bx, tpA, hzA, rqA, hv8] using hap) ?_
        simp [g9, w1, hs6]
        refine endD [(9, 11)] (by rfl) (by simp [okW, note, Eff.triv, Eff.wr, Eff.none, upTo, newAt]) ?_
        simp
        exact ⟨m, by show m + 1 < m + 1 + 1; omega, [s], s.to, s.t + s.h, nxS ⟨c, t', last, h⟩ s, by simp [g3], by simp [g5], by simp [g9], by simp [bx], a5.vto, a5.nto, hstep, by omega, hnx, by simp at hln ⊢; omega, hR, J', by simp [tpA, hzA, rqA, nxC, nxS], by simpa using accRebase hacc' (by simp)⟩
      · have hkl := (List.getElem?_eq_some_iff.1 hJk).1
        have hJ2 := old hJk
        have hv9 : fr 8 = .ref (H.length + (kk + 3)) l.length := by rw [hv8]; simp; omega
        by_cases hn0 : n = 0
        · subst hn0
          rw [intS_full hlt hr] at hR
          have h256 : l.length = 256 := by omega
          simp [hv9, hJ2, h256]
          rw [hR]
          exact ⟨[.nilslice, .int .i64 140], [.nilslice, .int .i64 140], by simp [hres, resA], .drop (by simp [noFs, noF]), rfl⟩
        · obtain ⟨m, rfl⟩ : ∃ m, n = m + 1 := ⟨n - 1, by omega⟩
          rw [intS_some hlt hr, appS_cons] at hR
          have h256 : ((l.length : Int) == 256) = false := by rw [beq_eq_false_iff_ne]; omega
          have hs6 := hold J.length (.row true 6 [sgA s]) (by simp) (by rw [hv8]; intro n hh; simp at hh; omega)
          clear hold
          simp only [sgA, bx] at hs6
          simp [hv9, hJ2, h256]
          refine bind_some (by simpa [sgA, bx, tpA, hzA, rqA, hv9] using hap) ?_
          simp [g9, w1, hs6]
          refine endD [(9, 11)] (by rfl) (by simp [okW, note, Eff.triv, Eff.wr, Eff.none, upTo, newAt]) ?_
          simp
          exact ⟨m, by show m + 1 < m + 1 + 1; omega, l ++ [s], s.to, s.t + s.h, nxS ⟨c, t', last, h⟩ s, by simp [g3], by simp [g5], by simp [g9], by simp [bx], a5.vto, a5.nto, hstep, by omega, hnx, by simp; omega, hR, J', by simp [tpA, hzA, rqA, nxC, nxS], by simpa using accRebase hacc' (by simp)⟩
  · have hlt : ¬ t' < last := by simpa using hc
    rw [intS_end hlt] at hR
    have hR2 : R = .ok l := by rw [hR]; simp [appS]
    rw [hR2]
    simp
    exact finS2 (t := 6) (u := 7) hres (by simp) (by simp) (fun H => rfl) (by simp [noF]) (accBase hacc) rfl (sgs_noFs _ _)
end Go.Proofs.YtfjjckepnkkgjaaGreatDoor.Arm

namespace Go.Pl
def u32 (x : Int) : Int := x % 4294967296
end Go.Pl

namespace Go.Proofs.YtfjjckepnkkgjaaGreatDoor.Arm
open Go.Arm Go.Pl
theorem r14Control (o : Int) (ho : 0 ≤ o ∧ o ≤ 255) (H : AH) : Sound E 48 [.int .u8 o] H (.ret (ctA ⟨1 + o.tmod 3, 4096, 1024, 16384, 16777216⟩)) H := by
  refine sound_of_awp tabOk mixed Tryz.func48 rfl (by rfl) Tryz.ntmps48 (by kernel_rfl) (by simp) ?_
  have h1 := Int.tmod_nonneg 3 ho.1
  have h2 := Int.tmod_lt_of_pos o (b := 3) (by decide)
  have w0 : IntKind.u8.wrap (o.tmod 3) = o.tmod 3 := wrap8 (by omega) (by omega)
  have w1 : IntKind.i64.wrap (o.tmod 3) = o.tmod 3 := wrap64 (by omega) (by omega)
  have w2 : IntKind.i64.wrap (1 + o.tmod 3) = 1 + o.tmod 3 := wrap64 (by omega) (by omega)
  simp [w0, w1, w2]
  exact fin1 (rs := [.cell 2 32]) (by rfl) (by simp [resA, ctA]) (by simp [noF, noFs, ctA])
def ctS (o : Int) : Ct := ⟨1 + o.tmod 3, 4096, 1024, 16384, 16777216⟩
def hzT (t : Int) : Int := t.tmod 1048576
theorem r14Horizon (o t l : Int) (ho : 0 ≤ o ∧ o ≤ 255) (ht : -2147483648 ≤ t ∧ t ≤ 2147483647) (hl : 0 ≤ l ∧ l ≤ 65535) (H : AH) : Sound E 40 [.int .u8 o, .int .i32 t, .int .u16 l] H (.ret (hzA (ctS o) (hzT t) (hzT t + 1 + l))) H := by
  refine sound_of_awp tabOk mixed Tryz.func40 rfl (by rfl) Tryz.ntmps40 (by kernel_rfl) (by simp) ?_
  have hC := r14Control o ho
  obtain ⟨a, b⟩ := tmod_bounds t (b := 1048576) (by decide)
  have hb : -1048576 < t.tmod 1048576 ∧ t.tmod 1048576 < 1048576 := by
    by_cases hh : 0 ≤ t
    · have := a hh; omega
    · have := b (by omega); omega
  have w0 : IntKind.i64.wrap t = t := wrap64 (by omega) (by omega)
  have w1 : IntKind.i64.wrap (t.tmod 1048576) = t.tmod 1048576 := wrap64 (by omega) (by omega)
  have w2 : IntKind.i64.wrap (t.tmod 1048576 + 1) = t.tmod 1048576 + 1 := wrap64 (by omega) (by omega)
  have w3 : IntKind.i64.wrap l = l := wrap64 (by omega) (by omega)
  have w4 : IntKind.i64.wrap (t.tmod 1048576 + 1 + l) = t.tmod 1048576 + 1 + l := wrap64 (by omega) (by omega)
  simp [w0, w1]
  refine call_ret (hC _) ?_
  simp [w2, w3, w4, ctA]
  exact fin1 (rs := [.cell 6 34]) (by rfl) (by simp [resA, hzA, ctS, hzT]) (by simp [noF, noFs, hzA])
end Go.Proofs.YtfjjckepnkkgjaaGreatDoor.Arm

namespace Go.Proofs.YtfjjckepnkkgjaaGreatDoor.Arm
open Go.Arm Go.Pl
end Go.Proofs.YtfjjckepnkkgjaaGreatDoor.Arm

namespace Go.Proofs.YtfjjckepnkkgjaaGreatDoor.Arm
open Go.Arm Go.Pl
theorem finC0 {E : Env} {fr : AFr} {fn : Func} {rs : List ResultVar} {H0 : AH} {vs vs' : List AV} {v : AV} {e : AExit} (hr : fn.results.toList = rs) (h : resA E fr H0 rs = some vs) (hc : convL H0 vs = (vs', H0)) (hv : noFs H0.length vs' = true) (ho : one vs' = v)
    (hx : e = .ret ∨ e = .normal := by simp) : bodyK E fn H0 (.ret v) H0 e fr H0 := by
  have := finC (J := []) (J' := []) hr (by rw [List.append_nil]; exact h) (by rw [List.append_nil]; exact hc) hv ho hx
  rwa [List.append_nil] at this
theorem lPoint (n : Int) (hn : -1000 ≤ n ∧ n ≤ 1000) (H : AH) : Sound E 46 [.int .i64 n] H (.ret (bx [(n * 65536, n * 65536)])) H := by
  refine sound_of_awp tabOk mixed Tryz.func46 rfl (by rfl) Tryz.ntmps46 (by kernel_rfl) (by simp) ?_
  have w1 : IntKind.i64.wrap (n * 65536) = n * 65536 := wrap64 (by omega) (by omega)
  have e : pt (n * 65536) = (n * 65536, n * 65536) := pt_num (by omega)
  have hP := rPoint (n * 65536)
  rw [e] at hP
  simp [w1]
  refine call_ret (hP _) ?_
  simp
  exact finC0 (rs := [.tmp 2]) (vs := [.slice [iv (n * 65536, n * 65536)] true]) (vs' := [bx [(n * 65536, n * 65536)]]) (by rfl) (by simp [resA]) (by simp [bx]) (by simp [noFs, noF, bx]) rfl
theorem lSpan (m n : Int) (hm : -1000 ≤ m ∧ m ≤ 1000) (hn : -1000 ≤ n ∧ n ≤ 1000) (H : AH) : Sound E 47 [.int .i64 m, .int .i64 n] H (.ret (bx [(m * 65536, n * 65536)])) H := by
  refine sound_of_awp tabOk mixed Tryz.func47 rfl (by rfl) Tryz.ntmps47 (by kernel_rfl) (by simp) ?_
  have w1 : IntKind.i64.wrap (n * 65536) = n * 65536 := wrap64 (by omega) (by omega)
  have w2 : IntKind.i64.wrap (m * 65536) = m * 65536 := wrap64 (by omega) (by omega)
  simp [w1, w2]
  exact finC0 (rs := [.tmp 4]) (vs := [.slice [iv (m * 65536, n * 65536)] true]) (vs' := [bx [(m * 65536, n * 65536)]]) (by rfl) (by simp [resA]) (by simp [bx]) (by simp [noFs, noF, bx]) rfl
theorem lNum (x : Int) (hx : -2147483648 < x ∧ x < 2147483648) (H : AH) : Sound E 27 [.int .i64 x] H (.ret (insA ⟨1, 0, 0, (x, x)⟩)) H := by
  refine sound_of_awp tabOk mixed Tryz.func27 rfl (by rfl) Tryz.ntmps27 (by kernel_rfl) (by simp) ?_
  have hP := rPoint x
  rw [pt_num hx] at hP
  simp
  refine call_ret (hP _) ?_
  simp
  exact fin1 (rs := [.cell 2 63]) (by rfl) (by simp [resA, insA]) (by simp [noF, noFs, insA])
theorem lSteady (x : Int) (hx : -2147483648 < x ∧ x < 2147483648) (H : AH) : Sound E 21 [.int .i64 x] H (.ret (tpA ⟨1, [⟨1, 0, 0, (x, x)⟩], [0]⟩)) H := by
  refine sound_of_awp tabOk mixed Tryz.func21 rfl (by rfl) Tryz.ntmps21 (by kernel_rfl) (by simp) ?_
  simp
  refine call_ret (lNum x hx _) ?_
  simp [insA]
  exact finC (rs := [.cell 2 25]) (vs := [.agg [.int .i64 1, .slice [insA ⟨1, 0, 0, (x, x)⟩] true, .slice [.int .i64 0] true]]) (vs' := [tpA ⟨1, [⟨1, 0, 0, (x, x)⟩], [0]⟩]) (J' := _) (by rfl) (by simp [resA, insA]) (by simp [tpA, insA, outA]; rfl) (by simp [noFs, noF, tpA, insA, outA]) rfl
def itA (id : Int) (s : Sg) : AV := .agg [.int .i64 id, .int .i64 s.t, .int .i64 (s.t + s.h), bx s.tube]
def itZ : AV := .agg [.int .i64 0, .int .i64 0, .int .i64 0, .nilslice]
def padT (id : Int) (l : List Sg) (i : Nat) : List AV := (l.take i).map (itA id) ++ List.replicate (l.length - i) itZ
theorem padT_len (id : Int) (l : List Sg) (i : Nat) (h : i ≤ l.length) : (padT id l i).length = l.length := by simp [padT]; omega
theorem padT_set {id : Int} {l : List Sg} {i : Nat} {s : Sg} (h : l[i]? = some s) : (padT id l i).set i (itA id s) = padT id l (i + 1) := by
  have hlt := (List.getElem?_eq_some_iff.1 h).1
  unfold padT
  have e : List.replicate (l.length - i) itZ = itZ :: List.replicate (l.length - (i + 1)) itZ := by
    rw [show l.length - i = (l.length - (i + 1)) + 1 by omega, List.replicate_succ]
  rw [e, List.take_add_one, h, List.set_append_right _ _ (by simp; omega)]
  simp [Nat.min_eq_left (Nat.le_of_lt hlt)]
theorem padT_get {id : Int} {l : List Sg} {i : Nat} (h : i < l.length) : (padT id l i)[i]? = some itZ := by
  unfold padT
  rw [List.getElem?_append_right (by simp; omega), List.getElem?_replicate, if_pos (by simp; omega)]
def LIt (id : Int) (l : List Sg) (H : AH) (i : Nat) (fr : AFr) (H' : AH) : Prop :=
  fr 0 = .int .i64 id ∧ fr 5 = .ref H.length l.length ∧ fr 11 = sgL l ∧ fr 12 = .int .i64 l.length ∧ fr 13 = .int .i64 i ∧ i ≤ l.length ∧ ∃ J, H' = H ++ (.row true 4 (padT id l i) :: J)
theorem wItems (id : Int) (l : List Sg) (hl : l.length ≤ 1000000) (hb : ∀ s ∈ l, -1000000000 ≤ s.t ∧ s.t ≤ 1000000000 ∧ 0 ≤ s.h ∧ s.h ≤ 1000000000) (H : AH) : Sound E 35 [.int .i64 id, sgL l] H (.ret (.slice (l.map (itA id)) false)) H := by
  refine sound_of_awp tabOk mixed Tryz.func35 rfl (by rfl) Tryz.ntmps35 (by kernel_rfl) (by simp) ?_
  simp [sgL]
  refine bind_if (by omega) ?_
  simp
  refine loop_count (LIt id l H) (fun i => l.length - i) 0 ⟨by simp, by simp, by simp [sgL], by simp, by simp, by omega, [], by simp [padT, itZ]⟩ ?_
  rintro i fr H' ⟨g0, g5, g11, g12, g13, hi, J, rfl⟩
  simp [g12, g13]
  refine branch (fun hc => ?_) (fun hc => ?_)
  · have hlt : i < l.length := by simpa using hc
    obtain ⟨s, hs⟩ := get_lt hlt
    have hsE : ∀ h, l[i]'h = s := fun h => (List.getElem?_eq_some_iff.1 hs).2
    have hsb := hb s (List.mem_of_getElem? hs)
    have w2 : IntKind.i64.wrap ((i : Int) + 1) = ((i + 1 : Nat) : Int) := by rw [wrap64 (by omega) (by omega)]; omega
    have w3 : IntKind.i64.wrap (s.t + s.h) = s.t + s.h := wrap64 (by omega) (by omega)
    have emk : mk s.t (s.t + s.h) = (s.t, s.t + s.h) := by unfold mk numB; rw [if_pos (by simp; omega)]
    have hN := fun Hx => iNew s.t (s.t + s.h) Hx
    rw [emk] at hN
    have hset := padT_set (id := id) hs
    have hget := padT_get (id := id) hlt
    have hWl := padT_len id l i hi
    generalize padT id l i = W at *
    have hgE : ∀ h, W[i]'h = itZ := fun h => (List.getElem?_eq_some_iff.1 hget).2
    simp [g0, g5, g11, g13, sgL, hs, hsE, sgA, bx, w3]
    refine callD_ret0 (fun Hx => hN Hx) ?_
    simp [g5, hWl, hlt, hget, hgE, itZ]
    refine endD [(14, 15)] (by rfl) (by simp [okW, note, Eff.triv, Eff.wr, Eff.none, upTo, newAt]) ?_
    simp [g13, w2]
    exact ⟨i + 1, by show l.length - (i + 1) < l.length - i; omega, by simp [g0], by simp [g5], by simp [g11, sgL], by simp [g12], by simp, by omega, _, by rw [← hset]; simp [itA, bx]; rfl⟩
  · have hi' : i = l.length := by
      have : ¬ i < l.length := by simpa using hc
      omega
    subst hi'
    have e : padT id l l.length = l.map (itA id) := by simp [padT]
    rw [e]
    simp
    exact finS (t := 4) (v := .ref (H.length + 0) l.length) (v0 := .nilslice) (sz := 4) (xs := l.map (itA id)) (by rfl) (by simp [g5]) (.inr ⟨0, by simp, by simp⟩) rfl (noFs_iff.2 fun x hx => by obtain ⟨y, _, rfl⟩ := List.mem_map.1 hx; simp only [itA, bx, noF, noFs, iv_noFs, Bool.and_self])
end Go.Proofs.YtfjjckepnkkgjaaGreatDoor.Arm

namespace Go.Proofs.YtfjjckepnkkgjaaGreatDoor.Arm
open Go.Arm Go.Pl
structure Fq where
  C : Rt
  X : List I
  order : Int
  t : Int
  last : Int
structure FqOk (q : Fq) : Prop where
  hL : q.C.L.length ≤ 200000000000000
  hO : q.C.out.length ≤ 200000000000000
  hX : q.X.length ≤ 200000000000000
  ho : 0 ≤ q.order ∧ q.order ≤ 255
  ht : -2147483648 ≤ q.t ∧ q.t ≤ 2147483647
  hl : 0 ≤ q.last ∧ q.last ≤ 65535
def fqA (q : Fq) : AV := .agg [.int .i64 q.C.n, .slice (q.C.L.map insA) false, ints q.C.out, bx q.X, .int .u8 q.order, .int .i32 q.t, .int .u16 q.last]
def fqT (q : Fq) : Tp := mkT q.C 10
def fqX (q : Fq) : List I := nrb q.X 4096 (fqT q).n
def fqF (q : Fq) : Int := hzT q.t
def fqE (q : Fq) : Int := hzT q.t + 1 + q.last
theorem fqT_ok (q : Fq) : tpOk (fqT q) ∧ 1 ≤ (fqT q).n ∧ (fqT q).n ≤ 3 := ⟨mkT_ok q.C 10 (by decide), (mkN_b q.C).2⟩
theorem fqX_ok (q : Fq) : allV (fqX q) ∧ (fqX q).length = (fqT q).n := ⟨nrb_valid _ (by omega) _, nrb_len _ _ _⟩
theorem hzT_b (t : Int) : -1048576 < hzT t ∧ hzT t < 1048576 := by
  obtain ⟨a, b⟩ := tmod_bounds t (b := 1048576) (by decide)
  unfold hzT
  by_cases hh : 0 ≤ t
  · have := a hh; omega
  · have := b (by omega); omega
theorem ctS_ok {o : Int} (ho : 0 ≤ o ∧ o ≤ 255) : validC (ctS o) = true ∧ 1 ≤ (ctS o).order ∧ (ctS o).order ≤ 3 := by
  have h1 := Int.tmod_nonneg 3 ho.1
  have h2 := Int.tmod_lt_of_pos o (b := 3) (by decide)
  refine ⟨?_, by show 1 ≤ 1 + o.tmod 3; omega, by show 1 + o.tmod 3 ≤ 3; omega⟩
  unfold validC ctS
  simp only [decide_eq_true_eq]
  omega
theorem fq_hz {q : Fq} (h : FqOk q) : hzOk (ctS q.order) (fqF q) (fqE q) ∧ fqF q < fqE q ∧ fqE q ≤ fqF q + 65536 ∧ (1 ≤ initS (ctS q.order) (fqE q - fqF q) ∧ initS (ctS q.order) (fqE q - fqF q) ≤ 4096) := by
  have hc := ctS_ok h.ho
  have ht := hzT_b q.t
  have hl := h.hl
  have e : initS (ctS q.order) (fqE q - fqF q) = min 4096 (fqE q - fqF q) := rfl
  have m : (ctS q.order).most = 16384 := rfl
  have l : (ctS q.order).least = 1024 := rfl
  unfold fqE fqF at *
  exact ⟨⟨by omega, by omega, by omega, by omega, by omega⟩, by omega, by omega, by omega⟩
set_option maxHeartbeats 2000000 in
theorem lMade (q : Fq) (hq : FqOk q) (H : AH) : Sound E 13 [fqA q] H (.ret (.tuple [tpA (fqT q), bx (fqX q), hzA (ctS q.order) (fqF q) (fqE q)])) H := by
  refine sound_of_awp tabOk mixed Tryz.func13 rfl (by rfl) Tryz.ntmps13 (by kernel_rfl) (by simp) ?_
  have hM := r8Made q.C 10 (by decide) hq.hL hq.hO
  have hB := fun Hx => r8Boxes q.X (fqT q).n 4096 (by have := (fqT_ok q).2; omega) (by omega) hq.hX Hx
  have hZ := fun Hx => r14Horizon q.order q.t q.last hq.ho hq.ht hq.hl Hx
  have eX : nrb q.X 4096 (fqT q).n = fqX q := rfl
  rw [eX] at hB
  have eT : mkT q.C 10 = fqT q := rfl
  rw [eT] at hM
  have eZ : hzA (ctS q.order) (hzT q.t) (hzT q.t + 1 + q.last) = hzA (ctS q.order) (fqF q) (fqE q) := rfl
  rw [eZ] at hZ
  generalize fqT q = T at *
  generalize fqX q = X at *
  generalize ctS q.order = c at *
  generalize fqF q = t0 at *
  generalize fqE q = t1 at *
  simp [fqA, ints]
  refine call_ret (by simpa [rtA, ints, tpA, outA] using hM _) ?_
  simp [tpA, outA, bx]
  refine callD_ret0 (fun Hx => by simpa [bx] using hB Hx) ?_
  simp
  refine callD_ret0 (fun Hx => hZ Hx) ?_
  simp [hzA]
  refine endD [] (by rfl) (by simp [okW, note, Eff.triv, Eff.wr, Eff.none, upTo, newAt]) ?_
  simp
  exact ⟨[tpA T, bx X, hzA c t0 t1], [tpA T, bx X, hzA c t0 t1], by simp [show (Tryz.f13).results.toList = [.cell 2 25, .tmp 3, .cell 4 34] from rfl, resA, tpA, outA, bx, hzA], .drop (by simp [noFs, noF, tpA, bx, hzA, ins_noFs, iv_noFs, outA, noFs_iff]), rfl⟩
def exL : List Sg := [⟨0, 65536, [(0, 0)], [(0, 65536)], [(0, 65536)], [(65536, 65536)]⟩, ⟨65536, 65536, [(65536, 65536)], [(65536, 131072)], [(65536, 131072)], [(131072, 131072)]⟩, ⟨131072, 65536, [(131072, 131072)], [(131072, 196608)], [(131072, 196608)], [(196608, 196608)]⟩]
def exT : Tp := ⟨1, [⟨1, 0, 0, (65536, 65536)⟩], [0]⟩
def exS : Sg := ⟨0, 3000, [(0, 0)], [(0, 3000)], [(0, 3000)], [(3000, 3000)]⟩
theorem exInt : intS exT (ctS 0) 3000 256 [(0, 0)] 0 3000 = .ok [exS] := by
  have ha : advS exT [(0, 0)] ⟨ctS 0, 0, 3000, 3000⟩ = some exS := by kernel_rfl
  rw [intS_some (n := 255) (by decide) ha, intS_end (by decide)]
  rfl
theorem exT_ok : tpOk exT := by
  refine ⟨fun i x hx => ?_, rfl, fun k hk => ?_, by simp [exT]⟩
  · cases i with
    | zero => simp [exT] at hx; subst hx; exact .inl ⟨rfl, vB_pair (by omega) (by omega) (by omega)⟩
    | succ i => simp [exT] at hx
  · simp [exT] at hk; subst hk; simp [exT]
theorem exCtg : Ctg 0 exL := ⟨rfl, by decide, rfl, by decide, rfl, by decide, trivial⟩
theorem exTm : ∀ s ∈ exL, tmS s := fun s hs => by
  simp [exL] at hs
  rcases hs with rfl | rfl | rfl <;> exact ⟨by decide, by decide, by decide, by decide⟩
theorem exN : ∀ s ∈ exL, s.tube.length = 1 := fun s hs => by
  simp [exL] at hs
  rcases hs with rfl | rfl | rfl <;> rfl
end Go.Proofs.YtfjjckepnkkgjaaGreatDoor.Arm

namespace Go.Arm
theorem list_of {α : Type} {f : α → AV} {p : α → Prop} : ∀ {xs : List AV}, (∀ x ∈ xs, ∃ a, x = f a ∧ p a) → ∃ l : List α, xs = l.map f ∧ ∀ a ∈ l, p a
  | [], h => ⟨[], rfl, fun a ha => by cases ha⟩
  | x :: r, h => by
    obtain ⟨a, rfl, ha⟩ := h x (by simp)
    obtain ⟨l, rfl, hl⟩ := list_of (xs := r) (fun y hy => h y (by simp [hy]))
    exact ⟨a :: l, rfl, fun b hb => by
      rcases List.mem_cons.1 hb with rfl | hb
      · exact ha
      · exact hl b hb⟩
theorem okL_cons {ok : TypeId → AV → Prop} {f : TypeId × Nat} {fs : List (TypeId × Nat)} {vs : List AV} (h : OkL ok (f :: fs) vs) : ∃ v vs', vs = v :: vs' ∧ ok f.1 v ∧ OkL ok fs vs' := by
  cases vs with
  | nil => exact h.elim
  | cons v vs' => exact ⟨v, vs', rfl, h.1, h.2⟩
theorem okL_nil {ok : TypeId → AV → Prop} {vs : List AV} (h : OkL ok [] vs) : vs = [] := by
  cases vs with
  | nil => rfl
  | cons v vs' => exact h.elim
section
variable {tab : Tab}
theorem okInt {n : Nat} {t : TypeId} {i : TI} {k : IntKind} {v : AV} (hi : tab t = some i) (hd : i.d = .int k) (h : OkA tab (n + 1) t v) : ∃ x, v = .int k x ∧ (Lit.int k x).wf = true := by
  unfold OkA at h
  rw [hi] at h
  simp only [hd] at h
  exact h
theorem okSlice {n : Nat} {t e : TypeId} {i ie : TI} {v : AV} (hi : tab t = some i) (hd : i.d = .slice e) (he : tab e = some ie) (h : OkA tab (n + 1) t v) : ∃ xs, v = .slice xs false ∧ (∀ x ∈ xs, OkA tab n e x) ∧ xs.length * ie.bytes ≤ reachBytes ∧ xs.length ≤ maxLen := by
  unfold OkA at h
  rw [hi] at h
  simp only [hd] at h
  obtain ⟨xs, h1, h2, h3, h4⟩ := h
  exact ⟨xs, h1, h2, h3 ie he, h4⟩
theorem okStruct {n : Nat} {t : TypeId} {i : TI} {fs : List (TypeId × Nat)} {v : AV} (hi : tab t = some i) (hd : i.d = .struct fs) (h : OkA tab (n + 1) t v) : ∃ vs : List AV, v = .agg (vs.flatMap AV.cells) ∧ OkL (OkA tab n) fs vs := by
  unfold OkA at h
  rw [hi] at h
  simp only [hd] at h
  exact h
theorem okRow {α : Type} {f : α → AV} {p : α → Prop} {n : Nat} {t e : TypeId} {i ie : TI} {v : AV} (hi : tab t = some i) (hd : i.d = .slice e) (he : tab e = some ie) (hb : 0 < ie.bytes) (hf : ∀ x, OkA tab n e x → ∃ a, x = f a ∧ p a) (h : OkA tab (n + 1) t v) :
    ∃ l : List α, v = .slice (l.map f) false ∧ (∀ a ∈ l, p a) ∧ l.length ≤ 140737488351232 := by
  obtain ⟨xs, rfl, h1, h2, h3⟩ := okSlice hi hd he h
  obtain ⟨l, rfl, hl⟩ := list_of (f := f) (p := p) (fun x hx => hf x (h1 x hx))
  refine ⟨l, rfl, hl, ?_⟩
  have e : reachBytes = 140737488351232 := rfl
  rw [e, List.length_map] at h2
  exact Nat.le_trans (Nat.le_mul_of_pos_right _ hb) h2
end
theorem okArgs1 {T : Tab} {m : Nat} {a : TypeId} {av : List AV} (h : OkArgs T m [a] av) : ∃ x, av = [x] ∧ OkA T m a x := by
  match av, h with
  | [x], h => exact ⟨x, rfl, h.1⟩
theorem wfI {k : IntKind} {x : Int} (h : (Lit.int k x).wf = true) : k.min ≤ x ∧ x ≤ k.max := by
  simp [Lit.wf] at h
  exact h
theorem wfU8 {x : Int} (h : (Lit.int .u8 x).wf = true) : 0 ≤ x ∧ x ≤ 255 := by have := wfI h; simp [IntKind.min, IntKind.max, IntKind.signed, IntKind.bits] at this; exact this
theorem wfU16 {x : Int} (h : (Lit.int .u16 x).wf = true) : 0 ≤ x ∧ x ≤ 65535 := by have := wfI h; simp [IntKind.min, IntKind.max, IntKind.signed, IntKind.bits] at this; exact this
theorem wfI32 {x : Int} (h : (Lit.int .i32 x).wf = true) : -2147483648 ≤ x ∧ x ≤ 2147483647 := by have := wfI h; simp [IntKind.min, IntKind.max, IntKind.signed, IntKind.bits] at this; exact this
end Go.Arm

namespace Go.Proofs.YtfjjckepnkkgjaaGreatDoor.Arm
open Go.Arm Go.Pl
theorem okIv {n : Nat} {v : AV} (h : OkA tab (n + 2) 54 v) : ∃ p : I, v = iv p ∧ True := by
  obtain ⟨vs, rfl, hv⟩ := okStruct tab54 rfl h
  obtain ⟨a, vs, rfl, ha, hv⟩ := okL_cons hv
  obtain ⟨b, vs, rfl, hb, hv⟩ := okL_cons hv
  cases okL_nil hv
  obtain ⟨x, rfl, hx⟩ := okInt tab2 rfl ha
  obtain ⟨y, rfl, hy⟩ := okInt tab2 rfl hb
  exact ⟨(x, y), rfl, trivial⟩
theorem okBx {n : Nat} {v : AV} (h : OkA tab (n + 3) 26 v) : ∃ l : List I, v = bx l ∧ l.length ≤ 140737488351232 := by
  obtain ⟨l, rfl, _, hl⟩ := okRow (f := iv) tab26 rfl tab54 (by decide) (fun x hx => okIv hx) h
  exact ⟨l, rfl, hl⟩
theorem okIns {n : Nat} {v : AV} (h : OkA tab (n + 3) 63 v) : ∃ p : Ins, v = insA p ∧ True := by
  obtain ⟨vs, rfl, hv⟩ := okStruct tab63 rfl h
  obtain ⟨a, vs, rfl, ha, hv⟩ := okL_cons hv
  obtain ⟨b, vs, rfl, hb, hv⟩ := okL_cons hv
  obtain ⟨c, vs, rfl, hc, hv⟩ := okL_cons hv
  obtain ⟨d, vs, rfl, hd, hv⟩ := okL_cons hv
  cases okL_nil hv
  obtain ⟨x, rfl, -⟩ := okInt tab3 rfl ha
  obtain ⟨y, rfl, -⟩ := okInt tab3 rfl hb
  obtain ⟨z, rfl, -⟩ := okInt tab3 rfl hc
  obtain ⟨p, rfl, -⟩ := okIv hd
  exact ⟨⟨x, y, z, p⟩, rfl, trivial⟩
theorem okIL {n : Nat} {v : AV} (h : OkA tab (n + 4) 22 v) : ∃ l : List Ins, v = .slice (l.map insA) false ∧ l.length ≤ 140737488351232 := by
  obtain ⟨l, rfl, _, hl⟩ := okRow (f := insA) tab22 rfl tab63 (by decide) (fun x hx => okIns hx) h
  exact ⟨l, rfl, hl⟩
theorem okInts {n : Nat} {v : AV} (h : OkA tab (n + 2) 23 v) : ∃ l : List Int, v = ints l ∧ l.length ≤ 140737488351232 := by
  obtain ⟨l, rfl, _, hl⟩ := okRow (f := fun k : Int => .int .i64 k) (p := fun _ => True) tab23 rfl tab3 (by decide) (fun x hx => by obtain ⟨y, rfl, -⟩ := okInt tab3 rfl hx; exact ⟨y, rfl, trivial⟩) h
  exact ⟨l, rfl, hl⟩
theorem okTp {n : Nat} {v : AV} (h : OkA tab (n + 5) 25 v) : ∃ c : Rt, v = rtA c ∧ c.L.length ≤ 140737488351232 ∧ c.out.length ≤ 140737488351232 := by
  obtain ⟨vs, rfl, hv⟩ := okStruct tab25 rfl h
  obtain ⟨a, vs, rfl, ha, hv⟩ := okL_cons hv
  obtain ⟨b, vs, rfl, hb, hv⟩ := okL_cons hv
  obtain ⟨c, vs, rfl, hc, hv⟩ := okL_cons hv
  cases okL_nil hv
  obtain ⟨x, rfl, -⟩ := okInt tab3 rfl ha
  obtain ⟨l, rfl, hl⟩ := okIL hb
  obtain ⟨o, rfl, ho⟩ := okInts hc
  exact ⟨⟨x, l, o⟩, rfl, hl, ho⟩
theorem okFq {n : Nat} {v : AV} (h : OkA tab (n + 7) 29 v) : ∃ q, v = fqA q ∧ FqOk q := by
  obtain ⟨vs, rfl, hv⟩ := okStruct tab29 rfl h
  obtain ⟨a, vs, rfl, ha, hv⟩ := okL_cons hv
  obtain ⟨b, vs, rfl, hb, hv⟩ := okL_cons hv
  obtain ⟨c, vs, rfl, hc, hv⟩ := okL_cons hv
  obtain ⟨d, vs, rfl, hd, hv⟩ := okL_cons hv
  obtain ⟨e, vs, rfl, he, hv⟩ := okL_cons hv
  cases okL_nil hv
  obtain ⟨C, rfl, h1, h2⟩ := okTp ha
  obtain ⟨x, rfl, h4⟩ := okBx hb
  obtain ⟨o, rfl, ho⟩ := okInt tab5 rfl hc
  obtain ⟨t, rfl, ht⟩ := okInt tab21 rfl hd
  obtain ⟨l, rfl, hl⟩ := okInt tab27 rfl he
  exact ⟨⟨C, x, o, t, l⟩, rfl, ⟨by show C.L.length ≤ _; omega, by show C.out.length ≤ _; omega, by show x.length ≤ _; omega, wfU8 ho, wfI32 ht, wfU16 hl⟩⟩
end Go.Proofs.YtfjjckepnkkgjaaGreatDoor.Arm

namespace Go.Proofs.YtfjjckepnkkgjaaGreatDoor.Arm
open Go.Arm Go.Pl Go.ChangeShapes Go.WideShapes Go.ChangeAt Go.RowKit
theorem own : ownKnob Tryz.prog.godebug = none := by kernel_rfl
theorem laidOut : laidOutB Tryz.prog = true := by kernel_rfl
def laidL : List (String × DataW Unit) := [("armillary/interval.products", Rows.laid_armillary_interval_products), ("armillary/interval.quotients", Rows.laid_armillary_interval_quotients), ("armillary/tape.ops", Rows.laid_armillary_tape_ops)]
theorem door_met (os : Os) (args : Array Value) : laidMetH Tryz.prog laidL ((World.doorLaid Tryz.prog 600 os).forCall (fun _ _ => 0) ⟨#[], args, []⟩).memory :=
  laidMetH_of_parts3 (fuel := 12) (laidMet_of_run' 8 (by kernel_rfl) (by kernel_rfl)) (by kernel_rfl) (by kernel_rfl)
def fnames : List (List UInt8 × FuncId) := [([97, 114, 109, 105, 108, 108, 97, 114, 121, 47, 105, 110, 116, 101, 114, 118, 97, 108, 46, 104, 104], 255), ([97, 114, 109, 105, 108, 108, 97, 114, 121, 47, 105, 110, 116, 101, 114, 118, 97, 108, 46, 108, 108], 256), ([97, 114, 109, 105, 108, 108, 97, 114, 121, 47, 105, 110, 116, 101, 114, 118, 97, 108, 46, 108, 104], 257), ([97, 114, 109, 105, 108, 108, 97, 114, 121, 47, 105, 110, 116, 101, 114, 118, 97, 108, 46, 104, 108], 258), ([97, 114, 109, 105, 108, 108, 97, 114, 121, 47, 105, 110, 116, 101, 114, 118, 97, 108, 46, 78, 101, 103], 184), ([97, 114, 109, 105, 108, 108, 97, 114, 121, 47, 105, 110, 116, 101, 114, 118, 97, 108, 46, 83, 113, 117, 97, 114, 101], 186), ([97, 114, 109, 105, 108, 108, 97, 114, 121, 47, 116, 97, 112, 101, 46, 114, 111, 111, 116], 259), ([97, 114, 109, 105, 108, 108, 97, 114, 121, 47, 105, 110, 116, 101, 114, 118, 97, 108, 46, 65, 100, 100], 175), ([97, 114, 109, 105, 108, 108, 97, 114, 121, 47, 105, 110, 116, 101, 114, 118, 97, 108, 46, 83, 117, 98], 185), ([97, 114, 109, 105, 108, 108, 97, 114, 121, 47, 105, 110, 116, 101, 114, 118, 97, 108, 46, 77, 117, 108], 174), ([97, 114, 109, 105, 108, 108, 97, 114, 121, 47, 105, 110, 116, 101, 114, 118, 97, 108, 46, 68, 105, 118], 207)]
theorem fnames_ok : ∀ p ∈ fnames, ((List.range Tryz.prog.funcs.size).filter fun f => (Tryz.prog.funcs[f]?).any (·.name.toUTF8.data.toList == p.1)) = [p.2] := by
  intro p hp
  simp only [fnames, List.mem_cons, List.not_mem_nil, or_false] at hp
  rcases hp with rfl | rfl | rfl | rfl | rfl | rfl | rfl | rfl | rfl | rfl | rfl <;> kernel_rfl
theorem fnames_ne : ∀ p ∈ fnames, p.1 ≠ [] := by
  intro p hp
  simp only [fnames, List.mem_cons, List.not_mem_nil, or_false] at hp
  rcases hp with rfl | rfl | rfl | rfl | rfl | rfl | rfl | rfl | rfl | rfl | rfl <;> exact List.cons_ne_nil _ _
theorem gProd : Tryz.prog.globalNamed "armillary/interval.products" = some 0 := by kernel_rfl
theorem gQuot : Tryz.prog.globalNamed "armillary/interval.quotients" = some 2 := by kernel_rfl
theorem gOps : Tryz.prog.globalNamed "armillary/tape.ops" = some 1 := by kernel_rfl
theorem glob_met {W : World} (h : laidMetH Tryz.prog laidL W) : ∀ g cs, E.Γ g = some cs → VR [] W (.eptr cs 0) (.pointer (some ⟨g, 0, none⟩)) := by
  intro g cs hg
  have hg' : glob g = some cs := hg
  unfold glob at hg'
  split at hg'
  · cases hg'
    exact glob_of (P := Tryz.prog) (T := tab) (L := fnames) tab_ok h (name := "armillary/interval.products") (List.mem_cons_self ..) gProd (t := 238) (by kernel_rfl) (m := 8) (by kernel_rfl) fnames_ok fnames_ne (by kernel_rfl) (by decide)
  · cases hg'
    exact glob_of (P := Tryz.prog) (T := tab) (L := fnames) tab_ok h (name := "armillary/interval.quotients") (List.mem_cons_of_mem _ (List.mem_cons_self ..)) gQuot (t := 252) (by kernel_rfl) (m := 8) (by kernel_rfl) fnames_ok fnames_ne (by kernel_rfl) (by decide)
  · cases hg'
    exact glob_of (P := Tryz.prog) (T := tab) (L := fnames) tab_ok h (name := "armillary/tape.ops") (List.mem_cons_of_mem _ (List.mem_cons_of_mem _ (List.mem_cons_self ..))) gOps (t := 245) (by kernel_rfl) (m := 8) (by kernel_rfl) fnames_ok fnames_ne (by kernel_rfl) (by decide)
  · cases hg'
end Go.Proofs.YtfjjckepnkkgjaaGreatDoor.Arm

namespace Go.Proofs.YtfjjckepnkkgjaaGreatDoor.Arm
open Go.Arm Go.Pl
theorem app_gen {H : AH} {t e : TypeId} {i ie : TI} {x : AV} {l : List AV} {b n : Nat} {f : Bool} (hi : tab t = some i) (hd : i.d = .slice e) (he : tab e = some ie) (h1 : ie.size = 1) (hx : ([x].all fun y => y.cells.length == 1 && y.cells.all okc) = true) (hz : (vcells ie.zero).map List.length = some 1) (hb : ie.bytes ≤ 1000) (hn : l.length = n) (hnb : n ≤ 1000000000) (hH : H[b]? = some (.row true 1 l)) :
    appendA tab H t (.ref b n) (.slice [x] f) = some (.ref b (n + 1), H.set b (.row true 1 (l ++ [x]))) := by
  subst hn
  have h2 : appendA tab H t (.ref b l.length) (.slice [x] f) = growA ie H (.ref b l.length) [x] := by
    simp only [appendA, hi, hd, he, els]
    rw [if_neg (by simp), if_pos ⟨by omega, by rw [h1]; exact hz, by rw [h1]; exact hx⟩]
  have hk : (l.length + 1) * ie.bytes ≤ 1000000001 * 1000 := Nat.mul_le_mul (by omega) hb
  rw [h2]
  simp only [growA, hH]
  rw [if_pos (by simp [h1]; omega)]
  simp [h1]
end Go.Proofs.YtfjjckepnkkgjaaGreatDoor.Arm

namespace Go.Proofs.YtfjjckepnkkgjaaGreatDoor.Arm
open Go.Arm Go.Pl
structure MemY (T : Tp) (t : I) (B : Nat) (J : AH) (tag : Nat → Nat) (co cl : List AV) (out l : List (List I)) : Prop where
  h0 : J[0]? = some (.row true 3 [tpA T])
  h1 : J[1]? = some (.row true 2 [iv t])
  h2 : J[2]? = some (.row true 1 co)
  h3 : J[3]? = some (.row true 1 cl)
  ho : Fam (.slice [] true) tag B J 0 co out
  hl : Fam (.slice [] true) tag B J 1 cl l
section
variable {T : Tp} {t : I} {B i b : Nat} {J : AH} {tag : Nat → Nat} {co cl : List AV} {out l : List (List I)} {q : List I} {p : I}
theorem MemY.len (h : MemY T t B J tag co cl out l) : 4 ≤ J.length := (List.getElem?_eq_some_iff.1 h.h3).1
theorem MemY.app (h : MemY T t B J tag co cl out l) (K : AH) : MemY T t B (J ++ K) tag co cl out l :=
  ⟨get_old h.h0, get_old h.h1, get_old h.h2, get_old h.h3, h.ho.app K, h.hl.app K⟩
theorem MemY.lN (h : MemY T t B J tag co cl out l) (hJ : 5 ≤ J.length) :
    MemY T t B ((J ++ [rowB (q ++ [p])]).set 3 (.row true 1 (cl.set i (.ref (B + J.length) (q.length + 1))))) (updT tag J.length (2 * i + 1)) co (cl.set i (.ref (B + J.length) (q.length + 1))) out (l.set i (q ++ [p])) := by
  refine ⟨?_, ?_, ?_, ?_, ?_, ?_⟩
  · rw [List.getElem?_set_ne (by omega)]; exact get_old h.h0
  · rw [List.getElem?_set_ne (by omega)]; exact get_old h.h1
  · rw [List.getElem?_set_ne (by omega)]; exact get_old h.h2
  · rw [List.getElem?_set_self (by simp; omega)]
  · exact h.ho.otherN.set (by omega)
  · exact (h.hl.pushN (by omega)).set (by omega)
theorem MemY.lR (h : MemY T t B J tag co cl out l) (hb : J[b]? = some (rowB q)) (h5 : 5 ≤ b) (ht : tag b = 2 * i + 1) :
    MemY T t B ((J.set b (rowB (q ++ [p]))).set 3 (.row true 1 (cl.set i (.ref (B + b) (q.length + 1))))) tag co (cl.set i (.ref (B + b) (q.length + 1))) out (l.set i (q ++ [p])) := by
  have hJ := h.len
  refine ⟨?_, ?_, ?_, ?_, ?_, ?_⟩
  · rw [List.getElem?_set_ne (by omega), List.getElem?_set_ne (by omega)]; exact h.h0
  · rw [List.getElem?_set_ne (by omega), List.getElem?_set_ne (by omega)]; exact h.h1
  · rw [List.getElem?_set_ne (by omega), List.getElem?_set_ne (by omega)]; exact h.h2
  · rw [List.getElem?_set_self (by simp; omega)]
  · exact (h.ho.otherR ht (fun j => by omega)).set (by omega)
  · exact (h.hl.pushR hb h5 ht).set (by omega)
theorem MemY.oN (h : MemY T t B J tag co cl out l) (hJ : 5 ≤ J.length) :
    MemY T t B ((J ++ [rowB (q ++ [p])]).set 2 (.row true 1 (co.set i (.ref (B + J.length) (q.length + 1))))) (updT tag J.length (2 * i + 0)) (co.set i (.ref (B + J.length) (q.length + 1))) cl (out.set i (q ++ [p])) l := by
  refine ⟨?_, ?_, ?_, ?_, ?_, ?_⟩
  · rw [List.getElem?_set_ne (by omega)]; exact get_old h.h0
  · rw [List.getElem?_set_ne (by omega)]; exact get_old h.h1
  · rw [List.getElem?_set_self (by simp; omega)]
  · rw [List.getElem?_set_ne (by omega)]; exact get_old h.h3
  · exact (h.ho.pushN (by omega)).set (by omega)
  · exact h.hl.otherN.set (by omega)
theorem MemY.oR (h : MemY T t B J tag co cl out l) (hb : J[b]? = some (rowB q)) (h5 : 5 ≤ b) (ht : tag b = 2 * i + 0) :
    MemY T t B ((J.set b (rowB (q ++ [p]))).set 2 (.row true 1 (co.set i (.ref (B + b) (q.length + 1))))) tag (co.set i (.ref (B + b) (q.length + 1))) cl (out.set i (q ++ [p])) l := by
  have hJ := h.len
  refine ⟨?_, ?_, ?_, ?_, ?_, ?_⟩
  · rw [List.getElem?_set_ne (by omega), List.getElem?_set_ne (by omega)]; exact h.h0
  · rw [List.getElem?_set_ne (by omega), List.getElem?_set_ne (by omega)]; exact h.h1
  · rw [List.getElem?_set_self (by simp; omega)]
  · rw [List.getElem?_set_ne (by omega), List.getElem?_set_ne (by omega)]; exact h.h3
  · exact (h.ho.pushR hb h5 ht).set (by omega)
  · exact (h.hl.otherR ht (fun j => by omega)).set (by omega)
end
def inR (x : List I) (i : Nat) : List AV := (List.range i).map fun j => .slice [iv (atN x j)] true
theorem inR_succ (x : List I) (i : Nat) : inR x (i + 1) = inR x i ++ [.slice [iv (atN x i)] true] := by simp [inR, List.range_succ]
theorem inR_len (x : List I) (i : Nat) : (inR x i).length = i := by simp [inR]
theorem inR_all (x : List I) (n : Nat) : inR x n = inC x n n := by
  unfold inR inC
  apply List.map_congr_left
  intro j hj
  rw [if_pos (List.mem_range.1 hj)]
def gK (H : AH) (n m order k : Nat) (fr : AFr) : Prop := fr 3 = .int .i64 order ∧ fr 4 = .ptr H.length 1 0 0 ∧ fr 6 = .ptr (H.length + 1) 1 0 0 ∧ fr 9 = .ref (H.length + 2) n ∧ fr 11 = .ref (H.length + 3) m ∧ fr 13 = .int .i64 k ∧ k ≤ order
def SyI (T : Tp) (x : List I) (t : I) (order : Nat) (H : AH) (i : Nat) (fr : AFr) (H' : AH) : Prop :=
  fr 1 = bx x ∧ fr 3 = .int .i64 order ∧ fr 4 = .ptr H.length 1 0 0 ∧ fr 6 = .ptr (H.length + 1) 1 0 0 ∧ fr 10 = .int .i64 i ∧ i ≤ T.n ∧
  ((i = 0 ∧ fr 9 = .slice [] true ∧ H' = H ++ [.row true 3 [tpA T], .row true 2 [iv t]]) ∨ (1 ≤ i ∧ fr 9 = .ref (H.length + 2) i ∧ H' = H ++ [.row true 3 [tpA T], .row true 2 [iv t], .row true 1 (inR x i)]))
def SyJ (T : Tp) (x : List I) (t : I) (order : Nat) (H : AH) (i : Nat) (fr : AFr) (H' : AH) : Prop :=
  fr 3 = .int .i64 order ∧ fr 4 = .ptr H.length 1 0 0 ∧ fr 6 = .ptr (H.length + 1) 1 0 0 ∧ fr 9 = .ref (H.length + 2) T.n ∧ fr 12 = .int .i64 i ∧ i ≤ T.L.length ∧
  ((i = 0 ∧ fr 11 = .slice [] true ∧ H' = H ++ [.row true 3 [tpA T], .row true 2 [iv t], .row true 1 (inC x T.n T.n)]) ∨ (1 ≤ i ∧ fr 11 = .ref (H.length + 3) i ∧ H' = H ++ [.row true 3 [tpA T], .row true 2 [iv t], .row true 1 (inC x T.n T.n), .row true 1 (List.replicate i (.slice [] true))]))
def SyK (T : Tp) (x : List I) (t : I) (order : Nat) (H : AH) (k : Nat) (fr : AFr) (H' : AH) : Prop :=
  gK H T.n T.L.length order k fr ∧ ∃ J tag co cl, H' = H ++ J ∧ MemY T t H.length J tag co cl (expS T x t k).2 (expS T x t k).1
def SyL (T : Tp) (x : List I) (t : I) (order : Nat) (H : AH) (k i : Nat) (fr : AFr) (H' : AH) : Prop :=
  gK H T.n T.L.length order k fr ∧ fr 14 = .int .i64 i ∧ i ≤ T.L.length ∧
  ∃ J tag co cl, H' = H ++ J ∧ (i = 0 ∨ 5 ≤ J.length) ∧ MemY T t H.length J tag co cl (expS T x t k).2 (stepL T.L (expS T x t k).2 t k (expS T x t k).1 i)
def SyO (T : Tp) (x : List I) (t : I) (order : Nat) (H : AH) (k i : Nat) (fr : AFr) (H' : AH) : Prop :=
  gK H T.n T.L.length order k fr ∧ fr 16 = .int .i64 i ∧ i ≤ T.out.length ∧
  ∃ J tag co cl, H' = H ++ J ∧ 5 ≤ J.length ∧ MemY T t H.length J tag co cl (stepO T (expS T x t (k + 1)).1 k (expS T x t k).2 i) (expS T x t (k + 1)).1
theorem app_rows0 {H : AH} {q : I} {f g : Bool} {v : AV} (h : v = .nilslice ∨ v = .slice [] true) : appendA tab H 208 v (.slice [.slice [iv q] g] f) = some (.ref H.length 1, H ++ [.row true 1 [.slice [iv q] g]]) := by
  rcases h with rfl | rfl <;> simp [appendA, els, growA, growNew, okc]
theorem app_rows0e {H : AH} {f : Bool} : appendA tab H 208 (.slice [] true) (.slice [.slice [] true] f) = some (.ref H.length 1, H ++ [.row true 1 [.slice [] true]]) := by
  simp [appendA, els, growA, growNew, okc]
theorem app_rows {H : AH} {q : I} {l : List AV} {b n : Nat} {f g : Bool} (hn : l.length = n) (hnb : n ≤ 1000000000) (hH : H[b]? = some (.row true 1 l)) : appendA tab H 208 (.ref b n) (.slice [.slice [iv q] g] f) = some (.ref b (n + 1), H.set b (.row true 1 (l ++ [.slice [iv q] g]))) :=
  app_gen tab208 rfl tab26 rfl (by simp [okc]) rfl (by decide) hn hnb hH
theorem app_rowse {H : AH} {l : List AV} {b n : Nat} {f : Bool} (hn : l.length = n) (hnb : n ≤ 1000000000) (hH : H[b]? = some (.row true 1 l)) : appendA tab H 208 (.ref b n) (.slice [.slice [] true] f) = some (.ref b (n + 1), H.set b (.row true 1 (l ++ [.slice [] true]))) :=
  app_gen tab208 rfl tab26 rfl (by simp [okc]) rfl (by decide) hn hnb hH
set_option maxHeartbeats 4000000 in
theorem r9Coef (T : Tp) (x : List I) (t : I) (order : Nat) (hT : tpOk T) (hx : allV x) (hxn : x.length = T.n) (hn : 1 ≤ T.n) (ht : vB t = true) (ho : 1 ≤ order ∧ order ≤ 1000) (H H' : AH) (p : Nat)
    (hd : ∀ j, j ≤ T.n → H[p + j]? = some .dead) (hlen : H'.length = H.length) (g1 : H'[p]? = some (.row true 1 (refsN p (coefS T x t order)))) (g2 : ∀ (j : Nat) q, (coefS T x t order)[j]? = some q → H'[p + 1 + j]? = some (rowB q)) (g3 : ∀ c, c < H.length → (c < p ∨ p + T.n < c) → H'[c]? = H[c]?) :
    Sound E 152 [tpA T, bx x, iv t, .int .i64 order] H (.ret (.ref p T.n)) H' := by
  refine soundX_of_awp tabOk mixed Tryz.func152 rfl (by rfl) Tryz.ntmps152 (by kernel_rfl) (by simp) ?_
  have hsm := hT.small
  have hL1 : 1 ≤ T.L.length := by
    have h1 : 0 < T.out.length := by rw [hT.len]; omega
    have := hT.out _ (List.getElem_mem h1)
    omega
  simp [tpA]
  refine loop_count (SyI T x t order H) (fun i => T.n - i) 0 ⟨by simp, by simp, by simp, by simp, by simp, by omega, .inl ⟨rfl, by simp, by simp [tpA]⟩⟩ ?_
  rintro i fr H1 ⟨f1, f3, f4, f6, f10, hi, hst⟩
  have hj0 : ∃ J0, H1 = H ++ (.row true 3 [tpA T] :: J0) := by
    rcases hst with ⟨_, _, h⟩ | ⟨_, _, h⟩ <;> exact ⟨_, h⟩
  obtain ⟨J0, hJ0⟩ := hj0
  subst hJ0
  simp [f4, f10, tpA]
  refine branch (fun hc => ?_) (fun hc => ?_)
  · have hlt : i < T.n := by simpa using hc
    obtain ⟨q, hq⟩ := get_lt (l := x) (i := i) (by omega)
    have hqE : ∀ h, x[i]'h = q := fun h => (List.getElem?_eq_some_iff.1 hq).2
    have hqa : atN x i = q := by simp [atN, hq]
    have w2 : IntKind.i64.wrap ((i : Int) + 1) = ((i + 1 : Nat) : Int) := by rw [wrap64 (by omega) (by omega)]; omega
    have hs := inR_succ x i
    rw [hqa] at hs
    simp only [iv_eq] at hs
    rcases hst with ⟨rfl, f9, he⟩ | ⟨h1, f9, he⟩
    · have he := List.cons.inj (List.append_cancel_left he)
      rw [he.2]
      have w1 : IntKind.i64.wrap 1 = 1 := wrap64 (by omega) (by omega)
      simp [f1, f9, f10, bx, hq, hqE]
      refine bind_some (app_rows0 (.inr rfl)) ?_
      simp [f10, w1]
      refine ⟨1, by show T.n - 1 < T.n - 0; omega, by simp [f1, bx], by simp [f3], by simp [f4], by simp [f6], by simp, by omega, .inr ⟨by omega, by simp, by simp [hqa, tpA, inR]⟩⟩
    · have he := List.cons.inj (List.append_cancel_left he)
      rw [he.2]
      simp [f1, f9, f10, bx, hq, hqE]
      refine bind_some (app_rows (l := inR x i) (inR_len x i) (by omega) (by simp)) ?_
      simp [f10, w2]
      refine ⟨i + 1, by show T.n - (i + 1) < T.n - i; omega, by simp [f1, bx], by simp [f3], by simp [f4], by simp [f6], by simp, by omega, .inr ⟨by omega, by simp, by simp [hs, tpA]⟩⟩
  · have hin : i = T.n := by have : ¬ i < T.n := by simpa using hc
                             omega
    subst hin
    rcases hst with ⟨h0, _, _⟩ | ⟨h1, f9, he⟩
    · omega
    have he := List.cons.inj (List.append_cancel_left he)
    rw [he.2, inR_all]
    simp
    refine loop_count (SyJ T x t order H) (fun i => T.L.length - i) 0 ⟨by simp [f3], by simp [f4], by simp [f6], by simp [f9], by simp, by omega, .inl ⟨rfl, by simp, by simp [tpA]⟩⟩ ?_
    clear f1 f3 f4 f6 f9 f10 hi hc h1
    rintro i fr H1 ⟨f3, f4, f6, f9, f12, hi, hst⟩
    have hj0 : ∃ J0, H1 = H ++ (.row true 3 [tpA T] :: J0) := by
      rcases hst with ⟨_, _, h⟩ | ⟨_, _, h⟩ <;> exact ⟨_, h⟩
    obtain ⟨J0, hJ0⟩ := hj0
    subst hJ0
    simp [f4, f12, tpA]
    refine branch (fun hc => ?_) (fun hc => ?_)
    · have hlt : i < T.L.length := by simpa using hc
      have w2 : IntKind.i64.wrap ((i : Int) + 1) = ((i + 1 : Nat) : Int) := by rw [wrap64 (by omega) (by omega)]; omega
      rcases hst with ⟨rfl, f11, he⟩ | ⟨h1, f11, he⟩
      · have he := List.cons.inj (List.append_cancel_left he)
        rw [he.2]
        have w1 : IntKind.i64.wrap 1 = 1 := wrap64 (by omega) (by omega)
        simp [f11, f12]
        refine bind_some (app_rows0e) ?_
        simp [f12, w1]
        refine ⟨1, by show T.L.length - 1 < T.L.length - 0; omega, by simp [f3], by simp [f4], by simp [f6], by simp [f9], by simp, by omega, .inr ⟨by omega, by simp, by simp [tpA]⟩⟩
      · have he := List.cons.inj (List.append_cancel_left he)
        rw [he.2]
        simp [f11, f12]
        refine bind_some (app_rowse (l := List.replicate i (.slice [] true)) (by simp) (by omega) (by simp)) ?_
        simp [f12, w2]
        refine ⟨i + 1, by show T.L.length - (i + 1) < T.L.length - i; omega, by simp [f3], by simp [f4], by simp [f6], by simp [f9], by simp, by omega, .inr ⟨by omega, by simp, by simp [tpA, List.replicate_succ']⟩⟩
    · have hin : i = T.L.length := by have : ¬ i < T.L.length := by simpa using hc
                                      omega
      subst hin
      rcases hst with ⟨h0, _, _⟩ | ⟨h1, f11, he⟩
      · omega
      have he := List.cons.inj (List.append_cancel_left he)
      rw [he.2]
      simp
      refine loop_count (SyK T x t order H) (fun k => order - k) 0 ⟨⟨by simp [f3], by simp [f4], by simp [f6], by simp [f9], by simp [f11], by simp, by omega⟩, _, fun _ => 0, _, _, rfl, ⟨by simp [tpA], rfl, rfl, rfl, fam_out0 x T.n, fam_l0 _⟩⟩ ?_
      clear f3 f4 f6 f9 f11 f12 hi hc h1
      rintro k fr H1 ⟨⟨f3, f4, f6, f9, f11, f13, hk⟩, J, tag, co, cl, rfl, hM⟩
      simp [f3, f13]
      refine branch (fun hc => ?_) (fun hc => ?_)
      · have hklt : k < order := by simpa using hc
        simp
        have wk : IntKind.i64.wrap ((k : Int) + 1) = ((k + 1 : Nat) : Int) := by rw [wrap64 (by omega) (by omega)]; omega
        refine loop_count (SyL T x t order H k) (fun i => T.L.length - i) 0 ⟨⟨by simp [f3], by simp [f4], by simp [f6], by simp [f9], by simp [f11], by simp [f13], by omega⟩, by simp, by omega, J, tag, co, cl, rfl, .inl rfl, hM⟩ ?_
        clear f3 f4 f6 f9 f11 f13 hM
        clear J tag co cl
        rintro i fr H1 ⟨⟨f3, f4, f6, f9, f11, f13, _⟩, f14, hi, J, tag, co, cl, rfl, hJ5, hM⟩
        have h0' := hM.h0
        simp only [tpA] at h0'
        simp [f4, f14, h0']
        obtain ⟨e1, e2⟩ := expS_ok hT hx ht k
        have hrl := stepL_ok hT ht e1 e2.val i hi
        refine branch (fun hc => ?_) (fun hc => ?_)
        · have hlt : i < T.L.length := by simpa using hc
          obtain ⟨y, hy⟩ := get_lt hlt
          have hyE : ∀ h, T.L[i]'h = y := fun h => (List.getElem?_eq_some_iff.1 hy).2
          have hins := hT.ins i y hy
          have w2 : IntKind.i64.wrap ((i : Int) + 1) = ((i + 1 : Nat) : Int) := by rw [wrap64 (by omega) (by omega)]; omega
          have hnext := stepL_succ (out := (expS T x t k).2) (l := (expS T x t k).1) (t := t) (k := k) hy
          have hfin : ∀ (J' : AH) (tag' : Nat → Nat) (co' cl' : List AV), 5 ≤ J'.length → MemY T t H.length J' tag' co' cl' (expS T x t k).2 (stepL T.L (expS T x t k).2 t k (expS T x t k).1 (i + 1)) → ∀ fr' : AFr, gK H T.n T.L.length order k fr' → fr' 14 = .int .i64 (i + 1 : Nat) → Again (SyL T x t order H k) (fun i => T.L.length - i) i fr' (H ++ J') :=
            fun J' tag' co' cl' h5 hM' fr' g1 g2 => ⟨i + 1, by show T.L.length - (i + 1) < T.L.length - i; omega, g1, g2, by omega, J', tag', co', cl', rfl, .inr h5, hM'⟩
          generalize hL : stepL T.L (expS T x t k).2 t k (expS T x t k).1 i = l at *
          generalize hO : (expS T x t k).2 = out at *
          rw [hnext] at hfin
          have hil : i < l.length := by rw [hrl.len]; exact hlt
          obtain ⟨q, hq⟩ := get_lt hil
          have hqr : rowN l (i : Int) = q := rowN_get hq
          have hqk : q.length = k := by have := hrl.row i hlt; rw [hqr, if_neg (by omega)] at this; exact this
          obtain ⟨v, hv⟩ := get_lt (l := cl) (i := i) (by rw [hM.hl.1]; exact hil)
          have hvE : ∀ h, cl[i]'h = v := fun h => (List.getElem?_eq_some_iff.1 hv).2
          have hcll : cl.length = T.L.length := by rw [hM.hl.1, hrl.len]
          have hMl := hM.len
          obtain ⟨o, a, b, c⟩ := y
          have hM2 : ∀ z : I, MemY T t H.length (J ++ [.row true 2 [iv z]]) tag co cl out l := fun z => hM.app _
          have hlF := fun z : I => hM.hl.2 i v q hv hq
          have hJl : ∀ z : I, (J ++ [ABlk.row true 2 [iv z]]).length = J.length + 1 := fun z => by simp
          have m3 := hM.h3
          have h1' := hM.h1
          simp only [iv_eq] at h1'
          have h1b := hM.h1
          simp [f4, f14, h0', ↓old h0', hy, hyE, insA]
          refine branch (fun ho2 => ?_) (fun ho2 => ?_)
          · have ho2 : o = 2 := by simpa using ho2
            subst ho2
            have hins : 0 ≤ a ∧ a < T.n := by rcases hins with h | h | h | h | h <;> simp only at h <;> omega
            obtain ⟨ka, rfl⟩ : ∃ ka : Nat, a = ka := ⟨a.toNat, by omega⟩
            obtain ⟨r, hr⟩ := get_lt (l := out) (i := ka) (by rw [e2.len]; omega)
            have hrr : rowN out (ka : Int) = r := rowN_get hr
            have hrk : r.length = k + 1 := by have := e2.row ka (by omega); rw [hrr, if_neg (by omega)] at this; exact this
            obtain ⟨u, hu⟩ := get_lt (l := co) (i := ka) (by rw [hM.ho.1, e2.len]; omega)
            have huE : ∀ h, co[ka]'h = u := fun h => (List.getElem?_eq_some_iff.1 hu).2
            have hcol : co.length = T.n := by rw [hM.ho.1, e2.len]
            obtain ⟨z, hz⟩ := get_lt (l := r) (i := k) (by omega)
            have hzE : ∀ h, r[k]'h = z := fun h => (List.getElem?_eq_some_iff.1 hz).2
            have hcv : coefV ⟨2, ka, b, c⟩ out l t k i = z := by simp [coefV, hrr, atN, hz]
            rw [hcv, hqr] at hfin
            have hka : ka < T.n := by omega
            have hkk : (k : Int) < (k : Int) + 1 := by omega
            have hkn : k < k + 1 := by omega
            have hoF := hM.ho.2 ka u r hu hr
            have m2 := hM.h2
            rcases hoF with (⟨h0, _⟩ | ⟨_, z', h0, hu'⟩) | ⟨bo, hu', g2o, g5o, gto⟩
            · rw [h0] at hrk; simp at hrk
            · have hk0 : k = 0 := by rw [h0] at hrk; simpa using hrk.symm
              subst hk0
              have hzz : z' = z := by rw [h0] at hz; simpa using hz
              subst hzz
              subst hu'
              have hlF := hlF z'
              have hM2 := hM2 z'
              have hJl := hJl z'
              simp [f4, f9, f13, f14, h0', ↓old h0', hy, hyE, insA, m2, ↓old m2, hu, huE, hcol, hka]
              simp only [iv_eq] at hlF hM2 hJl
              generalize hJ2 : J ++ [ABlk.row true 2 [.agg [.int .i64 z'.1, .int .i64 z'.2]]] = J2 at *
              have h16 : J2[J.length]? = some (.row true 2 [.agg [.int .i64 z'.1, .int .i64 z'.2]]) := by rw [← hJ2]; simp
              have n3 := hM2.h3
              have hJ2n : J2 ≠ [] := by rintro rfl; simp at hJl
              rcases hlF with (hn | ⟨hn, _⟩) | ⟨bl, rfl, g2l0, g5l, gtl⟩
              · obtain ⟨h0q, rfl⟩ := hn
                subst h0q
                simp [f11, f14, hcll, hlt, hv, hvE, n3, h16]
                refine bind_some (app_new0 (.inr rfl)) ?_
                simp [f11, f14, hcll, hlt, hv, hvE, n3, get_old n3]
                refine endD [(4, 10), (5, 10), (9, 10)] (by rfl) (by simp [okW, note, Eff.triv, Eff.wr, Eff.none, upTo, newAt]; omega) ?_
                simp [f14, w2]
                exact hfin _ _ _ _ (by simp; omega) (hM2.lN (i := i) (q := []) (p := z') (by omega)) _ ⟨by simp [f3], by simp [f4], by simp [f6], by simp [f9], by simp [f11], by simp [f13], by omega⟩ (by simp)
              · cases hn
              · have hbl := (List.getElem?_eq_some_iff.1 g2l0).1
                have g2l : J2[bl]? = some (rowB q) := by rw [← hJ2]; exact get_old g2l0
                have m4b : (J2.set bl (rowB (q ++ [z'])))[3]? = some (.row true 1 cl) := by rw [List.getElem?_set_ne (by omega)]; exact n3
                simp [f11, f14, hcll, hlt, hv, hvE, n3, h16]
                refine bind_some (app_rowB (by omega) (by simpa using g2l)) ?_
                simp [f11, f14, hcll, hlt, hv, hvE, m4b]
                refine endD [(4, 10), (5, 10), (9, 10)] (by rfl) (by simp [okW, note, Eff.triv, Eff.wr, Eff.none, upTo, newAt]; omega) ?_
                simp [f14, w2]
                exact hfin _ _ _ _ (by simp; omega) (hM2.lR (i := i) (q := q) (p := z') g2l g5l gtl) _ ⟨by simp [f3], by simp [f4], by simp [f6], by simp [f9], by simp [f11], by simp [f13], by omega⟩ (by simp)
            · subst hu'
              have g2o' := g2o
              simp only [rowB] at g2o'
              have hlF := hlF z
              have hM2 := hM2 z
              have hJl := hJl z
              simp [f4, f9, f13, f14, h0', ↓old h0', hy, hyE, insA, m2, ↓old m2, hu, huE, hcol, hka, g2o', ↓old g2o', hz, hzE, hrk, hkk, hkn]
              simp only [iv_eq] at hlF hM2 hJl
              generalize hJ2 : J ++ [ABlk.row true 2 [.agg [.int .i64 z.1, .int .i64 z.2]]] = J2 at *
              have h16 : J2[J.length]? = some (.row true 2 [.agg [.int .i64 z.1, .int .i64 z.2]]) := by rw [← hJ2]; simp
              have n3 := hM2.h3
              have hJ2n : J2 ≠ [] := by rintro rfl; simp at hJl
              rcases hlF with (hn | ⟨hn, _⟩) | ⟨bl, rfl, g2l0, g5l, gtl⟩
              · obtain ⟨h0q, rfl⟩ := hn
                subst h0q
                simp [f11, f14, hcll, hlt, hv, hvE, n3, h16]
                refine bind_some (app_new0 (.inr rfl)) ?_
                simp [f11, f14, hcll, hlt, hv, hvE, n3, get_old n3]
                refine endD [(4, 10), (5, 10), (9, 10)] (by rfl) (by simp [okW, note, Eff.triv, Eff.wr, Eff.none, upTo, newAt]; omega) ?_
                simp [f14, w2]
                exact hfin _ _ _ _ (by simp; omega) (hM2.lN (i := i) (q := []) (p := z) (by omega)) _ ⟨by simp [f3], by simp [f4], by simp [f6], by simp [f9], by simp [f11], by simp [f13], by omega⟩ (by simp)
              · cases hn
              · have hbl := (List.getElem?_eq_some_iff.1 g2l0).1
                have g2l : J2[bl]? = some (rowB q) := by rw [← hJ2]; exact get_old g2l0
                have m4b : (J2.set bl (rowB (q ++ [z])))[3]? = some (.row true 1 cl) := by rw [List.getElem?_set_ne (by omega)]; exact n3
                simp [f11, f14, hcll, hlt, hv, hvE, n3, h16]
                refine bind_some (app_rowB (by omega) (by simpa using g2l)) ?_
                simp [f11, f14, hcll, hlt, hv, hvE, m4b]
                refine endD [(4, 10), (5, 10), (9, 10)] (by rfl) (by simp [okW, note, Eff.triv, Eff.wr, Eff.none, upTo, newAt]; omega) ?_
                simp [f14, w2]
                exact hfin _ _ _ _ (by simp; omega) (hM2.lR (i := i) (q := q) (p := z) g2l g5l gtl) _ ⟨by simp [f3], by simp [f4], by simp [f6], by simp [f9], by simp [f11], by simp [f13], by omega⟩ (by simp)
          · have ho2 : o ≠ 2 := by simpa using ho2
            have hnx : nextOk ⟨o, a, b, c⟩ l q.length := by
              have hrow : ∀ z : Int, 0 ≤ z → z < i → (rowN l z).length = q.length + 1 := by
                intro z h1 h2
                obtain ⟨kz, rfl⟩ : ∃ kz : Nat, z = kz := ⟨z.toNat, by omega⟩
                have := hrl.row kz (by omega)
                rw [if_pos (by omega)] at this
                rw [this, hqk]
              rcases hins with h | h | h | h | h <;> simp only at h
              · exact .inl h
              · exact absurd h.1 ho2
              · exact .inr (.inl h)
              · exact .inr (.inr (.inl ⟨h.1, h.2.1, h.2.2.1, hrow _ h.2.2.1 h.2.2.2.1⟩))
              · exact .inr (.inr (.inr ⟨h.1, h.2.1, h.2.2.1, h.2.2.2.2.1, hrow _ h.2.2.1 h.2.2.2.1, hrow _ h.2.2.2.2.1 h.2.2.2.2.2⟩))
            have hcv : coefV ⟨o, a, b, c⟩ out l t k i = nextC ⟨o, a, b, c⟩ l q t := by simp [coefV, ho2, hqr]
            rw [hcv, hqr] at hfin
            have hqv : allV q := hrl.val q (List.mem_of_getElem? hq)
            have hS := fun X : AH => r9Next ⟨o, a, b, c⟩ (H.length + 3) cl l q v t hnx hrl.val hqv ht (by omega) (H ++ (J ++ X)) ((hM.app X).hl.rows (by rw [getAt]; exact get_old m3) (.inr rfl)) ((hM.app X).hl.own hv hq (.inr rfl))
            rw [hrl.len] at hS
            have hvc : v.cells = [v] := by
              rcases hM.hl.2 i v q hv hq with (⟨_, rfl⟩ | ⟨_, _, _, rfl⟩) | ⟨_, rfl, _⟩ <;> rfl
            simp only [AV.cells] at hvc
            have hJn : J ≠ [] := by rintro rfl; simp at hMl
            simp [f4, f6, f11, f14, h0', h1', ↓old h0', ↓old h1', hy, hyE, insA, m3, ↓old m3, hv, hvE, hcll, hlt, hvc]
            refine callD_rdA (fun X => by
              have := hS ([.row true 2 [iv (0, 0)]] ++ X)
              simp [insA] at this ⊢
              exact this) ?_
            generalize nextC ⟨o, a, b, c⟩ l q t = z at *
            simp
            refine endD [(4, 12), (8, 12), (9, 12), (10, 12), (11, 12)] (by rfl) (by simp [okW, note, Eff.triv, Eff.wr, Eff.none, upTo, newAt, hJn]) ?_
            have hlF := hlF z
            have hM2 := hM2 z
            have hJl := hJl z
            simp
            simp only [iv_eq] at hlF hM2 hJl
            generalize hJ2 : J ++ [ABlk.row true 2 [.agg [.int .i64 z.1, .int .i64 z.2]]] = J2 at *
            have h16 : J2[J.length]? = some (.row true 2 [.agg [.int .i64 z.1, .int .i64 z.2]]) := by rw [← hJ2]; simp
            have n3 := hM2.h3
            have hJ2n : J2 ≠ [] := by rintro rfl; simp at hJl
            rcases hlF with (hn | ⟨hn, _⟩) | ⟨bl, rfl, g2l0, g5l, gtl⟩
            · obtain ⟨h0q, rfl⟩ := hn
              subst h0q
              simp [f11, f14, hcll, hlt, hv, hvE, n3, h16]
              refine bind_some (app_new0 (.inr rfl)) ?_
              simp [f11, f14, hcll, hlt, hv, hvE, n3, get_old n3]
              refine endD [(4, 10), (5, 10), (9, 10)] (by rfl) (by simp [okW, note, Eff.triv, Eff.wr, Eff.none, upTo, newAt]; omega) ?_
              simp [f14, w2]
              exact hfin _ _ _ _ (by simp; omega) (hM2.lN (i := i) (q := []) (p := z) (by omega)) _ ⟨by simp [f3], by simp [f4], by simp [f6], by simp [f9], by simp [f11], by simp [f13], by omega⟩ (by simp)
            · cases hn
            · have hbl := (List.getElem?_eq_some_iff.1 g2l0).1
              have g2l : J2[bl]? = some (rowB q) := by rw [← hJ2]; exact get_old g2l0
              have m4b : (J2.set bl (rowB (q ++ [z])))[3]? = some (.row true 1 cl) := by rw [List.getElem?_set_ne (by omega)]; exact n3
              simp [f11, f14, hcll, hlt, hv, hvE, n3, h16]
              refine bind_some (app_rowB (by omega) (by simpa using g2l)) ?_
              simp [f11, f14, hcll, hlt, hv, hvE, m4b]
              refine endD [(4, 10), (5, 10), (9, 10)] (by rfl) (by simp [okW, note, Eff.triv, Eff.wr, Eff.none, upTo, newAt]; omega) ?_
              simp [f14, w2]
              exact hfin _ _ _ _ (by simp; omega) (hM2.lR (i := i) (q := q) (p := z) g2l g5l gtl) _ ⟨by simp [f3], by simp [f4], by simp [f6], by simp [f9], by simp [f11], by simp [f13], by omega⟩ (by simp)
        · have hin : i = T.L.length := by have : ¬ i < T.L.length := by simpa using hc
                                          omega
          subst hin
          have hJ5' : 5 ≤ J.length := by rcases hJ5 with h | h <;> omega
          simp
          refine loop_count (SyO T x t order H k) (fun i => T.out.length - i) 0 ⟨⟨by simp [f3], by simp [f4], by simp [f6], by simp [f9], by simp [f11], by simp [f13], by omega⟩, by simp, by omega, J, tag, co, cl, rfl, hJ5', hM⟩ ?_
          clear f3 f4 f6 f9 f11 f13 f14 hM hJ5 hJ5' h0' hrl
          clear J tag co cl
          rintro i fr H1 ⟨⟨f3, f4, f6, f9, f11, f13, _⟩, f16, hi, J, tag, co, cl, rfl, hJ5, hM⟩
          have h0' := hM.h0
          simp only [tpA] at h0'
          simp [f4, f16, h0']
          obtain ⟨e3, e4⟩ := expS_ok hT hx ht (k + 1)
          have hro := stepO_ok hT e3.val e2 i (by rw [← hT.len]; exact hi)
          refine branch (fun hc => ?_) (fun hc => ?_)
          · have hltn : i < T.n := by simpa using hc
            have hlt : i < T.out.length := by rw [hT.len]; exact hltn
            obtain ⟨y, hy⟩ := get_lt hlt
            have hyE : ∀ h, T.out[i]'h = y := fun h => (List.getElem?_eq_some_iff.1 hy).2
            have hyl := hT.out y (List.mem_of_getElem? hy)
            have w2 : IntKind.i64.wrap ((i : Int) + 1) = ((i + 1 : Nat) : Int) := by rw [wrap64 (by omega) (by omega)]; omega
            have hnext := stepO_succ (l := (expS T x t (k + 1)).1) (out := (expS T x t k).2) (k := k) hy
            have hfin : ∀ (J' : AH) (tag' : Nat → Nat) (co' cl' : List AV), 5 ≤ J'.length → MemY T t H.length J' tag' co' cl' (stepO T (expS T x t (k + 1)).1 k (expS T x t k).2 (i + 1)) (expS T x t (k + 1)).1 → ∀ fr' : AFr, gK H T.n T.L.length order k fr' → fr' 16 = .int .i64 (i + 1 : Nat) → Again (SyO T x t order H k) (fun i => T.out.length - i) i fr' (H ++ J') :=
              fun J' tag' co' cl' h5 hM' fr' g1 g2 => ⟨i + 1, by show T.out.length - (i + 1) < T.out.length - i; omega, g1, g2, by omega, J', tag', co', cl', rfl, h5, hM'⟩
            generalize hL : (expS T x t (k + 1)).1 = l at *
            generalize hO : stepO T l k (expS T x t k).2 i = out at *
            rw [hnext] at hfin
            have hil : i < out.length := by rw [hro.len]; exact hltn
            obtain ⟨q, hq⟩ := get_lt hil
            have hqr : rowN out (i : Int) = q := rowN_get hq
            have hqk : q.length = k + 1 := by have := hro.row i hltn; rw [hqr, if_neg (by omega)] at this; exact this
            obtain ⟨v, hv⟩ := get_lt (l := co) (i := i) (by rw [hM.ho.1]; exact hil)
            have hvE : ∀ h, co[i]'h = v := fun h => (List.getElem?_eq_some_iff.1 hv).2
            have hcol : co.length = T.n := by rw [hM.ho.1, hro.len]
            obtain ⟨r, hr⟩ := get_lt (l := l) (i := y) (by rw [e3.len]; exact hyl)
            have hrr : rowN l (y : Int) = r := rowN_get hr
            have hrk : r.length = k + 1 := by have := e3.row y hyl; rw [hrr, if_neg (by omega)] at this; exact this
            obtain ⟨u, hu⟩ := get_lt (l := cl) (i := y) (by rw [hM.hl.1, e3.len]; exact hyl)
            have huE : ∀ h, cl[y]'h = u := fun h => (List.getElem?_eq_some_iff.1 hu).2
            have hcll : cl.length = T.L.length := by rw [hM.hl.1, e3.len]
            obtain ⟨z, hz⟩ := get_lt (l := r) (i := k) (by omega)
            have hzE : ∀ h, r[k]'h = z := fun h => (List.getElem?_eq_some_iff.1 hz).2
            have hzv : vB z = true := e3.val r (List.mem_of_getElem? hr) z (List.mem_of_getElem? hz)
            have hkk : (k : Int) < (k : Int) + 1 := by omega
            have hkn : k < k + 1 := by omega
            have hJn : J ≠ [] := by rintro rfl; simp at hJ5
            rw [hrr, hqr, show atN r k = z by simp [atN, hz]] at hfin
            have hoF := hM.ho.2 i v q hv hq
            have hlF := hM.hl.2 y u r hu hr
            have m2 := hM.h2
            have m3 := hM.h3
            rcases hlF with (⟨h0, _⟩ | ⟨h0, _⟩) | ⟨bl, hu', g2l, g5l, gtl⟩
            · rw [h0] at hrk; simp at hrk
            · cases h0
            subst hu'
            have g2l' := g2l
            have hbl := (List.getElem?_eq_some_iff.1 g2l).1
            simp only [rowB] at g2l'
            rcases hoF with (⟨h0, _⟩ | ⟨_, a, h0, hv'⟩) | ⟨bo, hv', g2o, g5o, gto⟩
            · rw [h0] at hqk; simp at hqk
            · subst hv'
              subst h0
              simp [f4, f9, f11, f13, f16, h0', hy, hyE, outA, m2, m3, hv, hvE, hu, huE, hcll, hcol, hltn, hyl, g2l', hz, hzE, hrk, hkk, hkn, wk]
              refine callD_ret0 (fun Hx => by simpa using rMulRatio z 1 ((k + 1 : Nat) : Int) hzv (by omega) (by omega) Hx) ?_
              generalize mulr z 1 (k + 1) = d at *
              simp
              refine bind_some app_new1 ?_
              simp [f9, f13, f16, hcol, hltn, hv, hvE, m2, get_old m2]
              refine endD [(4, 23), (5, 23), (22, 23)] (by rfl) (by simp [okW, note, Eff.triv, Eff.wr, Eff.none, upTo, newAt, hJn]; omega) ?_
              simp [f16, w2]
              exact hfin _ _ _ _ (by simp; omega) (hM.oN (i := i) (q := [a]) (p := d) hJ5) _ ⟨by simp [f3], by simp [f4], by simp [f6], by simp [f9], by simp [f11], by simp [f13], by omega⟩ (by simp)
            · subst hv'
              have hne2 : bo ≠ bl := by rintro rfl; omega
              simp [f4, f9, f11, f13, f16, h0', hy, hyE, outA, m2, m3, hv, hvE, hu, huE, hcll, hcol, hltn, hyl, g2l', hz, hzE, hrk, hkk, hkn, wk]
              refine callD_ret0 (fun Hx => by simpa using rMulRatio z 1 ((k + 1 : Nat) : Int) hzv (by omega) (by omega) Hx) ?_
              generalize mulr z 1 (k + 1) = d at *
              simp
              refine bind_some (app_rowB (by omega) (by simpa using g2o)) ?_
              have m2b : (J.set bo (rowB (q ++ [d])))[2]? = some (.row true 1 co) := by rw [List.getElem?_set_ne (by omega)]; exact m2
              simp [f9, f13, f16, hcol, hltn, hv, hvE, m2b]
              refine endD [(4, 23), (5, 23), (22, 23)] (by rfl) (by simp [okW, note, Eff.triv, Eff.wr, Eff.none, upTo, newAt, hJn]; omega) ?_
              simp [f16, w2]
              exact hfin _ _ _ _ (by simp; omega) (hM.oR (i := i) (q := q) (p := d) g2o g5o gto) _ ⟨by simp [f3], by simp [f4], by simp [f6], by simp [f9], by simp [f11], by simp [f13], by omega⟩ (by simp)
          · have hin : i = T.out.length := by have : ¬ i < T.n := by simpa using hc
                                              rw [hT.len] at hi ⊢; omega
            subst hin
            simp [f13, wk]
            exact ⟨k + 1, by show order - (k + 1) < order - k; omega, ⟨by simp [f3], by simp [f4], by simp [f6], by simp [f9], by simp [f11], by simp, by omega⟩, J, tag, co, cl, rfl, hM⟩
      · have hkn : k = order := by have : ¬ k < order := by simpa using hc
                                   omega
        subst hkn
        obtain ⟨_, e4⟩ := expS_ok hT hx ht k
        have hcf : coefS T x t k = (expS T x t k).2 := rfl
        rw [hcf] at g1 g2
        have hlen2 : ∀ q ∈ (expS T x t k).2, 2 ≤ q.length := fun q hq => by
          obtain ⟨j, hj⟩ := List.mem_iff_getElem?.1 hq
          have := e4.row j (by rw [← e4.len]; exact (List.getElem?_eq_some_iff.1 hj).1)
          rw [rowN_get hj, if_neg (by omega)] at this
          omega
        obtain ⟨σ, hσ⟩ := fam_fills hM.ho hM.h2 (by omega) hlen2 (by rw [e4.len]; exact hd) hlen g1 g2 (by rw [e4.len]; exact g3)
        rw [e4.len] at hσ
        simp [f9]
        exact ⟨_, _, σ, hσ, finK (rs := [.tmp 8]) (vs := [.ref (H.length + 2) T.n]) (by rfl) (by simp [resA]) rfl⟩
end Go.Proofs.YtfjjckepnkkgjaaGreatDoor.Arm
