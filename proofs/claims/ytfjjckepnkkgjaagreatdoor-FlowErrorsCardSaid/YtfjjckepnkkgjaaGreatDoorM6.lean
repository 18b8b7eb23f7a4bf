/- Part of a proof: what the functions of the program do to abstract states, step by step. -/
import Derived.Test.YtfjjckepnkkgjaaGreatDoorM5
import Derived.WalkKit
import Derived.Stop.Asserts
import Derived.Lib.IfaceEq
import Derived.RowKitTokens
import Derived.Test.YtfjjckepnkkgjaaGreatDoorTie
import Derived.Test.YtfjjckepnkkgjaaGreatDoorCards
import Derived.ProofKit
import Derived.Stop.Joined
import Derived.SevenTiedAt
set_option linter.unusedVariables false
set_option linter.unusedSimpArgs false
namespace Go.Proofs.YtfjjckepnkkgjaaGreatDoor.Arm
open Go.Arm Go.Pl

/-- Binary search: the predicate says yes from r on. -/
theorem sSearch (n r : Nat) (g : FuncId) (caps : List AV) (H : AH) (hn : n ≤ 1000000) (hr : r ≤ n) (hf : ∀ k : Nat, k < n → Sound E g ([.int .i64 (k : Int)] ++ caps) H (.ret (.bool (decide (r ≤ k)))) H) :
    Sound E 62 [.int .i64 (n : Int), .func (.func g) [] caps] H (.ret (.int .i64 (r : Int))) H := by
  refine sound_of_awp tabOk mixed Tryz.func62 rfl (by rfl) Tryz.ntmps62 (by kernel_rfl) (by simp) ?_
  simp
  refine loop_count (fun (s : Nat × Nat) fr H' => fr 1 = .func (.func g) [] caps ∧ fr 5 = .int .i64 (s.1 : Int) ∧ fr 6 = .int .i64 (s.2 : Int) ∧ s.1 ≤ r ∧ r ≤ s.2 ∧ s.2 ≤ n ∧ H' = H) (fun s => s.2 - s.1) (0, n) ⟨by simp, by simp, by simp, by omega, hr, Nat.le_refl _, rfl⟩ ?_
  rintro ⟨i, j⟩ fr H' ⟨g1, g5, g6, hi, hj, hjn, rfl⟩
  simp only at g5 g6 hi hj hjn
  simp [g5, g6]
  refine branch (fun hc => ?_) (fun hc => ?_)
  · have hlt : i < j := by simpa using hc
    obtain ⟨m, hm⟩ : ∃ m : Nat, m = (i + j) / 2 := ⟨_, rfl⟩
    have w1 : IntKind.i64.wrap ((i : Int) + (j : Int)) = ((i + j : Nat) : Int) := by rw [wrap64 (by omega) (by omega)]; omega
    have w2 : IntKind.u64.wrap ((i + j : Nat) : Int) = ((i + j : Nat) : Int) := wrapu64 (by omega) (by omega)
    have w3 : ((i + j : Nat) : Int).fdiv 2 = (m : Int) := by rw [Int.fdiv_eq_ediv_of_nonneg _ (by omega)]; omega
    have w4 : IntKind.u64.wrap (m : Int) = (m : Int) := wrapu64 (by omega) (by omega)
    have w5 : IntKind.i64.wrap (m : Int) = (m : Int) := wrap64 (by omega) (by omega)
    have w6 : IntKind.i64.wrap ((m : Int) + 1) = ((m + 1 : Nat) : Int) := by rw [wrap64 (by omega) (by omega)]; omega
    have hS := hf m (by omega)
    have wA : IntKind.i64.wrap ((IntKind.u64.wrap ((i : Int) + (j : Int))).fdiv (2 ^ min 1 IntKind.u64.bits)) = (m : Int) := by
      have e1 : IntKind.u64.wrap ((i : Int) + (j : Int)) = ((i + j : Nat) : Int) := by rw [wrapu64 (by omega) (by omega)]; omega
      have e2 : (2 : Int) ^ min 1 IntKind.u64.bits = 2 := by decide
      rw [e1, e2, w3, w5]
    simp [g5, g6, w1, wA, g1]
    refine call_ret (by simpa using hS) ?_
    simp
    refine branch (fun hq => ?_) (fun hq => ?_)
    · have hq' : m < r := by simp at hq; omega
      simp [w6]
      exact ⟨(m + 1, j), by show j - (m + 1) < j - i; omega, by simp [g1], by simp, by simp [g6], by show m + 1 ≤ r; omega, hj, hjn, rfl⟩
    · have hq' : r ≤ m := by simp at hq; omega
      simp
      exact ⟨(i, m), by show m - i < j - i; omega, by simp [g1], by simp [g5], by simp, hi, hq', by show m ≤ n; omega, rfl⟩
  · have hlt : ¬ i < j := by simpa using hc
    have : i = r := by omega
    subst this
    simp [g5]
    exact fin0 (rs := [.tmp 4]) (by rfl) (by simp [resA, g5])
theorem wEnd (l : List Sg) (z : Sg) (hz : l[l.length - 1]? = some z) (hl : l.length ≤ 1000000) (hb : -2147483648 ≤ z.t ∧ z.t ≤ 2147483648 ∧ 0 ≤ z.h ∧ z.h ≤ 2147483648) (H : AH) :
    Sound E 17 [sgL l] H (.ret (.tuple [bx z.to, .int .i64 (z.t + z.h), .bool true])) H := by
  refine sound_of_awp tabOk mixed Tryz.func17 rfl (by rfl) Tryz.ntmps17 (by kernel_rfl) (by simp) ?_
  have hlt := (List.getElem?_eq_some_iff.1 hz).1
  have hzE : ∀ h, l[l.length - 1]'h = z := fun h => (List.getElem?_eq_some_iff.1 hz).2
  have w1 : IntKind.i64.wrap ((l.length : Int) - 1) = ((l.length - 1 : Nat) : Int) := by rw [wrap64 (by omega) (by omega)]; omega
  have w2 : IntKind.i64.wrap (z.t + z.h) = z.t + z.h := wrap64 (by omega) (by omega)
  have hne : ((l.length : Int) == 0) = false := by rw [beq_eq_false_iff_ne]; omega
  simp [sgL, hne, w1, hz, hzE, hlt, sgA, bx, w2]
  refine endD [] (by rfl) (by simp [okW, note, Eff.triv, Eff.wr, Eff.none, upTo, newAt]) ?_
  simp
  exact ⟨[bx z.to, .int .i64 (z.t + z.h), .bool true], [bx z.to, .int .i64 (z.t + z.h), .bool true], by simp [show (Tryz.f17).results.toList = [.tmp 2, .tmp 3, .tmp 4] from rfl, resA, bx], .drop (by simp only [noFs, noF, bx, iv_noFs, Bool.and_self]), rfl⟩
theorem wAt1 (l : List Sg) (τ : Int) (k : Nat) (s : Sg) (hk : l[k]? = some s) (b c : Nat) (w1 w2 : Bool) (H : AH) (hb : H[b]? = some (.row w1 1 [sgL l])) (hc : H[c]? = some (.row w2 1 [.int .i64 τ])) :
    Sound E 63 [.int .i64 k, .ptr b 1 0 0, .ptr c 1 0 0] H (.ret (.bool (decide (τ < s.t)))) H := by
  refine sound_of_awp tabOk mixed Tryz.func63 rfl (by rfl) Tryz.ntmps63 (by kernel_rfl) (by simp) ?_
  have hlt := (List.getElem?_eq_some_iff.1 hk).1
  have hkE : ∀ h, l[k]'h = s := fun h => (List.getElem?_eq_some_iff.1 hk).2
  simp only [sgL] at hb
  simp [hb, hc, hk, hkE, hlt, sgA]
  refine endD [] (by rfl) (by simp [okW, note, Eff.triv, Eff.wr, Eff.none, upTo, newAt]) ?_
  simp
  exact fin0 (rs := [.tmp 4]) (by rfl) (by simp [resA])
theorem wDuring1 (l : List Sg) (u : I) (k : Nat) (s : Sg) (hk : l[k]? = some s) (hs : -2147483648 ≤ s.t ∧ s.t ≤ 2147483648 ∧ 0 ≤ s.h ∧ s.h ≤ 2147483648) (b c : Nat) (w1 w2 : Bool) (H : AH) (hb : H[b]? = some (.row w1 1 [sgL l])) (hc : H[c]? = some (.row w2 2 [iv u])) :
    Sound E 64 [.int .i64 k, .ptr b 1 0 0, .ptr c 1 0 0] H (.ret (.bool (decide (u.1 ≤ s.t + s.h)))) H := by
  refine sound_of_awp tabOk mixed Tryz.func64 rfl (by rfl) Tryz.ntmps64 (by kernel_rfl) (by simp) ?_
  have hlt := (List.getElem?_eq_some_iff.1 hk).1
  have hkE : ∀ h, l[k]'h = s := fun h => (List.getElem?_eq_some_iff.1 hk).2
  have w2 : IntKind.i64.wrap (s.t + s.h) = s.t + s.h := wrap64 (by omega) (by omega)
  simp only [sgL] at hb
  simp only [iv] at hc
  simp [hb, hc, hk, hkE, hlt, sgA, w2]
  refine endD [] (by rfl) (by simp [okW, note, Eff.triv, Eff.wr, Eff.none, upTo, newAt]) ?_
  simp
  exact fin0 (rs := [.tmp 4]) (by rfl) (by simp [resA])
/-- The small times of a flow. -/
def tmS (s : Sg) : Prop := -2147483648 ≤ s.t ∧ s.t ≤ 2147483648 ∧ 0 ≤ s.h ∧ s.h ≤ 2147483648
def atR : Option (List I) → AV
  | none => .tuple [.nilslice, .bool false]
  | some b => .tuple [bx b, .bool true]
theorem wAt (l : List Sg) (t0 τ : Int) (hc : Ctg t0 l) (hl : 1 ≤ l.length ∧ l.length ≤ 1000000) (hb : ∀ s ∈ l, tmS s) (H : AH) : Sound E 23 [sgL l, .int .i64 τ] H (.ret (atR (atS l τ))) H := by
  refine sound_of_awp tabOk mixed Tryz.func23 rfl (by rfl) Tryz.ntmps23 (by kernel_rfl) (by simp) ?_
  obtain ⟨a, h0⟩ : ∃ a, l[0]? = some a := ⟨l[0], by simp⟩
  obtain ⟨z, hz⟩ : ∃ z, l[l.length - 1]? = some z := ⟨l[l.length - 1], by rw [List.getElem?_eq_getElem]⟩
  have hzb := hb z (List.mem_of_getElem? hz)
  have hE := fun Hx => wEnd l z hz hl.2 hzb Hx
  have h0E : ∀ h, l[0]'h = a := fun h => (List.getElem?_eq_some_iff.1 h0).2
  have hpos : 0 < l.length := by omega
  generalize hr : l.findIdx (fun s => decide (τ < s.t)) = r
  have hS := fun (Hx : AH) (b c : Nat) (hb2 : Hx[b]? = some (.row true 1 [sgL l])) (hc2 : Hx[c]? = some (.row true 1 [.int .i64 τ])) =>
    sSearch l.length r 63 [.ptr b 1 0 0, .ptr c 1 0 0] Hx hl.2 (by rw [← hr]; exact List.findIdx_le_length) (fun k hk => by
      have hk2 : l[k]? = some l[k] := by simp [hk]
      have := hc.idxT τ k l[k] hk2
      rw [hr] at this
      rw [← this]
      exact wAt1 l τ k l[k] hk2 b c true true Hx hb2 hc2)
  simp only [sgL] at hS hE
  simp [sgL]
  refine call_ret (by simpa using hE _) ?_
  have hat : ∀ s, l[r - 1]? = some s → atS l τ = if τ < a.t ∨ z.t + z.h < τ then none else some (if s.t = τ then s.frm else if τ = z.t + z.h then z.to else s.tube) := fun s hs => by
    unfold atS
    simp only [h0, hz, hr, hs]
  have hres : (Tryz.f23).results.toList = [.tmp 4, .tmp 5] := rfl
  by_cases e1 : τ < a.t
  · have hv : atS l τ = none := by unfold atS; simp only [h0, hz]; rw [if_pos (.inl e1)]
    simp [h0, h0E, hpos, sgA, bx, e1]
    refine endD [] (by rfl) (by simp [okW, note, Eff.triv, Eff.wr, Eff.none, upTo, newAt]) ?_
    simp
    rw [hv]
    exact ⟨[.nilslice, .bool false], [.nilslice, .bool false], by simp [hres, resA], .drop (by simp [noFs, noF]), rfl⟩
  by_cases e2 : z.t + z.h < τ
  · have hv : atS l τ = none := by unfold atS; simp only [h0, hz]; rw [if_pos (.inr e2)]
    simp [h0, h0E, hpos, sgA, bx, e1, e2]
    refine endD [] (by rfl) (by simp [okW, note, Eff.triv, Eff.wr, Eff.none, upTo, newAt]) ?_
    simp
    rw [hv]
    exact ⟨[.nilslice, .bool false], [.nilslice, .bool false], by simp [hres, resA], .drop (by simp [noFs, noF]), rfl⟩
  have hrl : r ≤ l.length := by rw [← hr]; exact List.findIdx_le_length
  have hr1 : 1 ≤ r := by
    have := hc.idxT τ 0 a h0
    rw [hr] at this
    rcases Nat.eq_zero_or_pos r with e | e
    · subst e; simp at this; omega
    · exact e
  obtain ⟨s, hs⟩ : ∃ s, l[r - 1]? = some s := ⟨l[r - 1]'(by omega), by rw [List.getElem?_eq_getElem]⟩
  have hsE : ∀ h, l[r - 1]'h = s := fun h => (List.getElem?_eq_some_iff.1 hs).2
  have hv : atS l τ = some (if s.t = τ then s.frm else if τ = z.t + z.h then z.to else s.tube) := by rw [hat s hs, if_neg (by omega)]
  have w1 : IntKind.i64.wrap ((r : Int) - 1) = ((r - 1 : Nat) : Int) := by rw [wrap64 (by omega) (by omega)]; omega
  have hlt : r - 1 < l.length := by omega
  rw [hv]
  simp [h0, h0E, hpos, sgA, bx, e1, e2]
  refine endD [] (by rfl) (by simp [okW, note, Eff.triv, Eff.wr, Eff.none, upTo, newAt]) ?_
  simp
  refine call_ret (by simpa using hS _ H.length (H.length + 1) (by simp) (by simp)) ?_
  by_cases e3 : s.t = τ
  · simp [w1, hs, hsE, hlt, sgA, bx, e3]
    refine endD [] (by rfl) (by simp [okW, note, Eff.triv, Eff.wr, Eff.none, upTo, newAt]) ?_
    simp [w1, hs, hsE, hlt, sgA, bx]
    exact ⟨[bx s.frm, .bool true], [bx s.frm, .bool true], by simp [hres, resA, bx], .drop (by simp only [noFs, noF, bx, iv_noFs, Bool.and_self]), rfl⟩
  · have e3' : (s.t == τ) = false := by simpa using e3
    by_cases e4 : τ = z.t + z.h
    · have e4' : (τ == z.t + z.h) = true := by simpa using e4
      simp [w1, hs, hsE, hlt, sgA, bx, e3']
      refine endD [] (by rfl) (by simp [okW, note, Eff.triv, Eff.wr, Eff.none, upTo, newAt]) ?_
      simp [e4']
      rw [if_neg e3, if_pos e4]
      exact ⟨[bx z.to, .bool true], [bx z.to, .bool true], by simp [hres, resA, bx], .drop (by simp only [noFs, noF, bx, iv_noFs, Bool.and_self]), rfl⟩
    · have e4' : (τ == z.t + z.h) = false := by simpa using e4
      simp [w1, hs, hsE, hlt, sgA, bx, e3']
      refine endD [] (by rfl) (by simp [okW, note, Eff.triv, Eff.wr, Eff.none, upTo, newAt]) ?_
      simp [w1, hs, hsE, hlt, sgA, bx, e4']
      rw [if_neg e3, if_neg e4]
      exact ⟨[bx s.tube, .bool true], [bx s.tube, .bool true], by simp [hres, resA, bx], .drop (by simp only [noFs, noF, bx, iv_noFs, Bool.and_self]), rfl⟩
end Go.Proofs.YtfjjckepnkkgjaaGreatDoor.Arm

namespace Go.Proofs.YtfjjckepnkkgjaaGreatDoor.Arm
open Go.Arm Go.Pl

@[simp] theorem bin_ns {H : AH} (z : Bool) : binOpA tab H .eql 26 .nilslice .nilslice z = some (.bool true, H) := by simp [binOpA, binA, eqA, nilI]
@[simp] theorem bin_nc {H : AH} {x : AV} {l : List AV} {f : Bool} (z : Bool) : binOpA tab H .eql 26 (.slice (x :: l) f) .nilslice z = some (.bool false, H) := by simp [binOpA, binA, eqA, nilI]
@[simp] theorem bin_ns' {H : AH} (z : Bool) : binOpA tab H .neq 26 .nilslice .nilslice z = some (.bool false, H) := by simp [binOpA, binA, eqA, nilI]
@[simp] theorem bin_nc' {H : AH} {x : AV} {l : List AV} {f : Bool} (z : Bool) : binOpA tab H .neq 26 (.slice (x :: l) f) .nilslice z = some (.bool true, H) := by simp [binOpA, binA, eqA, nilI]
theorem finU0 {E : Env} {fr : AFr} {fn : Func} {rs : List ResultVar} {H0 H1 : AH} {v : AV} {e : AExit} (hr : fn.results.toList = rs) (h : resA E fr H1 rs = some [v]) (hl : H1.length = H0.length)
    (hb : ∀ b : Nat, H1[b]? = H0[b]? ∨ ∃ k, H1[b]? = some k ∧ noFB H0.length k = true) (hv : noF H0.length v = true) (hx : e = .ret ∨ e = .normal := by simp) : bodyK E fn H0 (.ret v) H1 e fr H1 := by
  have := finU (J := []) hr (by rw [List.append_nil]; exact h) hl hb hv hx
  rwa [List.append_nil] at this
def hullC : Option (List I) → AV
  | none => .nilslice
  | some b => bx b
def hullO : Option (List I) → List I → List I
  | none, b => b
  | some d, b => hullB d b
theorem wHull (H : AH) : Sound E 65 [] H (.ret (.func (.func 105) [] [.ptr H.length 1 0 0])) (H ++ [.row true 1 [.nilslice]]) := by
  refine sound_of_awp tabOk mixed Tryz.func65 rfl (by rfl) Tryz.ntmps65 (by kernel_rfl) (by simp) ?_
  simp
  exact finK (rs := [.tmp 0]) (vs := [.func (.func 105) [] [.ptr H.length 1 0 0]]) (by rfl) (by simp [resA]) rfl
theorem hullC_noF (o : Option (List I)) (m : Nat) : noF m (hullC o) = true := by cases o <;> simp [hullC, noF, bx, iv_noFs]
theorem wHull1 (o : Option (List I)) (b : List I) (c : Nat) (H : AH) (hc : H[c]? = some (.row true 1 [hullC o])) (hd : ∀ d, o = some d → 1 ≤ d.length ∧ d.length ≤ b.length) (hl : b.length ≤ 1000000) :
    Sound E 105 [bx b, .ptr c 1 0 0] H (.ret (bx (hullO o b))) (H.set c (.row true 1 [hullC (some (hullO o b))])) := by
  refine sound_of_awp tabOk mixed Tryz.func105 rfl (by rfl) Tryz.ntmps105 (by kernel_rfl) (by simp) ?_
  have hcl := (List.getElem?_eq_some_iff.1 hc).1
  cases o with
  | none =>
    simp only [hullC] at hc
    have hg := fun x => set_get (x := x) hc
    simp [hc, hg, hullO, hullC, bx]
    exact finU0 (rs := [.tmp 3]) (by rfl) (by simp [resA]) (by simp) (set_blocks (by simp only [noFB, noFs, noF, iv_noFs, Bool.and_self])) (by simp only [noF, iv_noFs])
  | some d =>
    obtain ⟨h1, h2⟩ := hd d rfl
    obtain ⟨p, d', rfl⟩ : ∃ p d', d = p :: d' := by cases d with
      | nil => simp at h1
      | cons p d' => exact ⟨p, d', rfl⟩
    have hS := fun Hx => bHull (p :: d') b h2 (by omega) h1 Hx
    generalize hr : hullB (p :: d') b = r at *
    simp only [hullC, bx, List.map_cons] at hc hS
    have hg := fun x => set_get (x := x) hc
    simp [hc, hullO, hullC, hr, bx]
    refine call_ret (by simpa using hS _) ?_
    simp [hc, hg]
    exact finU0 (rs := [.tmp 3]) (by rfl) (by simp [resA]) (by simp) (set_blocks (by simp only [noFB, noFs, noF, iv_noFs, Bool.and_self])) (by simp only [noF, iv_noFs])
theorem hullL_len {n : Nat} {L : List (List I)} {B : List I} (hn : ∀ b ∈ L, b.length = n) (h : hullL L = some B) : B.length = n := (hullL_of hn h).len
def accL (L : List Sg) (i : Nat) : Option (List I) := hullL ((L.take i).map (·.tube))
theorem accL_eq (L : List Sg) (i : Nat) : hullL ((L.take i).map (·.tube)) = accL L i := rfl
def LDu (l : List Sg) (u : I) (L : List Sg) (H : AH) (i : Nat) (fr : AFr) (H' : AH) : Prop :=
  fr 3 = .ptr (H.length + 1) 1 0 0 ∧ fr 7 = hullC (accL L i) ∧ fr 8 = .func (.func 105) [] [.ptr (H.length + 2) 1 0 0] ∧ fr 18 = sgL L ∧ fr 19 = .int .i64 L.length ∧ fr 20 = .int .i64 i ∧ i ≤ L.length ∧
  L.takeWhile (fun s => decide (s.t ≤ u.2)) = L.take i ++ (L.drop i).takeWhile (fun s => decide (s.t ≤ u.2)) ∧
  ∃ J, H' = H ++ (.row true 1 [sgL l] :: .row true 2 [iv u] :: .row true 1 [hullC (accL L i)] :: J)
theorem wDuring (l : List Sg) (t0 : Int) (u : I) (n : Nat) (hn1 : 1 ≤ n ∧ n ≤ 1000000) (hc : Ctg t0 l) (hl : l.length ≤ 1000000) (hb : ∀ s ∈ l, tmS s) (hn : ∀ s ∈ l, s.tube.length = n) (H : AH) :
    Sound E 24 [sgL l, iv u] H (.ret (atR (durS l u))) H := by
  refine sound_of_awp tabOk mixed Tryz.func24 rfl (by rfl) Tryz.ntmps24 (by kernel_rfl) (by simp) ?_
  generalize hr : l.findIdx (fun s => decide (u.1 ≤ s.t + s.h)) = r
  have hrl : r ≤ l.length := by rw [← hr]; exact List.findIdx_le_length
  have hS := fun (Hx : AH) (b c : Nat) (hb2 : Hx[b]? = some (.row true 1 [sgL l])) (hc2 : Hx[c]? = some (.row true 2 [iv u])) =>
    sSearch l.length r 64 [.ptr b 1 0 0, .ptr c 1 0 0] Hx hl hrl (fun k hk => by
      have hk2 : l[k]? = some l[k] := by simp [hk]
      have := hc.idxE u.1 k l[k] hk2
      rw [hr] at this
      rw [← this]
      exact wDuring1 l u k l[k] hk2 (hb _ (List.getElem_mem hk)) b c true true Hx hb2 hc2)
  have hdur := durL_eq hc u
  rw [hr] at hdur
  have hd : durS l u = hullL ((((l.drop r).takeWhile fun s => decide (s.t ≤ u.2))).map (·.tube)) := by rw [← hdur]; rfl
  have hLn : ∀ s ∈ l.drop r, s.tube.length = n := fun s hs => hn s (List.mem_of_mem_drop hs)
  have hLl : (l.drop r).length = l.length - r := List.length_drop
  rw [hd]
  simp only [sgL] at hS
  simp [sgL]
  refine call_ret (by simpa using hS _ H.length (H.length + 1) (by simp) (by simp)) ?_
  simp
  refine call_ret (by simpa using wHull _) ?_
  have hcut : List.drop r (List.take l.length (l.map sgA)) = (l.drop r).map sgA := by rw [List.take_of_length_le (by simp), List.map_drop]
  simp [hrl]
  refine bind_if (szOk_map fun x => by simp [sgA]) ?_
  rw [hcut]
  generalize hL : l.drop r = L at *
  have hres : (Tryz.f24).results.toList = [.tmp 4, .tmp 5] := rfl
  simp
  refine loop_count (LDu l u L H) (fun i => L.length - i) 0 ⟨by simp, by simp [accL, hullL, hullC], by simp, by simp [sgL], by simp, by simp, by omega, by simp, [], by simp [sgL, accL, hullL, hullC]⟩ ?_
  rintro i fr H' ⟨g3, g7, g8, g18, g19, g20, hi, htw, J, rfl⟩
  have hall : ∀ b, accL L i = some b → b.length = n := fun b hb => hullL_len (fun c hc => by
    obtain ⟨s, hs, rfl⟩ := List.mem_map.1 hc
    exact hLn s (List.mem_of_mem_take hs)) hb
  simp [g19, g20]
  refine branch (fun hcb => ?_) (fun hcb => ?_)
  · have hlt : i < L.length := by simpa using hcb
    obtain ⟨p, hp⟩ := get_lt hlt
    have hpE : ∀ h, L[i]'h = p := fun h => (List.getElem?_eq_some_iff.1 hp).2
    have w2 : IntKind.i64.wrap ((i : Int) + 1) = ((i + 1 : Nat) : Int) := by rw [wrap64 (by omega) (by omega)]; omega
    have hdr : L.drop i = p :: L.drop (i + 1) := dropA hp
    have htk : L.take (i + 1) = L.take i ++ [p] := by rw [List.take_add_one, hp]; rfl
    simp [g3, g18, g20, sgL, hp, hpE, sgA, bx]
    refine branch (fun hq => ?_) (fun hq => ?_)
    · have hq' : ¬ p.t ≤ u.2 := by simp at hq; omega
      have he : L.takeWhile (fun s => decide (s.t ≤ u.2)) = L.take i := by rw [htw, hdr, List.takeWhile_cons, if_neg (by simpa using hq')]; simp
      rw [he, accL_eq]
      simp
      cases ho : accL L i with
      | none =>
        rw [ho] at g7
        simp [g7, hullC]
        exact ⟨[.nilslice, .bool false], [.nilslice, .bool false], by simp [hres, resA, g7, hullC], .drop (by simp [noFs, noF]), rfl⟩
      | some b =>
        have hbl := hall b ho
        obtain ⟨q, b', rfl⟩ : ∃ q b', b = q :: b' := by cases b with
          | nil => simp at hbl; omega
          | cons q b' => exact ⟨q, b', rfl⟩
        rw [ho] at g7
        simp [g7, hullC, bx]
        exact ⟨[bx (q :: b'), .bool true], [bx (q :: b'), .bool true], by simp [hres, resA, g7, hullC, bx], .drop (by simp only [noFs, noF, bx, iv_noFs, Bool.and_self]), rfl⟩
    · have hq' : p.t ≤ u.2 := by simp at hq; omega
      have hpl := hLn p (List.mem_of_getElem? hp)
      have hS1 := fun (Hx : AH) hc2 => wHull1 (accL L i) p.tube (H.length + 2) Hx hc2 (fun d hd => by have := hall d hd; omega) (by omega)
      have hnew : accL L (i + 1) = some (hullO (accL L i) p.tube) := by
        unfold accL
        rw [htk, List.map_append, List.map_cons, List.map_nil, hullL_snoc]
        cases hullL ((L.take i).map (·.tube)) <;> rfl
      generalize accL L i = o at *
      simp only [bx] at hS1
      simp [g8]
      refine call_ret (by simpa using hS1 _ (by simp)) ?_
      simp [g20, w2]
      exact ⟨i + 1, by show L.length - (i + 1) < L.length - i; omega, by simp [g3], by simp [hnew, hullC, bx], by simp [g8], by simp [g18, sgL], by simp [g19], by simp, by omega,
        by rw [htw, hdr, htk, List.takeWhile_cons, if_pos (by simpa using hq')]; simp, J ++ [.row true 6 [sgA p]], by simp [hnew, sgL, sgA, bx]⟩
  · have hi' : i = L.length := by have : ¬ i < L.length := by simpa using hcb
                                  omega
    have he : L.takeWhile (fun s => decide (s.t ≤ u.2)) = L.take i := by rw [htw, hi']; simp
    rw [he, accL_eq]
    simp
    cases ho : accL L i with
    | none =>
      rw [ho] at g7
      simp [g7, hullC]
      exact ⟨[.nilslice, .bool false], [.nilslice, .bool false], by simp [hres, resA, g7, hullC], .drop (by simp [noFs, noF]), rfl⟩
    | some b =>
      have hbl := hall b ho
      obtain ⟨q, b', rfl⟩ : ∃ q b', b = q :: b' := by cases b with
        | nil => simp at hbl; omega
        | cons q b' => exact ⟨q, b', rfl⟩
      rw [ho] at g7
      simp [g7, hullC, bx]
      exact ⟨[bx (q :: b'), .bool true], [bx (q :: b'), .bool true], by simp [hres, resA, g7, hullC, bx], .drop (by simp only [noFs, noF, bx, iv_noFs, Bool.and_self]), rfl⟩
end Go.Proofs.YtfjjckepnkkgjaaGreatDoor.Arm

/- A contract out of a plain run of the machine. -/
namespace Go.Arm
open Go.RowKit

theorem fenced_wd {F : Fence} (hF : Wd F) (P : Program) : Machine.fenced P F = Machine.fenced P Fence.wide := by
  funext m
  apply propext
  exact ⟨fun _ => fenced_wide P m, fun _ => by
    intro g _
    exact ⟨fun h => (by rw [hF.1.2] at h; cases h), .inl (hF.2 _), fun f _ => hF.2 f, fun d hd => (by rw [hF.1.1] at hd; cases hd)⟩⟩

theorem callsIn_wd {F : Fence} (hF : Wd F) {n : Nat} {P : Program} {f : FuncId} {args : Array Value} {w : World} {R : Ending → World → Prop} (h : Calls P f args w R) : CallsIn F n P f args w R := by
  have h' := (callsIn_wide (n := n)).2 h
  refine ⟨hF.2 f, fun cs _ => ?_⟩
  rw [fenced_wd hF]
  exact h'.2 cs (room_wide _)

theorem sound_of_calls {E : Env} {f : FuncId} {args : List AV} {H H' : AH} {e : AEnd} (hb : HasBody E.P f)
    (h : ∀ (G : Gh) (w : World) (vs : Array Value), Inv E.Γ G w H → VL G w args vs.toList → Calls E.P f vs w fun r w' => ∃ G', Ext G w G' w' ∧ Inv E.Γ G' w' H' ∧ EndRel G' w' e r) : Sound E f args H e H' :=
  ⟨hb, fun _ _ hF G w vs hI hv => callsIn_wd hF (h G w vs hI hv)⟩
end Go.Arm

namespace Go.Proofs.YtfjjckepnkkgjaaGreatDoor.Arm
open Go.Arm Go.Pl
open Go.RowKit Go.Extern.Stop Go.Stop Go.Extern

def typeOfE : Array Value → Sem Value := Extern.ReflectliteType.typeOf
def compE : Array Value → Sem Value := Extern.ReflectliteType.method fun t => do Extern.Rtype.noPackHeld "Comparable" t; pure (.bool (← typeInfo t).comparable)
theorem eTypeOf (v : Value) (w : World) : (typeOfE #[.iface 38 v]).run Tryz.prog w = .ok (.iface 185 (.agg #[typeHandle Tryz.prog 38])) w := by kernel_rfl
theorem eComp (w : World) : (compE #[.agg #[typeHandle Tryz.prog 38]]).run Tryz.prog w = .ok (.bool true) w := by kernel_rfl
theorem eMethod (k : Nat) (v : Value) (w : World) : (Go.method (k + 1) 185 v "Comparable").run Tryz.prog w = .ok (244, v) w := by kernel_rfl
theorem eComparable : (Tryz.prog.info? 38).map (·.comparable) = some true := by kernel_rfl
theorem eNoIs (v : Value) (xT : TypeId) (w : World) : (Instr.typeAssert (.iface 38 v) xT 187 true).run Tryz.prog w = .ok (.tuple #[.nilIface, .bool false]) w := run_typeAssert_lacksB Tryz.underlying187 (by kernel_rfl) (by kernel_rfl) v xT w
theorem eNoUnwrap (v : Value) (xT : TypeId) (w : World) : (Instr.typeAssert (.iface 38 v) xT 190 true).run Tryz.prog w = .ok (.tuple #[.nilIface, .bool false]) w := run_typeAssert_lacksB Tryz.underlying190 (by kernel_rfl) (by kernel_rfl) v xT w
theorem eNoUnwraps (v : Value) (xT : TypeId) (w : World) : (Instr.typeAssert (.iface 38 v) xT 192 true).run Tryz.prog w = .ok (.tuple #[.nilIface, .bool false]) w := run_typeAssert_lacksB Tryz.underlying192 (by kernel_rfl) (by kernel_rfl) v xT w
theorem eEql (a b : Int) (w : World) : (binOp .eql 156 (.iface 38 (.int .i64 a)) (.iface 38 (.int .i64 b))).run Tryz.prog w = .ok (.bool (a == b)) w := Go.Lib.run_eql_iface_int w a b Tryz.underlying156 eComparable Tryz.underlying38
set_option maxRecDepth 100000 in
set_option maxHeartbeats 4000000 in
theorem callsIs (a b : Int) (w : World) :
    Calls Tryz.prog 55 #[.iface 38 (.int .i64 a), .iface 38 (.int .i64 b)] w fun e w' => e = .returned (.bool (a == b)) ∧ w' = w := by
  have h8 := @run_callFunc_extern Tryz.prog 95 _ typeOfE Tryz.func95 (by kernel_rfl) (by kernel_rfl) (by kernel_rfl) (by kernel_rfl)
  have h32 := @run_callFunc_extern Tryz.prog 244 _ compE Tryz.func244 (by kernel_rfl) (by kernel_rfl) (by kernel_rfl) (by kernel_rfl)
  have tT := eTypeOf
  have cT := eComp
  have mR := eMethod
  have nE := eNoIs
  have uE := eNoUnwrap
  have vE := eNoUnwraps
  have heq := eEql a b w
  cases hab : (a == b) with
  | true =>
    rw [hab] at heq
    go_enter Tryz.func55, Tryz.ntmps55
    go_wp2
    refine wp_loop_rounds 1 ?_
    rw [rounds_succ]
    go_wp2
    go_ret
    exact ⟨rfl, rfl⟩
  | false =>
    rw [hab] at heq
    go_enter Tryz.func55, Tryz.ntmps55
    go_wp2
    refine wp_loop_rounds 1 ?_
    rw [rounds_succ]
    go_wp2
    go_ret
    exact ⟨rfl, rfl⟩
def erA (e : Int) : AV := .iface 38 (.int .i64 e)
theorem eIs (a b : Int) (H : AH) : Sound E 55 [erA a, erA b] H (.ret (.bool (a == b))) H := by
  refine sound_of_calls ⟨_, Tryz.func55, rfl, by rfl⟩ (fun G w vs hI hv => ?_)
  obtain ⟨u1, u2, rfl, h1, h2⟩ : ∃ u1 u2, vs = #[u1, u2] ∧ VR G w (erA a) u1 ∧ VR G w (erA b) u2 := by
    obtain ⟨l⟩ := vs
    have hl := hv.1
    simp at hl
    match l, hl with
    | [u1, u2], _ => exact ⟨u1, u2, rfl, hv.2 0 _ _ rfl rfl, hv.2 1 _ _ rfl rfl⟩
  cases h1 with
  | iface h1 =>
    cases h1
    cases h2 with
    | iface h2 =>
      cases h2
      refine (callsIs a b w).mono ?_
      rintro e w' ⟨rfl, rfl⟩
      exact ⟨G, .refl _ _, hI, .bool _⟩
end Go.Proofs.YtfjjckepnkkgjaaGreatDoor.Arm

namespace Go.Proofs.YtfjjckepnkkgjaaGreatDoor.Arm
open Go.Arm Go.Pl

/-- A horizon. -/
def hzA (c : Ct) (t last : Int) : AV := .agg [.int .i64 c.order, .int .i64 c.first, .int .i64 c.least, .int .i64 c.most, .int .i64 c.wide, .int .i64 t, .int .i64 last]
def intR : Except Int (List Sg) → AV
  | .ok l => .tuple [sgL l, .int .i64 0]
  | .error e => .tuple [.nilslice, .int .i64 e]
/-- What integration is asked wrongly. -/
def badH (c : Ct) (t last : Int) : Prop := validC c = false ∨ numB t = false ∨ numB last = false ∨ last ≤ t
theorem wIntegrateBad (T : Tp) (x : List I) (c : Ct) (t last : Int) (hb : badH c t last) (H : AH) : Sound E 14 [tpA T, bx x, hzA c t last] H (.ret (intR (.error 1))) H := by
  refine sound_of_awp tabOk mixed Tryz.func14 rfl (by rfl) Tryz.ntmps14 (by kernel_rfl) (by simp) ?_
  have hV := cValid c
  have hres : (Tryz.f14).results.toList = [.tmp 6, .tmp 7] := rfl
  simp [tpA, hzA]
  refine call_ret (by simpa [ctA] using hV _) ?_
  cases h1 : validC c with
  | false =>
    simp
    exact ⟨[.nilslice, .int .i64 1], [.nilslice, .int .i64 1], by simp [hres, resA], .drop (by simp [noFs, noF]), rfl⟩
  | true =>
    simp
    refine call_ret (fValid t _) ?_
    cases h2 : numB t with
    | false =>
      simp
      exact ⟨[.nilslice, .int .i64 1], [.nilslice, .int .i64 1], by simp [hres, resA], .drop (by simp [noFs, noF]), rfl⟩
    | true =>
      simp
      refine call_ret (fValid last _) ?_
      cases h3 : numB last with
      | false =>
        simp
        exact ⟨[.nilslice, .int .i64 1], [.nilslice, .int .i64 1], by simp [hres, resA], .drop (by simp [noFs, noF]), rfl⟩
      | true =>
        have h4 : last ≤ t := by rcases hb with h | h | h | h <;> simp_all
        simp [h4]
        exact ⟨[.nilslice, .int .i64 1], [.nilslice, .int .i64 1], by simp [hres, resA], .drop (by simp [noFs, noF]), rfl⟩
theorem pushSg {H J : AH} {v v0 : AV} {l : List Sg} {s : Sg} (hacc : Acc H J v 6 (l.map sgA) v0) (h0 : emptyA v0 = true) (hl : l.length ≤ 1000000000) :
    ∃ v' J', appendA tab (H ++ J) 37 v (.slice [sgA s] true) = some (v', H ++ J') ∧ Acc H J' v' 6 ((l ++ [s]).map sgA) v0 ∧ (∀ j y, J[j]? = some y → (∀ n, v ≠ .ref (H.length + j) n) → J'[j]? = some y) ∧ J.length ≤ J'.length ∧ (∀ j n, v' = .ref (H.length + j) n → (∃ m, v = .ref (H.length + j) m) ∨ J.length ≤ j) := by
  obtain ⟨v', J', hap, hacc', hk, hle, hn⟩ := Acc.push (T := tab) (t := 37) (e := 47) (x := .slice [sgA s] true) (ys := [sgA s]) hacc tab37 rfl tab47 h0 rfl (by simp [sgA, bx, okc]) ⟨by decide, by simp⟩ (by simp; omega) (by simp; omega)
  exact ⟨v', J', hap, by simpa using hacc', hk, hle, hn⟩
/-- The state of integration: the request lies in its cell. -/
def LInt (T : Tp) (c : Ct) (t last : Int) (R : Except Int (List Sg)) (H : AH) (n : Nat) (fr : AFr) (H' : AH) : Prop :=
  ∃ l x t' h, fr 3 = .ptr H.length 1 0 0 ∧ fr 5 = .ptr (H.length + 1) 1 0 0 ∧ fr 9 = .ptr (H.length + 2) 1 0 0 ∧ fr 1 = bx x ∧ allV x ∧ x.length = T.n ∧ hzOk c t' last ∧ t' ≤ last ∧ (1 ≤ h ∧ h ≤ 1000000000) ∧
  l.length + n = 256 ∧ R = appS l (intS T c last n x t' h) ∧ ∃ J, H' = H ++ (.row true 3 [tpA T] :: .row true 7 [hzA c t last] :: .row true 8 [rqA ⟨c, t', last, h⟩] :: J) ∧ Acc (H ++ [.row true 3 [tpA T], .row true 7 [hzA c t last], .row true 8 [rqA ⟨c, t', last, h⟩]]) J (fr 8) 6 (l.map sgA) .nilslice
theorem accRebase {H H2 J : AH} {v v0 : AV} {sz : Nat} {l : List AV} (h : Arm.Acc H J v sz l v0) (hl : H2.length = H.length) : Arm.Acc H2 J v sz l v0 := by
  rcases h with h | ⟨k, h1, h2⟩
  · exact .inl h
  · exact .inr ⟨k, by rw [h1, hl], h2⟩
/-- The end of a function that hands out a row of its own and a plain value. -/
theorem finS2 {E : Env} {fr : AFr} {fn : Func} {t u : Tmp} {H0 J : AH} {v v0 w : AV} {sz : Nat} {xs : List AV} {e : AExit} (hr : fn.results.toList = [.tmp t, .tmp u]) (h : fr t = v) (h2 : fr u = w) (hw : ∀ H, conv H w = (w, H)) (hwn : noF H0.length w = true) (hacc : Arm.Acc H0 J v sz xs v0) (h0 : emptyA v0 = true) (hv : noFs H0.length xs = true)
    (hx : e = .ret ∨ e = .normal := by simp) : bodyK E fn H0 (.ret (.tuple [.slice xs false, w])) H0 e fr (H0 ++ J) := by
  obtain ⟨J', hc, _⟩ := hacc.conv h0
  have hnot : ∀ cs, v ≠ .agg cs := by
    rintro cs rfl
    rcases hacc with ⟨_, h2⟩ | ⟨k, h2, _⟩
    · rw [← h2] at h0; cases h0
    · cases h2
  have hcv : conv (H0 ++ J) v = conv1 (H0 ++ J) v := by cases v <;> first | rfl | exact absurd rfl (hnot _)
  exact finC (rs := [.tmp t, .tmp u]) (vs := [v, w]) (vs' := [.slice xs false, w]) (J' := J') hr (by simp [resA, h, h2]) (by simp only [convL, hcv, hc, hw]) (by simp [noFs, noF, hv, hwn]) rfl hx
theorem hz_facts {c : Ct} {t last h : Int} (hk : hzOk c t last) (ht : t < last) (hh : 1 ≤ h ∧ h ≤ 1000000000) : rqOk ⟨c, t, last, h⟩ := hk.rq ht hh
set_option maxHeartbeats 1000000 in
theorem wIntegrate (T : Tp) (x : List I) (c : Ct) (t last : Int) (hT : tpOk T) (hx : allV x) (hxn : x.length = T.n) (hn : 1 ≤ T.n) (hk : hzOk c t last) (hv : validC c = true) (htl : t < last) (hi : 1 ≤ initS c (last - t) ∧ initS c (last - t) ≤ 1000000000) (H : AH) :
    Sound E 14 [tpA T, bx x, hzA c t last] H (.ret (intR (intS T c last 256 x t (initS c (last - t))))) H := by
  refine sound_of_awp tabOk mixed Tryz.func14 rfl (by rfl) Tryz.ntmps14 (by kernel_rfl) (by simp) ?_
  have hV := cValid c
  rw [hv] at hV
  have hres : (Tryz.f14).results.toList = [.tmp 6, .tmp 7] := rfl
  have kt := hk.t
  have kl := hk.last
  have n1 : numB t = true := numB_iff.2 (by omega)
  have n2 : numB last = true := numB_iff.2 (by omega)
  have hF1 := fValid t
  have hF2 := fValid last
  rw [n1] at hF1
  rw [n2] at hF2
  have h4 : ¬ last ≤ t := by omega
  have wsub : IntKind.i64.wrap (last - t) = last - t := wrap64 (by omega) (by omega)
  have hI := fun Hx => cInitial c (last - t) Hx
  have hor : ((c.order.toNat : Nat) : Int) = c.order := by have := hk.order; omega
  simp [tpA, hzA]
  refine call_ret (by simpa [ctA] using hV _) ?_
  simp
  refine call_ret (hF1 _) ?_
  simp
  refine call_ret (hF2 _) ?_
  simp [h4, wsub]
  refine callD_ret0 (fun Hx => by simpa [ctA] using hI Hx) ?_
  simp
  refine endD [(15, 16)] (by rfl) (by simp [okW, note, Eff.triv, Eff.wr, Eff.none, upTo, newAt]) ?_
  simp
  generalize hh0 : initS c (last - t) = h0 at *
  generalize hR : intS T c last 256 x t h0 = R
  refine loop_count (LInt T c t last R H) (fun n => n + 1) 256 ⟨[], x, t, h0, by simp, by simp, by simp, by simp [bx], hx, hxn, hk, by omega, hi, by simp, by rw [appS_nil, hR], [], by simp [tpA, hzA, rqA], .inl ⟨by simp, by simp⟩⟩ ?_
  clear hR hh0 hi hx hxn hI wsub h4 hF1 hF2 n1 n2 kt
  clear h0 x
  rintro n fr H' ⟨l, x, t', h, g3, g5, g9, g1, hx, hxn, hk', htl', hh, hln, hR, J, rfl, hacc⟩
  have kt := hk'.t
  simp [g3, g5, g9, hzA, rqA]
  refine branch (fun hc => ?_) (fun hc => ?_)
  · have hlt : t' < last := by simpa using hc
    have hw := hk'.rq hlt hh
    have hA := cAdvance T x ⟨c, t', last, h⟩ hT hx hxn hn hw
    rw [advO_eq] at hA
    cases hr : advS T x ⟨c, t', last, h⟩ with
    | none =>
      rw [hr] at hA
      rw [intS_none hlt hr] at hR
      simp [g1, g3, g9, tpA, rqA]
      refine call_ret (by simpa [tpA, rqA] using hA _) ?_
      simp [segC, zsA, erO, nxC]
      refine call_ret (by simpa [erA] using eIs 130 0 _) ?_
      simp
      rw [hR]
      exact ⟨[.nilslice, .int .i64 130], [.nilslice, .int .i64 130], by simp [hres, resA], .drop (by simp [noFs, noF]), rfl⟩
    | some s =>
      obtain ⟨a1, a2, a3, a4, a5⟩ := advS_ok hT hx hxn hw hr
      have hst : s.t = t' := a5.ht
      have hf : firstH ⟨c, t', last, h⟩ ≤ last - t' := by unfold firstH; simp only; omega
      rw [hr] at hA
      have w1 : IntKind.i64.wrap (s.t + s.h) = s.t + s.h := wrap64 (by omega) (by omega)
      simp [g1, g3, g9, tpA, rqA]
      refine call_ret (by simpa [tpA, rqA] using hA _) ?_
      simp [segC, sgA, bx, erO]
      refine call_ret (by simpa [erA] using eIs 0 0 _) ?_
      simp
      have hl3 : l.length ≤ 256 := by omega
      have hnx := nxS_b hk' hh (s := s) a2
      have hstep := hk'.step (t' := s.t + s.h) (by omega) (by omega)
      obtain ⟨v', J', hap, hacc', hold, _, _⟩ := pushSg (s := s) (hacc.len (L := [.row true 6 [sgA s]])) rfl (by omega)
      rcases hacc with ⟨h0, hv8⟩ | ⟨kk, hv8, hJk⟩
      · have hl0 : l = [] := by simpa using h0
        subst hl0
        obtain ⟨m, rfl⟩ : ∃ m, n = m + 1 := ⟨n - 1, by simp at hln; omega⟩
        rw [intS_some hlt hr, appS_cons] at hR
        have hs6 := hold J.length (.row true 6 [sgA s]) (by simp) (by rw [hv8]; intro n hh; cases hh)
        clear hold
        simp only [sgA, bx] at hs6
        simp [hv8]
        refine bind_some (by simpa [sgA, bx, tpA, hzA, rqA, hv8] using hap) ?_
        simp [g9, w1, hs6]
        refine endD [(9, 11)] (by rfl) (by simp [okW, note, Eff.triv, Eff.wr, Eff.none, upTo, newAt]) ?_
        simp
        exact ⟨m, by show m + 1 < m + 1 + 1; omega, [s], s.to, s.t + s.h, nxS ⟨c, t', last, h⟩ s, by simp [g3], by simp [g5], by simp [g9], by simp [bx], a5.vto, a5.nto, hstep, by omega, hnx, by simp at hln ⊢; omega, hR, J', by simp [tpA, hzA, rqA, nxC, nxS], by simpa using accRebase hacc' (by simp)⟩
      · have hkl := (List.getElem?_eq_some_iff.1 hJk).1
        have hJ2 := old hJk
        have hv9 : fr 8 = .ref (H.length + (kk + 3)) l.length := by rw [hv8]; simp; omega
        by_cases hn0 : n = 0
        · subst hn0
          rw [intS_full hlt hr] at hR
          have h256 : l.length = 256 := by omega
          simp [hv9, hJ2, h256]
          rw [hR]
          exact ⟨[.nilslice, .int .i64 140], [.nilslice, .int .i64 140], by simp [hres, resA], .drop (by simp [noFs, noF]), rfl⟩
        · obtain ⟨m, rfl⟩ : ∃ m, n = m + 1 := ⟨n - 1, by omega⟩
          rw [intS_some hlt hr, appS_cons] at hR
          have h256 : ((l.length : Int) == 256) = false := by rw [beq_eq_false_iff_ne]; omega
          have hs6 := hold J.length (.row true 6 [sgA s]) (by simp) (by rw [hv8]; intro n hh; simp at hh; omega)
          clear hold
          simp only [sgA, bx] at hs6
          simp [hv9, hJ2, h256]
          refine bind_some (by simpa [sgA, bx, tpA, hzA, rqA, hv9] using hap) ?_
          simp [g9, w1, hs6]
          refine endD [(9, 11)] (by rfl) (by simp [okW, note, Eff.triv, Eff.wr, Eff.none, upTo, newAt]) ?_
          simp
          exact ⟨m, by show m + 1 < m + 1 + 1; omega, l ++ [s], s.to, s.t + s.h, nxS ⟨c, t', last, h⟩ s, by simp [g3], by simp [g5], by simp [g9], by simp [bx], a5.vto, a5.nto, hstep, by omega, hnx, by simp; omega, hR, J', by simp [tpA, hzA, rqA, nxC, nxS], by simpa using accRebase hacc' (by simp)⟩
  · have hlt : ¬ t' < last := by simpa using hc
    rw [intS_end hlt] at hR
    have hR2 : R = .ok l := by rw [hR]; simp [appS]
    rw [hR2]
    simp
    exact finS2 (t := 6) (u := 7) hres (by simp) (by simp) (fun H => rfl) (by simp [noF]) (accBase hacc) rfl (sgs_noFs _ _)
end Go.Proofs.YtfjjckepnkkgjaaGreatDoor.Arm

/- Made flows. -/
namespace Go.Pl

def pickI (p : I) (k : Int) : Int := p.1 + k.tmod (p.2 - p.1 + 1)
def u32 (x : Int) : Int := x % 4294967296
theorem u32_b (x : Int) : 0 ≤ u32 x ∧ u32 x ≤ 4294967295 := by unfold u32; omega
theorem pickI_in {p : I} {k : Int} (hp : p.1 ≤ p.2) (hk : 0 ≤ k) : p.1 ≤ pickI p k ∧ pickI p k ≤ p.2 := by
  have h1 := Int.tmod_nonneg (p.2 - p.1 + 1) hk
  have h2 := Int.tmod_lt_of_pos k (b := p.2 - p.1 + 1) (by omega)
  unfold pickI
  omega
def partI (p x : I) : I := (min (pickI p (u32 x.1)) (pickI p (u32 x.2)), max (pickI p (u32 x.1)) (pickI p (u32 x.2)))
def partB (b pick : List I) : List I := (List.range b.length).map fun k => partI (atN b k) (atN pick k)
theorem partB_len (b pick : List I) : (partB b pick).length = b.length := by simp [partB]
def nearP (p : I) (w : Int) : I := (p.1.tmod 1048576, p.1.tmod 1048576 + (p.2.tmod w + w).tmod w)
def nbox (b : List I) (n : Nat) : List I := (List.range n).map fun k => nearP (atN b k) 200000
theorem nbox_len (b : List I) (n : Nat) : (nbox b n).length = n := by simp [nbox]
def mdH (h : Int) : Int := 1 + (h.tmod 65536 + 65536).tmod 65536
theorem mdH_b (h : Int) : 1 ≤ mdH h ∧ mdH h ≤ 65536 := by
  obtain ⟨a, b⟩ := tmod_bounds h (b := 65536) (by decide)
  have h0 : 0 ≤ h.tmod 65536 + 65536 := by
    by_cases hh : 0 ≤ h
    · have := a hh; omega
    · have := b (by omega); omega
  have h1 := Int.tmod_nonneg 65536 h0
  have h2 := Int.tmod_lt_of_pos (h.tmod 65536 + 65536) (b := 65536) (by decide)
  unfold mdH
  omega
def sgAt (l : List Sg) (i : Nat) : Sg := (l[i]?).getD zeroSg
def mdSeg (s : Sg) (n : Nat) (t : Int) : Sg := ⟨t, mdH s.h, partB (nbox s.tube n) s.frm, nbox s.tube n, nbox s.tube n, partB (nbox s.tube n) s.to⟩
def mdT0 (l : List Sg) : Int := if 0 < l.length then (sgAt l 0).t.tmod 1048576 else 0
/-- The first segments, the time behind them. -/
def mdG (l : List Sg) (n : Nat) : Nat → List Sg × Int
  | 0 => ([], mdT0 l)
  | i + 1 => ((mdG l n i).1 ++ [mdSeg (sgAt l i) n (mdG l n i).2], (mdG l n i).2 + mdH (sgAt l i).h)
def mdF (l : List Sg) (n most : Nat) : List Sg := (mdG l n (max 1 (min l.length most))).1
theorem mdG_len (l : List Sg) (n : Nat) : ∀ i, (mdG l n i).1.length = i
  | 0 => rfl
  | i + 1 => by simp [mdG, mdG_len l n i]
theorem mdT0_b (l : List Sg) : -1048576 < mdT0 l ∧ mdT0 l < 1048576 := by
  unfold mdT0
  split
  · obtain ⟨a, b⟩ := tmod_bounds (sgAt l 0).t (b := 1048576) (by decide)
    by_cases hh : 0 ≤ (sgAt l 0).t
    · have := a hh; omega
    · have := b (by omega); omega
  · omega
theorem mdG_t (l : List Sg) (n : Nat) : ∀ i, mdT0 l + i ≤ (mdG l n i).2 ∧ (mdG l n i).2 ≤ mdT0 l + 65536 * i
  | 0 => by simp [mdG]
  | i + 1 => by
    have := mdG_t l n i
    have := mdH_b (sgAt l i).h
    simp only [mdG]
    omega
theorem Ctg.snoc : ∀ {l : List Sg} {t : Int} {s : Sg}, Ctg t l → s.t = endT t l → 1 ≤ s.h → Ctg t (l ++ [s]) ∧ endT t (l ++ [s]) = s.t + s.h
  | [], t, s, _, h1, h2 => ⟨⟨h1, h2, trivial⟩, rfl⟩
  | a :: l, t, s, hc, h1, h2 => by
    have := Ctg.snoc (s := s) hc.2.2 h1 h2
    exact ⟨⟨hc.1, hc.2.1, this.1⟩, this.2⟩
theorem mdG_ctg (l : List Sg) (n : Nat) : ∀ i, Ctg (mdT0 l) (mdG l n i).1 ∧ endT (mdT0 l) (mdG l n i).1 = (mdG l n i).2
  | 0 => ⟨trivial, rfl⟩
  | i + 1 => by
    obtain ⟨h1, h2⟩ := mdG_ctg l n i
    have := Ctg.snoc (s := mdSeg (sgAt l i) n (mdG l n i).2) h1 h2.symm (mdH_b _).1
    exact ⟨this.1, this.2⟩
theorem mdG_mem (l : List Sg) (n : Nat) : ∀ i, ∀ s ∈ (mdG l n i).1, ∃ r t, s = mdSeg r n t
  | 0, s, h => by simp [mdG] at h
  | i + 1, s, h => by
    simp only [mdG, List.mem_append, List.mem_singleton] at h
    rcases h with h | h
    · exact mdG_mem l n i s h
    · exact ⟨_, _, h⟩
theorem nearP_b (p : I) : -1048576 < (nearP p 200000).1 ∧ (nearP p 200000).1 ≤ (nearP p 200000).2 ∧ (nearP p 200000).2 < 1248576 := by
  obtain ⟨a, b⟩ := tmod_bounds p.1 (b := 1048576) (by decide)
  have h1 : -1048576 < p.1.tmod 1048576 ∧ p.1.tmod 1048576 < 1048576 := by
    by_cases hh : 0 ≤ p.1
    · have := a hh; omega
    · have := b (by omega); omega
  obtain ⟨a, b⟩ := tmod_bounds p.2 (b := 200000) (by decide)
  have h0 : 0 ≤ p.2.tmod 200000 + 200000 := by
    by_cases hh : 0 ≤ p.2
    · have := a hh; omega
    · have := b (by omega); omega
  have h2 := Int.tmod_nonneg 200000 h0
  have h3 := Int.tmod_lt_of_pos (p.2.tmod 200000 + 200000) (b := 200000) (by decide)
  unfold nearP
  simp only
  omega
theorem part_sub (b pick : List I) (hb : ∀ k, (atN b k).1 ≤ (atN b k).2) : subI (partB b pick) b = true := by
  unfold subI
  rw [List.all_eq_true]
  intro i hi
  have hi' : i < b.length := by rw [← partB_len b pick]; exact List.mem_range.1 hi
  have e : atN (partB b pick) i = partI (atN b i) (atN pick i) := by simp [partB, atN, hi']
  have h1 := pickI_in (k := u32 (atN pick i).1) (hb i) (u32_b _).1
  have h2 := pickI_in (k := u32 (atN pick i).2) (hb i) (u32_b _).1
  rw [e]
  unfold subB partI
  simp only [Bool.and_eq_true, decide_eq_true_eq]
  omega
theorem nbox_at (b : List I) (n k : Nat) : (atN (nbox b n) k).1 ≤ (atN (nbox b n) k).2 := by
  rcases Nat.lt_or_ge k n with h | h
  · have e : atN (nbox b n) k = nearP (atN b k) 200000 := by simp [nbox, atN, h]
    rw [e]; exact (nearP_b _).2.1
  · have e : atN (nbox b n) k = (0, 0) := by simp [nbox, atN, h]
    rw [e]; exact Int.le_refl _
end Go.Pl

namespace Go.Proofs.YtfjjckepnkkgjaaGreatDoor.Arm
open Go.Arm Go.Pl

theorem rPick (p : I) (k : Int) (hp : -2147483648 ≤ p.1 ∧ p.1 ≤ p.2 ∧ p.2 ≤ 2147483648) (hk : 0 ≤ k ∧ k ≤ 4294967295) (H : AH) : Sound E 22 [iv p, .int .u32 k] H (.ret (.int .i64 (pickI p k))) H := by
  refine sound_of_awp tabOk mixed Tryz.func22 rfl (by rfl) Tryz.ntmps22 (by kernel_rfl) (by simp) ?_
  have hin := pickI_in hp.2.1 hk.1
  have w1 : IntKind.i64.wrap k = k := wrap64 (by omega) (by omega)
  have w2 : IntKind.i64.wrap (p.2 - p.1) = p.2 - p.1 := wrap64 (by omega) (by omega)
  have w3 : IntKind.i64.wrap (p.2 - p.1 + 1) = p.2 - p.1 + 1 := wrap64 (by omega) (by omega)
  have h1 := Int.tmod_nonneg (p.2 - p.1 + 1) hk.1
  have h2 := Int.tmod_lt_of_pos k (b := p.2 - p.1 + 1) (by omega)
  have w4 : IntKind.i64.wrap (k.tmod (p.2 - p.1 + 1)) = k.tmod (p.2 - p.1 + 1) := wrap64 (by omega) (by omega)
  have w5 : IntKind.i64.wrap (p.1 + k.tmod (p.2 - p.1 + 1)) = pickI p k := by rw [wrap64 (by omega) (by omega)]; rfl
  have hne : ¬ p.2 - p.1 + 1 = 0 := by omega
  simp [w1, w2, w3, hne, w4, w5]
  refine endD [] (by rfl) (by simp [okW, note, Eff.triv, Eff.wr, Eff.none, upTo, newAt]) ?_
  simp
  exact fin1 (rs := [.tmp 4]) (by rfl) (by simp [resA]) (by simp [noF])
theorem rMag (p : I) (hp : -2147483648 ≤ p.1 ∧ p.1 ≤ p.2 ∧ p.2 ≤ 2147483648) (H : AH) : Sound E 67 [iv p] H (.ret (.int .i64 (max (max p.1 (-p.1)) (max p.2 (-p.2))))) H := by
  refine sound_of_awp tabOk mixed Tryz.func67 rfl (by rfl) Tryz.ntmps67 (by kernel_rfl) (by simp) ?_
  have w1 : IntKind.i64.wrap (-p.1) = -p.1 := wrap64 (by omega) (by omega)
  have w2 : IntKind.i64.wrap (-p.2) = -p.2 := wrap64 (by omega) (by omega)
  simp [w1, w2]
  refine fin1 (rs := [.tmp 2]) (by rfl) ?_ (by simp [noF])
  simp only [resA, Option.map_some, Option.some.injEq, List.cons.injEq, and_true]
  simp [Int.max_def]
  (repeat' split) <;> omega
theorem r14Control (o : Int) (ho : 0 ≤ o ∧ o ≤ 255) (H : AH) : Sound E 48 [.int .u8 o] H (.ret (ctA ⟨1 + o.tmod 3, 4096, 1024, 16384, 16777216⟩)) H := by
  refine sound_of_awp tabOk mixed Tryz.func48 rfl (by rfl) Tryz.ntmps48 (by kernel_rfl) (by simp) ?_
  have h1 := Int.tmod_nonneg 3 ho.1
  have h2 := Int.tmod_lt_of_pos o (b := 3) (by decide)
  have w0 : IntKind.u8.wrap (o.tmod 3) = o.tmod 3 := wrap8 (by omega) (by omega)
  have w1 : IntKind.i64.wrap (o.tmod 3) = o.tmod 3 := wrap64 (by omega) (by omega)
  have w2 : IntKind.i64.wrap (1 + o.tmod 3) = 1 + o.tmod 3 := wrap64 (by omega) (by omega)
  simp [w0, w1, w2]
  exact fin1 (rs := [.cell 2 32]) (by rfl) (by simp [resA, ctA]) (by simp [noF, noFs, ctA])
def ctS (o : Int) : Ct := ⟨1 + o.tmod 3, 4096, 1024, 16384, 16777216⟩
def hzT (t : Int) : Int := t.tmod 1048576
theorem r14Horizon (o t l : Int) (ho : 0 ≤ o ∧ o ≤ 255) (ht : -2147483648 ≤ t ∧ t ≤ 2147483647) (hl : 0 ≤ l ∧ l ≤ 65535) (H : AH) : Sound E 40 [.int .u8 o, .int .i32 t, .int .u16 l] H (.ret (hzA (ctS o) (hzT t) (hzT t + 1 + l))) H := by
  refine sound_of_awp tabOk mixed Tryz.func40 rfl (by rfl) Tryz.ntmps40 (by kernel_rfl) (by simp) ?_
  have hC := r14Control o ho
  obtain ⟨a, b⟩ := tmod_bounds t (b := 1048576) (by decide)
  have hb : -1048576 < t.tmod 1048576 ∧ t.tmod 1048576 < 1048576 := by
    by_cases hh : 0 ≤ t
    · have := a hh; omega
    · have := b (by omega); omega
  have w0 : IntKind.i64.wrap t = t := wrap64 (by omega) (by omega)
  have w1 : IntKind.i64.wrap (t.tmod 1048576) = t.tmod 1048576 := wrap64 (by omega) (by omega)
  have w2 : IntKind.i64.wrap (t.tmod 1048576 + 1) = t.tmod 1048576 + 1 := wrap64 (by omega) (by omega)
  have w3 : IntKind.i64.wrap l = l := wrap64 (by omega) (by omega)
  have w4 : IntKind.i64.wrap (t.tmod 1048576 + 1 + l) = t.tmod 1048576 + 1 + l := wrap64 (by omega) (by omega)
  simp [w0, w1]
  refine call_ret (hC _) ?_
  simp [w2, w3, w4, ctA]
  exact fin1 (rs := [.cell 6 34]) (by rfl) (by simp [resA, hzA, ctS, hzT]) (by simp [noF, noFs, hzA])
theorem nbox_eq (b : List I) (n : Nat) : nbox b n = nrb b 200000 n := by
  unfold nbox nrb atN nearP nearI; rfl
def LNb (l : List I) (n : Nat) (H : AH) (i : Nat) (fr : AFr) (H' : AH) : Prop :=
  fr 0 = bx l ∧ fr 1 = .int .i64 n ∧ fr 6 = .int .i64 i ∧ i ≤ n ∧ ∃ J, H' = H ++ J ∧ Acc H J (fr 5) 2 ((nrb l 200000 i).map iv) (.slice [] true)
theorem r14Box (l : List I) (n : Nat) (hn : n ≤ 1000000) (hl : l.length ≤ 200000000000000) (H : AH) : Sound E 69 [bx l, .int .i64 n] H (.ret (bx (nbox l n))) H := by
  rw [nbox_eq]
  refine sound_of_awp tabOk mixed Tryz.func69 rfl (by rfl) Tryz.ntmps69 (by kernel_rfl) (by simp) ?_
  have hw : (1 : Int) ≤ 200000 ∧ (200000 : Int) ≤ 1000000 := by decide
  simp [bx]
  refine loop_count (LNb l n H) (fun i => n - i) 0 ⟨by simp [bx], by simp, by simp, by omega, [], by simp, .inl ⟨by simp [nrb], by simp⟩⟩ ?_
  rintro i fr H' ⟨g0, g1, g8, hi, J, rfl, hacc⟩
  simp [g1, g8]
  refine branch (fun hc => ?_) (fun hc => ?_)
  · have hlt : i < n := by simpa using hc
    have w2 : IntKind.i64.wrap ((i : Int) + 1) = ((i + 1 : Nat) : Int) := by rw [wrap64 (by omega) (by omega)]; omega
    simp [g0, g8, bx]
    refine branch (fun hc2 => ?_) (fun hc2 => ?_)
    · have hlt2 : i < l.length := by simpa using hc2
      obtain ⟨p, hp⟩ := get_lt hlt2
      have hpE : ∀ h, l[i]'h = p := fun h => (List.getElem?_eq_some_iff.1 hp).2
      simp [g0, g8, bx, hp, hpE]
      refine call_ret (rNear p 200000 hw _) ?_
      simp
      obtain ⟨v', J', hap, hacc', _⟩ := pushIv (p := nearI p 200000) (hacc.len (L := [.row true 2 [iv p]])) rfl (by rw [nrb_len]; omega)
      refine bind_some (by simpa [iv] using hap) ?_
      simp [g8, w2]
      exact ⟨i + 1, by show n - (i + 1) < n - i; omega, by simp [g0, bx], by simp [g1], by simp, by omega, J', rfl, by rw [nrb_succ]; simpa [hp] using hacc'⟩
    · have hlt2 : l[i]? = none := by
        have : ¬ i < l.length := by simpa using hc2
        rw [List.getElem?_eq_none_iff]; omega
      simp
      refine call_ret (rNear (0, 0) 200000 hw _) ?_
      simp
      obtain ⟨v', J', hap, hacc', _⟩ := pushIv (p := nearI (0, 0) 200000) (hacc.len (L := [.row true 2 [iv (0, 0)]])) rfl (by rw [nrb_len]; omega)
      refine bind_some (by simpa [iv] using hap) ?_
      simp [g8, w2]
      exact ⟨i + 1, by show n - (i + 1) < n - i; omega, by simp [g0, bx], by simp [g1], by simp, by omega, J', rfl, by rw [nrb_succ]; simpa [hlt2] using hacc'⟩
  · have hi' : i = n := by
      have : ¬ i < n := by simpa using hc
      omega
    subst hi'
    simp
    exact finS (t := 4) (by rfl) (by simp) hacc rfl (iv_noFs _ _)
theorem partB_take {b pick : List I} {i : Nat} (h : i < b.length) : (partB b pick).take (i + 1) = (partB b pick).take i ++ [partI (atN b i) (atN pick i)] := by
  rw [List.take_add_one]
  congr 1
  simp [partB, h]
def LPa (b pick : List I) (H : AH) (i : Nat) (fr : AFr) (H' : AH) : Prop :=
  fr 0 = bx b ∧ fr 1 = bx pick ∧ fr 6 = .int .i64 i ∧ i ≤ b.length ∧ ∃ J, H' = H ++ J ∧ Acc H J (fr 5) 2 (((partB b pick).take i).map iv) (.slice [] true)
theorem r14Part (b pick : List I) (hb : ∀ p ∈ b, -2147483648 ≤ p.1 ∧ p.1 ≤ p.2 ∧ p.2 ≤ 2147483648) (hl : b.length ≤ 1000000) (hp : pick.length ≤ 200000000000000) (H : AH) : Sound E 70 [bx b, bx pick] H (.ret (bx (partB b pick))) H := by
  refine sound_of_awp tabOk mixed Tryz.func70 rfl (by rfl) Tryz.ntmps70 (by kernel_rfl) (by simp) ?_
  simp [bx]
  refine loop_count (LPa b pick H) (fun i => b.length - i) 0 ⟨by simp [bx], by simp [bx], by simp, by omega, [], by simp, .inl ⟨by simp, by simp⟩⟩ ?_
  rintro i fr H' ⟨g0, g1, g6, hi, J, rfl, hacc⟩
  simp [g0, g6, bx]
  refine branch (fun hc => ?_) (fun hc => ?_)
  · have hlt : i < b.length := by simpa using hc
    obtain ⟨p, hp0⟩ := get_lt hlt
    have hpE : ∀ h, b[i]'h = p := fun h => (List.getElem?_eq_some_iff.1 hp0).2
    have hpb := hb p (List.mem_of_getElem? hp0)
    have w2 : IntKind.i64.wrap ((i : Int) + 1) = ((i + 1 : Nat) : Int) := by rw [wrap64 (by omega) (by omega)]; omega
    have wu : ∀ x : Int, IntKind.u32.wrap x = u32 x := fun x => by simp only [IntKind.wrap, IntKind.bits, IntKind.signed]; simp; rfl
    have hPk := fun k (hk : 0 ≤ k ∧ k ≤ 4294967295) Hx => rPick p k hpb hk Hx
    have hat : atN b i = p := by simp [atN, hp0]
    have hlt3 : ((partB b pick).take i).length ≤ 1000000000 := by rw [List.length_take]; omega
    simp [g1, g6, bx]
    refine branch (fun hc2 => ?_) (fun hc2 => ?_)
    · have hlt2 : i < pick.length := by simpa using hc2
      obtain ⟨x, hx⟩ := get_lt hlt2
      have hxE : ∀ h, pick[i]'h = x := fun h => (List.getElem?_eq_some_iff.1 hx).2
      have hatx : atN pick i = x := by simp [atN, hx]
      simp [g0, g1, g6, bx, hx, hxE, hp0, hpE, wu]
      refine callD_ret0 (fun Hx => by simpa using hPk _ (u32_b x.1) Hx) ?_
      simp [g0, g6, bx, hp0, hpE, wu]
      refine callD_ret0 (fun Hx => by simpa using hPk _ (u32_b x.2) Hx) ?_
      simp
      refine endD [] (by rfl) (by simp [okW, note, Eff.triv, Eff.wr, Eff.none, upTo, newAt]) ?_
      simp
      have m1 : (if pickI p (u32 x.2) < pickI p (u32 x.1) then pickI p (u32 x.2) else pickI p (u32 x.1)) = (partI p x).1 := by show _ = min _ _; split <;> omega
      have m2 : (if pickI p (u32 x.1) < pickI p (u32 x.2) then pickI p (u32 x.2) else pickI p (u32 x.1)) = (partI p x).2 := by show _ = max _ _; split <;> omega
      rw [m1, m2]
      obtain ⟨v', J', hap, hacc', _⟩ := pushIv (p := partI p x) (hacc.len (L := [.row true 2 [iv x]])) rfl hlt3
      refine bind_some (by simpa [iv] using hap) ?_
      simp [g6, w2]
      exact ⟨i + 1, by show b.length - (i + 1) < b.length - i; omega, by simp [g0, bx], by simp [g1, bx], by simp, by omega, J', rfl, by rw [partB_take hlt, hat, hatx]; simpa using hacc'⟩
    · have hx : pick[i]? = none := by
        have : ¬ i < pick.length := by simpa using hc2
        rw [List.getElem?_eq_none_iff]; omega
      have hatx : atN pick i = (0, 0) := by simp [atN, hx]
      have hu0 := u32_b 0
      simp [g0, g1, g6, bx, hp0, hpE, wu]
      refine callD_ret0 (fun Hx => by simpa using hPk _ (u32_b 0) Hx) ?_
      simp [g0, g6, bx, hp0, hpE, wu]
      refine callD_ret0 (fun Hx => by simpa using hPk _ (u32_b 0) Hx) ?_
      simp
      refine endD [] (by rfl) (by simp [okW, note, Eff.triv, Eff.wr, Eff.none, upTo, newAt]) ?_
      simp
      have m1 : pickI p (u32 0) = (partI p (0, 0)).1 := (Int.min_self _).symm
      have m2 : pickI p (u32 0) = (partI p (0, 0)).2 := (Int.max_self _).symm
      have hiv : iv (partI p (0, 0)) = .agg [.int .i64 (pickI p (u32 0)), .int .i64 (pickI p (u32 0))] := by show AV.agg [.int .i64 (partI p (0, 0)).1, .int .i64 (partI p (0, 0)).2] = _; rw [← m1, ← m2]
      obtain ⟨v', J', hap, hacc', _⟩ := pushIv (p := partI p (0, 0)) (hacc.len (L := [.row true 2 [iv (0, 0)]])) rfl hlt3
      rw [hiv] at hap
      refine bind_some (by simpa [iv] using hap) ?_
      simp [g6, w2]
      exact ⟨i + 1, by show b.length - (i + 1) < b.length - i; omega, by simp [g0, bx], by simp [g1, bx], by simp, by omega, J', rfl, by rw [partB_take hlt, hat, hatx]; simpa using hacc'⟩
  · have hi' : i = b.length := by
      have : ¬ i < b.length := by simpa using hc
      omega
    subst hi'
    rw [List.take_of_length_le (by rw [partB_len]; exact Nat.le_refl _)] at hacc
    simp
    exact finS (t := 4) (by rfl) (by simp) hacc rfl (iv_noFs _ _)
end Go.Proofs.YtfjjckepnkkgjaaGreatDoor.Arm

namespace Go.Proofs.YtfjjckepnkkgjaaGreatDoor.Arm
open Go.Arm Go.Pl

theorem app_sg0 {H : AH} {s : Sg} {f : Bool} : appendA tab H 37 (.slice [] true) (.slice [sgA s] f) = some (.ref H.length 1, H ++ [.row true 6 [sgA s]]) := by
  have h2 : appendA tab H 37 (.slice [] true) (.slice [sgA s] f) = growA i47 H (.slice [] true) [sgA s] := by
    simp only [appendA, tab37, tab47, els]
    rfl
  rw [h2]
  rfl
theorem app_sg {H : AH} {s : Sg} {l : List AV} {b n : Nat} {f : Bool} (hn : l.length = n) (hnb : n ≤ 1000000000) (hH : H[b]? = some (.row true 6 l)) :
    appendA tab H 37 (.ref b n) (.slice [sgA s] f) = some (.ref b (n + 1), H.set b (.row true 6 (l ++ [sgA s]))) :=
  app_row tab37 rfl tab47 rfl (by decide) (by simp [sgA, bx, okc]) (by simp [sgA]) (by decide) hn hnb hH
def cntS (l : List Sg) (most : Nat) : Nat := max 1 (min l.length most)
def LMd (l : List Sg) (n most : Nat) (H : AH) (i : Nat) (fr : AFr) (H' : AH) : Prop :=
  fr 0 = sgL l ∧ fr 1 = .int .i64 n ∧ fr 2 = .int .i64 most ∧ fr 8 = .int .i64 (mdG l n i).2 ∧ fr 9 = .int .i64 i ∧ i ≤ cntS l most ∧ ∃ J, H' = H ++ J ∧ Acc H J (fr 7) 6 (((mdG l n i).1).map sgA) (.slice [] true)
theorem r14Made (l : List Sg) (n most : Nat) (hn : n ≤ 1000) (hm : most ≤ 1000) (hl : l.length ≤ 200000000000000) (hs : ∀ s ∈ l, s.frm.length ≤ 200000000000000 ∧ s.tube.length ≤ 200000000000000 ∧ s.to.length ≤ 200000000000000) (H : AH) :
    Sound E 29 [sgL l, .int .i64 n, .int .i64 most] H (.ret (sgL (mdF l n most))) H := by
  refine sound_of_awp tabOk mixed Tryz.func29 rfl (by rfl) Tryz.ntmps29 (by kernel_rfl) (by simp) ?_
  have hc1 : 1 ≤ cntS l most ∧ cntS l most ≤ 1000 := by unfold cntS; omega
  have hcnt : (if (1 : Int) < (if most < l.length then (most : Int) else (l.length : Int)) then (if most < l.length then (most : Int) else (l.length : Int)) else 1) = (cntS l most : Int) := by
    unfold cntS; split <;> split <;> omega
  have hmH : ∀ x : Int, IntKind.i64.wrap (1 + (IntKind.i64.wrap (x.tmod 65536 + 65536)).tmod 65536) = mdH x := fun x => by
    obtain ⟨a, b⟩ := tmod_bounds x (b := 65536) (by decide)
    have h0 : -65536 < x.tmod 65536 ∧ x.tmod 65536 < 65536 := by
      by_cases hh : 0 ≤ x
      · have := a hh; omega
      · have := b (by omega); omega
    have h1 := Int.tmod_nonneg 65536 (show 0 ≤ x.tmod 65536 + 65536 by omega)
    have h2 := Int.tmod_lt_of_pos (x.tmod 65536 + 65536) (b := 65536) (by decide)
    rw [wrap64 (n := x.tmod 65536 + 65536) (by omega) (by omega), wrap64 (by omega) (by omega)]
    rfl
  have w0 : IntKind.i64.wrap ((sgAt l 0).t.tmod 1048576) = (sgAt l 0).t.tmod 1048576 := by
    obtain ⟨a, b⟩ := tmod_bounds (sgAt l 0).t (b := 1048576) (by decide)
    by_cases hh : 0 ≤ (sgAt l 0).t
    · have := a hh; exact wrap64 (by omega) (by omega)
    · have := b (by omega); exact wrap64 (by omega) (by omega)
  have wr1 : IntKind.i64.wrap 1 = 1 := wrap64 (by decide) (by decide)
  have hnb : ∀ b : List I, ∀ p ∈ nbox b n, -2147483648 ≤ p.1 ∧ p.1 ≤ p.2 ∧ p.2 ≤ 2147483648 := fun b p hp => by
    obtain ⟨k, _, rfl⟩ := List.mem_map.1 hp
    have := nearP_b (atN b k)
    omega
  have hN := fun b (hb : b.length ≤ 200000000000000) Hx => r14Box b n (by omega) hb Hx
  have hN0 := fun Hx => (r14Box [] n (by omega) (by simp) Hx).weaken (args := [.nilslice, .int .i64 n]) ⟨by simp only [bx, List.map_nil]; exact Wk.nil, Wk.refl _, trivial⟩
  have hP := fun b pk (hpk : pk.length ≤ 200000000000000) Hx => r14Part (nbox b n) pk (hnb b) (by rw [nbox_len]; omega) hpk Hx
  have hP0 := fun b Hx => (r14Part (nbox b n) [] (hnb b) (by rw [nbox_len]; omega) (by simp) Hx).weaken (args := [bx (nbox b n), .nilslice]) ⟨Wk.refl _, by simp only [bx, List.map_nil]; exact Wk.nil, trivial⟩
  simp only [bx] at hN hN0 hP hP0
  simp [sgL]
  refine branch (fun hp => ?_) (fun hp => ?_)
  · have hpos : 0 < l.length := by simpa using hp
    obtain ⟨a, h0⟩ : ∃ a, l[0]? = some a := ⟨l[0], by simp⟩
    have h0E : ∀ h, l[0]'h = a := fun h => (List.getElem?_eq_some_iff.1 h0).2
    have hsa : sgAt l 0 = a := by simp [sgAt, h0]
    rw [hsa] at w0
    have ht0 : mdT0 l = a.t.tmod 1048576 := by unfold mdT0; rw [if_pos hpos, hsa]
    simp [h0, h0E, hpos, sgA, bx, w0]
    refine loop_count (LMd l n most H) (fun i => cntS l most - i) 0 ⟨by simp [sgL], by simp, by simp, by simp [mdG, ht0], by simp, by omega, [], by simp, .inl ⟨by simp [mdG], by simp⟩⟩ ?_
    clear h0 h0E hsa w0 ht0 a hp
    rintro i fr H' ⟨g0, g1, g2, g8, g9, hi, J, rfl, hacc⟩
    have ht := mdG_t l n i
    have htb := mdT0_b l
    have hgl := mdG_len l n i
    have w2 : IntKind.i64.wrap ((i : Int) + 1) = ((i + 1 : Nat) : Int) := by rw [wrap64 (by omega) (by omega)]; omega
    simp [g0, g2, g9, sgL, hcnt]
    refine branch (fun hc => ?_) (fun hc => ?_)
    · have hlt : i < cntS l most := by simpa using hc
      have hmd := mdH_b (sgAt l i).h
      have wt : IntKind.i64.wrap ((mdG l n i).2 + mdH (sgAt l i).h) = (mdG l n i).2 + mdH (sgAt l i).h := wrap64 (by omega) (by omega)
      simp [g0, g9, sgL]
      refine branch (fun hc2 => ?_) (fun hc2 => ?_)
      · have hlt2 : i < l.length := by simpa using hc2
        obtain ⟨s, hs0⟩ := get_lt hlt2
        have hsE : ∀ h, l[i]'h = s := fun h => (List.getElem?_eq_some_iff.1 hs0).2
        have hsa : sgAt l i = s := by simp [sgAt, hs0]
        obtain ⟨hb1, hb2, hb3⟩ := hs s (List.mem_of_getElem? hs0)
        rw [hsa] at hmd wt
        rcases hacc with ⟨h0, hv⟩ | ⟨kk, hv, hJk⟩
        · have hi0 : i = 0 := by have := congrArg List.length h0; simpa [hgl] using this
          subst hi0
          simp [g0, g1, g9, sgL, hs0, hsE, sgA, bx, hmH]
          refine call_ret (by simpa using hN s.tube hb2 _) ?_
          simp [g8, hv]
          refine callD_ret0 (fun Hx => by simpa using hP s.tube s.frm hb1 Hx) ?_
          simp
          refine callD_ret0 (fun Hx => by simpa using hP s.tube s.to hb3 Hx) ?_
          simp [hmH]
          refine bind_some (by simpa [sgA, bx, mdSeg] using app_sg0 (s := mdSeg s n (mdG l n 0).2)) ?_
          simp
          refine endD [] (by rfl) (by simp [okW, note, Eff.triv, Eff.wr, Eff.none, upTo, newAt]) ?_
          simp [g8, g9, wt, wr1]
          exact ⟨1, by show cntS l most - 1 < cntS l most - 0; omega, by simp [g0, sgL], by simp [g1], by simp [g2], by simp [mdG, hsa], by simp, by omega, J ++ [.row true 6 [sgA s], .row true 6 [sgA (mdSeg s n (mdG l n 0).2)]], by simp [sgA, bx, mdSeg], .inr ⟨J.length + 1, by simp [mdG], by simp [mdG, hsa]⟩⟩
        · simp only [List.length_map, hgl] at hv
          have hJ2 := old hJk
          have hkl := (List.getElem?_eq_some_iff.1 hJk).1
          simp [g0, g1, g9, sgL, hs0, hsE, sgA, bx, hmH]
          refine call_ret (by simpa using hN s.tube hb2 _) ?_
          simp [g8, hv]
          refine callD_ret0 (fun Hx => by simpa using hP s.tube s.frm hb1 Hx) ?_
          simp
          refine callD_ret0 (fun Hx => by simpa using hP s.tube s.to hb3 Hx) ?_
          simp [hmH]
          refine bind_some (by simpa [sgA, bx, mdSeg] using app_sg (s := mdSeg s n (mdG l n i).2) (l := (mdG l n i).1.map sgA) (b := H.length + kk) (by simp [hgl]) (by omega) (by simpa using hJ2 _)) ?_
          simp
          refine endD [] (by rfl) (by simp [okW, note, Eff.triv, Eff.wr, Eff.none, upTo, newAt]; omega) ?_
          simp [g8, g9, w2, wt]
          exact ⟨i + 1, by show cntS l most - (i + 1) < cntS l most - i; omega, by simp [g0, sgL], by simp [g1], by simp [g2], by simp [mdG, hsa], by simp, by omega, (J ++ [ABlk.row true 6 [sgA s]]).set kk (.row true 6 ((mdG l n (i + 1)).1.map sgA)), by simp [mdG, hsa, sgA, bx, mdSeg], .inr ⟨kk, by simp [mdG, hgl], by rw [List.getElem?_set_self (by simp; omega)]⟩⟩
      · exfalso
        have : ¬ i < l.length := by simpa using hc2
        unfold cntS at hlt
        omega
    · have hi' : i = cntS l most := by
        have : ¬ i < cntS l most := by simpa using hc
        omega
      subst hi'
      simp
      exact finS (t := 6) (by rfl) (by simp) hacc rfl (sgs_noFs _ _)
  · have hl0 : l = [] := by
      have : ¬ 0 < l.length := by simpa using hp
      exact List.length_eq_zero_iff.1 (by omega)
    subst hl0
    have hct : cntS [] most = 1 := by unfold cntS; simp
    have hz := hmH 0
    have w5 : IntKind.i64.wrap 65536 = 65536 := wrap64 (by decide) (by decide)
    have e0 : mdH 0 = 1 := by decide
    have hlt0 : ¬ (most : Int) < 0 := by omega
    clear hcnt
    have hif : (if (1 : Int) < (if (most : Int) < 0 then (most : Int) else 0) then (if (most : Int) < 0 then (most : Int) else 0) else 1) = 1 := by rw [if_neg hlt0]; rfl
    simp
    refine loop_count (fun i fr H' => LMd [] n most H i fr H' ∧ (i = 0 → fr 7 = .slice [] true)) (fun i => cntS [] most - i) 0 ⟨⟨by simp [sgL], by simp, by simp, by simp [mdG, mdT0], by simp, by omega, [], by simp, .inl ⟨by simp [mdG], by simp⟩⟩, fun _ => by simp⟩ ?_
    rintro i fr H' ⟨⟨g0, g1, g2, g8, g9, hi, J, rfl, hacc⟩, hz7⟩
    have hgl := mdG_len [] n i
    rw [hct] at hi
    simp [g0, g2, g9, sgL]
    rw [hif]
    refine branch (fun hc => ?_) (fun hc => ?_)
    · have hi0 : i = 0 := by
        have : (i : Int) < 1 := by simpa using hc
        omega
      subst hi0
      rcases hacc with ⟨h0, hv⟩ | ⟨kk, hv, hJk⟩
      · simp [g0, g1, g9, sgL]
        refine call_ret (by simpa using hN0 _) ?_
        simp [g8, hv]
        refine callD_ret0 (fun Hx => by simpa using hP0 [] Hx) ?_
        simp
        refine callD_ret0 (fun Hx => by simpa using hP0 [] Hx) ?_
        simp [w5, wr1]
        refine bind_some (by simpa [sgA, bx, mdSeg, zeroSg, e0] using app_sg0 (s := mdSeg zeroSg n (mdG [] n 0).2)) ?_
        simp
        refine endD [] (by rfl) (by simp [okW, note, Eff.triv, Eff.wr, Eff.none, upTo, newAt]) ?_
        simp [g8, g9, wr1, mdG, mdT0]
        exact ⟨1, by show cntS [] most - 1 < cntS [] most - 0; omega, ⟨by simp [g0, sgL], by simp [g1], by simp [g2], by simp [mdG, mdT0, sgAt, zeroSg, e0], by simp, by omega, J ++ [.row true 6 [zsA], .row true 6 [sgA (mdSeg zeroSg n (mdG [] n 0).2)]], by simp [sgA, bx, mdSeg, zsA, zeroSg, e0, mdG, mdT0], .inr ⟨J.length + 1, by simp [mdG], by simp [mdG, sgAt]⟩⟩, fun h => by omega⟩
      · exfalso
        rw [hz7 rfl] at hv
        cases hv
    · have hi' : i = cntS [] most := by
        have : ¬ (i : Int) < 1 := by simpa using hc
        omega
      subst hi'
      simp
      exact finS (t := 6) (by rfl) (by simp) hacc rfl (sgs_noFs _ _)
end Go.Proofs.YtfjjckepnkkgjaaGreatDoor.Arm

namespace Go.Proofs.YtfjjckepnkkgjaaGreatDoor.Arm
open Go.Arm Go.Pl

/-- The end with values that are rows of one's own, the memory as it was. -/
theorem finC0 {E : Env} {fr : AFr} {fn : Func} {rs : List ResultVar} {H0 : AH} {vs vs' : List AV} {v : AV} {e : AExit} (hr : fn.results.toList = rs) (h : resA E fr H0 rs = some vs) (hc : convL H0 vs = (vs', H0)) (hv : noFs H0.length vs' = true) (ho : one vs' = v)
    (hx : e = .ret ∨ e = .normal := by simp) : bodyK E fn H0 (.ret v) H0 e fr H0 := by
  have := finC (J := []) (J' := []) hr (by rw [List.append_nil]; exact h) (by rw [List.append_nil]; exact hc) hv ho hx
  rwa [List.append_nil] at this
theorem lPoint (n : Int) (hn : -1000 ≤ n ∧ n ≤ 1000) (H : AH) : Sound E 46 [.int .i64 n] H (.ret (bx [(n * 65536, n * 65536)])) H := by
  refine sound_of_awp tabOk mixed Tryz.func46 rfl (by rfl) Tryz.ntmps46 (by kernel_rfl) (by simp) ?_
  have w1 : IntKind.i64.wrap (n * 65536) = n * 65536 := wrap64 (by omega) (by omega)
  have e : pt (n * 65536) = (n * 65536, n * 65536) := pt_num (by omega)
  have hP := rPoint (n * 65536)
  rw [e] at hP
  simp [w1]
  refine call_ret (hP _) ?_
  simp
  exact finC0 (rs := [.tmp 2]) (vs := [.slice [iv (n * 65536, n * 65536)] true]) (vs' := [bx [(n * 65536, n * 65536)]]) (by rfl) (by simp [resA]) (by simp [bx]) (by simp [noFs, noF, bx]) rfl
theorem lSpan (m n : Int) (hm : -1000 ≤ m ∧ m ≤ 1000) (hn : -1000 ≤ n ∧ n ≤ 1000) (H : AH) : Sound E 47 [.int .i64 m, .int .i64 n] H (.ret (bx [(m * 65536, n * 65536)])) H := by
  refine sound_of_awp tabOk mixed Tryz.func47 rfl (by rfl) Tryz.ntmps47 (by kernel_rfl) (by simp) ?_
  have w1 : IntKind.i64.wrap (n * 65536) = n * 65536 := wrap64 (by omega) (by omega)
  have w2 : IntKind.i64.wrap (m * 65536) = m * 65536 := wrap64 (by omega) (by omega)
  simp [w1, w2]
  exact finC0 (rs := [.tmp 4]) (vs := [.slice [iv (m * 65536, n * 65536)] true]) (vs' := [bx [(m * 65536, n * 65536)]]) (by rfl) (by simp [resA]) (by simp [bx]) (by simp [noFs, noF, bx]) rfl
theorem lNum (x : Int) (hx : -2147483648 < x ∧ x < 2147483648) (H : AH) : Sound E 27 [.int .i64 x] H (.ret (insA ⟨1, 0, 0, (x, x)⟩)) H := by
  refine sound_of_awp tabOk mixed Tryz.func27 rfl (by rfl) Tryz.ntmps27 (by kernel_rfl) (by simp) ?_
  have hP := rPoint x
  rw [pt_num hx] at hP
  simp
  refine call_ret (hP _) ?_
  simp
  exact fin1 (rs := [.cell 2 63]) (by rfl) (by simp [resA, insA]) (by simp [noF, noFs, insA])
theorem lSteady (x : Int) (hx : -2147483648 < x ∧ x < 2147483648) (H : AH) : Sound E 21 [.int .i64 x] H (.ret (tpA ⟨1, [⟨1, 0, 0, (x, x)⟩], [0]⟩)) H := by
  refine sound_of_awp tabOk mixed Tryz.func21 rfl (by rfl) Tryz.ntmps21 (by kernel_rfl) (by simp) ?_
  simp
  refine call_ret (lNum x hx _) ?_
  simp [insA]
  exact finC (rs := [.cell 2 25]) (vs := [.agg [.int .i64 1, .slice [insA ⟨1, 0, 0, (x, x)⟩] true, .slice [.int .i64 0] true]]) (vs' := [tpA ⟨1, [⟨1, 0, 0, (x, x)⟩], [0]⟩]) (J' := _) (by rfl) (by simp [resA, insA]) (by simp [tpA, insA, outA]; rfl) (by simp [noFs, noF, tpA, insA, outA]) rfl
def insideB (p : I) (n d : Int) : Bool := decide (268435456 ≤ max (max p.1 (-p.1)) (max p.2 (-p.2))) || (decide (p.1 * d ≤ n) && decide (n ≤ p.2 * d))
theorem lInside (p : I) (n d : Int) (hp : -2147483648 ≤ p.1 ∧ p.1 ≤ p.2 ∧ p.2 ≤ 2147483648) (hd : 0 ≤ d ∧ d ≤ 8589934592) (H : AH) : Sound E 26 [iv p, .int .i64 n, .int .i64 d] H (.ret (.bool (insideB p n d))) H := by
  refine sound_of_awp tabOk mixed Tryz.func26 rfl (by rfl) Tryz.ntmps26 (by kernel_rfl) (by simp) ?_
  have hM := rMag p hp
  unfold insideB
  generalize hm : max (max p.1 (-p.1)) (max p.2 (-p.2)) = m at *
  simp
  refine call_ret (hM _) ?_
  by_cases h1 : 268435456 ≤ m
  · simp [h1]
    exact fin1 (rs := [.tmp 6]) (by rfl) (by simp [resA]) (by simp [noF])
  · have b1 : -268435456 < p.1 ∧ p.1 < 268435456 ∧ -268435456 < p.2 ∧ p.2 < 268435456 := by omega
    have c1 := Int.mul_le_mul_of_nonneg_right (a := p.1) (b := 268435456) (c := d) (by omega) hd.1
    have c2 := Int.mul_le_mul_of_nonneg_right (a := -268435456) (b := p.1) (c := d) (by omega) hd.1
    have c3 := Int.mul_le_mul_of_nonneg_right (a := p.2) (b := 268435456) (c := d) (by omega) hd.1
    have c4 := Int.mul_le_mul_of_nonneg_right (a := -268435456) (b := p.2) (c := d) (by omega) hd.1
    have w1 : IntKind.i64.wrap (p.1 * d) = p.1 * d := wrap64 (by omega) (by omega)
    have w2 : IntKind.i64.wrap (p.2 * d) = p.2 * d := wrap64 (by omega) (by omega)
    by_cases h2 : p.1 * d ≤ n
    · simp [h1, w1, w2, h2]
      exact fin1 (rs := [.tmp 6]) (by rfl) (by simp [resA]) (by simp [noF])
    · simp [h1, w1, w2, h2]
      exact fin1 (rs := [.tmp 6]) (by rfl) (by simp [resA]) (by simp [noF])
/-! ### Items -/
def itA (id : Int) (s : Sg) : AV := .agg [.int .i64 id, .int .i64 s.t, .int .i64 (s.t + s.h), bx s.tube]
def itZ : AV := .agg [.int .i64 0, .int .i64 0, .int .i64 0, .nilslice]
def padT (id : Int) (l : List Sg) (i : Nat) : List AV := (l.take i).map (itA id) ++ List.replicate (l.length - i) itZ
theorem padT_len (id : Int) (l : List Sg) (i : Nat) (h : i ≤ l.length) : (padT id l i).length = l.length := by simp [padT]; omega
theorem padT_set {id : Int} {l : List Sg} {i : Nat} {s : Sg} (h : l[i]? = some s) : (padT id l i).set i (itA id s) = padT id l (i + 1) := by
  have hlt := (List.getElem?_eq_some_iff.1 h).1
  unfold padT
  have e : List.replicate (l.length - i) itZ = itZ :: List.replicate (l.length - (i + 1)) itZ := by
    rw [show l.length - i = (l.length - (i + 1)) + 1 by omega, List.replicate_succ]
  rw [e, List.take_add_one, h, List.set_append_right _ _ (by simp; omega)]
  simp [Nat.min_eq_left (Nat.le_of_lt hlt)]
theorem padT_get {id : Int} {l : List Sg} {i : Nat} (h : i < l.length) : (padT id l i)[i]? = some itZ := by
  unfold padT
  rw [List.getElem?_append_right (by simp; omega), List.getElem?_replicate, if_pos (by simp; omega)]
def LIt (id : Int) (l : List Sg) (H : AH) (i : Nat) (fr : AFr) (H' : AH) : Prop :=
  fr 0 = .int .i64 id ∧ fr 5 = .ref H.length l.length ∧ fr 11 = sgL l ∧ fr 12 = .int .i64 l.length ∧ fr 13 = .int .i64 i ∧ i ≤ l.length ∧ ∃ J, H' = H ++ (.row true 4 (padT id l i) :: J)
theorem wItems (id : Int) (l : List Sg) (hl : l.length ≤ 1000000) (hb : ∀ s ∈ l, -1000000000 ≤ s.t ∧ s.t ≤ 1000000000 ∧ 0 ≤ s.h ∧ s.h ≤ 1000000000) (H : AH) : Sound E 35 [.int .i64 id, sgL l] H (.ret (.slice (l.map (itA id)) false)) H := by
  refine sound_of_awp tabOk mixed Tryz.func35 rfl (by rfl) Tryz.ntmps35 (by kernel_rfl) (by simp) ?_
  simp [sgL]
  refine bind_if (by omega) ?_
  simp
  refine loop_count (LIt id l H) (fun i => l.length - i) 0 ⟨by simp, by simp, by simp [sgL], by simp, by simp, by omega, [], by simp [padT, itZ]⟩ ?_
  rintro i fr H' ⟨g0, g5, g11, g12, g13, hi, J, rfl⟩
  simp [g12, g13]
  refine branch (fun hc => ?_) (fun hc => ?_)
  · have hlt : i < l.length := by simpa using hc
    obtain ⟨s, hs⟩ := get_lt hlt
    have hsE : ∀ h, l[i]'h = s := fun h => (List.getElem?_eq_some_iff.1 hs).2
    have hsb := hb s (List.mem_of_getElem? hs)
    have w2 : IntKind.i64.wrap ((i : Int) + 1) = ((i + 1 : Nat) : Int) := by rw [wrap64 (by omega) (by omega)]; omega
    have w3 : IntKind.i64.wrap (s.t + s.h) = s.t + s.h := wrap64 (by omega) (by omega)
    have emk : mk s.t (s.t + s.h) = (s.t, s.t + s.h) := by unfold mk numB; rw [if_pos (by simp; omega)]
    have hN := fun Hx => iNew s.t (s.t + s.h) Hx
    rw [emk] at hN
    have hset := padT_set (id := id) hs
    have hget := padT_get (id := id) hlt
    have hWl := padT_len id l i hi
    generalize padT id l i = W at *
    have hgE : ∀ h, W[i]'h = itZ := fun h => (List.getElem?_eq_some_iff.1 hget).2
    simp [g0, g5, g11, g13, sgL, hs, hsE, sgA, bx, w3]
    refine callD_ret0 (fun Hx => hN Hx) ?_
    simp [g5, hWl, hlt, hget, hgE, itZ]
    refine endD [(14, 15)] (by rfl) (by simp [okW, note, Eff.triv, Eff.wr, Eff.none, upTo, newAt]) ?_
    simp [g13, w2]
    exact ⟨i + 1, by show l.length - (i + 1) < l.length - i; omega, by simp [g0], by simp [g5], by simp [g11, sgL], by simp [g12], by simp, by omega, _, by rw [← hset]; simp [itA, bx]; rfl⟩
  · have hi' : i = l.length := by
      have : ¬ i < l.length := by simpa using hc
      omega
    subst hi'
    have e : padT id l l.length = l.map (itA id) := by simp [padT]
    rw [e]
    simp
    exact finS (t := 4) (v := .ref (H.length + 0) l.length) (v0 := .nilslice) (sz := 4) (xs := l.map (itA id)) (by rfl) (by simp [g5]) (.inr ⟨0, by simp, by simp⟩) rfl (noFs_iff.2 fun x hx => by obtain ⟨y, _, rfl⟩ := List.mem_map.1 hx; simp only [itA, bx, noF, noFs, iv_noFs, Bool.and_self])
end Go.Proofs.YtfjjckepnkkgjaaGreatDoor.Arm

namespace Go.Proofs.YtfjjckepnkkgjaaGreatDoor.Arm
open Go.Arm Go.Pl

/-- What a law of the chapter takes. -/
structure Fq where
  C : Rt
  X : List I
  order : Int
  t : Int
  last : Int
structure FqOk (q : Fq) : Prop where
  hL : q.C.L.length ≤ 200000000000000
  hO : q.C.out.length ≤ 200000000000000
  hX : q.X.length ≤ 200000000000000
  ho : 0 ≤ q.order ∧ q.order ≤ 255
  ht : -2147483648 ≤ q.t ∧ q.t ≤ 2147483647
  hl : 0 ≤ q.last ∧ q.last ≤ 65535
def fqA (q : Fq) : AV := .agg [.int .i64 q.C.n, .slice (q.C.L.map insA) false, ints q.C.out, bx q.X, .int .u8 q.order, .int .i32 q.t, .int .u16 q.last]
def fqT (q : Fq) : Tp := mkT q.C 10
def fqX (q : Fq) : List I := nrb q.X 4096 (fqT q).n
def fqF (q : Fq) : Int := hzT q.t
def fqE (q : Fq) : Int := hzT q.t + 1 + q.last
theorem fqT_ok (q : Fq) : tpOk (fqT q) ∧ 1 ≤ (fqT q).n ∧ (fqT q).n ≤ 3 := ⟨mkT_ok q.C 10 (by decide), (mkN_b q.C).2⟩
theorem fqX_ok (q : Fq) : allV (fqX q) ∧ (fqX q).length = (fqT q).n := ⟨nrb_valid _ (by omega) _, nrb_len _ _ _⟩
theorem hzT_b (t : Int) : -1048576 < hzT t ∧ hzT t < 1048576 := by
  obtain ⟨a, b⟩ := tmod_bounds t (b := 1048576) (by decide)
  unfold hzT
  by_cases hh : 0 ≤ t
  · have := a hh; omega
  · have := b (by omega); omega
theorem ctS_ok {o : Int} (ho : 0 ≤ o ∧ o ≤ 255) : validC (ctS o) = true ∧ 1 ≤ (ctS o).order ∧ (ctS o).order ≤ 3 := by
  have h1 := Int.tmod_nonneg 3 ho.1
  have h2 := Int.tmod_lt_of_pos o (b := 3) (by decide)
  refine ⟨?_, by show 1 ≤ 1 + o.tmod 3; omega, by show 1 + o.tmod 3 ≤ 3; omega⟩
  unfold validC ctS
  simp only [decide_eq_true_eq]
  omega
theorem fq_hz {q : Fq} (h : FqOk q) : hzOk (ctS q.order) (fqF q) (fqE q) ∧ fqF q < fqE q ∧ fqE q ≤ fqF q + 65536 ∧ (1 ≤ initS (ctS q.order) (fqE q - fqF q) ∧ initS (ctS q.order) (fqE q - fqF q) ≤ 4096) := by
  have hc := ctS_ok h.ho
  have ht := hzT_b q.t
  have hl := h.hl
  have e : initS (ctS q.order) (fqE q - fqF q) = min 4096 (fqE q - fqF q) := rfl
  have m : (ctS q.order).most = 16384 := rfl
  have l : (ctS q.order).least = 1024 := rfl
  unfold fqE fqF at *
  exact ⟨⟨by omega, by omega, by omega, by omega, by omega⟩, by omega, by omega, by omega⟩
set_option maxHeartbeats 2000000 in
theorem lMade (q : Fq) (hq : FqOk q) (H : AH) : Sound E 13 [fqA q] H (.ret (.tuple [tpA (fqT q), bx (fqX q), hzA (ctS q.order) (fqF q) (fqE q)])) H := by
  refine sound_of_awp tabOk mixed Tryz.func13 rfl (by rfl) Tryz.ntmps13 (by kernel_rfl) (by simp) ?_
  have hM := r8Made q.C 10 (by decide) hq.hL hq.hO
  have hB := fun Hx => r8Boxes q.X (fqT q).n 4096 (by have := (fqT_ok q).2; omega) (by omega) hq.hX Hx
  have hZ := fun Hx => r14Horizon q.order q.t q.last hq.ho hq.ht hq.hl Hx
  have eX : nrb q.X 4096 (fqT q).n = fqX q := rfl
  rw [eX] at hB
  have eT : mkT q.C 10 = fqT q := rfl
  rw [eT] at hM
  have eZ : hzA (ctS q.order) (hzT q.t) (hzT q.t + 1 + q.last) = hzA (ctS q.order) (fqF q) (fqE q) := rfl
  rw [eZ] at hZ
  generalize fqT q = T at *
  generalize fqX q = X at *
  generalize ctS q.order = c at *
  generalize fqF q = t0 at *
  generalize fqE q = t1 at *
  simp [fqA, ints]
  refine call_ret (by simpa [rtA, ints, tpA, outA] using hM _) ?_
  simp [tpA, outA, bx]
  refine callD_ret0 (fun Hx => by simpa [bx] using hB Hx) ?_
  simp
  refine callD_ret0 (fun Hx => hZ Hx) ?_
  simp [hzA]
  refine endD [] (by rfl) (by simp [okW, note, Eff.triv, Eff.wr, Eff.none, upTo, newAt]) ?_
  simp
  exact ⟨[tpA T, bx X, hzA c t0 t1], [tpA T, bx X, hzA c t0 t1], by simp [show (Tryz.f13).results.toList = [.cell 2 25, .tmp 3, .cell 4 34] from rfl, resA, tpA, outA, bx, hzA], .drop (by simp [noFs, noF, tpA, bx, hzA, ins_noFs, iv_noFs, outA, noFs_iff]), rfl⟩
/-! ### Fixed examples -/
def exL : List Sg := [⟨0, 65536, [(0, 0)], [(0, 65536)], [(0, 65536)], [(65536, 65536)]⟩, ⟨65536, 65536, [(65536, 65536)], [(65536, 131072)], [(65536, 131072)], [(131072, 131072)]⟩, ⟨131072, 65536, [(131072, 131072)], [(131072, 196608)], [(131072, 196608)], [(196608, 196608)]⟩]
def exT : Tp := ⟨1, [⟨1, 0, 0, (65536, 65536)⟩], [0]⟩
def exS : Sg := ⟨0, 3000, [(0, 0)], [(0, 3000)], [(0, 3000)], [(3000, 3000)]⟩
theorem exInt : intS exT (ctS 0) 3000 256 [(0, 0)] 0 3000 = .ok [exS] := by
  have ha : advS exT [(0, 0)] ⟨ctS 0, 0, 3000, 3000⟩ = some exS := by kernel_rfl
  rw [intS_some (n := 255) (by decide) ha, intS_end (by decide)]
  rfl
theorem exT_ok : tpOk exT := by
  refine ⟨fun i x hx => ?_, rfl, fun k hk => ?_, by simp [exT]⟩
  · cases i with
    | zero => simp [exT] at hx; subst hx; exact .inl ⟨rfl, vB_pair (by omega) (by omega) (by omega)⟩
    | succ i => simp [exT] at hx
  · simp [exT] at hk; subst hk; simp [exT]
theorem exCtg : Ctg 0 exL := ⟨rfl, by decide, rfl, by decide, rfl, by decide, trivial⟩
theorem exTm : ∀ s ∈ exL, tmS s := fun s hs => by
  simp [exL] at hs
  rcases hs with rfl | rfl | rfl <;> exact ⟨by decide, by decide, by decide, by decide⟩
theorem exN : ∀ s ∈ exL, s.tube.length = 1 := fun s hs => by
  simp [exL] at hs
  rcases hs with rfl | rfl | rfl <;> rfl
end Go.Proofs.YtfjjckepnkkgjaaGreatDoor.Arm

/- The arguments of a law as plain data. -/
namespace Go.Arm

theorem list_of {α : Type} {f : α → AV} {p : α → Prop} : ∀ {xs : List AV}, (∀ x ∈ xs, ∃ a, x = f a ∧ p a) → ∃ l : List α, xs = l.map f ∧ ∀ a ∈ l, p a
  | [], h => ⟨[], rfl, fun a ha => by cases ha⟩
  | x :: r, h => by
    obtain ⟨a, rfl, ha⟩ := h x (by simp)
    obtain ⟨l, rfl, hl⟩ := list_of (xs := r) (fun y hy => h y (by simp [hy]))
    exact ⟨a :: l, rfl, fun b hb => by
      rcases List.mem_cons.1 hb with rfl | hb
      · exact ha
      · exact hl b hb⟩
theorem okL_cons {ok : TypeId → AV → Prop} {f : TypeId × Nat} {fs : List (TypeId × Nat)} {vs : List AV} (h : OkL ok (f :: fs) vs) : ∃ v vs', vs = v :: vs' ∧ ok f.1 v ∧ OkL ok fs vs' := by
  cases vs with
  | nil => exact h.elim
  | cons v vs' => exact ⟨v, vs', rfl, h.1, h.2⟩
theorem okL_nil {ok : TypeId → AV → Prop} {vs : List AV} (h : OkL ok [] vs) : vs = [] := by
  cases vs with
  | nil => rfl
  | cons v vs' => exact h.elim
section
variable {tab : Tab}
theorem okBool {n : Nat} {t : TypeId} {i : TI} {v : AV} (hi : tab t = some i) (hd : i.d = .bool) (h : OkA tab (n + 1) t v) : ∃ x, v = .bool x := by
  unfold OkA at h
  rw [hi] at h
  simp only [hd] at h
  exact h
theorem okInt {n : Nat} {t : TypeId} {i : TI} {k : IntKind} {v : AV} (hi : tab t = some i) (hd : i.d = .int k) (h : OkA tab (n + 1) t v) : ∃ x, v = .int k x ∧ (Lit.int k x).wf = true := by
  unfold OkA at h
  rw [hi] at h
  simp only [hd] at h
  exact h
theorem okStr {n : Nat} {t : TypeId} {i : TI} {v : AV} (hi : tab t = some i) (hd : i.d = .str) (h : OkA tab (n + 1) t v) : ∃ s, v = .str s ∧ s.size ≤ maxLen := by
  unfold OkA at h
  rw [hi] at h
  simp only [hd] at h
  exact h
theorem okSlice {n : Nat} {t e : TypeId} {i ie : TI} {v : AV} (hi : tab t = some i) (hd : i.d = .slice e) (he : tab e = some ie) (h : OkA tab (n + 1) t v) : ∃ xs, v = .slice xs false ∧ (∀ x ∈ xs, OkA tab n e x) ∧ xs.length * ie.bytes ≤ reachBytes ∧ xs.length ≤ maxLen := by
  unfold OkA at h
  rw [hi] at h
  simp only [hd] at h
  obtain ⟨xs, h1, h2, h3, h4⟩ := h
  exact ⟨xs, h1, h2, h3 ie he, h4⟩
theorem okStruct {n : Nat} {t : TypeId} {i : TI} {fs : List (TypeId × Nat)} {v : AV} (hi : tab t = some i) (hd : i.d = .struct fs) (h : OkA tab (n + 1) t v) : ∃ vs : List AV, v = .agg (vs.flatMap AV.cells) ∧ OkL (OkA tab n) fs vs := by
  unfold OkA at h
  rw [hi] at h
  simp only [hd] at h
  exact h
theorem okArr {n m : Nat} {t e : TypeId} {i : TI} {v : AV} (hi : tab t = some i) (hd : i.d = .arr m e) (h : OkA tab (n + 1) t v) : ∃ vs : List AV, vs.length = m ∧ v = .agg (vs.flatMap AV.cells) ∧ ∀ x ∈ vs, OkA tab n e x := by
  unfold OkA at h
  rw [hi] at h
  simp only [hd] at h
  exact h
/-- A slice whose elements are told by f. -/
theorem okRow {α : Type} {f : α → AV} {p : α → Prop} {n : Nat} {t e : TypeId} {i ie : TI} {v : AV} (hi : tab t = some i) (hd : i.d = .slice e) (he : tab e = some ie) (hb : 0 < ie.bytes) (hf : ∀ x, OkA tab n e x → ∃ a, x = f a ∧ p a) (h : OkA tab (n + 1) t v) :
    ∃ l : List α, v = .slice (l.map f) false ∧ (∀ a ∈ l, p a) ∧ l.length ≤ 140737488351232 := by
  obtain ⟨xs, rfl, h1, h2, h3⟩ := okSlice hi hd he h
  obtain ⟨l, rfl, hl⟩ := list_of (f := f) (p := p) (fun x hx => hf x (h1 x hx))
  refine ⟨l, rfl, hl, ?_⟩
  have e : reachBytes = 140737488351232 := rfl
  rw [e, List.length_map] at h2
  exact Nat.le_trans (Nat.le_mul_of_pos_right _ hb) h2
end
theorem okArgs1 {T : Tab} {m : Nat} {a : TypeId} {av : List AV} (h : OkArgs T m [a] av) : ∃ x, av = [x] ∧ OkA T m a x := by
  match av, h with
  | [x], h => exact ⟨x, rfl, h.1⟩
theorem okArgs2 {T : Tab} {m : Nat} {a b : TypeId} {av : List AV} (h : OkArgs T m [a, b] av) : ∃ x y, av = [x, y] ∧ OkA T m a x ∧ OkA T m b y := by
  match av, h with
  | [x, y], h => exact ⟨x, y, rfl, h.1, h.2.1⟩
theorem okArgs3 {T : Tab} {m : Nat} {a b c : TypeId} {av : List AV} (h : OkArgs T m [a, b, c] av) : ∃ x y z, av = [x, y, z] ∧ OkA T m a x ∧ OkA T m b y ∧ OkA T m c z := by
  match av, h with
  | [x, y, z], h => exact ⟨x, y, z, rfl, h.1, h.2.1, h.2.2.1⟩
theorem okArgs4 {T : Tab} {m : Nat} {a b c d : TypeId} {av : List AV} (h : OkArgs T m [a, b, c, d] av) : ∃ x y z u, av = [x, y, z, u] ∧ OkA T m a x ∧ OkA T m b y ∧ OkA T m c z ∧ OkA T m d u := by
  match av, h with
  | [x, y, z, u], h => exact ⟨x, y, z, u, rfl, h.1, h.2.1, h.2.2.1, h.2.2.2.1⟩
/-- Bounds of whole numbers. -/
theorem wfI {k : IntKind} {x : Int} (h : (Lit.int k x).wf = true) : k.min ≤ x ∧ x ≤ k.max := by
  simp [Lit.wf] at h
  exact h
theorem wfU8 {x : Int} (h : (Lit.int .u8 x).wf = true) : 0 ≤ x ∧ x ≤ 255 := by have := wfI h; simp [IntKind.min, IntKind.max, IntKind.signed, IntKind.bits] at this; exact this
theorem wfU16 {x : Int} (h : (Lit.int .u16 x).wf = true) : 0 ≤ x ∧ x ≤ 65535 := by have := wfI h; simp [IntKind.min, IntKind.max, IntKind.signed, IntKind.bits] at this; exact this
theorem wfI8 {x : Int} (h : (Lit.int .i8 x).wf = true) : -128 ≤ x ∧ x ≤ 127 := by have := wfI h; simp [IntKind.min, IntKind.max, IntKind.signed, IntKind.bits] at this; exact this
theorem wfI32 {x : Int} (h : (Lit.int .i32 x).wf = true) : -2147483648 ≤ x ∧ x ≤ 2147483647 := by have := wfI h; simp [IntKind.min, IntKind.max, IntKind.signed, IntKind.bits] at this; exact this
theorem wfI64 {x : Int} (h : (Lit.int .i64 x).wf = true) : -9223372036854775808 ≤ x ∧ x ≤ 9223372036854775807 := by have := wfI h; simp [IntKind.min, IntKind.max, IntKind.signed, IntKind.bits] at this; exact this
end Go.Arm

namespace Go.Proofs.YtfjjckepnkkgjaaGreatDoor.Arm
open Go.Arm Go.Pl

theorem okIv {n : Nat} {v : AV} (h : OkA tab (n + 2) 54 v) : ∃ p : I, v = iv p ∧ True := by
  obtain ⟨vs, rfl, hv⟩ := okStruct tab54 rfl h
  obtain ⟨a, vs, rfl, ha, hv⟩ := okL_cons hv
  obtain ⟨b, vs, rfl, hb, hv⟩ := okL_cons hv
  cases okL_nil hv
  obtain ⟨x, rfl, hx⟩ := okInt tab2 rfl ha
  obtain ⟨y, rfl, hy⟩ := okInt tab2 rfl hb
  exact ⟨(x, y), rfl, trivial⟩
theorem okBx {n : Nat} {v : AV} (h : OkA tab (n + 3) 26 v) : ∃ l : List I, v = bx l ∧ l.length ≤ 140737488351232 := by
  obtain ⟨l, rfl, _, hl⟩ := okRow (f := iv) tab26 rfl tab54 (by decide) (fun x hx => okIv hx) h
  exact ⟨l, rfl, hl⟩
theorem okIns {n : Nat} {v : AV} (h : OkA tab (n + 3) 63 v) : ∃ p : Ins, v = insA p ∧ True := by
  obtain ⟨vs, rfl, hv⟩ := okStruct tab63 rfl h
  obtain ⟨a, vs, rfl, ha, hv⟩ := okL_cons hv
  obtain ⟨b, vs, rfl, hb, hv⟩ := okL_cons hv
  obtain ⟨c, vs, rfl, hc, hv⟩ := okL_cons hv
  obtain ⟨d, vs, rfl, hd, hv⟩ := okL_cons hv
  cases okL_nil hv
  obtain ⟨x, rfl, -⟩ := okInt tab3 rfl ha
  obtain ⟨y, rfl, -⟩ := okInt tab3 rfl hb
  obtain ⟨z, rfl, -⟩ := okInt tab3 rfl hc
  obtain ⟨p, rfl, -⟩ := okIv hd
  exact ⟨⟨x, y, z, p⟩, rfl, trivial⟩
theorem okIL {n : Nat} {v : AV} (h : OkA tab (n + 4) 22 v) : ∃ l : List Ins, v = .slice (l.map insA) false ∧ l.length ≤ 140737488351232 := by
  obtain ⟨l, rfl, _, hl⟩ := okRow (f := insA) tab22 rfl tab63 (by decide) (fun x hx => okIns hx) h
  exact ⟨l, rfl, hl⟩
theorem okInts {n : Nat} {v : AV} (h : OkA tab (n + 2) 23 v) : ∃ l : List Int, v = ints l ∧ l.length ≤ 140737488351232 := by
  obtain ⟨l, rfl, _, hl⟩ := okRow (f := fun k : Int => .int .i64 k) (p := fun _ => True) tab23 rfl tab3 (by decide) (fun x hx => by obtain ⟨y, rfl, -⟩ := okInt tab3 rfl hx; exact ⟨y, rfl, trivial⟩) h
  exact ⟨l, rfl, hl⟩
theorem okTp {n : Nat} {v : AV} (h : OkA tab (n + 5) 25 v) : ∃ c : Rt, v = rtA c ∧ c.L.length ≤ 140737488351232 ∧ c.out.length ≤ 140737488351232 := by
  obtain ⟨vs, rfl, hv⟩ := okStruct tab25 rfl h
  obtain ⟨a, vs, rfl, ha, hv⟩ := okL_cons hv
  obtain ⟨b, vs, rfl, hb, hv⟩ := okL_cons hv
  obtain ⟨c, vs, rfl, hc, hv⟩ := okL_cons hv
  cases okL_nil hv
  obtain ⟨x, rfl, -⟩ := okInt tab3 rfl ha
  obtain ⟨l, rfl, hl⟩ := okIL hb
  obtain ⟨o, rfl, ho⟩ := okInts hc
  exact ⟨⟨x, l, o⟩, rfl, hl, ho⟩
theorem okFq {n : Nat} {v : AV} (h : OkA tab (n + 7) 29 v) : ∃ q, v = fqA q ∧ FqOk q := by
  obtain ⟨vs, rfl, hv⟩ := okStruct tab29 rfl h
  obtain ⟨a, vs, rfl, ha, hv⟩ := okL_cons hv
  obtain ⟨b, vs, rfl, hb, hv⟩ := okL_cons hv
  obtain ⟨c, vs, rfl, hc, hv⟩ := okL_cons hv
  obtain ⟨d, vs, rfl, hd, hv⟩ := okL_cons hv
  obtain ⟨e, vs, rfl, he, hv⟩ := okL_cons hv
  cases okL_nil hv
  obtain ⟨C, rfl, h1, h2⟩ := okTp ha
  obtain ⟨x, rfl, h4⟩ := okBx hb
  obtain ⟨o, rfl, ho⟩ := okInt tab5 rfl hc
  obtain ⟨t, rfl, ht⟩ := okInt tab21 rfl hd
  obtain ⟨l, rfl, hl⟩ := okInt tab27 rfl he
  exact ⟨⟨C, x, o, t, l⟩, rfl, ⟨by show C.L.length ≤ _; omega, by show C.out.length ≤ _; omega, by show x.length ≤ _; omega, wfU8 ho, wfI32 ht, wfU16 hl⟩⟩
structure SgLn (s : Sg) : Prop where
  h1 : s.frm.length ≤ 140737488351232
  h2 : s.pre.length ≤ 140737488351232
  h3 : s.tube.length ≤ 140737488351232
  h4 : s.to.length ≤ 140737488351232
theorem okSg {n : Nat} {v : AV} (h : OkA tab (n + 4) 47 v) : ∃ s : Sg, v = sgA s ∧ SgLn s := by
  obtain ⟨vs, rfl, hv⟩ := okStruct tab47 rfl h
  obtain ⟨a, vs, rfl, ha, hv⟩ := okL_cons hv
  obtain ⟨b, vs, rfl, hb, hv⟩ := okL_cons hv
  obtain ⟨c, vs, rfl, hc, hv⟩ := okL_cons hv
  obtain ⟨d, vs, rfl, hd, hv⟩ := okL_cons hv
  obtain ⟨e, vs, rfl, he, hv⟩ := okL_cons hv
  obtain ⟨f, vs, rfl, hf, hv⟩ := okL_cons hv
  cases okL_nil hv
  obtain ⟨x, rfl, -⟩ := okInt tab2 rfl ha
  obtain ⟨y, rfl, -⟩ := okInt tab2 rfl hb
  obtain ⟨p1, rfl, l1⟩ := okBx hc
  obtain ⟨p2, rfl, l2⟩ := okBx hd
  obtain ⟨p3, rfl, l3⟩ := okBx he
  obtain ⟨p4, rfl, l4⟩ := okBx hf
  exact ⟨⟨x, y, p1, p2, p3, p4⟩, rfl, ⟨l1, l2, l3, l4⟩⟩
theorem okSgL {n : Nat} {v : AV} (h : OkA tab (n + 5) 37 v) : ∃ l : List Sg, v = sgL l ∧ (∀ s ∈ l, SgLn s) ∧ l.length ≤ 140737488351232 := by
  obtain ⟨l, rfl, h1, hl⟩ := okRow (f := sgA) tab37 rfl tab47 (by decide) (fun x hx => okSg hx) h
  exact ⟨l, rfl, h1, hl⟩
end Go.Proofs.YtfjjckepnkkgjaaGreatDoor.Arm

namespace Go.Proofs.YtfjjckepnkkgjaaGreatDoor.Arm
open Go.Arm Go.Pl Go.ChangeShapes Go.WideShapes Go.ChangeAt Go.RowKit

theorem own : ownKnob Tryz.prog.godebug = none := by kernel_rfl
theorem laidOut : laidOutB Tryz.prog = true := by kernel_rfl
def laidL : List (String × DataW Unit) := [("armillary/interval.products", Rows.laid_armillary_interval_products), ("armillary/interval.quotients", Rows.laid_armillary_interval_quotients), ("armillary/tape.ops", Rows.laid_armillary_tape_ops)]
/-- The door's own heap meets the condition. -/
theorem door_met (os : Os) (args : Array Value) : laidMetH Tryz.prog laidL ((World.doorLaid Tryz.prog 600 os).forCall (fun _ _ => 0) ⟨#[], args, []⟩).memory :=
  laidMetH_of_parts3 (fuel := 12) (laidMet_of_run' 8 (by kernel_rfl) (by kernel_rfl)) (by kernel_rfl) (by kernel_rfl)
def fnames : List (List UInt8 × FuncId) := [([97, 114, 109, 105, 108, 108, 97, 114, 121, 47, 105, 110, 116, 101, 114, 118, 97, 108, 46, 104, 104], 255), ([97, 114, 109, 105, 108, 108, 97, 114, 121, 47, 105, 110, 116, 101, 114, 118, 97, 108, 46, 108, 108], 256), ([97, 114, 109, 105, 108, 108, 97, 114, 121, 47, 105, 110, 116, 101, 114, 118, 97, 108, 46, 108, 104], 257), ([97, 114, 109, 105, 108, 108, 97, 114, 121, 47, 105, 110, 116, 101, 114, 118, 97, 108, 46, 104, 108], 258), ([97, 114, 109, 105, 108, 108, 97, 114, 121, 47, 105, 110, 116, 101, 114, 118, 97, 108, 46, 78, 101, 103], 184), ([97, 114, 109, 105, 108, 108, 97, 114, 121, 47, 105, 110, 116, 101, 114, 118, 97, 108, 46, 83, 113, 117, 97, 114, 101], 186), ([97, 114, 109, 105, 108, 108, 97, 114, 121, 47, 116, 97, 112, 101, 46, 114, 111, 111, 116], 259), ([97, 114, 109, 105, 108, 108, 97, 114, 121, 47, 105, 110, 116, 101, 114, 118, 97, 108, 46, 65, 100, 100], 175), ([97, 114, 109, 105, 108, 108, 97, 114, 121, 47, 105, 110, 116, 101, 114, 118, 97, 108, 46, 83, 117, 98], 185), ([97, 114, 109, 105, 108, 108, 97, 114, 121, 47, 105, 110, 116, 101, 114, 118, 97, 108, 46, 77, 117, 108], 174), ([97, 114, 109, 105, 108, 108, 97, 114, 121, 47, 105, 110, 116, 101, 114, 118, 97, 108, 46, 68, 105, 118], 207)]
theorem fnames_ok : ∀ p ∈ fnames, ((List.range Tryz.prog.funcs.size).filter fun f => (Tryz.prog.funcs[f]?).any (·.name.toUTF8.data.toList == p.1)) = [p.2] := by
  intro p hp
  simp only [fnames, List.mem_cons, List.not_mem_nil, or_false] at hp
  rcases hp with rfl | rfl | rfl | rfl | rfl | rfl | rfl | rfl | rfl | rfl | rfl <;> kernel_rfl
theorem fnames_ne : ∀ p ∈ fnames, p.1 ≠ [] := by
  intro p hp
  simp only [fnames, List.mem_cons, List.not_mem_nil, or_false] at hp
  rcases hp with rfl | rfl | rfl | rfl | rfl | rfl | rfl | rfl | rfl | rfl | rfl <;> exact List.cons_ne_nil _ _
theorem gProd : Tryz.prog.globalNamed "armillary/interval.products" = some 0 := by kernel_rfl
theorem gQuot : Tryz.prog.globalNamed "armillary/interval.quotients" = some 2 := by kernel_rfl
theorem gOps : Tryz.prog.globalNamed "armillary/tape.ops" = some 1 := by kernel_rfl
theorem glob_met {W : World} (h : laidMetH Tryz.prog laidL W) : ∀ g cs, E.Γ g = some cs → VR [] W (.eptr cs 0) (.pointer (some ⟨g, 0, none⟩)) := by
  intro g cs hg
  have hg' : glob g = some cs := hg
  unfold glob at hg'
  split at hg'
  · cases hg'
    exact glob_of (P := Tryz.prog) (T := tab) (L := fnames) tab_ok h (name := "armillary/interval.products") (List.mem_cons_self ..) gProd (t := 238) (by kernel_rfl) (m := 8) (by kernel_rfl) fnames_ok fnames_ne (by kernel_rfl) (by decide)
  · cases hg'
    exact glob_of (P := Tryz.prog) (T := tab) (L := fnames) tab_ok h (name := "armillary/interval.quotients") (List.mem_cons_of_mem _ (List.mem_cons_self ..)) gQuot (t := 252) (by kernel_rfl) (m := 8) (by kernel_rfl) fnames_ok fnames_ne (by kernel_rfl) (by decide)
  · cases hg'
    exact glob_of (P := Tryz.prog) (T := tab) (L := fnames) tab_ok h (name := "armillary/tape.ops") (List.mem_cons_of_mem _ (List.mem_cons_of_mem _ (List.mem_cons_self ..))) gOps (t := 245) (by kernel_rfl) (m := 8) (by kernel_rfl) fnames_ok fnames_ne (by kernel_rfl) (by decide)
  · cases hg'
end Go.Proofs.YtfjjckepnkkgjaaGreatDoor.Arm

namespace Go.Proofs.YtfjjckepnkkgjaaGreatDoor.Arm
open Go.Arm Go.Pl

def ex2 : List Sg := [⟨0, 65536, [(0, 0)], [(0, 65536)], [(0, 65536)], [(65536, 65536)]⟩, ⟨131072, 65536, [(131072, 131072)], [(131072, 196608)], [(131072, 196608)], [(196608, 196608)]⟩]
theorem zero14 : allV [(0, 0)] := fun p hp => by simp at hp; subst hp; exact vB_pair (by omega) (by omega) (by omega)
theorem hz14 : hzOk (ctS 0) 0 3000 := ⟨by decide, by decide, by decide, by decide, by decide⟩
set_option maxHeartbeats 8000000 in
set_option maxRecDepth 100000 in
theorem lSanity14 (H : AH) : Sound E 12 [] H (.ret (.bool true)) H := by
  refine sound_of_awp tabOk mixed Tryz.func12 rfl (by rfl) Tryz.ntmps12 (by kernel_rfl) (by simp) ?_
  have p0 := lPoint 0 (by decide)
  have p1 := lPoint 1 (by decide)
  have p2 := lPoint 2 (by decide)
  have p3 := lPoint 3 (by decide)
  have s01 := lSpan 0 1 (by decide) (by decide)
  have s12 := lSpan 1 2 (by decide) (by decide)
  have s23 := lSpan 2 3 (by decide) (by decide)
  have s02 := lSpan 0 2 (by decide) (by decide)
  have hlen : exL.length = 3 := rfl
  have hAt := fun τ Hx => wAt exL 0 τ exCtg (by rw [hlen]; decide) exTm Hx
  have a1 := hAt 65536
  rw [show atS exL 65536 = some [(65536, 65536)] by kernel_rfl] at a1
  have a2 := hAt 196608
  rw [show atS exL 196608 = some [(196608, 196608)] by kernel_rfl] at a2
  have a3 := hAt 65537
  rw [show atS exL 65537 = some [(65536, 131072)] by kernel_rfl] at a3
  have a4 := hAt (-1)
  rw [show atS exL (-1) = none by kernel_rfl] at a4
  have hDu := fun u Hx => wDuring exL 0 u 1 (by decide) exCtg (by rw [hlen]; decide) exTm exN Hx
  have d1 := hDu (32768, 65536)
  rw [show durS exL (32768, 65536) = some [(0, 131072)] by kernel_rfl] at d1
  have d2 := hDu (196609, 196609)
  rw [show durS exL (196609, 196609) = none by kernel_rfl] at d2
  have hE := fun Hx => wEnd exL ⟨131072, 65536, [(131072, 131072)], [(131072, 196608)], [(131072, 196608)], [(196608, 196608)]⟩ rfl (by rw [hlen]; decide) (by decide) Hx
  have hI := fun Hx => wItems 7 exL (by rw [hlen]; decide) (fun s hs => by simp [exL] at hs; rcases hs with rfl | rfl | rfl <;> decide) Hx
  have hSt := lSteady 65536 (by decide)
  have hCt := r14Control 0 (by decide)
  have hG := fun Hx => wIntegrate exT [(0, 0)] (ctS 0) 0 3000 exT_ok zero14 rfl (by decide) hz14 (by decide) (by decide) (by decide) Hx
  rw [show initS (ctS 0) (3000 - 0) = 3000 by decide, exInt] at hG
  have hB := fun Hx => wIntegrateBad exT [(0, 0)] (ctS 0) 5 5 (.inr (.inr (.inr (Int.le_refl _)))) Hx
  have hV := fun l hl hs Hx => wValid l hl hs Hx
  have v1 := hV exL (by rw [hlen]; decide) (fun s hs b hb => by simp [exL] at hs; rcases hs with rfl | rfl | rfl <;> (simp [boxs] at hb; rcases hb with rfl | rfl | rfl | rfl <;> decide))
  rw [show flowB exL = true by kernel_rfl] at v1
  have v2 := hV [] (by decide) (by simp)
  rw [show flowB [] = false from rfl] at v2
  have v2n := fun Hx => (v2 Hx).weaken (args := [.nilslice]) (by simp only [sgL, List.map_nil]; exact ⟨Wk.nil, trivial⟩)
  have v3 := hV ex2 (by decide) (fun s hs b hb => by simp [ex2] at hs; rcases hs with rfl | rfl <;> (simp [boxs] at hb; rcases hb with rfl | rfl | rfl | rfl <;> decide))
  rw [show flowB ex2 = false by kernel_rfl] at v3
  have hs1 := fun (a : List I) (ha : a.length ≤ 1000000) Hx => r3Same a a ha ha Hx
  have e1 := hs1 [(65536, 65536)] (by decide)
  have e2 := hs1 [(0, 131072)] (by decide)
  have e3 := hs1 [(196608, 196608)] (by decide)
  have e4 := hs1 [(65536, 131072)] (by decide)
  have e5 := hs1 [(3000, 3000)] (by decide)
  have e6 := hs1 [(0, 3000)] (by decide)
  simp only [decide_true] at e1 e2 e3 e4 e5 e6
  have q1 := rSame2 (65536, 131072) (65536, 131072)
  simp
  refine call_ret (p0 _) ?_
  simp [bx]
  refine call_ret (s01 _) ?_
  simp [bx]
  refine call_ret (s01 _) ?_
  simp [bx]
  refine call_ret (p1 _) ?_
  simp [bx]
  refine call_ret (p1 _) ?_
  simp [bx]
  refine call_ret (s12 _) ?_
  simp [bx]
  refine call_ret (s12 _) ?_
  simp [bx]
  refine call_ret (p2 _) ?_
  simp [bx]
  refine call_ret (p2 _) ?_
  simp [bx]
  refine call_ret (s23 _) ?_
  simp [bx]
  refine call_ret (s23 _) ?_
  simp [bx]
  refine call_ret (p3 _) ?_
  simp [bx]
  refine call_conv0 (a1 _) (by simp [sgL, exL, sgA, bx]; rfl) ?_
  simp [atR, bx]
  refine call_conv0 (d1 _) (by simp [sgL, exL, sgA, bx]; rfl) ?_
  simp [atR, bx]
  refine call_conv0 (hE _) (by simp [sgL, exL, sgA, bx]; rfl) ?_
  simp [atR, bx]
  refine call_conv0 (a2 _) (by simp [sgL, exL, sgA, bx]; rfl) ?_
  simp [atR, bx]
  refine call_conv0 (a3 _) (by simp [sgL, exL, sgA, bx]; rfl) ?_
  simp [atR, bx]
  refine call_conv0 (a4 _) (by simp [sgL, exL, sgA, bx]; rfl) ?_
  simp [atR, bx]
  refine call_ret (rPoint 196609 _) ?_
  rw [pt_num (by decide)]
  simp
  refine call_conv0 (d2 _) (by simp [sgL, exL, sgA, bx]; rfl) ?_
  simp [atR, bx]
  refine call_conv0 (hI _) (by simp [sgL, exL, sgA, bx]; rfl) ?_
  simp [exL, itA, bx]
  refine call_ret (hSt _) ?_
  simp [tpA, insA, outA]
  refine call_ret (p0 _) ?_
  simp [bx]
  refine call_ret (hCt _) ?_
  simp [ctA]
  refine call_ret (by simpa [tpA, exT, insA, outA, bx, hzA, ctS] using hG _) ?_
  simp [intR, sgL, exS, sgA, bx]
  refine call_ret (hSt _) ?_
  simp [tpA, insA, outA]
  refine call_ret (p0 _) ?_
  simp [bx]
  refine call_ret (hCt _) ?_
  simp [ctA]
  refine call_ret (by simpa [tpA, exT, insA, outA, bx, hzA, ctS] using hB _) ?_
  simp [intR, sgL, exS, sgA, bx]
  refine callD_ret0 (fun Hx => by simpa [bx] using p1 Hx) ?_
  simp [bx]
  refine callD_ret0 (fun Hx => by simpa [bx] using e1 Hx) ?_
  simp [bx]
  refine callD_ret0 (fun Hx => by simpa [bx] using s02 Hx) ?_
  simp [bx]
  refine callD_ret0 (fun Hx => by simpa [bx] using e2 Hx) ?_
  simp [bx]
  refine callD_ret0 (fun Hx => by simpa [bx] using p3 Hx) ?_
  simp [bx]
  refine callD_ret0 (fun Hx => by simpa [bx] using e3 Hx) ?_
  simp [bx]
  refine callD_ret0 (fun Hx => by simpa [bx] using p3 Hx) ?_
  simp [bx]
  refine callD_ret0 (fun Hx => by simpa [bx] using e3 Hx) ?_
  simp [bx]
  refine callD_ret0 (fun Hx => by simpa [bx] using s12 Hx) ?_
  simp [bx]
  refine callD_ret0 (fun Hx => by simpa [bx] using e4 Hx) ?_
  simp [bx]
  refine callD_ret0 (fun Hx => by simpa [bx] using q1 Hx) ?_
  simp [bx]
  refine callD_conv0 (fun Hx => v1 Hx) (fun Hx => by simp [sgL, exL, sgA, bx]) ?_
  simp
  refine callD_ret0 (fun Hx => v2n Hx) ?_
  simp
  refine callD_ret0 (fun Hx => by simpa [sgL] using v2 Hx) ?_
  simp
  refine callD_conv0 (fun Hx => v3 Hx) (fun Hx => by simp [sgL, ex2, sgA, bx]) ?_
  simp
  refine callD_conv0 (fun Hx => e5 Hx) (fun Hx => by simp [bx]) ?_
  simp
  refine callD_conv0 (fun Hx => e6 Hx) (fun Hx => by simp [bx]) ?_
  simp
  refine endD [] (by rfl) (by simp [okW, note, Eff.triv, Eff.wr, Eff.none, upTo, newAt]) ?_
  simp
  exact fin0 (rs := [.tmp 0]) (by rfl) (by simp [resA])
end Go.Proofs.YtfjjckepnkkgjaaGreatDoor.Arm

namespace Go.Proofs.YtfjjckepnkkgjaaGreatDoor.Arm
open Go.Arm Go.Pl

set_option maxRecDepth 100000 in
set_option maxHeartbeats 4000000 in
theorem lErrors (q : Fq) (hq : FqOk q) (t last : Int) (H : AH) : Sound E 10 [fqA q, .int .i64 t, .int .i64 last] H (.ret (.bool true)) H := by
  refine sound_of_awp tabOk mixed Tryz.func10 rfl (by rfl) Tryz.ntmps10 (by kernel_rfl) (by simp) ?_
  have hM := lMade q hq
  obtain ⟨-, hlt, -, -⟩ := fq_hz hq
  have hb0 : validC { ctS q.order with least := 0 } = false := by unfold validC ctS; simp
  generalize fqT q = T at *
  generalize fqX q = X at *
  generalize fqF q = t0 at *
  generalize fqE q = t1 at *
  generalize ctS q.order = c at *
  have hI := fun c t last hb Hx => wIntegrateBad T X c t last hb Hx
  have i1 := hI { c with least := 0 } t0 t1 (.inl hb0)
  have i2 := hI c t1 t0 (.inr (.inr (.inr (by omega))))
  have i3 := hI c t0 t0 (.inr (.inr (.inr (by omega))))
  have fin : ∀ {fr : AFr} {J : AH} {e : AExit}, fr 6 = .bool true → (e = .ret ∨ e = .normal) → bodyK E Tryz.f10 H (.ret (.bool true)) H e fr (H ++ J) := fun h he => fin1 (rs := [.tmp 6]) (by rfl) (by simp [resA, h]) (by simp [noF]) he
  simp [fqA]
  refine call_ret (lSanity14 _) ?_
  simp
  refine call_ret (by simpa [fqA] using hM _) ?_
  simp [tpA, outA, bx, hzA]
  refine call_ret (by simpa [tpA, outA, bx, hzA] using i1 _) ?_
  simp [intR]
  refine call_ret (by simpa [tpA, outA, bx, hzA] using i2 _) ?_
  simp [intR]
  refine call_ret (by simpa [tpA, outA, bx, hzA] using i3 _) ?_
  simp [intR]
  by_cases h1 : last ≤ t
  · have i4 := hI c t last (.inr (.inr (.inr h1)))
    simp [h1]
    refine call_ret (by simpa [tpA, outA, bx, hzA] using i4 _) ?_
    simp [intR]
    exact fin (by simp) (by simp)
  · simp [h1]
    refine call_ret (rNumber t _) ?_
    simp
    cases h2 : numB t with
    | false =>
      have i4 := hI c t last (.inr (.inl h2))
      simp
      refine call_ret (by simpa [tpA, outA, bx, hzA] using i4 _) ?_
      simp [intR]
      exact fin (by simp) (by simp)
    | true =>
      simp
      refine call_ret (rNumber last _) ?_
      simp
      cases h3 : numB last with
      | false =>
        have i4 := hI c t last (.inr (.inr (.inl h3)))
        simp
        refine call_ret (by simpa [tpA, outA, bx, hzA] using i4 _) ?_
        simp [intR]
        exact fin (by simp) (by simp)
      | true =>
        simp
        exact fin (by simp) (by simp)
end Go.Proofs.YtfjjckepnkkgjaaGreatDoor.Arm
