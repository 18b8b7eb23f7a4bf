/- Part of a proof: what the functions of the program do to abstract states, step by step. -/
import Derived.Test.YtohmodcheahpgaaGreatDoorM3
import Derived.Test.YtohmodcheahpgaaGreatDoorTie
import Derived.Test.YtohmodcheahpgaaGreatDoorCards
import Derived.ProofKit
import Derived.Stop.Joined
import Derived.SevenTiedAt
set_option linter.unusedVariables false
set_option linter.unusedSimpArgs false
namespace Go.Proofs.YtohmodcheahpgaaGreatDoor.Arm
open Go.Arm Go.Pl

theorem lVariable (i : Nat) (H : AH) : Sound E 22 [.int .i64 i] H (.ret (xs (ser (.var i)))) H := by
  refine sound_of_awp tabOk mixed Tryz.func22 rfl (by rfl) Tryz.ntmps22 (by kernel_rfl) (by simp) ?_
  simp
  exact finC0 (rs := [.tmp 2]) (vs := [.slice [nd (leafN 2 i)] true]) (vs' := [.slice [nd (leafN 2 i)] false]) (by rfl) (by simp [resA, leafN]) (by simp) (by simp [noF, noFs]) rfl
theorem r10Number (x : Int) (hx : -1000000 ≤ x ∧ x ≤ 1000000) (H : AH) : Sound E 23 [.int .i64 x] H (.ret (xs (ser (number x)))) H := by
  refine sound_of_awp tabOk mixed Tryz.func23 rfl (by rfl) Tryz.ntmps23 (by kernel_rfl) (by simp) ?_
  have w : IntKind.i64.wrap (x * 65536) = x * 65536 := wrap64 (by omega) (by omega)
  simp [w]
  refine call_ret (rPoint _ _) ?_
  simp
  refine call_ret (r7Const _ _) ?_
  simp
  exact fin0 (rs := [.tmp 2]) (by rfl) (by simp [resA, number])
theorem r10Is (e : Ex) (x : Int) (hs : sz e ≤ 1000000000) (H : AH) : Sound E 50 [xs (ser e), .int .i64 x] H (.ret (.bool (isK e x))) H := by
  refine sound_of_awp tabOk mixed Tryz.func50 rfl (by rfl) Tryz.ntmps50 (by kernel_rfl) (by simp) ?_
  have hlen : (ser e).length = sz e := rfl
  cases e with
  | num c =>
    cases h : (c.1 == x) with
    | true =>
      simp [xs, ser, h]
      exact fin0 (rs := [.tmp 4]) (by rfl) (by simp [resA, isK, h])
    | false =>
      simp [xs, ser, h]
      exact fin0 (rs := [.tmp 4]) (by rfl) (by simp [resA, isK, h])
  | var i =>
    simp [xs, ser, leafN]
    exact fin0 (rs := [.tmp 4]) (by rfl) (by simp [resA, isK])
  | time =>
    simp [xs, ser, leafN]
    exact fin0 (rs := [.tmp 4]) (by rfl) (by simp [resA, isK])
  | un o a =>
    have hp := sz_pos a
    rw [sz_un] at hlen
    have h1 : ((((sz a : Nat) : Int) + 1) == 1) = false := by rw [beq_eq_false_iff_ne]; omega
    simp [xs, hlen, h1]
    exact fin0 (rs := [.tmp 4]) (by rfl) (by simp [resA, isK])
  | bin o a b =>
    have hp := sz_pos a
    rw [sz_bin] at hlen
    have h1 : ((((sz a : Nat) : Int) + ((sz b : Nat) : Int) + 1) == 1) = false := by rw [beq_eq_false_iff_ne]; omega
    simp [xs, hlen, h1]
    exact fin0 (rs := [.tmp 4]) (by rfl) (by simp [resA, isK])
def LOc (l : List Nd) (x : Nd) (H : AH) (i : Nat) (fr : AFr) (H' : AH) : Prop :=
  fr 0 = xs l ∧ fr 3 = .ptr H.length 1 0 0 ∧ fr 5 = .int .i64 i ∧ i ≤ l.length ∧ x ∉ l.take i ∧ H' = H ++ [.row true 4 [nd x]]
def inp (F : List (List Nd)) (l : List Nd) (b : List I) (t : I) (n : Int) : AV := .agg [.slice (F.map xs) false, xs l, bx b, .int .i64 t.1, .int .i64 t.2, .int .u8 n]
theorem lDimension (F : List (List Nd)) (l : List Nd) (b : List I) (t : I) (n : Int) (hn : 0 ≤ n ∧ n ≤ 255) (H : AH) : Sound E 5 [inp F l b t n] H (.ret (.int .i64 (1 + n.tmod 3))) H := by
  refine sound_of_awp tabOk mixed Tryz.func5 rfl (by rfl) Tryz.ntmps5 (by kernel_rfl) (by simp) ?_
  have h1 : 0 ≤ n.tmod 3 ∧ n.tmod 3 < 3 := ⟨Int.tmod_nonneg _ hn.1, Int.tmod_lt_of_pos _ (by decide)⟩
  have w : IntKind.i64.wrap (1 + n.tmod 3) = 1 + n.tmod 3 := wrap64 (by omega) (by omega)
  have w0 : IntKind.i64.wrap n = n := wrap64 (by omega) (by omega)
  simp [inp, w, w0]
  exact fin1 (rs := [.tmp 2]) (by rfl) (by simp [resA]) (by simp [noF])
end Go.Proofs.YtohmodcheahpgaaGreatDoor.Arm

namespace Go.Proofs.YtohmodcheahpgaaGreatDoor.Arm
open Go.Arm Go.Pl

def smi (l : List I) (k : Nat) : I := ((l[k]?).map smallI).getD (0, 0)
def sbx (l : List I) (n i : Nat) : List I := (List.range n).map fun k => if k < i then smi l k else (0, 0)
theorem sbx_len (l : List I) (n i : Nat) : (sbx l n i).length = n := by simp [sbx]
theorem sbx_zero (l : List I) (n : Nat) : sbx l n 0 = List.replicate n (0, 0) := by
  apply List.ext_getElem?; intro k; simp [sbx, List.getElem?_replicate]
  by_cases h : k < n <;> simp [h]
theorem sbx_succ {l : List I} {n i : Nat} (hi : i < n) : (sbx l n i).set i (smi l i) = sbx l n (i + 1) := by
  apply List.ext_getElem?; intro k
  by_cases h : i = k
  · subst h; rw [List.getElem?_set_self (by rw [sbx_len]; exact hi)]; simp [sbx, hi]
  · rw [List.getElem?_set_ne h]
    simp only [sbx, List.getElem?_map]
    by_cases hk : k < n
    · simp [hk]
      by_cases h1 : k < i
      · rw [if_pos h1, if_pos (by omega)]
      · rw [if_neg h1, if_neg (by omega)]
    · simp [hk]
theorem sbx_end {l : List I} {n i : Nat} (h : n ≤ i ∨ l.length ≤ i) : sbx l n i = sbx l n n := by
  apply List.ext_getElem?; intro k
  simp only [sbx, List.getElem?_map]
  by_cases hk : k < n
  · simp [hk]
    intro hki
    have : l[k]? = none := by rw [List.getElem?_eq_none_iff]; omega
    simp [smi, this]
  · simp [hk]
def LSb (l : List I) (n : Nat) (H : AH) (i : Nat) (fr : AFr) (H' : AH) : Prop :=
  fr 0 = bx l ∧ fr 1 = .int .i64 n ∧ fr 5 = .ref H.length n ∧ fr 6 = .int .i64 i ∧ i ≤ n ∧ ∃ J, H' = H ++ .row true 2 ((sbx l n i).map iv) :: J
theorem app_gen0 {H : AH} {t e : TypeId} {i ie : TI} {x : AV} {f : Bool} (hi : tab t = some i) (hd : i.d = .slice e) (he : tab e = some ie) (h1 : ie.size = 1) (hx : ([x].all fun y => y.cells.length == 1 && y.cells.all okc) = true) (hz : (vcells ie.zero).map List.length = some 1) (hb : ie.bytes ≤ 1000) :
    appendA tab H t .nilslice (.slice [x] f) = some (.ref H.length 1, H ++ [.row true 1 [x]]) := by
  obtain ⟨v', J', hap, hacc', _⟩ := Acc.push (T := tab) (t := t) (e := e) (H := H) (J := []) (v := .nilslice) (v0 := .nilslice) (x := .slice [x] f) (ys := [x]) (xs := []) (.inl ⟨rfl, rfl⟩) hi hd he rfl rfl (by rw [h1]; exact hx) ⟨by omega, by rw [h1]; exact hz⟩ (by simp; omega) (by simp)
  rw [List.append_nil] at hap
  have h2 : appendA tab H t .nilslice (.slice [x] f) = growA ie H .nilslice [x] := by
    simp only [appendA, hi, hd, he, els]
    rw [if_neg (by simp), if_pos ⟨by omega, by rw [h1]; exact hz, by rw [h1]; exact hx⟩]
  have h3 : growA ie H .nilslice [x] = (growNew ie .nilslice [x]).map fun zs => (.ref H.length zs.length, H ++ [.row true ie.size zs]) := rfl
  rw [h2, h3, growNew]
  rw [if_pos (by simp; omega)]
  simp [h1]
theorem app_gen {H : AH} {t e : TypeId} {i ie : TI} {x : AV} {l : List AV} {b n : Nat} {f : Bool} (hi : tab t = some i) (hd : i.d = .slice e) (he : tab e = some ie) (h1 : ie.size = 1) (hx : ([x].all fun y => y.cells.length == 1 && y.cells.all okc) = true) (hz : (vcells ie.zero).map List.length = some 1) (hb : ie.bytes ≤ 1000) (hn : l.length = n) (hnb : n ≤ 1000000000) (hH : H[b]? = some (.row true 1 l)) :
    appendA tab H t (.ref b n) (.slice [x] f) = some (.ref b (n + 1), H.set b (.row true 1 (l ++ [x]))) := by
  subst hn
  have h2 : appendA tab H t (.ref b l.length) (.slice [x] f) = growA ie H (.ref b l.length) [x] := by
    simp only [appendA, hi, hd, he, els]
    rw [if_neg (by simp), if_pos ⟨by omega, by rw [h1]; exact hz, by rw [h1]; exact hx⟩]
  have hk : (l.length + 1) * ie.bytes ≤ 1000000001 * 1000 := Nat.mul_le_mul (by omega) hb
  rw [h2]
  simp only [growA, hH]
  rw [if_pos (by simp [h1]; omega)]
  simp [h1]
def nms : List ByteArray := [⟨#[120]⟩, ⟨#[121]⟩, ⟨#[118, 120]⟩, ⟨#[118, 121]⟩, ⟨#[97, 49]⟩, ⟨#[122, 122]⟩]
/-- The made system's expressions. -/
def mds (l : List (List Nd)) (most n i : Nat) : List Ex := (List.range i).map fun k => mde n ((l[k]?).getD []) most
theorem mds_succ (l : List (List Nd)) (most n i : Nat) : mds l most n (i + 1) = mds l most n i ++ [mde n ((l[i]?).getD []) most] := by simp [mds, List.range_succ]
theorem mds_len (l : List (List Nd)) (most n i : Nat) : (mds l most n i).length = i := by simp [mds]
def LMs (l : List (List Nd)) (most n : Nat) (H : AH) (i : Nat) (fr : AFr) (H' : AH) : Prop :=
  fr 0 = .slice (l.map xs) false ∧ fr 1 = .int .i64 most ∧ fr 2 = .int .i64 n ∧ fr 6 = .ptr H.length 1 0 0 ∧ fr 7 = .ptr (H.length + 1) 1 0 0 ∧ fr 8 = .slice (nms.map .str) true ∧ fr 9 = .int .i64 i ∧ i ≤ n ∧
  ((i = 0 ∧ H' = H ++ [.row true 2 [.agg [.nilslice, .nilslice]], .row true 2 [.agg [.nilslice, .nilslice]]]) ∨
   ∃ J a b, a ≠ b ∧ J[a]? = some (.row true 1 ((nms.take i).map .str)) ∧ J[b]? = some (.row true 1 ((mds l most n i).map fun e => xs (ser e))) ∧ 0 < i ∧
     H' = H ++ .row true 2 [.agg [.nilslice, .nilslice]] :: .row true 2 [.agg [.ref (H.length + (a + 2)) i, .ref (H.length + (b + 2)) i]] :: J)
theorem r7MadeSystem (l : List (List Nd)) (most n : Nat) (hn : 0 < n ∧ n ≤ 6) (hm : most ≤ 1000000000) (hl : ∀ r ∈ l, r.length ≤ 200000000000000) (hl2 : l.length ≤ 200000000000000) (H : AH) : Sound E 6 [.slice (l.map xs) false, .int .i64 most, .int .i64 n] H (.ret (sys ⟨nms.take n, mds l most n n⟩)) H := by
  refine sound_of_awp tabOk mixed Tryz.func6 rfl (by rfl) Tryz.ntmps6 (by kernel_rfl) (by simp) ?_
  simp
  refine loop_count (LMs l most n H) (fun i => n - i) 0 ⟨by simp, by simp, by simp, by simp, by simp, by simp [nms], by simp, by omega, .inl ⟨rfl, by simp⟩⟩ ?_
  rintro i fr H' ⟨g0, g1, g2, g6, g7, g8, g9, hi, hmem⟩
  have hnl : nms.length = 6 := rfl
  simp [g2, g9]
  refine branch (fun hc => ?_) (fun hc => ?_)
  · have hlt : i < n := by simpa using hc
    have w2 : IntKind.i64.wrap ((i : Int) + 1) = ((i + 1 : Nat) : Int) := by rw [wrap64 (by omega) (by omega)]; omega
    obtain ⟨s, hs⟩ := get_lt (l := nms) (i := i) (by omega)
    have hsE : ∀ h, nms[i]'h = s := fun h => (List.getElem?_eq_some_iff.1 hs).2
    have hst : nms.take (i + 1) = nms.take i ++ [s] := by rw [List.take_add_one, hs]; rfl
    have main : ∀ r : List Nd, r = (l[i]?).getD [] → r.length ≤ 200000000000000 → True := fun _ _ _ => trivial
    simp [g0, g9]
    refine branch (fun hc2 => ?_) (fun hc2 => ?_)
    · have hlt2 : i < l.length := by simpa using hc2
      obtain ⟨r, hr⟩ := get_lt hlt2
      have hrE : ∀ h, l[i]'h = r := fun h => (List.getElem?_eq_some_iff.1 hr).2
      rcases hmem with ⟨rfl, rfl⟩ | ⟨J, a, b, hab, ha, hb, hpos, rfl⟩
      · simp [hr, hrE, xs, g0, g7, g8, g9, hs, hsE]
        refine bind_some (app_gen0 (x := .str s) tab31 rfl tab9 rfl (by simp [okc]) rfl (by decide)) ?_
        simp [g7]
        refine endD [(1, 9)] (by rfl) (by simp [okW, note, Eff.triv, Eff.wr, Eff.none, upTo, newAt]) ?_
        simp [g1, g2, g7]
        refine callD_ret0 (fun Hx => r7Made r most n ⟨hn.1, by omega⟩ (hl r (List.mem_of_getElem? hr)) hm Hx) ?_
        simp [g7, xs]
        refine bind_some (app_gen0 (x := xs (ser (mde n (r) most))) tab22 rfl tab23 rfl (by simp [okc, xs]) rfl (by decide)) ?_
        simp [g7]
        refine endD [(1, 9)] (by rfl) (by simp [okW, note, Eff.triv, Eff.wr, Eff.none, upTo, newAt]) ?_
        have w3 : IntKind.i64.wrap 1 = 1 := wrap64 (by decide) (by decide)
        simp [g9, w3]
        refine ⟨1, by show n - 1 < n - 0; omega, by simp [g0], by simp [g1], by simp [g2], by simp [g6], by simp [g7], by simp [g8], by simp, by omega, .inr ⟨[.row true 1 [.str s], .row true 1 [xs (ser (mde n (r) most))]], 0, 1, by decide, ?_, ?_, by decide, ?_⟩⟩
        · rw [hst]; simp
        · rw [mds_succ]; simp [mds, hr, hrE, xs, xs]
        · simp
      · simp [hr, hrE, xs, g0, g7, g8, g9, hs, hsE]
        refine bind_some (app_gen (x := .str s) (l := (nms.take i).map .str) tab31 rfl tab9 rfl (by simp [okc]) rfl (by decide) (by simp; omega) (by omega) (by simp [ha])) ?_
        simp [g7]
        refine endD [(1, 9)] (by rfl) (by simp [okW, note, Eff.triv, Eff.wr, Eff.none, upTo, newAt]) ?_
        simp [g1, g2, g7]
        refine callD_ret0 (fun Hx => r7Made r most n ⟨hn.1, by omega⟩ (hl r (List.mem_of_getElem? hr)) hm Hx) ?_
        simp [g7, xs]
        refine bind_some (app_gen (n := i) (x := xs (ser (mde n (r) most))) (l := (mds l most n i).map fun e => xs (ser e)) tab22 rfl tab23 rfl (by simp [okc, xs]) rfl (by decide) (by simp [mds_len]) (by omega) (by simp [hb, List.getElem?_set_ne hab])) ?_
        simp [g7]
        refine endD [(1, 9)] (by rfl) (by simp [okW, note, Eff.triv, Eff.wr, Eff.none, upTo, newAt]) ?_
        simp [g9, w2]
        refine ⟨i + 1, by show n - (i + 1) < n - i; omega, by simp [g0], by simp [g1], by simp [g2], by simp [g6], by simp [g7], by simp [g8], by simp, by omega, .inr ⟨(J.set a (.row true 1 ((nms.take i).map .str ++ [.str s]))).set b (.row true 1 (((mds l most n i).map fun e => xs (ser e)) ++ [xs (ser (mde n (r) most))])), a, b, hab, ?_, ?_, by omega, ?_⟩⟩
        · rw [hst, List.getElem?_set_ne (Ne.symm hab), List.getElem?_set_self (List.getElem?_eq_some_iff.1 ha).1]; simp
        · rw [mds_succ, List.getElem?_set_self (by rw [List.length_set]; exact (List.getElem?_eq_some_iff.1 hb).1)]; simp [hr, hrE, xs, xs]
        · simp
    · have hr : l[i]? = none := by
        have : ¬ i < l.length := by simpa using hc2
        rw [List.getElem?_eq_none_iff]; omega
      rcases hmem with ⟨rfl, rfl⟩ | ⟨J, a, b, hab, ha, hb, hpos, rfl⟩
      · simp [hr, g0, g7, g8, g9, hs, hsE]
        refine bind_some (app_gen0 (x := .str s) tab31 rfl tab9 rfl (by simp [okc]) rfl (by decide)) ?_
        simp [g7]
        refine endD [(1, 9)] (by rfl) (by simp [okW, note, Eff.triv, Eff.wr, Eff.none, upTo, newAt]) ?_
        simp [g1, g2, g7]
        refine callD_conv0 (args' := [xs [], .int .i64 most, .int .i64 n]) (fun Hx => r7Made [] most n ⟨hn.1, by omega⟩ (by simp) hm Hx) (by simp [xs]) ?_
        simp [g7, xs]
        refine bind_some (app_gen0 (x := xs (ser (mde n ([]) most))) tab22 rfl tab23 rfl (by simp [okc, xs]) rfl (by decide)) ?_
        simp [g7]
        refine endD [(1, 9)] (by rfl) (by simp [okW, note, Eff.triv, Eff.wr, Eff.none, upTo, newAt]) ?_
        have w3 : IntKind.i64.wrap 1 = 1 := wrap64 (by decide) (by decide)
        simp [g9, w3]
        refine ⟨1, by show n - 1 < n - 0; omega, by simp [g0], by simp [g1], by simp [g2], by simp [g6], by simp [g7], by simp [g8], by simp, by omega, .inr ⟨[.row true 1 [.str s], .row true 1 [xs (ser (mde n ([]) most))]], 0, 1, by decide, ?_, ?_, by decide, ?_⟩⟩
        · rw [hst]; simp
        · rw [mds_succ]; simp [mds, hr, xs]
        · simp
      · simp [hr, g0, g7, g8, g9, hs, hsE]
        refine bind_some (app_gen (x := .str s) (l := (nms.take i).map .str) tab31 rfl tab9 rfl (by simp [okc]) rfl (by decide) (by simp; omega) (by omega) (by simp [ha])) ?_
        simp [g7]
        refine endD [(1, 9)] (by rfl) (by simp [okW, note, Eff.triv, Eff.wr, Eff.none, upTo, newAt]) ?_
        simp [g1, g2, g7]
        refine callD_conv0 (args' := [xs [], .int .i64 most, .int .i64 n]) (fun Hx => r7Made [] most n ⟨hn.1, by omega⟩ (by simp) hm Hx) (by simp [xs]) ?_
        simp [g7, xs]
        refine bind_some (app_gen (n := i) (x := xs (ser (mde n ([]) most))) (l := (mds l most n i).map fun e => xs (ser e)) tab22 rfl tab23 rfl (by simp [okc, xs]) rfl (by decide) (by simp [mds_len]) (by omega) (by simp [hb, List.getElem?_set_ne hab])) ?_
        simp [g7]
        refine endD [(1, 9)] (by rfl) (by simp [okW, note, Eff.triv, Eff.wr, Eff.none, upTo, newAt]) ?_
        simp [g9, w2]
        refine ⟨i + 1, by show n - (i + 1) < n - i; omega, by simp [g0], by simp [g1], by simp [g2], by simp [g6], by simp [g7], by simp [g8], by simp, by omega, .inr ⟨(J.set a (.row true 1 ((nms.take i).map .str ++ [.str s]))).set b (.row true 1 (((mds l most n i).map fun e => xs (ser e)) ++ [xs (ser (mde n ([]) most))])), a, b, hab, ?_, ?_, by omega, ?_⟩⟩
        · rw [hst, List.getElem?_set_ne (Ne.symm hab), List.getElem?_set_self (List.getElem?_eq_some_iff.1 ha).1]; simp
        · rw [mds_succ, List.getElem?_set_self (by rw [List.length_set]; exact (List.getElem?_eq_some_iff.1 hb).1)]; simp [hr, xs]
        · simp
  · have hge : n ≤ i := by simpa using hc
    have hi' : i = n := by omega
    subst hi'
    rcases hmem with ⟨rfl, rfl⟩ | ⟨J, a, b, hab, ha, hb, hpos, rfl⟩
    · omega
    · simp [g6, g7]
      exact finC (rs := [.cell 6 33]) (vs := [.agg [.ref (H.length + (a + 2)) i, .ref (H.length + (b + 2)) i]]) (vs' := [sys ⟨nms.take i, mds l most i i⟩]) (J' := .row true 2 [.agg [.ref (H.length + (a + 2)) i, .ref (H.length + (b + 2)) i]] :: .row true 2 [.agg [.ref (H.length + (a + 2)) i, .ref (H.length + (b + 2)) i]] :: (J.set a (.row false 1 ((nms.take i).map .str))).set b (.row false 1 ((mds l most i i).map fun e => xs (ser e)))) (by rfl) (by simp [resA, g6]) (by simp [ha, hb, List.getElem?_set_ne hab, sys, show min i nms.length = i by omega, mds_len]) (by simp only [noFs, sys, noF, Bool.and_true, Bool.and_eq_true]; exact ⟨noFs_iff.2 fun x hx => by obtain ⟨y, _, rfl⟩ := List.mem_map.1 hx; rfl, noFs_iff.2 fun x hx => by obtain ⟨y, _, rfl⟩ := List.mem_map.1 hx; exact xs_noF _ _⟩) rfl
end Go.Proofs.YtohmodcheahpgaaGreatDoor.Arm

namespace Go.Proofs.YtohmodcheahpgaaGreatDoor.Arm
open Go.Arm Go.Pl

/-- A matrix. -/
def mx (A : List (List I)) : AV := .slice (A.map bx) false
def LSm1 (A B : List (List I)) (H : AH) (i : Nat) (fr : AFr) (H' : AH) : Prop :=
  fr 0 = mx A ∧ fr 1 = mx B ∧ fr 5 = .int .i64 i ∧ i ≤ A.length ∧ A.take i = B.take i ∧ H' = H
def LSm2 (A B : List (List I)) (a b : List I) (i : Nat) (H : AH) (j : Nat) (fr : AFr) (H' : AH) : Prop :=
  fr 0 = mx A ∧ fr 1 = mx B ∧ fr 5 = .int .i64 i ∧ fr 6 = .int .i64 j ∧ j ≤ a.length ∧ a.take j = b.take j ∧ H' = H
theorem r4Same (A B : List (List I)) (hA : A.length ≤ 1000000000) (hB : B.length ≤ 1000000000) (hA2 : ∀ a ∈ A, a.length ≤ 1000000000) (hB2 : ∀ a ∈ B, a.length ≤ 1000000000) (H : AH) : Sound E 17 [mx A, mx B] H (.ret (.bool (decide (A = B)))) H := by
  refine sound_of_awp tabOk mixed Tryz.func17 rfl (by rfl) Tryz.ntmps17 (by kernel_rfl) (by simp) ?_
  simp [mx]
  by_cases hlen : A.length = B.length
  · have e1 : ((A.length : Int) != (B.length : Int)) = false := by simp [hlen]
    simp [e1]
    refine loop_count (LSm1 A B H) (fun i => A.length - i) 0 ⟨by simp [mx], by simp [mx], by simp, by omega, by simp, rfl⟩ ?_
    rintro i fr H' ⟨g0, g1, g5, hi, htk, rfl⟩
    simp [g0, g5, mx]
    refine branch (fun hc => ?_) (fun hc => ?_)
    · have hlt : i < A.length := by simpa using hc
      obtain ⟨a, ha⟩ := get_lt hlt
      obtain ⟨b, hb⟩ := get_lt (l := B) (i := i) (by omega)
      have haE : ∀ h, A[i]'h = a := fun h => (List.getElem?_eq_some_iff.1 ha).2
      have hbE : ∀ h, B[i]'h = b := fun h => (List.getElem?_eq_some_iff.1 hb).2
      have hal := hA2 a (List.mem_of_getElem? ha)
      have hbl := hB2 b (List.mem_of_getElem? hb)
      have w2 : IntKind.i64.wrap ((i : Int) + 1) = ((i + 1 : Nat) : Int) := by rw [wrap64 (by omega) (by omega)]; omega
      simp [g0, g1, g5, mx, ha, haE, hb, hbE, bx]
      refine endD [] (by rfl) (by simp [okW, note, Eff.triv, Eff.wr, Eff.none, upTo, newAt]) ?_
      by_cases hl2 : a.length = b.length
      · have e2 : ((a.length : Int) != (b.length : Int)) = false := by simp [hl2]
        simp [e2]
        refine loop_count (LSm2 A B a b i H') (fun j => a.length - j) 0 ⟨by simp [g0], by simp [g1], by simp [g5], by simp, by omega, by simp, rfl⟩ ?_
        rintro j fr2 H2 ⟨k0, k1, k5, k6, hj, htk2, rfl⟩
        simp [k0, k5, k6, mx, ha, haE, bx]
        refine branch (fun hc2 => ?_) (fun hc2 => ?_)
        · have hjlt : j < a.length := by simpa using hc2
          obtain ⟨p, hp⟩ := get_lt hjlt
          obtain ⟨q, hq⟩ := get_lt (l := b) (i := j) (by omega)
          have hpE : ∀ h, a[j]'h = p := fun h => (List.getElem?_eq_some_iff.1 hp).2
          have hqE : ∀ h, b[j]'h = q := fun h => (List.getElem?_eq_some_iff.1 hq).2
          have w3 : IntKind.i64.wrap ((j : Int) + 1) = ((j + 1 : Nat) : Int) := by rw [wrap64 (by omega) (by omega)]; omega
          simp [k0, k1, k5, k6, mx, ha, haE, hb, hbE, bx, hp, hpE, hq, hqE]
          refine endD [] (by rfl) (by simp [okW, note, Eff.triv, Eff.wr, Eff.none, upTo, newAt]) ?_
          simp
          refine branch (fun h3 => ?_) (fun h3 => ?_)
          · have hne : A ≠ B := by
              rintro rfl
              rw [ha] at hb; cases hb
              rw [hp] at hq; cases hq
              simp at h3
            simp
            exact fin0 (rs := [.tmp 4]) (by rfl) (by simp [resA, hne])
          · have e : p = q := by
              obtain ⟨a, b⟩ := p; obtain ⟨a', b'⟩ := q
              simpa using h3
            subst e
            simp [k6, w3]
            exact ⟨j + 1, by show a.length - (j + 1) < a.length - j; omega, by simp [k0, mx, bx], by simp [k1, mx, bx], by simp [k5], by simp, by omega, by rw [List.take_add_one, List.take_add_one, hp, hq, htk2], rfl⟩
        · have hj' : j = a.length := by have : ¬ j < a.length := by simpa using hc2
                                        omega
          have hab : a = b := by
            subst hj'
            rw [List.take_length, hl2, List.take_length] at htk2; exact htk2
          simp [k5, w2]
          exact ⟨i + 1, by show A.length - (i + 1) < A.length - i; omega, by simp [k0, mx, bx], by simp [k1, mx, bx], by simp, by omega, by rw [List.take_add_one, List.take_add_one, ha, hb, htk, hab], rfl⟩
      · have e2 : ((a.length : Int) != (b.length : Int)) = true := by simp; omega
        have hne : A ≠ B := by
          rintro rfl
          rw [ha] at hb; cases hb; exact hl2 rfl
        simp [e2]
        exact fin0 (rs := [.tmp 4]) (by rfl) (by simp [resA, hne])
    · have hi' : i = A.length := by have : ¬ i < A.length := by simpa using hc
                                    omega
      have hab : A = B := by
        subst hi'
        rw [List.take_length, hlen, List.take_length] at htk; exact htk
      simp
      exact fin0 (rs := [.tmp 4]) (by rfl) (by simp [resA, hab])
  · have e1 : ((A.length : Int) != (B.length : Int)) = true := by simp; omega
    have hne : A ≠ B := by rintro rfl; exact hlen rfl
    simp [e1]
    exact fin0 (rs := [.tmp 4]) (by rfl) (by simp [resA, hne])
end Go.Proofs.YtohmodcheahpgaaGreatDoor.Arm

namespace Go.Proofs.YtohmodcheahpgaaGreatDoor.Arm
open Go.Arm Go.Pl

@[simp ↓ high] theorem conv_xs (H : AH) (l : List Nd) : conv H (xs l) = (xs l, H) := by simp [xs]
@[simp ↓ high] theorem conv_bx (H : AH) (l : List I) : conv H (bx l) = (bx l, H) := by simp [bx]
@[simp ↓ high] theorem conv_mx (H : AH) (l : List (List I)) : conv H (mx l) = (mx l, H) := by simp [mx]
theorem ser_ne (e : Ex) : ser e ≠ [] := fun h => by have := sz_pos e; rw [sz, h] at this; simp at this
theorem r7UnaryE (o : U) (a : Ex) (hb : sz a ≤ 500000000) (H : AH) : Sound E 24 [.int .i64 o.code, xs (ser a)] H (.ret (xs (ser (.un o a)))) H := r7Unary o.code (ser a) (ser_ne a) hb H
theorem r7BinaryE (o : B) (a b : Ex) (hb : sz a + sz b ≤ 500000000) (H : AH) : Sound E 26 [.int .i64 o.code, xs (ser a), xs (ser b)] H (.ret (xs (ser (.bin o a b)))) H := r7Binary o.code (ser a) (ser b) (ser_ne a) (ser_ne b) hb H
theorem r7SameE (a b : Ex) (ha : sz a ≤ 1000000) (hb : sz b ≤ 1000000) (hab : ser a = ser b) (H : AH) : Sound E 10 [xs (ser a), xs (ser b)] H (.ret (.bool true)) H := by
  have h := r7Same (ser a) (ser b) (by rw [show (ser a).length = sz a from rfl]; omega) (by rw [show (ser b).length = sz b from rfl]; omega) H
  rwa [show decide (ser a = ser b) = true by simp [hab]] at h
def vX : Ex := .var 0
def vV : Ex := .var 1
def k2 : Ex := number 2
def sysS : Sys := ⟨[⟨#[120]⟩, ⟨#[118]⟩], [vV, .un .neg vX]⟩
def oneI : I := pt 65536
def wideI : I := (-65536, 131072)
def mtx : List (List I) := [jrow [oneI, wideI] oneI vV 2, jrow [oneI, wideI] oneI (.un .neg vX) 2]
def quo : Ex := .bin .div (number (-1)) (.un .sqr vX)
def enr : Ex := .bin .add (.un .sqr vX) (.un .sqr vV)
theorem oneV : vB oneI = true := by decide
theorem wideV : vB wideI = true := by decide
theorem sBoxV : ∀ p ∈ [oneI, wideI], vB p = true := by decide
theorem mMatrix (H : AH) : Sound E 18 [sys sysS, bx [oneI, wideI], iv oneI] H (.ret (mx mtx)) H :=
  jMatrix sysS [oneI, wideI] oneI sBoxV (by decide) oneV (by decide) (by decide) H
theorem mVar (i : Nat) (H : AH) : Sound E 22 [.int .i64 i] H (.ret (xs (ser (.var i)))) H := lVariable i H
theorem mX (H : AH) : Sound E 22 [.int .i64 0] H (.ret (xs (ser vX))) H := lVariable 0 H
theorem mV (H : AH) : Sound E 22 [.int .i64 1] H (.ret (xs (ser vV))) H := lVariable 1 H
theorem mN (x : Int) (h : -1000000 ≤ x ∧ x ≤ 1000000) (H : AH) : Sound E 23 [.int .i64 x] H (.ret (xs (ser (number x)))) H := r10Number x h H
theorem mDiff (a d : Ex) (h1 : wf 2 a = true) (h2 : sz a ≤ 1000000) (h3 : sz (dif (.st 0) a) ≤ 1000000) (hd : der (.st 0) a = d) (H : AH) : Sound E 13 [xs (ser a), .int .i64 0] H (.ret (xs (ser d))) H := by
  subst hd; exact jDiff a 0 h1 h2 h3 H
theorem mSimp (a d : Ex) (h1 : wf 2 a = true) (h2 : sz a ≤ 1000000) (hd : smp a = d) (H : AH) : Sound E 11 [xs (ser a)] H (.ret (xs (ser d))) H := by
  subst hd; exact jSimplify (sz a) a (Nat.le_refl _) h1 (by omega) H
theorem mTime (H : AH) : Sound E 15 [xs (ser .time)] H (.ret (xs (ser (number 1)))) H := jTimeDerivative (kk := 2) .time (by decide) (by decide) (by decide) H
theorem mMx (H : AH) : Sound E 17 [mx mtx, mx [[(0, 0), pt 65536], [pt (-65536), (0, 0)]]] H (.ret (.bool true)) H := by
  have h := r4Same mtx [[(0, 0), pt 65536], [pt (-65536), (0, 0)]] (by decide) (by decide) (by decide) (by decide) H
  rwa [show decide (mtx = [[(0, 0), pt 65536], [pt (-65536), (0, 0)]]) = true by decide +kernel] at h
theorem mLie1 (H : AH) : Sound E 20 [sys sysS, xs (ser enr), bx [oneI, oneI], iv oneI] H (.ret (iv (pt 0))) H := by
  have h := jLieDerivative sysS enr [oneI, oneI] oneI (by decide) (by decide) (by decide) (by decide) (by decide) (by decide) (by decide) (by decide) (by decide) H
  rwa [show lieSum [oneI, oneI] oneI enr (sysS.f.map (ev [oneI, oneI] oneI)) sysS.f.length = pt 0 by decide +kernel] at h
theorem mLie2 (H : AH) : Sound E 20 [sys sysS, xs (ser vX), bx [oneI, wideI], iv oneI] H (.ret (iv wideI)) H := by
  have h := jLieDerivative sysS vX [oneI, wideI] oneI (by decide) (by decide) (by decide) (by decide) (by decide) (by decide) (by decide) (by decide) (by decide) H
  rwa [show lieSum [oneI, wideI] oneI vX (sysS.f.map (ev [oneI, wideI] oneI)) sysS.f.length = wideI by decide +kernel] at h
set_option maxRecDepth 10000 in
theorem sanityOk (H : AH) : Sound E 4 [] H (.ret (.bool true)) H := by
  refine sound_of_awp tabOk mixed Tryz.func4 rfl (by rfl) Tryz.ntmps4 (by kernel_rfl) (by simp) ?_
  simp
  refine call_ret (mX _) ?_
  simp
  refine call_ret (mV _) ?_
  simp
  refine call_ret (mN 2 (by decide) _) ?_
  simp
  refine call_ret (r7UnaryE .neg vX (by decide) _) ?_
  simp
  refine call_ret (rPoint _ _) ?_
  simp
  refine call_conv0 (args' := [sys sysS, bx [oneI, wideI], iv oneI]) (mMatrix _) (by simp [sys, sysS, bx, oneI, wideI]; rfl) ?_
  simp
  refine call_ret (mN (-1) (by decide) _) ?_
  simp
  refine call_ret (r7UnaryE .sqr vX (by decide) _) ?_
  simp
  refine call_ret (r7BinaryE .div (number (-1)) (.un .sqr vX) (by decide) _) ?_
  simp
  refine call_ret (r7UnaryE .sqr vX (by decide) _) ?_
  simp
  refine call_ret (r7UnaryE .sqr vV (by decide) _) ?_
  simp
  refine call_ret (r7BinaryE .add (.un .sqr vX) (.un .sqr vV) (by decide) _) ?_
  simp
  refine callD_ret0 (fun Hx => r7BinaryE .mul vX vX (by decide) Hx) ?_
  simp
  refine callD_ret0 (fun Hx => mDiff (.bin .mul vX vX) (.bin .add vX vX) (by decide) (by decide) (by decide) (by decide +kernel) Hx) ?_
  simp
  refine callD_ret0 (fun Hx => r7BinaryE .add vX vX (by decide) Hx) ?_
  simp
  refine callD_ret0 (fun Hx => r7SameE (.bin .add vX vX) (.bin .add vX vX) (by decide) (by decide) rfl Hx) ?_
  simp
  refine callD_ret0 (fun Hx => r7UnaryE .sqr vX (by decide) Hx) ?_
  simp
  refine callD_ret0 (fun Hx => mDiff (.un .sqr vX) (.bin .mul (number 2) vX) (by decide) (by decide) (by decide) (by decide +kernel) Hx) ?_
  simp
  refine callD_ret0 (fun Hx => r7BinaryE .mul (number 2) vX (by decide) Hx) ?_
  simp
  refine callD_ret0 (fun Hx => r7SameE (.bin .mul (number 2) vX) (.bin .mul (number 2) vX) (by decide) (by decide) rfl Hx) ?_
  simp
  refine callD_ret0 (fun Hx => mN (1) (by decide) Hx) ?_
  simp
  refine callD_ret0 (fun Hx => r7BinaryE .div (number 1) vX (by decide) Hx) ?_
  simp
  refine callD_ret0 (fun Hx => mDiff (.bin .div (number 1) vX) quo (by decide) (by decide) (by decide) (by decide +kernel) Hx) ?_
  simp
  refine callD_ret0 (fun Hx => r7SameE quo quo (by decide) (by decide) rfl Hx) ?_
  simp
  refine callD_ret0 (fun Hx => mN (3) (by decide) Hx) ?_
  simp
  refine callD_ret0 (fun Hx => r7BinaryE .add vV (number 3) (by decide) Hx) ?_
  simp
  refine callD_ret0 (fun Hx => mDiff (.bin .add vV (number 3)) (number 0) (by decide) (by decide) (by decide) (by decide +kernel) Hx) ?_
  simp
  refine callD_ret0 (fun Hx => mN (0) (by decide) Hx) ?_
  simp
  refine callD_ret0 (fun Hx => r7SameE (number 0) (number 0) (by decide) (by decide) rfl Hx) ?_
  simp
  refine callD_ret0 (fun Hx => r7UnaryE .sqrt vX (by decide) Hx) ?_
  simp
  refine callD_ret0 (fun Hx => mDiff (.un .sqrt vX) (.bin .div (number 1) (.bin .mul (number 2) (.un .sqrt vX))) (by decide) (by decide) (by decide) (by decide +kernel) Hx) ?_
  simp
  refine callD_ret0 (fun Hx => mN (1) (by decide) Hx) ?_
  simp
  refine callD_ret0 (fun Hx => r7UnaryE .sqrt vX (by decide) Hx) ?_
  simp
  refine callD_ret0 (fun Hx => r7BinaryE .mul (number 2) (.un .sqrt vX) (by decide) Hx) ?_
  simp
  refine callD_ret0 (fun Hx => r7BinaryE .div (number 1) (.bin .mul (number 2) (.un .sqrt vX)) (by decide) Hx) ?_
  simp
  refine callD_ret0 (fun Hx => r7SameE (.bin .div (number 1) (.bin .mul (number 2) (.un .sqrt vX))) (.bin .div (number 1) (.bin .mul (number 2) (.un .sqrt vX))) (by decide) (by decide) rfl Hx) ?_
  simp
  refine callD_conv0 (args' := [xs (ser .time)]) (fun Hx => mTime Hx) (fun Hx => by simp [xs, ser, leafN]) ?_
  simp
  refine callD_ret0 (fun Hx => mN (1) (by decide) Hx) ?_
  simp
  refine callD_ret0 (fun Hx => r7SameE (number 1) (number 1) (by decide) (by decide) rfl Hx) ?_
  simp
  refine callD_ret0 (fun Hx => mN (0) (by decide) Hx) ?_
  simp
  refine callD_ret0 (fun Hx => r7UnaryE .neg vX (by decide) Hx) ?_
  simp
  refine callD_ret0 (fun Hx => r7BinaryE .sub (number 0) (.un .neg vX) (by decide) Hx) ?_
  simp
  refine callD_ret0 (fun Hx => mSimp (.bin .sub (number 0) (.un .neg vX)) vX (by decide) (by decide) (by decide +kernel) Hx) ?_
  simp
  refine callD_ret0 (fun Hx => r7SameE vX vX (by decide) (by decide) rfl Hx) ?_
  simp
  refine callD_ret0 (fun Hx => mN (1) (by decide) Hx) ?_
  simp
  refine callD_ret0 (fun Hx => r7BinaryE .add (number 2) (number 1) (by decide) Hx) ?_
  simp
  refine callD_ret0 (fun Hx => r7BinaryE .mul (number 2) (.bin .add (number 2) (number 1)) (by decide) Hx) ?_
  simp
  refine callD_ret0 (fun Hx => mSimp (.bin .mul (number 2) (.bin .add (number 2) (number 1))) (number 6) (by decide) (by decide) (by decide +kernel) Hx) ?_
  simp
  refine callD_ret0 (fun Hx => mN (6) (by decide) Hx) ?_
  simp
  refine callD_ret0 (fun Hx => r7SameE (number 6) (number 6) (by decide) (by decide) rfl Hx) ?_
  simp
  refine callD_ret0 (fun Hx => rPoint _ Hx) ?_
  simp
  refine callD_conv0 (args' := [mx mtx, mx [[(0, 0), pt 65536], [pt (-65536), (0, 0)]]]) (fun Hx => mMx Hx) (fun Hx => by simp [mx, bx]) ?_
  simp
  refine callD_conv0 (args' := [sys sysS, xs (ser enr), bx [oneI, oneI], iv oneI]) (fun Hx => mLie1 Hx) (fun Hx => by simp [sys, sysS, bx, oneI]; rfl) ?_
  simp
  refine callD_ret0 (fun Hx => rPoint _ Hx) ?_
  simp
  refine callD_conv0 (args' := [sys sysS, xs (ser vX), bx [oneI, wideI], iv oneI]) (fun Hx => mLie2 Hx) (fun Hx => by simp [sys, sysS, bx, oneI, wideI]) ?_
  simp
  refine endD [] (by rfl) (by simp [okW, note, Eff.triv, Eff.wr, Eff.none, upTo, newAt]) ?_
  simp
  exact fin1 (rs := [.tmp 0]) (by rfl) (by simp [resA, wideI]) (by simp [noF])
end Go.Proofs.YtohmodcheahpgaaGreatDoor.Arm

/- The arguments of a law as plain data. -/
namespace Go.Arm

theorem list_of {α : Type} {f : α → AV} {p : α → Prop} : ∀ {xs : List AV}, (∀ x ∈ xs, ∃ a, x = f a ∧ p a) → ∃ l : List α, xs = l.map f ∧ ∀ a ∈ l, p a
  | [], h => ⟨[], rfl, fun a ha => by cases ha⟩
  | x :: r, h => by
    obtain ⟨a, rfl, ha⟩ := h x (by simp)
    obtain ⟨l, rfl, hl⟩ := list_of (xs := r) (fun y hy => h y (by simp [hy]))
    exact ⟨a :: l, rfl, fun b hb => by
      rcases List.mem_cons.1 hb with rfl | hb
      · exact ha
      · exact hl b hb⟩
theorem okL_cons {ok : TypeId → AV → Prop} {f : TypeId × Nat} {fs : List (TypeId × Nat)} {vs : List AV} (h : OkL ok (f :: fs) vs) : ∃ v vs', vs = v :: vs' ∧ ok f.1 v ∧ OkL ok fs vs' := by
  cases vs with
  | nil => exact h.elim
  | cons v vs' => exact ⟨v, vs', rfl, h.1, h.2⟩
theorem okL_nil {ok : TypeId → AV → Prop} {vs : List AV} (h : OkL ok [] vs) : vs = [] := by
  cases vs with
  | nil => rfl
  | cons v vs' => exact h.elim
section
variable {tab : Tab}
theorem okBool {n : Nat} {t : TypeId} {i : TI} {v : AV} (hi : tab t = some i) (hd : i.d = .bool) (h : OkA tab (n + 1) t v) : ∃ x, v = .bool x := by
  unfold OkA at h
  rw [hi] at h
  simp only [hd] at h
  exact h
theorem okInt {n : Nat} {t : TypeId} {i : TI} {k : IntKind} {v : AV} (hi : tab t = some i) (hd : i.d = .int k) (h : OkA tab (n + 1) t v) : ∃ x, v = .int k x ∧ (Lit.int k x).wf = true := by
  unfold OkA at h
  rw [hi] at h
  simp only [hd] at h
  exact h
theorem okStr {n : Nat} {t : TypeId} {i : TI} {v : AV} (hi : tab t = some i) (hd : i.d = .str) (h : OkA tab (n + 1) t v) : ∃ s, v = .str s ∧ s.size ≤ maxLen := by
  unfold OkA at h
  rw [hi] at h
  simp only [hd] at h
  exact h
theorem okSlice {n : Nat} {t e : TypeId} {i ie : TI} {v : AV} (hi : tab t = some i) (hd : i.d = .slice e) (he : tab e = some ie) (h : OkA tab (n + 1) t v) : ∃ xs, v = .slice xs false ∧ (∀ x ∈ xs, OkA tab n e x) ∧ xs.length * ie.bytes ≤ reachBytes ∧ xs.length ≤ maxLen := by
  unfold OkA at h
  rw [hi] at h
  simp only [hd] at h
  obtain ⟨xs, h1, h2, h3, h4⟩ := h
  exact ⟨xs, h1, h2, h3 ie he, h4⟩
theorem okStruct {n : Nat} {t : TypeId} {i : TI} {fs : List (TypeId × Nat)} {v : AV} (hi : tab t = some i) (hd : i.d = .struct fs) (h : OkA tab (n + 1) t v) : ∃ vs : List AV, v = .agg (vs.flatMap AV.cells) ∧ OkL (OkA tab n) fs vs := by
  unfold OkA at h
  rw [hi] at h
  simp only [hd] at h
  exact h
theorem okArr {n m : Nat} {t e : TypeId} {i : TI} {v : AV} (hi : tab t = some i) (hd : i.d = .arr m e) (h : OkA tab (n + 1) t v) : ∃ vs : List AV, vs.length = m ∧ v = .agg (vs.flatMap AV.cells) ∧ ∀ x ∈ vs, OkA tab n e x := by
  unfold OkA at h
  rw [hi] at h
  simp only [hd] at h
  exact h
/-- A slice whose elements are told by f. -/
theorem okRow {α : Type} {f : α → AV} {p : α → Prop} {n : Nat} {t e : TypeId} {i ie : TI} {v : AV} (hi : tab t = some i) (hd : i.d = .slice e) (he : tab e = some ie) (hb : 0 < ie.bytes) (hf : ∀ x, OkA tab n e x → ∃ a, x = f a ∧ p a) (h : OkA tab (n + 1) t v) :
    ∃ l : List α, v = .slice (l.map f) false ∧ (∀ a ∈ l, p a) ∧ l.length ≤ 140737488351232 := by
  obtain ⟨xs, rfl, h1, h2, h3⟩ := okSlice hi hd he h
  obtain ⟨l, rfl, hl⟩ := list_of (f := f) (p := p) (fun x hx => hf x (h1 x hx))
  refine ⟨l, rfl, hl, ?_⟩
  have e : reachBytes = 140737488351232 := rfl
  rw [e, List.length_map] at h2
  exact Nat.le_trans (Nat.le_mul_of_pos_right _ hb) h2
end
theorem okArgs1 {T : Tab} {m : Nat} {a : TypeId} {av : List AV} (h : OkArgs T m [a] av) : ∃ x, av = [x] ∧ OkA T m a x := by
  match av, h with
  | [x], h => exact ⟨x, rfl, h.1⟩
theorem okArgs2 {T : Tab} {m : Nat} {a b : TypeId} {av : List AV} (h : OkArgs T m [a, b] av) : ∃ x y, av = [x, y] ∧ OkA T m a x ∧ OkA T m b y := by
  match av, h with
  | [x, y], h => exact ⟨x, y, rfl, h.1, h.2.1⟩
theorem okArgs3 {T : Tab} {m : Nat} {a b c : TypeId} {av : List AV} (h : OkArgs T m [a, b, c] av) : ∃ x y z, av = [x, y, z] ∧ OkA T m a x ∧ OkA T m b y ∧ OkA T m c z := by
  match av, h with
  | [x, y, z], h => exact ⟨x, y, z, rfl, h.1, h.2.1, h.2.2.1⟩
theorem okArgs4 {T : Tab} {m : Nat} {a b c d : TypeId} {av : List AV} (h : OkArgs T m [a, b, c, d] av) : ∃ x y z u, av = [x, y, z, u] ∧ OkA T m a x ∧ OkA T m b y ∧ OkA T m c z ∧ OkA T m d u := by
  match av, h with
  | [x, y, z, u], h => exact ⟨x, y, z, u, rfl, h.1, h.2.1, h.2.2.1, h.2.2.2.1⟩
/-- Bounds of whole numbers. -/
theorem wfI {k : IntKind} {x : Int} (h : (Lit.int k x).wf = true) : k.min ≤ x ∧ x ≤ k.max := by
  simp [Lit.wf] at h
  exact h
theorem wfU8 {x : Int} (h : (Lit.int .u8 x).wf = true) : 0 ≤ x ∧ x ≤ 255 := by have := wfI h; simp [IntKind.min, IntKind.max, IntKind.signed, IntKind.bits] at this; exact this
theorem wfU16 {x : Int} (h : (Lit.int .u16 x).wf = true) : 0 ≤ x ∧ x ≤ 65535 := by have := wfI h; simp [IntKind.min, IntKind.max, IntKind.signed, IntKind.bits] at this; exact this
theorem wfI8 {x : Int} (h : (Lit.int .i8 x).wf = true) : -128 ≤ x ∧ x ≤ 127 := by have := wfI h; simp [IntKind.min, IntKind.max, IntKind.signed, IntKind.bits] at this; exact this
theorem wfI32 {x : Int} (h : (Lit.int .i32 x).wf = true) : -2147483648 ≤ x ∧ x ≤ 2147483647 := by have := wfI h; simp [IntKind.min, IntKind.max, IntKind.signed, IntKind.bits] at this; exact this
theorem wfI64 {x : Int} (h : (Lit.int .i64 x).wf = true) : -9223372036854775808 ≤ x ∧ x ≤ 9223372036854775807 := by have := wfI h; simp [IntKind.min, IntKind.max, IntKind.signed, IntKind.bits] at this; exact this
end Go.Arm

namespace Go.Proofs.YtohmodcheahpgaaGreatDoor.Arm
open Go.Arm Go.Pl

theorem okIv {n : Nat} {v : AV} (h : OkA tab (n + 2) 26 v) : ∃ p : I, v = iv p ∧ True := by
  obtain ⟨vs, rfl, hv⟩ := okStruct tab26 rfl h
  obtain ⟨a, vs, rfl, ha, hv⟩ := okL_cons hv
  obtain ⟨b, vs, rfl, hb, hv⟩ := okL_cons hv
  cases okL_nil hv
  obtain ⟨x, rfl, hx⟩ := okInt tab2 rfl ha
  obtain ⟨y, rfl, hy⟩ := okInt tab2 rfl hb
  exact ⟨(x, y), rfl, trivial⟩
theorem okNd {n : Nat} {v : AV} (h : OkA tab (n + 3) 52 v) : ∃ p : Nd, v = nd p ∧ True := by
  obtain ⟨vs, rfl, hv⟩ := okStruct tab52 rfl h
  obtain ⟨a, vs, rfl, ha, hv⟩ := okL_cons hv
  obtain ⟨b, vs, rfl, hb, hv⟩ := okL_cons hv
  obtain ⟨c, vs, rfl, hc, hv⟩ := okL_cons hv
  cases okL_nil hv
  obtain ⟨x, rfl, hx⟩ := okInt tab3 rfl ha
  obtain ⟨y, rfl, hy⟩ := okInt tab3 rfl hb
  obtain ⟨p, rfl, -⟩ := okIv hc
  exact ⟨⟨x, y, p⟩, rfl, trivial⟩
theorem okXs {n : Nat} {v : AV} (h : OkA tab (n + 4) 23 v) : ∃ l : List Nd, v = xs l ∧ l.length ≤ 140737488351232 := by
  obtain ⟨l, rfl, _, hl⟩ := okRow (f := nd) tab23 rfl tab52 (by decide) (fun x hx => okNd hx) h
  exact ⟨l, rfl, hl⟩
theorem okBx {n : Nat} {v : AV} (h : OkA tab (n + 3) 24 v) : ∃ l : List I, v = bx l ∧ l.length ≤ 140737488351232 := by
  obtain ⟨l, rfl, _, hl⟩ := okRow (f := iv) tab24 rfl tab26 (by decide) (fun x hx => okIv hx) h
  exact ⟨l, rfl, hl⟩
theorem okXss {n : Nat} {v : AV} (h : OkA tab (n + 5) 22 v) : ∃ l : List (List Nd), v = .slice (l.map xs) false ∧ (∀ r ∈ l, r.length ≤ 140737488351232) ∧ l.length ≤ 140737488351232 := by
  obtain ⟨l, rfl, hr, hl⟩ := okRow (f := xs) tab22 rfl tab23 (by decide) (fun x hx => okXs hx) h
  exact ⟨l, rfl, hr, hl⟩
structure InpOk (F : List (List Nd)) (l : List Nd) (b : List I) (n : Int) : Prop where
  hF : ∀ r ∈ F, r.length ≤ 200000000000000
  hF2 : F.length ≤ 200000000000000
  hl : l.length ≤ 200000000000000
  hb : b.length ≤ 200000000000000
  hn : 0 ≤ n ∧ n ≤ 255
theorem okInp {n : Nat} {v : AV} (h : OkA tab (n + 7) 28 v) : ∃ F l b t k, v = inp F l b t k ∧ InpOk F l b k := by
  obtain ⟨vs, rfl, hv⟩ := okStruct tab28 rfl h
  obtain ⟨a, vs, rfl, ha, hv⟩ := okL_cons hv
  obtain ⟨b, vs, rfl, hb, hv⟩ := okL_cons hv
  obtain ⟨c, vs, rfl, hc, hv⟩ := okL_cons hv
  obtain ⟨d, vs, rfl, hd, hv⟩ := okL_cons hv
  obtain ⟨e, vs, rfl, he, hv⟩ := okL_cons hv
  cases okL_nil hv
  obtain ⟨F, rfl, h1, h2⟩ := okXss ha
  obtain ⟨l, rfl, h3⟩ := okXs hb
  obtain ⟨x, rfl, h4⟩ := okBx hc
  obtain ⟨t, rfl, -⟩ := okIv hd
  obtain ⟨k, rfl, hk⟩ := okInt tab5 rfl he
  exact ⟨F, l, x, t, k, rfl, ⟨fun r hr => by have := h1 r hr; omega, by omega, by omega, by omega, wfU8 hk⟩⟩
end Go.Proofs.YtohmodcheahpgaaGreatDoor.Arm

namespace Go.Proofs.YtohmodcheahpgaaGreatDoor.Arm
open Go.Arm Go.Pl Go.ChangeShapes Go.WideShapes Go.ChangeAt Go.RowKit

theorem own : ownKnob Tryz.prog.godebug = none := by kernel_rfl
theorem laidOut : laidOutB Tryz.prog = true := by kernel_rfl
def laidL : List (String × DataW Unit) := [("armillary/interval.products", Rows.laid_armillary_interval_products), ("armillary/interval.quotients", Rows.laid_armillary_interval_quotients)]
/-- The door's own heap meets the condition. -/
theorem door_met (os : Os) (args : Array Value) : laidMetH Tryz.prog laidL ((World.doorLaid Tryz.prog 600 os).forCall (fun _ _ => 0) ⟨#[], args, []⟩).memory :=
  laidMetH_of_parts3 (fuel := 12) (laidMet_of_run' 8 (by kernel_rfl) (by kernel_rfl)) (by kernel_rfl) (by kernel_rfl)
def fnames : List (List UInt8 × FuncId) := [([97, 114, 109, 105, 108, 108, 97, 114, 121, 47, 105, 110, 116, 101, 114, 118, 97, 108, 46, 104, 104], 125), ([97, 114, 109, 105, 108, 108, 97, 114, 121, 47, 105, 110, 116, 101, 114, 118, 97, 108, 46, 108, 108], 126), ([97, 114, 109, 105, 108, 108, 97, 114, 121, 47, 105, 110, 116, 101, 114, 118, 97, 108, 46, 108, 104], 127), ([97, 114, 109, 105, 108, 108, 97, 114, 121, 47, 105, 110, 116, 101, 114, 118, 97, 108, 46, 104, 108], 128)]
theorem fnames_ok : ∀ p ∈ fnames, ((List.range Tryz.prog.funcs.size).filter fun f => (Tryz.prog.funcs[f]?).any (·.name.toUTF8.data.toList == p.1)) = [p.2] := by
  intro p hp
  simp only [fnames, List.mem_cons, List.not_mem_nil, or_false] at hp
  rcases hp with rfl | rfl | rfl | rfl <;> kernel_rfl
theorem fnames_ne : ∀ p ∈ fnames, p.1 ≠ [] := by
  intro p hp
  simp only [fnames, List.mem_cons, List.not_mem_nil, or_false] at hp
  rcases hp with rfl | rfl | rfl | rfl <;> exact List.cons_ne_nil _ _
theorem gProd : Tryz.prog.globalNamed "armillary/interval.products" = some 0 := by kernel_rfl
theorem gQuot : Tryz.prog.globalNamed "armillary/interval.quotients" = some 1 := by kernel_rfl
theorem glob_met {W : World} (h : laidMetH Tryz.prog laidL W) : ∀ g cs, E.Γ g = some cs → VR [] W (.eptr cs 0) (.pointer (some ⟨g, 0, none⟩)) := by
  intro g cs hg
  have hg' : glob g = some cs := hg
  unfold glob at hg'
  split at hg'
  · cases hg'
    exact glob_of (P := Tryz.prog) (T := tab) (L := fnames) tab_ok h (name := "armillary/interval.products") (List.mem_cons_self ..) gProd (t := 96) (by kernel_rfl) (m := 8) (by kernel_rfl) fnames_ok fnames_ne (by kernel_rfl) (by decide)
  · cases hg'
    exact glob_of (P := Tryz.prog) (T := tab) (L := fnames) tab_ok h (name := "armillary/interval.quotients") (List.mem_cons_of_mem _ (List.mem_cons_self ..)) gQuot (t := 106) (by kernel_rfl) (m := 8) (by kernel_rfl) fnames_ok fnames_ne (by kernel_rfl) (by decide)
  · cases hg'
end Go.Proofs.YtohmodcheahpgaaGreatDoor.Arm

namespace Go.Proofs.YtohmodcheahpgaaGreatDoor.Arm
open Go.Arm Go.Pl

theorem len1 {a : Ex} (h : ∀ c i, a ≠ .num c ∧ a ≠ .var i ∧ a ≠ .time) : (((ser a).length : Int) == 1) = false := by
  have hp : (ser a).length ≠ 1 := ser_ne1 h
  rw [beq_eq_false_iff_ne]; omega
theorem zIsPoint (a : Ex) (hs : sz a ≤ 1000000000) (H : AH) : Sound E 69 [xs (ser a)] H (.ret (.bool (isPt a).isSome)) H := by
  refine sound_of_awp tabOk mixed Tryz.func69 rfl (by rfl) Tryz.ntmps69 (by kernel_rfl) (by simp) ?_
  cases a with
  | num c =>
    by_cases h : c.1 = c.2
    · simp [xs, ser]
      refine endD [] (by rfl) (by simp [okW, note, Eff.triv, Eff.wr, Eff.none, upTo, newAt]) ?_
      simp
      exact fin0 (rs := [.tmp 2]) (by rfl) (by simp [resA, isPt, h])
    · simp [xs, ser]
      refine endD [] (by rfl) (by simp [okW, note, Eff.triv, Eff.wr, Eff.none, upTo, newAt]) ?_
      simp
      exact fin0 (rs := [.tmp 2]) (by rfl) (by simp [resA, isPt, h])
  | var i =>
    simp [xs, ser, leafN]
    refine endD [] (by rfl) (by simp [okW, note, Eff.triv, Eff.wr, Eff.none, upTo, newAt]) ?_
    simp
    exact fin0 (rs := [.tmp 2]) (by rfl) (by simp [resA, isPt])
  | time =>
    simp [xs, ser, leafN]
    refine endD [] (by rfl) (by simp [okW, note, Eff.triv, Eff.wr, Eff.none, upTo, newAt]) ?_
    simp
    exact fin0 (rs := [.tmp 2]) (by rfl) (by simp [resA, isPt])
  | un o a =>
    have hl := len1 (a := .un o a) (fun c i => ⟨by simp, by simp, by simp⟩)
    simp [xs, hl]
    refine endD [] (by rfl) (by simp [okW, note, Eff.triv, Eff.wr, Eff.none, upTo, newAt]) ?_
    simp
    exact fin0 (rs := [.tmp 2]) (by rfl) (by simp [resA, isPt])
  | bin o a b =>
    have hl := len1 (a := .bin o a b) (fun c i => ⟨by simp, by simp, by simp⟩)
    simp [xs, hl]
    refine endD [] (by rfl) (by simp [okW, note, Eff.triv, Eff.wr, Eff.none, upTo, newAt]) ?_
    simp
    exact fin0 (rs := [.tmp 2]) (by rfl) (by simp [resA, isPt])
theorem zCombine (o : B) (ho : o ≠ .div) (p q : I) (hp : vB p = true) (hq : vB q = true) (H : AH) : Sound E 71 [.int .i64 o.code, iv p, iv q] H (.ret (iv (binV o p q))) H := by
  refine sound_of_awp tabOk mixed Tryz.func71 rfl (by rfl) Tryz.ntmps71 (by kernel_rfl) (by simp) ?_
  cases o with
  | div => exact absurd rfl ho
  | add =>
    simp [B.code]
    refine call_ret (rAdd p q hp hq _) ?_
    simp
    exact fin1 (rs := [.cell 6 26]) (by rfl) (by simp [resA, binV]) (by simp [noF, noFs])
  | sub =>
    simp [B.code]
    refine call_ret (rSub p q hp hq _) ?_
    simp
    exact fin1 (rs := [.cell 6 26]) (by rfl) (by simp [resA, binV]) (by simp [noF, noFs])
  | mul =>
    simp [B.code]
    refine call_ret (rMul p q hp hq _) ?_
    simp
    exact fin1 (rs := [.cell 6 26]) (by rfl) (by simp [resA, binV]) (by simp [noF, noFs])
theorem finX4 {fn : Func} {t : Tmp} {fr : AFr} {H0 : AH} {a b : Ex} {e : AExit} (hr : fn.results.toList = [.tmp t]) (h : fr t = xs (ser a)) (hab : a = b) (hx : e = .ret ∨ e = .normal := by simp) : bodyK E fn H0 (.ret (xs (ser b))) H0 e fr H0 := by
  subst hab; exact finX hr h hx
theorem root_neg {a : Ex} (h : ∀ b, a ≠ .un .neg b) : ((root0 a).op == 4) = false := by
  cases a with
  | num c => rfl
  | var i => rfl
  | time => rfl
  | un o b => cases o with
    | neg => exact absurd rfl (h b)
    | sqr => rfl
    | sqrt => rfl
  | bin o b c => cases o <;> rfl
theorem smpNeg_other {a : Ex} (h : isPt a = none) (k : ∀ b, a ≠ .un .neg b) : smpNeg a = .un .neg a := by
  unfold smpNeg
  rw [h]
  dsimp only
  split
  · rename_i b; exact absurd rfl (k b)
  · rfl
theorem pt_ok {k : Nat} {c : Int} (h : wf k (.num (c, c)) = true) : pt (-c) = neg (c, c) := by
  have he : entB (c, c) = false := by simp [entB]; omega
  have := entB_false h he
  simp only at this
  unfold pt mk
  rw [if_pos (by rw [Bool.and_eq_true, numB_iff]; omega)]
  rfl
theorem zUnary (o : U) (a : Ex) {k : Nat} (hw : wf k a = true) (hs : sz a ≤ 100000000) (H : AH) : Sound E 38 [.int .i64 o.code, xs (ser a)] H (.ret (xs (ser (smpU o a)))) H := by
  refine sound_of_awp tabOk mixed Tryz.func38 rfl (by rfl) Tryz.ntmps38 (by kernel_rfl) (by simp) ?_
  have hI := fun x Hx => r10Is a x (by omega) Hx
  have hget : (ser a)[0]? = some (root0 a) := by rw [ser_eq]; rfl
  have hmap : ((ser a).map nd)[0]? = some (nd (root0 a)) := by rw [List.getElem?_map, hget]; rfl
  have hmapE : ∀ h, ((ser a).map nd)[0]'h = nd (root0 a) := fun h => (List.getElem?_eq_some_iff.1 hmap).2
  cases o with
  | neg =>
    simp [U.code]
    refine call_ret (zIsPoint a (by omega) _) ?_
    cases hp : isPt a with
    | some c =>
      have e := isPt_some hp
      subst e
      simp [xs, ser]
      refine call_ret (rNeg (c, c) hw _) ?_
      simp
      refine call_ret (r7Const _ _) ?_
      simp
      exact finX4 (t := 4) (a := .num (neg (c, c))) (by rfl) (by simp [xs, ser]) (by simp only [smpU, smpNeg, isPt, if_true]; rw [pt_ok hw])
    | none =>
      by_cases hn : ∃ b, a = .un .neg b
      · obtain ⟨b, rfl⟩ := hn
        simp [xs, ser, leafN, U.code]
        refine bind_if (by omega) ?_
        rw [List.take_of_length_le (by simp)]
        simp
        exact finX4 (t := 4) (a := b) (by rfl) (by simp [xs]) rfl
      · have hop := root_neg (fun b e => hn ⟨b, e⟩)
        simp [xs, hmap, hmapE, hop]
        simp only [← xs_eq]
        refine call_ret (r7UnaryE .neg a (by omega) _) ?_
        simp
        exact finX4 (t := 4) (a := .un .neg a) (by rfl) (by simp) (smpNeg_other hp (fun b e => hn ⟨b, e⟩)).symm
  | sqr =>
    simp [U.code]
    refine call_ret (hI 0 _) ?_
    cases h0 : isK a 0 with
    | true =>
      simp
      exact finX4 (t := 4) (a := a) (by rfl) (by simp) (by simp [smpU, h0])
    | false =>
      simp
      refine call_ret (hI 65536 _) ?_
      cases h1 : isK a 65536 with
      | true =>
        simp
        exact finX4 (t := 4) (a := a) (by rfl) (by simp) (by simp [smpU, h1])
      | false =>
        simp
        refine call_ret (r7UnaryE .sqr a (by omega) _) ?_
        simp
        exact finX4 (t := 4) (a := .un .sqr a) (by rfl) (by simp) (by simp [smpU, h0, h1])
  | sqrt =>
    simp [U.code]
    refine call_ret (hI 0 _) ?_
    cases h0 : isK a 0 with
    | true =>
      simp
      exact finX4 (t := 4) (a := a) (by rfl) (by simp) (by simp [smpU, h0])
    | false =>
      simp
      refine call_ret (hI 65536 _) ?_
      cases h1 : isK a 65536 with
      | true =>
        simp
        exact finX4 (t := 4) (a := a) (by rfl) (by simp) (by simp [smpU, h1])
      | false =>
        simp
        refine call_ret (r7UnaryE .sqrt a (by omega) _) ?_
        simp
        exact finX4 (t := 4) (a := .un .sqrt a) (by rfl) (by simp) (by simp [smpU, h0, h1])
theorem foldC_nl {f : I → I → I} {a b : Ex} (h : isPt a = none) : foldC f a b = none := by
  unfold foldC
  split
  · rename_i c d
    rw [if_neg]
    simp only [isPt] at h
    intro hc
    rw [if_pos hc.1] at h; cases h
  · rfl
theorem foldC_nr {f : I → I → I} {a b : Ex} (h : isPt b = none) : foldC f a b = none := by
  unfold foldC
  split
  · rename_i c d
    rw [if_neg]
    simp only [isPt] at h
    intro hc
    rw [if_pos hc.2.1] at h; cases h
  · rfl
theorem foldC_pp {f : I → I → I} {c d : Int} : foldC f (.num (c, c)) (.num (d, d)) = if (f (c, c) (d, d)).1 = (f (c, c) (d, d)).2 then some (.num (f (c, c) (d, d))) else none := by
  simp [foldC]
theorem zBinary (o : B) (a b : Ex) {k : Nat} (hwa : wf k a = true) (hwb : wf k b = true) (hs : sz a + sz b ≤ 100000000) (H : AH) : Sound E 39 [.int .i64 o.code, xs (ser a), xs (ser b)] H (.ret (xs (ser (smpB o a b)))) H := by
  refine sound_of_awp tabOk mixed Tryz.func39 rfl (by rfl) Tryz.ntmps39 (by kernel_rfl) (by simp) ?_
  have hA := fun x Hx => r10Is a x (by omega) Hx
  have hB := fun x Hx => r10Is b x (by omega) Hx
  have pA := fun Hx => zIsPoint a (by omega) Hx
  have pB := fun Hx => zIsPoint b (by omega) Hx
  cases o with
  | add =>
    simp [B.code]
    refine call_ret (hA 0 _) ?_
    cases h0 : isK a 0 with
    | true =>
      simp
      exact finX4 (t := 6) (a := b) (by rfl) (by simp) (by simp [smpB, smpAdd, h0])
    | false =>
      simp
      refine call_ret (hB 0 _) ?_
      cases h1 : isK b 0 with
      | true =>
        simp
        exact finX4 (t := 6) (a := a) (by rfl) (by simp) (by simp [smpB, smpAdd, h0, h1])
      | false =>
        simp
        refine call_ret (pA _) ?_
        cases hp : isPt a with
        | none =>
          simp
          refine call_ret (r7BinaryE .add a b (by omega) _) ?_
          simp
          exact finX4 (t := 6) (a := .bin .add a b) (by rfl) (by simp) (by simp [smpB, smpAdd, h0, h1, foldC_nl hp])
        | some c =>
          simp
          refine call_ret (pB _) ?_
          cases hq : isPt b with
          | none =>
            simp
            refine call_ret (r7BinaryE .add a b (by omega) _) ?_
            simp
            exact finX4 (t := 6) (a := .bin .add a b) (by rfl) (by simp) (by simp [smpB, smpAdd, h0, h1, foldC_nr hq])
          | some d =>
            have e1 := isPt_some hp
            have e2 := isPt_some hq
            subst e1 e2
            simp [xs, ser]
            refine callD_ret0 (fun Hx => zCombine .add (by simp) (c, c) (d, d) hwa hwb Hx) ?_
            simp
            refine endD [(10, 11)] (by rfl) (by simp [okW, note, Eff.triv, Eff.wr, Eff.none, upTo, newAt]) ?_
            simp
            refine branch (fun hc => ?_) (fun hc => ?_)
            · have hc' : (binV .add (c, c) (d, d)).1 = (binV .add (c, c) (d, d)).2 := by simpa using hc
              simp
              refine call_ret (r7Const _ _) ?_
              simp
              exact fin1 (rs := [.tmp 6]) (by rfl) (by simp only [binV] at hc'; simp [resA, smpB, smpAdd, h0, h1, foldC_pp, hc', binV, xs]) (xs_noF _ _)
            · have hc' : ¬ (binV .add (c, c) (d, d)).1 = (binV .add (c, c) (d, d)).2 := by simpa using hc
              simp
              have hbin := fun Hx => r7BinaryE .add (.num (c, c)) (.num (d, d)) (by rw [sz_num, sz_num]; decide) Hx
              simp only [xs, ser, List.map_cons, List.map_nil, nd_eq] at hbin
              refine call_ret (hbin _) ?_
              simp
              exact fin1 (rs := [.tmp 6]) (by rfl) (by simp only [binV] at hc'; simp [resA, smpB, smpAdd, h0, h1, foldC_pp, hc', xs, ser]) (xs_noF _ _)
  | sub =>
    simp [B.code]
    refine call_ret (hB 0 _) ?_
    cases h0 : isK b 0 with
    | true =>
      simp
      exact finX4 (t := 6) (a := a) (by rfl) (by simp) (by simp [smpB, smpSub, h0])
    | false =>
      simp
      refine call_ret (hA 0 _) ?_
      cases h1 : isK a 0 with
      | true =>
        simp
        refine call_ret (zUnary .neg b hwb (by omega) _) ?_
        simp
        exact finX4 (t := 6) (a := smpU .neg b) (by rfl) (by simp) (by simp [smpB, smpSub, h0, h1, smpU])
      | false =>
        simp
        refine call_ret (pA _) ?_
        cases hp : isPt a with
        | none =>
          simp
          refine call_ret (r7BinaryE .sub a b (by omega) _) ?_
          simp
          exact finX4 (t := 6) (a := .bin .sub a b) (by rfl) (by simp) (by simp [smpB, smpSub, h0, h1, foldC_nl hp])
        | some c =>
          simp
          refine call_ret (pB _) ?_
          cases hq : isPt b with
          | none =>
            simp
            refine call_ret (r7BinaryE .sub a b (by omega) _) ?_
            simp
            exact finX4 (t := 6) (a := .bin .sub a b) (by rfl) (by simp) (by simp [smpB, smpSub, h0, h1, foldC_nr hq])
          | some d =>
            have e1 := isPt_some hp
            have e2 := isPt_some hq
            subst e1 e2
            simp [xs, ser]
            refine callD_ret0 (fun Hx => zCombine .sub (by simp) (c, c) (d, d) hwa hwb Hx) ?_
            simp
            refine endD [(10, 11)] (by rfl) (by simp [okW, note, Eff.triv, Eff.wr, Eff.none, upTo, newAt]) ?_
            simp
            refine branch (fun hc => ?_) (fun hc => ?_)
            · have hc' : (binV .sub (c, c) (d, d)).1 = (binV .sub (c, c) (d, d)).2 := by simpa using hc
              simp
              refine call_ret (r7Const _ _) ?_
              simp
              exact fin1 (rs := [.tmp 6]) (by rfl) (by simp only [binV] at hc'; simp [resA, smpB, smpSub, h0, h1, foldC_pp, hc', binV, xs]) (xs_noF _ _)
            · have hc' : ¬ (binV .sub (c, c) (d, d)).1 = (binV .sub (c, c) (d, d)).2 := by simpa using hc
              simp
              have hbin := fun Hx => r7BinaryE .sub (.num (c, c)) (.num (d, d)) (by rw [sz_num, sz_num]; decide) Hx
              simp only [xs, ser, List.map_cons, List.map_nil, nd_eq] at hbin
              refine call_ret (hbin _) ?_
              simp
              exact fin1 (rs := [.tmp 6]) (by rfl) (by simp only [binV] at hc'; simp [resA, smpB, smpSub, h0, h1, foldC_pp, hc', xs, ser]) (xs_noF _ _)
  | mul =>
    simp [B.code]
    refine call_ret (hA 0 _) ?_
    cases h0 : isK a 0 with
    | true =>
      simp
      refine call_ret (r10Number 0 (by decide) _) ?_
      simp
      exact finX4 (t := 6) (a := number 0) (by rfl) (by simp) (by simp [smpB, smpMul, h0])
    | false =>
      simp
      refine call_ret (hB 0 _) ?_
      cases h1 : isK b 0 with
      | true =>
        simp
        refine call_ret (r10Number 0 (by decide) _) ?_
        simp
        exact finX4 (t := 6) (a := number 0) (by rfl) (by simp) (by simp [smpB, smpMul, h0, h1])
      | false =>
        simp
        refine call_ret (hA 65536 _) ?_
        cases h2 : isK a 65536 with
        | true =>
          simp
          exact finX4 (t := 6) (a := b) (by rfl) (by simp) (by simp [smpB, smpMul, h0, h1, h2])
        | false =>
          simp
          refine call_ret (hB 65536 _) ?_
          cases h3 : isK b 65536 with
          | true =>
            simp
            exact finX4 (t := 6) (a := a) (by rfl) (by simp) (by simp [smpB, smpMul, h0, h1, h2, h3])
          | false =>
            simp
            refine call_ret (pA _) ?_
            cases hp : isPt a with
            | none =>
              simp
              refine call_ret (r7BinaryE .mul a b (by omega) _) ?_
              simp
              exact finX4 (t := 6) (a := .bin .mul a b) (by rfl) (by simp) (by simp [smpB, smpMul, h0, h1, h2, h3, foldC_nl hp])
            | some c =>
              simp
              refine call_ret (pB _) ?_
              cases hq : isPt b with
              | none =>
                simp
                refine call_ret (r7BinaryE .mul a b (by omega) _) ?_
                simp
                exact finX4 (t := 6) (a := .bin .mul a b) (by rfl) (by simp) (by simp [smpB, smpMul, h0, h1, h2, h3, foldC_nr hq])
              | some d =>
                have e1 := isPt_some hp
                have e2 := isPt_some hq
                subst e1 e2
                simp [xs, ser]
                refine callD_ret0 (fun Hx => zCombine .mul (by simp) (c, c) (d, d) hwa hwb Hx) ?_
                simp
                refine endD [(10, 11)] (by rfl) (by simp [okW, note, Eff.triv, Eff.wr, Eff.none, upTo, newAt]) ?_
                simp
                refine branch (fun hc => ?_) (fun hc => ?_)
                · have hc' : (binV .mul (c, c) (d, d)).1 = (binV .mul (c, c) (d, d)).2 := by simpa using hc
                  simp
                  refine call_ret (r7Const _ _) ?_
                  simp
                  exact fin1 (rs := [.tmp 6]) (by rfl) (by simp only [binV] at hc'; simp [resA, smpB, smpMul, h0, h1, h2, h3, foldC_pp, hc', binV, xs]) (xs_noF _ _)
                · have hc' : ¬ (binV .mul (c, c) (d, d)).1 = (binV .mul (c, c) (d, d)).2 := by simpa using hc
                  simp
                  have hbin := fun Hx => r7BinaryE .mul (.num (c, c)) (.num (d, d)) (by rw [sz_num, sz_num]; decide) Hx
                  simp only [xs, ser, List.map_cons, List.map_nil, nd_eq] at hbin
                  refine call_ret (hbin _) ?_
                  simp
                  exact fin1 (rs := [.tmp 6]) (by rfl) (by simp only [binV] at hc'; simp [resA, smpB, smpMul, h0, h1, h2, h3, foldC_pp, hc', xs, ser]) (xs_noF _ _)
  | div =>
    simp [B.code]
    refine call_ret (hA 0 _) ?_
    cases h0 : isK a 0 with
    | true =>
      simp
      refine call_ret (r10Number 0 (by decide) _) ?_
      simp
      exact finX4 (t := 6) (a := number 0) (by rfl) (by simp) (by simp only [smpB, h0, Bool.true_or, if_true]; rw [isK_num h0]; decide)
    | false =>
      simp
      refine call_ret (hB 65536 _) ?_
      cases h1 : isK b 65536 with
      | true =>
        simp
        exact finX4 (t := 6) (a := a) (by rfl) (by simp) (by simp [smpB, h0, h1])
      | false =>
        simp
        refine call_ret (r7BinaryE .div a b (by omega) _) ?_
        simp
        exact finX4 (t := 6) (a := .bin .div a b) (by rfl) (by simp) (by simp [smpB, h0, h1])
end Go.Proofs.YtohmodcheahpgaaGreatDoor.Arm

namespace Go.Proofs.YtohmodcheahpgaaGreatDoor.Arm
open Go.Arm Go.Pl

theorem zSimplify {kk : Nat} : ∀ (n : Nat) (a : Ex), sz a ≤ n → wf kk a = true → sz a ≤ 100000000 → ∀ H, Sound E 12 [xs (ser a)] H (.ret (xs (ser (smp a)))) H
  | 0, a, hn, hw, hs, H => by have := sz_pos a; omega
  | n + 1, a, hn, hw, hs, H => by
    refine sound_of_awp tabOk mixed Tryz.func12 rfl (by rfl) Tryz.ntmps12 (by kernel_rfl) (by simp) ?_
    simp
    refine call_ret (r7Operands a (by omega) _) ?_
    cases a with
    | num c =>
      simp [kids]
      exact finX4 (t := 2) (a := .num c) (by rfl) (by simp) rfl
    | var c =>
      simp [kids]
      exact finX4 (t := 2) (a := .var c) (by rfl) (by simp) rfl
    | time =>
      simp [kids]
      exact finX4 (t := 2) (a := .time) (by rfl) (by simp) rfl
    | un o b =>
      rw [sz_un] at hn hs
      have hw' : wf kk b = true := hw
      have hsb := smp_sz b
      simp [kids, xs, ser, leafN]
      refine callD_ret0 (fun Hx => zSimplify n b (by omega) hw' (by omega) Hx) ?_
      simp
      refine callD_ret0 (fun Hx => zUnary o (smp b) (smp_wf b hw') (by omega) Hx) ?_
      simp
      refine endD [] (by rfl) (by simp [okW, note, Eff.triv, Eff.wr, Eff.none, upTo, newAt]) ?_
      simp
      exact finX4 (t := 2) (a := smpU o (smp b)) (by rfl) (by simp) rfl
    | bin o b c =>
      rw [sz_bin] at hn hs
      simp only [wf, Bool.and_eq_true] at hw
      have hsb := smp_sz b
      have hsc := smp_sz c
      simp [kids, xs, ser, leafN]
      refine callD_ret0 (fun Hx => zSimplify n b (by omega) hw.1 (by omega) Hx) ?_
      simp
      refine callD_ret0 (fun Hx => zSimplify n c (by omega) hw.2 (by omega) Hx) ?_
      simp
      refine callD_ret0 (fun Hx => zBinary o (smp b) (smp c) (smp_wf b hw.1) (smp_wf c hw.2) (by omega) Hx) ?_
      simp
      refine endD [] (by rfl) (by simp [okW, note, Eff.triv, Eff.wr, Eff.none, upTo, newAt]) ?_
      simp
      exact finX4 (t := 2) (a := smpB o (smp b) (smp c)) (by rfl) (by simp) rfl
def vnd : Vr → Nd
  | .st i => leafN 2 i
  | .tm => leafN 3 0
theorem vnd_isV (v : Vr) {e : Ex} (h : kids e = []) : ((root0 e).op == (vnd v).op && (root0 e).n == (vnd v).n && ((root0 e).c.1 == (vnd v).c.1 && (root0 e).c.2 == (vnd v).c.2)) = isV v e := by
  cases e with
  | num c => cases v <;> rfl
  | var k => cases v <;> simp [root0, vnd, leafN, isV]
  | time => cases v <;> simp [root0, vnd, leafN, isV]
  | un o a => simp [kids] at h
  | bin o a b => simp [kids] at h
theorem zEnd {fn : Func} {t : Tmp} {fr : AFr} {H0 J : AH} {a b : Ex} {e : AExit} (hr : fn.results.toList = [.tmp t]) (h : fr t = xs (ser a)) (hab : a = b) (hx : e = .ret ∨ e = .normal := by simp) : bodyK E fn H0 (.ret (xs (ser b))) H0 e fr (H0 ++ J) := by
  subst hab
  exact fin1 (rs := [.tmp t]) hr (by simp [resA, h]) (xs_noF _ _) hx
theorem dif_leafE (v : Vr) {e : Ex} (h : kids e = []) : dif v e = if isV v e then number 1 else number 0 := by
  cases e with
  | num c => simp only [dif]
  | var k => simp only [dif]
  | time => simp only [dif]
  | un o a => simp [kids] at h
  | bin o a b => simp [kids] at h
set_option maxRecDepth 4000 in
theorem zDerivative (v : Vr) : ∀ (n : Nat) (a : Ex), sz a ≤ n → sz a ≤ 1000000 → sz (dif v a) ≤ 1000000 → ∀ H, Sound E 42 [xs (ser a), nd (vnd v)] H (.ret (xs (ser (dif v a)))) H
  | 0, a, hn, hs, hd, H => by have := sz_pos a; omega
  | n + 1, a, hn, hs, hd, H => by
    refine sound_of_awp tabOk mixed Tryz.func42 rfl (by rfl) Tryz.ntmps42 (by kernel_rfl) (by simp) ?_
    simp
    refine call_ret (r7Operands a (by omega) _) ?_
    have hget : (ser a)[0]? = some (root0 a) := by rw [ser_eq]; rfl
    have hmap : ((ser a).map nd)[0]? = some (nd (root0 a)) := by rw [List.getElem?_map, hget]; rfl
    have hmapE : ∀ h, ((ser a).map nd)[0]'h = nd (root0 a) := fun h => (List.getElem?_eq_some_iff.1 hmap).2
    by_cases hk : kids a = []
    · have hv := vnd_isV v hk
      have hdl := dif_leafE v hk
      simp [hk, xs, hmap, hmapE]
      refine endD [] (by rfl) (by simp [okW, note, Eff.triv, Eff.wr, Eff.none, upTo, newAt]) ?_
      simp [hv]
      cases h : isV v a with
      | true =>
        rw [h] at hdl
        simp
        refine call_ret (r10Number 1 (by decide) _) ?_
        simp
        exact zEnd (t := 4) (a := number 1) (by rfl) (by simp) hdl.symm
      | false =>
        rw [h] at hdl
        simp
        refine call_ret (r10Number 0 (by decide) _) ?_
        simp
        exact zEnd (t := 4) (a := number 0) (by rfl) (by simp) hdl.symm
    · have hkd : ∀ (k : Ex) (i : Nat), (kids a)[i]? = some k → sz (dif v k) ≤ 1000000 := fun k i h => by have := dif_kid (v := v) h; omega
      have rec1 : ∀ (k : Ex) (i : Nat), (kids a)[i]? = some k → ∀ H, Sound E 42 [xs (ser k), nd (vnd v)] H (.ret (xs (ser (dif v k)))) H := fun k i h H =>
        zDerivative v n k (by have := kid_sz h; omega) (by have := kid_sz h; omega) (hkd k i h) H
      cases a with
      | num c => exact absurd rfl hk
      | var c => exact absurd rfl hk
      | time => exact absurd rfl hk
      | un o b =>
        rw [sz_un] at hs
        have r1 := rec1 b 0 rfl
        have hb := hkd b 0 rfl
        cases o with
        | neg =>
          simp [kids, xs]
          refine call_ret (r1 _) ?_
          simp [xs, hmap, hmapE, root0, leafN, U.code]
          refine call_ret (r7UnaryE .neg (dif v b) (by omega) _) ?_
          simp
          exact zEnd (t := 4) (a := .un .neg (dif v b)) (by rfl) (by simp) rfl
        | sqr =>
          simp [kids, xs]
          refine call_ret (r1 _) ?_
          simp [xs, hmap, hmapE, root0, leafN, U.code]
          refine call_ret (r10Number 2 (by decide) _) ?_
          simp
          refine call_ret (r7BinaryE .mul (number 2) b (by rw [number_sz]; omega) _) ?_
          simp
          refine call_ret (r7BinaryE .mul (.bin .mul (number 2) b) (dif v b) (by rw [sz_bin, number_sz]; omega) _) ?_
          simp
          exact zEnd (t := 4) (a := .bin .mul (.bin .mul (number 2) b) (dif v b)) (by rfl) (by simp) rfl
        | sqrt =>
          simp [kids, xs]
          refine call_ret (r1 _) ?_
          simp [xs, hmap, hmapE, root0, leafN, U.code]
          refine call_ret (r10Number 2 (by decide) _) ?_
          simp
          refine call_ret (r7BinaryE .mul (number 2) (.un .sqrt b) (by rw [number_sz, sz_un]; omega) _) ?_
          simp
          refine call_ret (r7BinaryE .div (dif v b) (.bin .mul (number 2) (.un .sqrt b)) (by rw [sz_bin, number_sz, sz_un]; omega) _) ?_
          simp
          exact zEnd (t := 4) (a := .bin .div (dif v b) (.bin .mul (number 2) (.un .sqrt b))) (by rfl) (by simp) rfl
      | bin o b c =>
        rw [sz_bin] at hs
        have r1 := rec1 b 0 rfl
        have r2 := rec1 c 1 rfl
        have hb := hkd b 0 rfl
        have hc := hkd c 1 rfl
        cases o with
        | add =>
          simp [kids, xs]
          refine call_ret (r1 _) ?_
          simp [xs, hmap, hmapE, root0, leafN, B.code]
          refine call_ret (r2 _) ?_
          simp [xs, hmap, hmapE, root0, leafN, B.code]
          refine call_ret (r7BinaryE .add (dif v b) (dif v c) (by omega) _) ?_
          simp
          exact zEnd (t := 4) (a := .bin .add (dif v b) (dif v c)) (by rfl) (by simp) rfl
        | sub =>
          simp [kids, xs]
          refine call_ret (r1 _) ?_
          simp [xs, hmap, hmapE, root0, leafN, B.code]
          refine call_ret (r2 _) ?_
          simp [xs, hmap, hmapE, root0, leafN, B.code]
          refine call_ret (r7BinaryE .sub (dif v b) (dif v c) (by omega) _) ?_
          simp
          exact zEnd (t := 4) (a := .bin .sub (dif v b) (dif v c)) (by rfl) (by simp) rfl
        | mul =>
          simp [kids, xs]
          refine call_ret (r1 _) ?_
          simp [xs, hmap, hmapE, root0, leafN, B.code]
          refine call_ret (r2 _) ?_
          simp [xs, hmap, hmapE, root0, leafN, B.code]
          refine call_ret (r7BinaryE .mul (dif v b) c (by omega) _) ?_
          simp
          refine call_ret (r7BinaryE .mul b (dif v c) (by omega) _) ?_
          simp
          refine call_ret (r7BinaryE .add (.bin .mul (dif v b) c) (.bin .mul b (dif v c)) (by rw [sz_bin, sz_bin]; omega) _) ?_
          simp
          exact zEnd (t := 4) (a := .bin .add (.bin .mul (dif v b) c) (.bin .mul b (dif v c))) (by rfl) (by simp) rfl
        | div =>
          simp [kids, xs]
          refine call_ret (r1 _) ?_
          simp [xs, hmap, hmapE, root0, leafN, B.code]
          refine call_ret (r2 _) ?_
          simp [xs, hmap, hmapE, root0, leafN, B.code]
          refine call_ret (r7BinaryE .mul (dif v b) c (by omega) _) ?_
          simp
          refine call_ret (r7BinaryE .mul b (dif v c) (by omega) _) ?_
          simp
          refine call_ret (r7BinaryE .sub (.bin .mul (dif v b) c) (.bin .mul b (dif v c)) (by rw [sz_bin, sz_bin]; omega) _) ?_
          simp
          refine call_ret (r7UnaryE .sqr c (by omega) _) ?_
          simp
          refine call_ret (r7BinaryE .div (.bin .sub (.bin .mul (dif v b) c) (.bin .mul b (dif v c))) (.un .sqr c) (by rw [sz_bin, sz_bin, sz_bin, sz_un]; omega) _) ?_
          simp
          exact zEnd (t := 4) (a := .bin .div (.bin .sub (.bin .mul (dif v b) c) (.bin .mul b (dif v c))) (.un .sqr c)) (by rfl) (by simp) rfl
theorem zDiff {kk : Nat} (a : Ex) (i : Int) (hw : wf kk a = true) (hs : sz a ≤ 1000000) (hds : sz (dif (.st i) a) ≤ 1000000) (H : AH) : Sound E 14 [xs (ser a), .int .i64 i] H (.ret (xs (ser (der (.st i) a)))) H := by
  refine sound_of_awp tabOk mixed Tryz.func14 rfl (by rfl) Tryz.ntmps14 (by kernel_rfl) (by simp) ?_
  simp
  refine call_ret (zDerivative (.st i) _ a (Nat.le_refl _) hs hds _) ?_
  simp
  refine call_ret (zSimplify _ (dif (.st i) a) (Nat.le_refl _) (dif_wf _ a hw) (by omega) _) ?_
  simp
  exact finX4 (t := 4) (a := smp (dif (.st i) a)) (by rfl) (by simp) rfl
theorem zTimeDerivative {kk : Nat} (a : Ex) (hw : wf kk a = true) (hs : sz a ≤ 1000000) (hds : sz (dif .tm a) ≤ 1000000) (H : AH) : Sound E 16 [xs (ser a)] H (.ret (xs (ser (der .tm a)))) H := by
  refine sound_of_awp tabOk mixed Tryz.func16 rfl (by rfl) Tryz.ntmps16 (by kernel_rfl) (by simp) ?_
  simp
  refine call_ret (zDerivative .tm _ a (Nat.le_refl _) hs hds _) ?_
  simp
  refine call_ret (zSimplify _ (dif .tm a) (Nat.le_refl _) (dif_wf _ a hw) (by omega) _) ?_
  simp
  exact finX4 (t := 2) (a := smp (dif .tm a)) (by rfl) (by simp) rfl
end Go.Proofs.YtohmodcheahpgaaGreatDoor.Arm

namespace Go.Proofs.YtohmodcheahpgaaGreatDoor.Arm
open Go.Arm Go.Pl

def LZa (s : Sys) (xv : List I) (t : I) (H : AH) (i : Nat) (fr : AFr) (H' : AH) : Prop :=
  fr 1 = bx xv ∧ fr 3 = .ptr H.length 1 0 0 ∧ fr 5 = .ptr (H.length + 1) 1 0 0 ∧ fr 8 = .int .i64 i ∧ i ≤ s.f.length ∧ ∃ J, H' = H ++ [.row true 2 [sys s], .row true 2 [iv t]] ++ J ∧ Acc (H ++ [.row true 2 [sys s], .row true 2 [iv t]]) J (fr 7) 1 ((s.f.take i).map fun e => bx (jrow xv t e s.f.length)) (.slice [] true)
def LZb (s : Sys) (e : Ex) (b3 b5 : Nat) (v7 : AV) (i : Nat) (xv : List I) (t : I) (H : AH) (j : Nat) (fr : AFr) (H' : AH) : Prop :=
  fr 1 = bx xv ∧ fr 3 = .ptr b3 1 0 0 ∧ fr 5 = .ptr b5 1 0 0 ∧ fr 7 = v7 ∧ fr 8 = .int .i64 i ∧ fr 10 = .int .i64 j ∧ j ≤ s.f.length ∧ ∃ J, H' = H ++ J ∧ Acc H J (fr 9) 2 ((jrow xv t e j).map iv) (.slice [] true)
set_option maxRecDepth 4000 in
theorem zMatrix (s : Sys) (xv : List I) (t : I) (hxv : ∀ p ∈ xv, vB p = true) (hxl : xv.length ≤ 1000000000) (htv : vB t = true) (hf : ∀ e ∈ s.f, sz e ≤ 1000000 ∧ wf xv.length e = true ∧ ∀ j : Nat, j < s.f.length → sz (dif (.st j) e) ≤ 1000000) (hn : s.f.length ≤ 1000000000) (H : AH) :
    Sound E 19 [sys s, bx xv, iv t] H (.ret (.slice (s.f.map fun e => bx (jrow xv t e s.f.length)) false)) H := by
  refine sound_of_awp tabOk mixed Tryz.func19 rfl (by rfl) Tryz.ntmps19 (by kernel_rfl) (by simp) ?_
  simp [sys]
  refine loop_count (LZa s xv t H) (fun i => s.f.length - i) 0 ⟨by simp [bx], by simp, by simp, by simp, by omega, [], by simp [sys, iv], .inl ⟨by simp, by simp⟩⟩ ?_
  rintro i fr H' ⟨g1, g3, g5, g8, hi, J, rfl, hacc⟩
  have hq3 : (H ++ [.row true 2 [sys s], .row true 2 [iv t]] ++ J)[H.length]? = some (.row true 2 [sys s]) := by simp
  have hq5 : (H ++ [.row true 2 [sys s], .row true 2 [iv t]] ++ J)[H.length + 1]? = some (.row true 2 [iv t]) := by simp
  simp [g3, g8, hq3, sys]
  refine branch (fun hc => ?_) (fun hc => ?_)
  · have hlt : i < s.f.length := by simpa using hc
    obtain ⟨e, hei⟩ := get_lt hlt
    have heE : ∀ h, s.f[i]'h = e := fun h => (List.getElem?_eq_some_iff.1 hei).2
    obtain ⟨hes, hew, hed⟩ := hf e (List.mem_of_getElem? hei)
    have w2 : IntKind.i64.wrap ((i : Int) + 1) = ((i + 1 : Nat) : Int) := by rw [wrap64 (by omega) (by omega)]; omega
    simp
    refine loop_count (LZb s e H.length (H.length + 1) (fr 7) i xv t (H ++ [.row true 2 [sys s], .row true 2 [iv t]] ++ J)) (fun j => s.f.length - j) 0 ⟨by simp [g1], by simp [g3], by simp [g5], by simp, by simp [g8], by simp, by omega, [], by simp [sys, iv, xs], .inl ⟨by simp [jrow], by simp⟩⟩ ?_
    rintro j fr2 H2 ⟨k1, k3, k5, k7, k8, k10, hj, L, rfl, hacc2⟩
    generalize hHq : H ++ [.row true 2 [sys s], .row true 2 [iv t]] ++ J = Hq at *
    simp [k3, k10, old hq3, sys]
    refine branch (fun hc2 => ?_) (fun hc2 => ?_)
    · have hjlt : j < s.f.length := by simpa using hc2
      have w3 : IntKind.i64.wrap ((j : Int) + 1) = ((j + 1 : Nat) : Int) := by rw [wrap64 (by omega) (by omega)]; omega
      have hda := hed j hjlt
      have hsd : sz (der (.st j) e) ≤ 1000000 := Nat.le_trans (smp_sz _) hda
      have hlq : H.length + 1 < Hq.length := (List.getElem?_eq_some_iff.1 hq5).1
      simp [k1, k3, k5, k8, k10, old hq3, old hq5, sys, xs, bx, hei, heE]
      refine callD_ret0 (fun Hx => zDiff e j hew hes hda Hx) ?_
      simp [k1, k5, old hq5]
      refine callD_ret0 (fun Hx => r7Eval xv t hxv hxl htv _ (der (.st j) e) (Nat.le_refl _) (by omega) (der_wf hew) Hx) ?_
      rcases hacc2 with ⟨h0, h1⟩ | ⟨kk, h1, h2⟩
      · have hz : j = 0 := by have := congrArg List.length h0
                              simp only [List.length_map, jrow_len, List.length_nil] at this; omega
        have ha := app_iv1 (H := Hq ++ L) (p := ev xv t (der (.st j) e)) (f := true)
        simp [h1]
        simp only [iv] at ha
        refine bind_some ha ?_
        simp
        refine endD [] (by rfl) (by simp [okW, note, Eff.triv, Eff.wr, Eff.none, upTo, newAt]; omega) ?_
        simp [k10, w3]
        exact ⟨j + 1, by show s.f.length - (j + 1) < s.f.length - j; omega, by simp [k1, bx], by simp [k3], by simp [k5], by simp [k7], by simp [k8], by simp, by omega, L ++ [.row true 2 [iv (ev xv t (der (.st j) e))]], by simp [iv], .inr ⟨L.length, by rw [jrow_succ]; simp [hz, jrow], by rw [jrow_succ]; simp [hz, jrow]⟩⟩
      · have ha := app_iv (H := Hq ++ L) (p := ev xv t (der (.st j) e)) (f := true) (n := j) (l := (jrow xv t e j).map iv) (wr := true) (b := Hq.length + kk) (by omega) (by rw [List.length_map, jrow_len]) (by simpa using h2)
        rw [List.length_map, jrow_len] at h1
        simp [h1, h2]
        simp only [iv] at ha
        refine bind_some ha ?_
        simp
        refine endD [] (by rfl) (by simp [okW, note, Eff.triv, Eff.wr, Eff.none, upTo, newAt]; omega) ?_
        simp [k10, w3]
        exact ⟨j + 1, by show s.f.length - (j + 1) < s.f.length - j; omega, by simp [k1, bx], by simp [k3], by simp [k5], by simp [k7], by simp [k8], by simp, by omega, L.set kk (.row true 2 ((jrow xv t e (j + 1)).map iv)), by rw [jrow_succ]; simp [iv], .inr ⟨kk, by simp [jrow_len], by rw [List.getElem?_set_self (List.getElem?_eq_some_iff.1 h2).1]⟩⟩
    · have hj' : j = s.f.length := by have : ¬ j < s.f.length := by simpa using hc2
                                      omega
      subst hj'
      rcases hacc2 with ⟨h0, _⟩ | ⟨kk, h1, h2⟩
      · have := congrArg List.length h0
        simp only [List.length_map, jrow_len, List.length_nil] at this; omega
      rw [List.length_map, jrow_len] at h1
      have hft : s.f.take (i + 1) = s.f.take i ++ [e] := by rw [List.take_add_one, hei]; rfl
      obtain ⟨v', J', hap, hacc', _⟩ := Acc.push (T := tab) (t := 42) (e := 24) (x := .slice [bx (jrow xv t e s.f.length)] true) (ys := [bx (jrow xv t e s.f.length)]) (Acc.len (L := L.set kk (.row false 2 ((jrow xv t e s.f.length).map iv))) hacc) tab42 rfl tab24 rfl rfl (by simp [okc, bx]) ⟨by decide, by simp⟩ (by rw [List.length_map, List.length_take]; dsimp only [List.length_cons, List.length_nil]; omega) (by rw [List.length_map, List.length_take]; dsimp only [List.length_cons, List.length_nil]; omega)
      simp [h1, h2, k7, jrow_len]
      simp only [← List.append_assoc] at hap
      rw [hHq] at hap
      refine bind_some (by simpa [bx] using hap) ?_
      simp [k8, w2]
      subst hHq
      exact ⟨i + 1, by show s.f.length - (i + 1) < s.f.length - i; omega, by simp [k1, bx], by simp [k3], by simp [k5], by simp, by omega, J', by simp [sys, iv], by simpa [hft] using hacc'⟩
  · have hi' : i = s.f.length := by have : ¬ i < s.f.length := by simpa using hc
                                    omega
    subst hi'
    rw [List.take_length] at hacc
    simp
    have hH : H ++ .row true 2 [.agg [.slice (s.names.map .str) false, .slice (s.f.map fun e => xs (ser e)) false]] :: .row true 2 [.agg [.int .i64 t.1, .int .i64 t.2]] :: J = H ++ ([.row true 2 [sys s], .row true 2 [iv t]] ++ J) := by simp [sys]
    simp only [sys] at hH
    rw [hH]
    exact finS (t := 6) (by rfl) (by simp) (accBase hacc) rfl (noFs_iff.2 fun x hx => by obtain ⟨y, _, rfl⟩ := List.mem_map.1 hx; simp only [bx, noF]; exact iv_noFs _ _)
def LZl (s : Sys) (g : Ex) (xv : List I) (t : I) (H : AH) (i : Nat) (fr : AFr) (H' : AH) : Prop :=
  fr 1 = xs (ser g) ∧ fr 2 = bx xv ∧ fr 7 = .ptr (H.length + 1) 1 0 0 ∧ fr 8 = .ptr (H.length + 2) 1 0 0 ∧ fr 9 = .ptr (H.length + 3) 1 0 0 ∧ fr 10 = bx (s.f.map (ev xv t)) ∧ fr 11 = .int .i64 i ∧ i ≤ s.f.length ∧ H' = H ++ [.row true 2 [sys s], .row true 2 [iv t], .row true 2 [iv (0, 0)], .row true 2 [iv (lieSum xv t g (s.f.map (ev xv t)) i)]]
set_option maxRecDepth 4000 in
theorem zLieDerivative (s : Sys) (g : Ex) (xv : List I) (t : I) (hxv : ∀ p ∈ xv, vB p = true) (hxl : xv.length ≤ 1000000000) (htv : vB t = true) (hf : ∀ e ∈ s.f, sz e ≤ 1000000000 ∧ wf xv.length e = true) (hn : s.f.length ≤ 1000000000) (hgs : sz g ≤ 1000000) (hgw : wf xv.length g = true) (hgt : sz (dif .tm g) ≤ 1000000) (hgd : ∀ j : Nat, j < s.f.length → sz (dif (.st j) g) ≤ 1000000) (H : AH) :
    Sound E 21 [sys s, xs (ser g), bx xv, iv t] H (.ret (iv (lieSum xv t g (s.f.map (ev xv t)) s.f.length))) H := by
  refine sound_of_awp tabOk mixed Tryz.func21 rfl (by rfl) Tryz.ntmps21 (by kernel_rfl) (by simp) ?_
  have hst : sz (der .tm g) ≤ 1000000 := Nat.le_trans (smp_sz _) hgt
  simp [sys]
  refine callD_ret0 (fun Hx => zTimeDerivative g hgw hgs hgt Hx) ?_
  simp
  refine callD_ret0 (fun Hx => r7Eval xv t hxv hxl htv _ (der .tm g) (Nat.le_refl _) (by omega) (der_wf hgw) Hx) ?_
  simp
  refine callD_ret0 (fun Hx => r7Derivatives s xv t hxv hxl htv hf hn Hx) ?_
  simp
  refine endD [(9, 10)] (by rfl) (by simp [okW, note, Eff.triv, Eff.wr, Eff.none, upTo, newAt]) ?_
  simp
  have hfv : ∀ p ∈ s.f.map (ev xv t), vB p = true := fun p hp => by obtain ⟨e, he, rfl⟩ := List.mem_map.1 hp; exact ev_valid hxv htv e (hf e he).2
  refine loop_count (LZl s g xv t H) (fun i => s.f.length - i) 0 ⟨by simp, by simp, by simp, by simp, by simp, by simp, by simp, by omega, by simp [sys, iv, lieSum]⟩ ?_
  rintro i fr H' ⟨g1, g2, g7, g8, g9, g10, g11, hi, rfl⟩
  simp [g10, g11, bx]
  refine branch (fun hc => ?_) (fun hc => ?_)
  · have hlt : i < s.f.length := by simpa using hc
    obtain ⟨e, hei⟩ := get_lt hlt
    have heE : ∀ h, s.f[i]'h = e := fun h => (List.getElem?_eq_some_iff.1 hei).2
    have w2 : IntKind.i64.wrap ((i : Int) + 1) = ((i + 1 : Nat) : Int) := by rw [wrap64 (by omega) (by omega)]; omega
    have hda := hgd i hlt
    have hsd : sz (der (.st i) g) ≤ 1000000 := Nat.le_trans (smp_sz _) hda
    have hls : lieSum xv t g (s.f.map (ev xv t)) (i + 1) = if isK (der (.st i) g) 0 then lieSum xv t g (s.f.map (ev xv t)) i else add (lieSum xv t g (s.f.map (ev xv t)) i) (mul (ev xv t (der (.st i) g)) (ev xv t e)) := by
      simp only [lieSum, List.getD_eq_getElem?_getD, List.getElem?_map, hei, Option.map_some, Option.getD_some]
    have hsv := lieSum_valid (f := s.f.map (ev xv t)) hxv htv hgw hfv i
    have hev := ev_valid hxv htv e (hf e (List.mem_of_getElem? hei)).2
    generalize hS : lieSum xv t g (s.f.map (ev xv t)) i = S at *
    simp [g1, g11]
    refine call_ret (zDiff g i hgw hgs hda _) ?_
    simp
    refine call_ret (r10Is (der (.st i) g) 0 (by omega) _) ?_
    cases hk : isK (der (.st i) g) 0 with
    | true =>
      simp [g11, w2]
      exact ⟨i + 1, by show s.f.length - (i + 1) < s.f.length - i; omega, by simp [g1], by simp [g2], by simp [g7], by simp [g8], by simp [g9], by simp [g10], by simp, by omega, by simp [sys, iv, hls, hk]⟩
    | false =>
      simp [g2, g7, g9]
      refine callD_ret0 (fun Hx => r7Eval xv t hxv hxl htv _ (der (.st i) g) (Nat.le_refl _) (by omega) (der_wf hgw) Hx) ?_
      simp [g9, g10, g11, bx, hei, heE]
      refine callD_ret0 (fun Hx => rMul _ _ (ev_valid hxv htv _ (der_wf hgw)) hev Hx) ?_
      simp [g9]
      refine callD_ret0 (fun Hx => rAdd _ _ hsv mul_valid Hx) ?_
      simp [g9]
      refine endD [(0, 11)] (by rfl) (by simp [okW, note, Eff.triv, Eff.wr, Eff.none, upTo, newAt]) ?_
      simp [g11, w2]
      exact ⟨i + 1, by show s.f.length - (i + 1) < s.f.length - i; omega, by simp [g1], by simp [g2, bx], by simp [g7], by simp [g8], by simp [g9], by simp [g10, bx], by simp, by omega, by simp [sys, iv, hls, hk]⟩
  · have hi' : i = s.f.length := by have : ¬ i < s.f.length := by simpa using hc
                                    omega
    subst hi'
    simp [g8, g9]
    exact fin1 (rs := [.cell 8 26]) (by rfl) (by simp [resA, g8]) (by simp [noF, noFs])
end Go.Proofs.YtohmodcheahpgaaGreatDoor.Arm

/- Rational values in intervals: every operation encloses the exact one. -/
namespace Go.Pl

/-- The value r lies in a (one unit of a is 1/65536). -/
def InI (a : I) (r : Rat) : Prop := a = ent ∨ ((a.1 : Rat) ≤ r * 65536 ∧ r * 65536 ≤ (a.2 : Rat))

theorem inI_ent (r : Rat) : InI ent r := .inl rfl
theorem in_mk {lo hi : Int} {r : Rat} (h1 : (lo : Rat) ≤ r * 65536) (h2 : r * 65536 ≤ (hi : Rat)) : InI (mk lo hi) r := by
  unfold mk
  split
  · exact .inr ⟨h1, h2⟩
  · exact .inl rfl
theorem not_ent2 {a b : I} (h : ¬ (entB a || entB b) = true) : a ≠ ent ∧ b ≠ ent := by
  simp only [Bool.or_eq_true, entB_iff, not_or] at h
  exact h
theorem in_add {a b : I} {x y : Rat} (ha : InI a x) (hb : InI b y) : InI (add a b) (x + y) := by
  unfold add
  split
  · exact .inl rfl
  · rename_i h
    obtain ⟨h1, h2⟩ := not_ent2 h
    obtain ⟨a1, a2⟩ := ha.resolve_left h1
    obtain ⟨b1, b2⟩ := hb.resolve_left h2
    refine in_mk ?_ ?_
    · rw [Rat.intCast_add]; grind
    · rw [Rat.intCast_add]; grind
theorem neg_ent : neg ent = ent := rfl
theorem in_neg {a : I} {x : Rat} (ha : InI a x) : InI (neg a) (-x) := by
  rcases ha with rfl | ⟨h1, h2⟩
  · exact .inl rfl
  · refine .inr ⟨?_, ?_⟩
    · simp only [neg, Rat.intCast_neg]; grind
    · simp only [neg, Rat.intCast_neg]; grind
theorem in_sub {a b : I} {x y : Rat} (ha : InI a x) (hb : InI b y) : InI (sub a b) (x - y) := by
  rw [Rat.sub_eq_add_neg]; exact in_add ha (in_neg hb)

/-! ### Corners -/
theorem rmulL {a b c : Rat} (h : 0 ≤ c) (k : a ≤ b) : c * a ≤ c * b := Rat.mul_le_mul_of_nonneg_left k h
theorem rmulL' {a b c : Rat} (h : c ≤ 0) (k : a ≤ b) : c * b ≤ c * a := by
  have := Rat.mul_le_mul_of_nonneg_left k (c := -c) (by grind)
  grind
theorem corner_hi {a1 a2 b1 b2 X Y : Rat} (h1 : a1 ≤ X) (h2 : X ≤ a2) (h3 : b1 ≤ Y) (h4 : Y ≤ b2) : X * Y ≤ a1 * b1 ∨ X * Y ≤ a1 * b2 ∨ X * Y ≤ a2 * b1 ∨ X * Y ≤ a2 * b2 := by
  rcases Rat.le_total (a := 0) (b := Y) with hy | hy
  · have e1 := rmulL hy h2
    rcases Rat.le_total (a := 0) (b := a2) with ha | ha
    · have e2 := rmulL ha h4
      right; right; right; grind
    · have e2 := rmulL' ha h3
      right; right; left; grind
  · have e1 := rmulL' hy h1
    rcases Rat.le_total (a := 0) (b := a1) with ha | ha
    · have e2 := rmulL ha h4
      right; left; grind
    · have e2 := rmulL' ha h3
      left; grind
theorem corner_lo {a1 a2 b1 b2 X Y : Rat} (h1 : a1 ≤ X) (h2 : X ≤ a2) (h3 : b1 ≤ Y) (h4 : Y ≤ b2) : a1 * b1 ≤ X * Y ∨ a1 * b2 ≤ X * Y ∨ a2 * b1 ≤ X * Y ∨ a2 * b2 ≤ X * Y := by
  have := corner_hi (a1 := -a2) (a2 := -a1) (X := -X) (Y := Y) (b1 := b1) (b2 := b2) (by grind) (by grind) h3 h4
  grind
theorem prod_in {a1 a2 b1 b2 : Int} {X Y : Rat} (h1 : (a1 : Rat) ≤ X) (h2 : X ≤ (a2 : Rat)) (h3 : (b1 : Rat) ≤ Y) (h4 : Y ≤ (b2 : Rat)) :
    ((min4 (a1 * b1) (a1 * b2) (a2 * b1) (a2 * b2) : Int) : Rat) ≤ X * Y ∧ X * Y ≤ ((max4 (a1 * b1) (a1 * b2) (a2 * b1) (a2 * b2) : Int) : Rat) := by
  have key1 : ∀ z : Int, min4 (a1 * b1) (a1 * b2) (a2 * b1) (a2 * b2) ≤ z → (z : Rat) ≤ X * Y → ((min4 (a1 * b1) (a1 * b2) (a2 * b1) (a2 * b2) : Int) : Rat) ≤ X * Y := fun z h k => Rat.le_trans (Rat.intCast_le_intCast.2 h) k
  have key2 : ∀ z : Int, z ≤ max4 (a1 * b1) (a1 * b2) (a2 * b1) (a2 * b2) → X * Y ≤ (z : Rat) → X * Y ≤ ((max4 (a1 * b1) (a1 * b2) (a2 * b1) (a2 * b2) : Int) : Rat) := fun z h k => Rat.le_trans k (Rat.intCast_le_intCast.2 h)
  constructor
  · rcases corner_lo h1 h2 h3 h4 with h | h | h | h
    · exact key1 (a1 * b1) (by simp only [min4]; omega) (by rw [Rat.intCast_mul]; exact h)
    · exact key1 (a1 * b2) (by simp only [min4]; omega) (by rw [Rat.intCast_mul]; exact h)
    · exact key1 (a2 * b1) (by simp only [min4]; omega) (by rw [Rat.intCast_mul]; exact h)
    · exact key1 (a2 * b2) (by simp only [min4]; omega) (by rw [Rat.intCast_mul]; exact h)
  · rcases corner_hi h1 h2 h3 h4 with h | h | h | h
    · exact key2 (a1 * b1) (by simp only [max4]; omega) (by rw [Rat.intCast_mul]; exact h)
    · exact key2 (a1 * b2) (by simp only [max4]; omega) (by rw [Rat.intCast_mul]; exact h)
    · exact key2 (a2 * b1) (by simp only [max4]; omega) (by rw [Rat.intCast_mul]; exact h)
    · exact key2 (a2 * b2) (by simp only [max4]; omega) (by rw [Rat.intCast_mul]; exact h)

/-! ### Quotients -/
theorem rdiv_le {x y b : Rat} (hb : 0 < b) (h : y * b ≤ x) : y ≤ x / b := Rat.not_lt.1 fun k => by
  have := (Rat.div_lt_iff hb).1 k
  exact absurd h (Rat.not_le.2 this)
theorem le_rdiv {x y b : Rat} (hb : 0 < b) (h : x ≤ y * b) : x / b ≤ y := Rat.not_lt.1 fun k => by
  have := (Rat.lt_div_iff hb).1 k
  exact absurd h (Rat.not_le.2 this)
theorem fl_pos_le {x b : Int} (hb : 0 < b) : ((x / b : Int) : Rat) * (b : Rat) ≤ (x : Rat) ∧ (x : Rat) < (((x / b : Int) : Rat) + 1) * (b : Rat) := by
  constructor
  · rw [← Rat.intCast_mul]; exact Rat.intCast_le_intCast.2 (Int.ediv_mul_le x (by omega))
  · have e : (((x / b : Int) : Rat) + 1) * (b : Rat) = (((x / b + 1) * b : Int) : Rat) := by rw [Rat.intCast_mul, Rat.intCast_add]; rfl
    rw [e]; exact Rat.intCast_lt_intCast.2 (Int.lt_ediv_add_one_mul_self x hb)
theorem rneg_div (x b : Rat) : (-x) / (-b) = x / b := by
  by_cases h : b = 0
  · subst h; grind
  · grind
theorem rneg_div' (x b : Rat) : (-x) / b = -(x / b) := by grind
theorem fl_le {x b : Int} (hb : b ≠ 0) : ((fl x b : Int) : Rat) ≤ (x : Rat) / (b : Rat) ∧ (x : Rat) / (b : Rat) < ((fl x b : Int) : Rat) + 1 := by
  have key : ∀ (y c : Int), 0 < c → ((y / c : Int) : Rat) ≤ (y : Rat) / (c : Rat) ∧ (y : Rat) / (c : Rat) < ((y / c : Int) : Rat) + 1 := fun y c hc => by
    obtain ⟨k1, k2⟩ := fl_pos_le (x := y) hc
    have hc' : (0 : Rat) < (c : Rat) := Rat.intCast_pos.2 hc
    exact ⟨rdiv_le hc' k1, (Rat.div_lt_iff hc').2 k2⟩
  unfold fl
  split
  · rename_i h
    have := key (-x) (-b) (by omega)
    rw [Rat.intCast_neg, Rat.intCast_neg, rneg_div] at this
    exact this
  · exact key x b (by omega)
theorem le_ce {x b : Int} (hb : b ≠ 0) : (x : Rat) / (b : Rat) ≤ ((ce x b : Int) : Rat) ∧ ((ce x b : Int) : Rat) - 1 < (x : Rat) / (b : Rat) := by
  obtain ⟨h1, h2⟩ := fl_le (x := -x) hb
  unfold ce
  rw [Rat.intCast_neg, rneg_div'] at h1 h2
  rw [Rat.intCast_neg]
  constructor <;> grind

theorem in_mul {a b : I} {x y : Rat} (ha : InI a x) (hb : InI b y) : InI (mul a b) (x * y) := by
  unfold mul
  split
  · exact .inl rfl
  · rename_i h
    obtain ⟨h1, h2⟩ := not_ent2 h
    obtain ⟨a1, a2⟩ := ha.resolve_left h1
    obtain ⟨b1, b2⟩ := hb.resolve_left h2
    obtain ⟨p1, p2⟩ := prod_in a1 a2 b1 b2
    generalize min4 _ _ _ _ = m at *
    generalize max4 _ _ _ _ = M at *
    obtain ⟨f1, _⟩ := fl_le (x := m) (b := 65536) (by decide)
    obtain ⟨f2, _⟩ := le_ce (x := M) (b := 65536) (by decide)
    have e : ((65536 : Int) : Rat) = 65536 := rfl
    rw [e] at f1 f2
    refine in_mk ?_ ?_
    · grind
    · grind

theorem sq_nonneg (x : Rat) : 0 ≤ x * x := by
  rcases Rat.le_total (a := 0) (b := x) with h | h
  · exact Rat.mul_nonneg h h
  · have := Rat.mul_nonneg (a := -x) (b := -x) (by grind) (by grind)
    grind
theorem in_sq {a : I} {x : Rat} (ha : InI a x) : InI (sq a) (x * x) := by
  unfold sq
  split
  · exact .inl rfl
  · rename_i h
    have h1 : a ≠ ent := fun k => h (entB_iff.2 k)
    obtain ⟨a1, a2⟩ := ha.resolve_left h1
    have p : (((if a.1 ≤ 0 ∧ 0 ≤ a.2 then 0 else min (a.1 * a.1) (a.2 * a.2) : Int)) : Rat) ≤ (x * 65536) * (x * 65536) := by
      split
      · exact sq_nonneg _
      · rename_i hn
        rcases Int.lt_or_le 0 a.1 with hp | hp
        · have hp' : (0 : Rat) ≤ (a.1 : Rat) := Rat.intCast_nonneg.2 (by omega)
          have k1 := rmulL hp' a1
          have k2 := rmulL (Rat.le_trans hp' a1) a1
          refine Rat.le_trans (b := ((a.1 * a.1 : Int) : Rat)) (Rat.intCast_le_intCast.2 (by omega)) ?_
          rw [Rat.intCast_mul]; grind
        · have hp' : (a.2 : Rat) ≤ 0 := Rat.intCast_nonpos.2 (by omega)
          have k1 := rmulL' hp' a2
          have k2 := rmulL' (Rat.le_trans a2 hp') a2
          refine Rat.le_trans (b := ((a.2 * a.2 : Int) : Rat)) (Rat.intCast_le_intCast.2 (by omega)) ?_
          rw [Rat.intCast_mul]; grind
    have q : (x * 65536) * (x * 65536) ≤ ((max (a.1 * a.1) (a.2 * a.2) : Int) : Rat) := by
      have m1 : ((a.1 * a.1 : Int) : Rat) ≤ ((max (a.1 * a.1) (a.2 * a.2) : Int) : Rat) := Rat.intCast_le_intCast.2 (by omega)
      have m2 : ((a.2 * a.2 : Int) : Rat) ≤ ((max (a.1 * a.1) (a.2 * a.2) : Int) : Rat) := Rat.intCast_le_intCast.2 (by omega)
      rw [Rat.intCast_mul] at m1 m2
      rcases Rat.le_total (a := 0) (b := x * 65536) with hx | hx
      · have k1 := rmulL hx a2
        have k2 := rmulL (Rat.le_trans hx a2) a2
        grind
      · have k1 := rmulL' hx a1
        have k2 := rmulL' (Rat.le_trans a1 hx) a1
        grind
    generalize (if a.1 ≤ 0 ∧ 0 ≤ a.2 then 0 else min (a.1 * a.1) (a.2 * a.2) : Int) = m at *
    generalize (max (a.1 * a.1) (a.2 * a.2) : Int) = M at *
    obtain ⟨f1, _⟩ := fl_le (x := m) (b := 65536) (by decide)
    obtain ⟨f2, _⟩ := le_ce (x := M) (b := 65536) (by decide)
    have e : ((65536 : Int) : Rat) = 65536 := rfl
    rw [e] at f1 f2
    exact in_mk (by grind) (by grind)

theorem rinv_anti {b y : Rat} (hb : 0 < b) (h : b ≤ y) : y⁻¹ ≤ b⁻¹ := by
  have hy : 0 < y := by grind
  have e1 := Rat.inv_mul_cancel y (by grind)
  have e2 := Rat.inv_mul_cancel b (by grind)
  have p1 := Rat.inv_pos.2 hy
  have p2 := Rat.inv_pos.2 hb
  have k1 := rmulL (Rat.le_of_lt (Rat.mul_pos p1 p2)) h
  rw [Rat.mul_assoc, e2, Rat.mul_one, Rat.mul_comm y⁻¹, Rat.mul_assoc, e1, Rat.mul_one] at k1
  exact k1
theorem rinv_neg (y : Rat) : (-y)⁻¹ = -(y⁻¹) := by grind
/-- The reciprocals of a definite interval. -/
theorem rinv_in {b1 b2 Y : Rat} (h1 : b1 ≤ Y) (h2 : Y ≤ b2) (h : 0 < b1 ∨ b2 < 0) : b2⁻¹ ≤ Y⁻¹ ∧ Y⁻¹ ≤ b1⁻¹ := by
  rcases h with h | h
  · exact ⟨rinv_anti (by grind) h2, rinv_anti h h1⟩
  · have k1 := rinv_anti (b := -b2) (y := -Y) (by grind) (by grind)
    have k2 := rinv_anti (b := -Y) (y := -b1) (by grind) (by grind)
    rw [rinv_neg, rinv_neg] at k1 k2
    constructor <;> grind
theorem quot_in {a1 a2 b1 b2 : Int} {X Y : Rat} (h1 : (a1 : Rat) ≤ X) (h2 : X ≤ (a2 : Rat)) (h3 : (b1 : Rat) ≤ Y) (h4 : Y ≤ (b2 : Rat)) (h : 0 < b1 ∨ b2 < 0) :
    ((min4 (fl (a1 * 65536) b1) (fl (a1 * 65536) b2) (fl (a2 * 65536) b1) (fl (a2 * 65536) b2) : Int) : Rat) ≤ X * 65536 / Y ∧ X * 65536 / Y ≤ ((max4 (ce (a1 * 65536) b1) (ce (a1 * 65536) b2) (ce (a2 * 65536) b1) (ce (a2 * 65536) b2) : Int) : Rat) := by
  have hb : b1 ≤ b2 := Rat.intCast_le_intCast.1 (Rat.le_trans h3 h4)
  have hh : 0 < (b1 : Rat) ∨ (b2 : Rat) < 0 := by
    rcases h with h | h
    · exact .inl (Rat.intCast_pos.2 h)
    · exact .inr (by have := Rat.intCast_lt_intCast.2 h; exact this)
  obtain ⟨i1, i2⟩ := rinv_in h3 h4 hh
  have n1 : b1 ≠ 0 := by omega
  have n2 : b2 ≠ 0 := by omega
  have e : X * 65536 / Y = (X * 65536) * Y⁻¹ := Rat.div_def _ _
  have x1 : ((a1 * 65536 : Int) : Rat) ≤ X * 65536 := by rw [Rat.intCast_mul]; have e : ((65536 : Int) : Rat) = 65536 := rfl; rw [e]; grind
  have x2 : X * 65536 ≤ ((a2 * 65536 : Int) : Rat) := by rw [Rat.intCast_mul]; have e : ((65536 : Int) : Rat) = 65536 := rfl; rw [e]; grind
  have l1 := (fl_le (x := a1 * 65536) n1).1
  have l2 := (fl_le (x := a1 * 65536) n2).1
  have l3 := (fl_le (x := a2 * 65536) n1).1
  have l4 := (fl_le (x := a2 * 65536) n2).1
  have u1 := (le_ce (x := a1 * 65536) n1).1
  have u2 := (le_ce (x := a1 * 65536) n2).1
  have u3 := (le_ce (x := a2 * 65536) n1).1
  have u4 := (le_ce (x := a2 * 65536) n2).1
  rw [Rat.div_def] at l1 l2 l3 l4 u1 u2 u3 u4
  rw [e]
  have key1 : ∀ z : Int, min4 (fl (a1 * 65536) b1) (fl (a1 * 65536) b2) (fl (a2 * 65536) b1) (fl (a2 * 65536) b2) ≤ z → (z : Rat) ≤ X * 65536 * Y⁻¹ → ((min4 (fl (a1 * 65536) b1) (fl (a1 * 65536) b2) (fl (a2 * 65536) b1) (fl (a2 * 65536) b2) : Int) : Rat) ≤ X * 65536 * Y⁻¹ := fun z h k => Rat.le_trans (Rat.intCast_le_intCast.2 h) k
  have key2 : ∀ z : Int, z ≤ max4 (ce (a1 * 65536) b1) (ce (a1 * 65536) b2) (ce (a2 * 65536) b1) (ce (a2 * 65536) b2) → X * 65536 * Y⁻¹ ≤ (z : Rat) → X * 65536 * Y⁻¹ ≤ ((max4 (ce (a1 * 65536) b1) (ce (a1 * 65536) b2) (ce (a2 * 65536) b1) (ce (a2 * 65536) b2) : Int) : Rat) := fun z h k => Rat.le_trans k (Rat.intCast_le_intCast.2 h)
  constructor
  · rcases corner_lo x1 x2 i1 i2 with k | k | k | k
    · exact key1 _ (by simp only [min4]; omega) (Rat.le_trans l2 k)
    · exact key1 _ (by simp only [min4]; omega) (Rat.le_trans l1 k)
    · exact key1 _ (by simp only [min4]; omega) (Rat.le_trans l4 k)
    · exact key1 _ (by simp only [min4]; omega) (Rat.le_trans l3 k)
  · rcases corner_hi x1 x2 i1 i2 with k | k | k | k
    · exact key2 _ (by simp only [max4]; omega) (Rat.le_trans k u2)
    · exact key2 _ (by simp only [max4]; omega) (Rat.le_trans k u1)
    · exact key2 _ (by simp only [max4]; omega) (Rat.le_trans k u4)
    · exact key2 _ (by simp only [max4]; omega) (Rat.le_trans k u3)
/-- The interval is bounded and does not contain 0. -/
def defn (b : I) : Prop := b ≠ ent ∧ (0 < b.1 ∨ b.2 < 0)
theorem div_undef {a b : I} (h : ¬ defn b) : div a b = ent := by
  unfold div
  rw [if_pos]
  by_cases hb : b = ent
  · simp [entB_iff.2 hb]
  · have : ¬ (0 < b.1 ∨ b.2 < 0) := fun k => h ⟨hb, k⟩
    have h1 : b.1 ≤ 0 ∧ 0 ≤ b.2 := by omega
    simp [h1.1, h1.2]
theorem in_div {a b : I} {x y : Rat} (ha : InI a x) (hb : defn b → InI b y) : InI (div a b) (x / y) := by
  by_cases hd : defn b
  · have hb := hb hd
    unfold div
    split
    · exact .inl rfl
    · rename_i h
      simp only [Bool.or_eq_true, entB_iff, not_or] at h
      obtain ⟨a1, a2⟩ := ha.resolve_left h.1.1
      obtain ⟨b1, b2⟩ := hb.resolve_left h.1.2
      obtain ⟨p1, p2⟩ := quot_in a1 a2 b1 b2 hd.2
      have e : x * 65536 * 65536 / (y * 65536) = x / y * 65536 := by
        have hy : y ≠ 0 := by
          rintro rfl
          have z1 : ((b.1 : Int) : Rat) ≤ 0 := by grind
          have z2 : 0 ≤ ((b.2 : Int) : Rat) := by grind
          have := Rat.intCast_nonpos.1 z1
          have := Rat.intCast_nonneg.1 z2
          have := hd.2
          omega
        grind
      rw [e] at p1 p2
      exact in_mk p1 p2
  · rw [div_undef hd]; exact .inl rfl
end Go.Pl

/- Rational approximations of square roots. -/
namespace Go.Pl

theorem root_mono_lt {n r : Int} (hn : 0 ≤ n) (hr : 0 ≤ r) (h : r * r ≤ n) : r ≤ root n := by
  obtain ⟨g0, g1, g2⟩ := root_spec hn
  rcases Int.lt_or_le (root n) r with k | k
  · have : (root n + 1) * (root n + 1) ≤ r * r := Int.mul_le_mul (by omega) (by omega) (by omega) hr
    omega
  · exact k
theorem rootU_spec {n : Int} (hn : 0 ≤ n) : 0 ≤ rootU n ∧ n ≤ rootU n * rootU n := by
  obtain ⟨g0, g1, g2⟩ := root_spec hn
  unfold rootU
  split
  · exact ⟨by omega, by omega⟩
  · exact ⟨g0, by omega⟩
/-- The grid on which roots are approximated. -/
def grid (k : Nat) : Int := 65536 * (k + 1)
theorem grid_pos (k : Nat) : 0 < grid k := by unfold grid; omega
theorem grid_posR (k : Nat) : (0 : Rat) < (grid k : Rat) := Rat.intCast_pos.2 (grid_pos k)
/-- The root of x rounded down to the grid; 0 for negative x. -/
def rt (k : Nat) (x : Rat) : Rat := (root ((x * (grid k : Rat) * (grid k : Rat)).floor) : Rat) / (grid k : Rat)
theorem rsq_le {a b : Rat} (ha : 0 ≤ a) (hb : 0 ≤ b) (h : a * a ≤ b * b) : a ≤ b := Rat.not_lt.1 fun k => by
  have h1 := Rat.mul_lt_mul_of_pos_left (c := a) k (by grind)
  have h2 := rmulL hb (Rat.le_of_lt k)
  grind
theorem rt_spec (k : Nat) {x : Rat} (hx : 0 ≤ x) : 0 ≤ rt k x ∧ rt k x * rt k x ≤ x ∧ x < (rt k x + 1 / (grid k : Rat)) * (rt k x + 1 / (grid k : Rat)) := by
  have hN := grid_posR k
  have hfx : 0 ≤ (x * (grid k : Rat) * (grid k : Rat)) := Rat.mul_nonneg (Rat.mul_nonneg hx (Rat.le_of_lt hN)) (Rat.le_of_lt hN)
  have hf : 0 ≤ (x * (grid k : Rat) * (grid k : Rat)).floor := Rat.le_floor_iff.2 hfx
  have f1 := Rat.floor_le (x * (grid k : Rat) * (grid k : Rat))
  have f2 := Rat.lt_floor_add_one (x * (grid k : Rat) * (grid k : Rat))
  obtain ⟨g0, g1, g2⟩ := root_spec hf
  unfold rt
  generalize (x * (grid k : Rat) * (grid k : Rat)).floor = n at *
  generalize root n = r at *
  generalize (grid k : Rat) = N at *
  have r0 : (0 : Rat) ≤ (r : Rat) := Rat.intCast_nonneg.2 g0
  have r1 : (r : Rat) * (r : Rat) ≤ (n : Rat) := by rw [← Rat.intCast_mul]; exact Rat.intCast_le_intCast.2 g1
  have r2 : ((n + 1 : Int) : Rat) ≤ ((r : Rat) + 1) * ((r : Rat) + 1) := by
    have : ((n + 1 : Int) : Rat) ≤ (((r + 1) * (r + 1) : Int) : Rat) := Rat.intCast_le_intCast.2 (by omega)
    rw [Rat.intCast_mul, Rat.intCast_add r 1] at this; exact this
  refine ⟨rdiv_le hN (by grind), ?_, ?_⟩
  · have e : (r : Rat) / N * ((r : Rat) / N) = (r : Rat) * (r : Rat) / (N * N) := by grind
    rw [e]
    exact le_rdiv (Rat.mul_pos hN hN) (by grind)
  · have e : ((r : Rat) / N + 1 / N) * ((r : Rat) / N + 1 / N) = ((r : Rat) + 1) * ((r : Rat) + 1) / (N * N) := by grind
    rw [e]
    exact (Rat.lt_div_iff (Rat.mul_pos hN hN)).2 (by grind)
theorem rt_neg (k : Nat) {x : Rat} (hx : x ≤ 0) : rt k x = 0 := by
  have hN := grid_posR k
  have h1 : (x * (grid k : Rat) * (grid k : Rat)) ≤ 0 := by
    have := Rat.mul_nonneg (a := -x * (grid k : Rat)) (b := (grid k : Rat)) (Rat.mul_nonneg (by grind) (Rat.le_of_lt hN)) (Rat.le_of_lt hN)
    grind
  have h2 : (x * (grid k : Rat) * (grid k : Rat)).floor ≤ 0 := by
    have h3 := Rat.floor_le (x * (grid k : Rat) * (grid k : Rat))
    exact Rat.intCast_nonpos.1 (Rat.le_trans h3 h1)
  have h3 : root ((x * (grid k : Rat) * (grid k : Rat)).floor) = 0 := by
    unfold root
    rw [Int.toNat_of_nonpos h2]; rfl
  unfold rt
  rw [h3]
  grind
/-- What the grid's lower root satisfies, in whole numbers. -/
theorem rt_ge (k : Nat) {x : Rat} (hx : 0 ≤ x) {L : Int} (hL : 0 ≤ L) (h : (L : Rat) * (L : Rat) ≤ x * 65536 * 65536) : (L : Rat) ≤ rt k x * 65536 := by
  have hN := grid_posR k
  have hfx : 0 ≤ (x * (grid k : Rat) * (grid k : Rat)) := Rat.mul_nonneg (Rat.mul_nonneg hx (Rat.le_of_lt hN)) (Rat.le_of_lt hN)
  have hf : 0 ≤ (x * (grid k : Rat) * (grid k : Rat)).floor := Rat.le_floor_iff.2 hfx
  have eg : (grid k : Rat) = 65536 * ((k + 1 : Nat) : Rat) := by
    unfold grid
    rw [Rat.intCast_mul]; rfl
  have hk : (0 : Rat) < ((k + 1 : Nat) : Rat) := Rat.natCast_pos.2 (by omega)
  have h1 : L * (k + 1 : Nat) ≤ root ((x * (grid k : Rat) * (grid k : Rat)).floor) := by
    refine root_mono_lt hf (Int.mul_nonneg hL (by omega)) (Rat.le_floor_iff.2 ?_)
    rw [Rat.intCast_mul, Rat.intCast_mul, Rat.intCast_natCast, eg]
    generalize ((k + 1 : Nat) : Rat) = K at *
    have := rmulL (Rat.le_of_lt (Rat.mul_pos hk hk)) h
    grind
  have h2 := Rat.intCast_le_intCast.2 h1
  rw [Rat.intCast_mul, Rat.intCast_natCast] at h2
  unfold rt
  generalize (root ((x * (grid k : Rat) * (grid k : Rat)).floor) : Rat) = R at *
  rw [eg]
  generalize ((k + 1 : Nat) : Rat) = K at *
  have e : R / (65536 * K) * 65536 = R / K := by grind
  rw [e]
  exact rdiv_le hk h2
theorem rt_le (k : Nat) {x : Rat} (hx : 0 ≤ x) {U : Int} (hU : 0 ≤ U) (h : x * 65536 * 65536 ≤ (U : Rat) * (U : Rat)) : rt k x * 65536 ≤ (U : Rat) := by
  obtain ⟨g0, g1, _⟩ := rt_spec k hx
  refine rsq_le (by grind) (Rat.intCast_nonneg.2 hU) ?_
  grind
theorem in_rt (k : Nat) {a : I} {x : Rat} (ha : InI a x) : InI (unV .sqrt a) (rt k x) := by
  simp only [unV]
  split
  · exact .inl rfl
  · rename_i h0
    unfold sqrt
    have hne : a ≠ ent := by rintro rfl; exact h0 (by decide)
    obtain ⟨a1, a2⟩ := ha.resolve_left hne
    have hx : 0 ≤ x := by
      have : (0 : Rat) ≤ (a.1 : Rat) := Rat.intCast_nonneg.2 (by omega)
      grind
    have h2 : 0 ≤ a.2 := by
      have : (0 : Rat) ≤ (a.2 : Rat) := by grind
      exact Rat.intCast_nonneg.1 this
    rw [if_neg (by rw [entB_iff]; exact hne), if_neg (by omega)]
    have hm : max a.1 0 = a.1 := by omega
    rw [hm]
    have e : ((65536 : Int) : Rat) = 65536 := rfl
    refine in_mk ?_ ?_
    · obtain ⟨g0, g1, _⟩ := root_spec (n := a.1 * 65536) (by omega)
      refine rt_ge k hx g0 ?_
      have := Rat.intCast_le_intCast.2 g1
      rw [Rat.intCast_mul, Rat.intCast_mul, e] at this
      grind
    · obtain ⟨g0, g1⟩ := rootU_spec (n := a.2 * 65536) (by omega)
      refine rt_le k hx g0 ?_
      have := Rat.intCast_le_intCast.2 g1
      rw [Rat.intCast_mul, Rat.intCast_mul, e] at this
      grind
theorem rt_one : rt 0 1 = 1 := by
  have e : (1 * (grid 0 : Rat) * (grid 0 : Rat)) = ((4294967296 : Int) : Rat) := by
    have : (grid 0 : Rat) = 65536 := rfl
    rw [this]; decide +kernel
  have h : root ((1 * (grid 0 : Rat) * (grid 0 : Rat)).floor) = 65536 := by
    rw [e, Rat.floor_intCast]; exact root_unique (by decide) (by decide) (by decide)
  unfold rt
  rw [h]
  have : (grid 0 : Rat) = 65536 := rfl
  rw [this]; decide +kernel
theorem rt_zero (k : Nat) : rt k 0 = 0 := rt_neg k Rat.le_refl
end Go.Pl

/- Simplification: smaller values, a normal form. -/
namespace Go.Pl

/-- a is a subset of b. -/
def Sb (a b : I) : Prop := b.1 ≤ a.1 ∧ a.2 ≤ b.2
theorem Sb.refl (a : I) : Sb a a := ⟨Int.le_refl _, Int.le_refl _⟩
theorem Sb.trans {a b c : I} (h : Sb a b) (k : Sb b c) : Sb a c := ⟨Int.le_trans k.1 h.1, Int.le_trans h.2 k.2⟩
theorem Sb.to {a b : I} (h : Sb a b) : subB a b = true := by simp [subB, h.1, h.2]
theorem Sb.ent {a : I} (h : vB a = true) : Sb a ent := by
  have := vB_bounds h
  exact ⟨this.1, this.2.2⟩
theorem Sb.bounded {a b : I} (h : Sb a b) (hb : vB b = true) (hne : b ≠ Pl.ent) : a ≠ Pl.ent := by
  rintro rfl
  have h1 := entB_false hb (by rw [Bool.eq_false_iff, Ne, entB_iff]; exact hne)
  have h2 := h.1
  simp only [Pl.ent] at h2
  omega
theorem vB_mk {lo hi : Int} (h : lo ≤ hi) : vB (mk lo hi) = true := mk_valid h
theorem mk_mono {lo hi lo' hi' : Int} (h1 : lo' ≤ lo) (h : lo ≤ hi) (h2 : hi ≤ hi') : Sb (mk lo hi) (mk lo' hi') := by
  by_cases hb : (numB lo' && numB hi') = true
  · have e : mk lo' hi' = (lo', hi') := by unfold mk; rw [if_pos hb]
    rw [Bool.and_eq_true, numB_iff, numB_iff] at hb
    have e2 : mk lo hi = (lo, hi) := by unfold mk; rw [if_pos (by rw [Bool.and_eq_true, numB_iff, numB_iff]; omega)]
    rw [e, e2]; exact ⟨h1, h2⟩
  · have e : mk lo' hi' = ent := by unfold mk; rw [if_neg hb]
    rw [e]; exact Sb.ent (vB_mk h)
section
variable {a b a' b' : I}
theorem ent2 (h : ¬ (entB a' || entB b') = true) (ha' : vB a' = true) (hb' : vB b' = true) (ha : Sb a a') (hb : Sb b b') : ¬ (entB a || entB b) = true := by
  obtain ⟨h1, h2⟩ := not_ent2 h
  have := ha.bounded ha' h1
  have := hb.bounded hb' h2
  simp [entB_iff, *]
theorem neg_mono (h : Sb a a') : Sb (neg a) (neg a') := ⟨by simp only [neg]; have := h.2; omega, by simp only [neg]; have := h.1; omega⟩
theorem add_mono (va : vB a = true) (vb : vB b = true) (va' : vB a' = true) (vb' : vB b' = true) (ha : Sb a a') (hb : Sb b b') : Sb (add a b) (add a' b') := by
  by_cases h : (entB a' || entB b') = true
  · have e : add a' b' = ent := by unfold add; rw [if_pos h]
    rw [e]; exact Sb.ent (add_valid va vb)
  · have h' := ent2 h va' vb' ha hb
    have e : add a' b' = mk (a'.1 + b'.1) (a'.2 + b'.2) := by unfold add; rw [if_neg h]
    have e2 : add a b = mk (a.1 + b.1) (a.2 + b.2) := by unfold add; rw [if_neg h']
    have h1 := vB_bounds va
    have h2 := vB_bounds vb
    have h3 := ha.1; have h4 := ha.2; have h5 := hb.1; have h6 := hb.2
    rw [e, e2]; exact mk_mono (by omega) (by omega) (by omega)
theorem sub_mono (va : vB a = true) (vb : vB b = true) (va' : vB a' = true) (vb' : vB b' = true) (ha : Sb a a') (hb : Sb b b') : Sb (sub a b) (sub a' b') := add_mono va (neg_valid vb) va' (neg_valid vb') ha (neg_mono hb)
theorem ic {x y : Int} : (x : Rat) ≤ (y : Rat) ↔ x ≤ y := Rat.intCast_le_intCast
/-- The corners of a product lie between those of a greater one. -/
theorem corner_in (ha : Sb a a') (hb : Sb b b') {x y : Int} (hx : x = a.1 ∨ x = a.2) (hy : y = b.1 ∨ y = b.2) (la : a.1 ≤ a.2) (lb : b.1 ≤ b.2) :
    min4 (a'.1 * b'.1) (a'.1 * b'.2) (a'.2 * b'.1) (a'.2 * b'.2) ≤ x * y ∧ x * y ≤ max4 (a'.1 * b'.1) (a'.1 * b'.2) (a'.2 * b'.1) (a'.2 * b'.2) := by
  have h3 := ha.1; have h4 := ha.2; have h5 := hb.1; have h6 := hb.2
  have := prod_in (a1 := a'.1) (a2 := a'.2) (b1 := b'.1) (b2 := b'.2) (X := (x : Rat)) (Y := (y : Rat)) (ic.2 (by omega)) (ic.2 (by omega)) (ic.2 (by omega)) (ic.2 (by omega))
  rw [← Rat.intCast_mul, ic, ic] at this
  exact this
theorem ce_mono {x y b : Int} (hb : 0 < b) (h : x ≤ y) : ce x b ≤ ce y b := (ce_edges x y b b).1 hb h
theorem fl_mono {x y b : Int} (hb : 0 < b) (h : x ≤ y) : fl x b ≤ fl y b := (fl_edges x y b b).1 hb h
theorem fl_le_ce' {x b : Int} (hb : b ≠ 0) : fl x b ≤ ce x b := by
  have h1 := (fl_le (x := x) hb).1
  have h2 := (le_ce (x := x) hb).1
  exact ic.1 (Rat.le_trans h1 h2)
theorem sqle {x y : Int} (h1 : -y ≤ x) (h2 : x ≤ y) : x * x ≤ y * y := by
  have := Int.mul_nonneg (show 0 ≤ y - x by omega) (show 0 ≤ y + x by omega)
  grind
theorem sqle' {x y : Int} (h1 : y ≤ x) (h2 : x ≤ -y) : x * x ≤ y * y := by
  have := sqle (x := x) (y := -y) (by omega) h2
  rwa [Int.neg_mul_neg] at this
theorem sqnn (x : Int) : 0 ≤ x * x := by
  by_cases h : 0 ≤ x
  · exact Int.mul_nonneg h h
  · have := Int.mul_nonneg (show 0 ≤ -x by omega) (show 0 ≤ -x by omega)
    rwa [Int.neg_mul_neg] at this
theorem mul_mono (va : vB a = true) (vb : vB b = true) (va' : vB a' = true) (vb' : vB b' = true) (ha : Sb a a') (hb : Sb b b') : Sb (mul a b) (mul a' b') := by
  by_cases h : (entB a' || entB b') = true
  · have e : mul a' b' = ent := by unfold mul; rw [if_pos h]
    rw [e]; exact Sb.ent mul_valid
  · have h' := ent2 h va' vb' ha hb
    have h1 := vB_bounds va
    have h2 := vB_bounds vb
    have c1 := corner_in ha hb (x := a.1) (y := b.1) (.inl rfl) (.inl rfl) h1.2.1 h2.2.1
    have c2 := corner_in ha hb (x := a.1) (y := b.2) (.inl rfl) (.inr rfl) h1.2.1 h2.2.1
    have c3 := corner_in ha hb (x := a.2) (y := b.1) (.inr rfl) (.inl rfl) h1.2.1 h2.2.1
    have c4 := corner_in ha hb (x := a.2) (y := b.2) (.inr rfl) (.inr rfl) h1.2.1 h2.2.1
    unfold mul
    rw [if_neg h, if_neg h']
    generalize min4 (a'.1 * b'.1) (a'.1 * b'.2) (a'.2 * b'.1) (a'.2 * b'.2) = m at *
    generalize max4 (a'.1 * b'.1) (a'.1 * b'.2) (a'.2 * b'.1) (a'.2 * b'.2) = M at *
    have d1 : m ≤ min4 (a.1 * b.1) (a.1 * b.2) (a.2 * b.1) (a.2 * b.2) := by simp only [min4]; omega
    have d2 : max4 (a.1 * b.1) (a.1 * b.2) (a.2 * b.1) (a.2 * b.2) ≤ M := by simp only [max4]; omega
    have d3 : min4 (a.1 * b.1) (a.1 * b.2) (a.2 * b.1) (a.2 * b.2) ≤ max4 (a.1 * b.1) (a.1 * b.2) (a.2 * b.1) (a.2 * b.2) := by simp only [min4, max4]; omega
    exact mk_mono (fl_mono (by decide) d1) (Int.le_trans (fl_mono (by decide) d3) (fl_le_ce' (by decide))) (ce_mono (by decide) d2)
theorem sq_mono (va : vB a = true) (va' : vB a' = true) (ha : Sb a a') : Sb (sq a) (sq a') := by
  by_cases h : entB a' = true
  · have e : sq a' = ent := by unfold sq; rw [if_pos h]
    rw [e]; exact Sb.ent (sq_valid va)
  · have h' : ¬ entB a = true := by rw [entB_iff]; exact ha.bounded va' (fun k => h (entB_iff.2 k))
    have h1 := vB_bounds va
    have h3 := ha.1; have h4 := ha.2
    unfold sq
    rw [if_neg h, if_neg h']
    have s1 := sqnn a.1
    have s2 := sqnn a.2
    have m1 : a.1 * a.1 ≤ max (a'.1 * a'.1) (a'.2 * a'.2) := by
      by_cases q : 0 ≤ a.1
      · have := sqle (x := a.1) (y := a'.2) (by omega) (by omega)
        omega
      · have := sqle' (x := a.1) (y := a'.1) (by omega) (by omega)
        omega
    have m2 : a.2 * a.2 ≤ max (a'.1 * a'.1) (a'.2 * a'.2) := by
      by_cases q : 0 ≤ a.2
      · have := sqle (x := a.2) (y := a'.2) (by omega) (by omega)
        omega
      · have := sqle' (x := a.2) (y := a'.1) (by omega) (by omega)
        omega
    have n1 : (if a'.1 ≤ 0 ∧ 0 ≤ a'.2 then 0 else min (a'.1 * a'.1) (a'.2 * a'.2)) ≤ (if a.1 ≤ 0 ∧ 0 ≤ a.2 then 0 else min (a.1 * a.1) (a.2 * a.2)) := by
      by_cases hz : a'.1 ≤ 0 ∧ 0 ≤ a'.2
      · rw [if_pos hz]; split <;> omega
      · rw [if_neg hz, if_neg (by omega)]
        by_cases k : 0 < a'.1
        · have e1 := sqle (x := a'.1) (y := a.1) (by omega) (by omega)
          have e2 := sqle (x := a'.1) (y := a.2) (by omega) (by omega)
          omega
        · have e1 := sqle' (x := a'.2) (y := a.1) (by omega) (by omega)
          have e2 := sqle' (x := a'.2) (y := a.2) (by omega) (by omega)
          omega
    have n2 : (if a.1 ≤ 0 ∧ 0 ≤ a.2 then 0 else min (a.1 * a.1) (a.2 * a.2)) ≤ max (a.1 * a.1) (a.2 * a.2) := by split <;> omega
    generalize (if a'.1 ≤ 0 ∧ 0 ≤ a'.2 then 0 else min (a'.1 * a'.1) (a'.2 * a'.2)) = m at *
    generalize (if a.1 ≤ 0 ∧ 0 ≤ a.2 then 0 else min (a.1 * a.1) (a.2 * a.2)) = m' at *
    exact mk_mono (fl_mono (by decide) n1) (Int.le_trans (fl_mono (by decide) n2) (fl_le_ce' (by decide))) (ce_mono (by decide) (by omega))
theorem defn_mono (vb' : vB b' = true) (hb : Sb b b') (h : defn b') (lb : b.1 ≤ b.2) : defn b := by
  have h3 := hb.1; have h4 := hb.2
  refine ⟨hb.bounded vb' h.1, ?_⟩
  rcases h.2 with h | h <;> omega
theorem qcorner_in (ha : Sb a a') (hb : Sb b b') (hd : defn b') {x y : Int} (hx : x = a.1 ∨ x = a.2) (hy : y = b.1 ∨ y = b.2) (la : a.1 ≤ a.2) (lb : b.1 ≤ b.2) :
    min4 (fl (a'.1 * 65536) b'.1) (fl (a'.1 * 65536) b'.2) (fl (a'.2 * 65536) b'.1) (fl (a'.2 * 65536) b'.2) ≤ fl (x * 65536) y ∧ ce (x * 65536) y ≤ max4 (ce (a'.1 * 65536) b'.1) (ce (a'.1 * 65536) b'.2) (ce (a'.2 * 65536) b'.1) (ce (a'.2 * 65536) b'.2) := by
  have h3 := ha.1; have h4 := ha.2; have h5 := hb.1; have h6 := hb.2
  have hy0 : y ≠ 0 := by rcases hd.2 with h | h <;> omega
  obtain ⟨k1, k2⟩ := quot_in (a1 := a'.1) (a2 := a'.2) (b1 := b'.1) (b2 := b'.2) (X := (x : Rat)) (Y := (y : Rat)) (ic.2 (by omega)) (ic.2 (by omega)) (ic.2 (by omega)) (ic.2 (by omega)) hd.2
  have e : (x : Rat) * 65536 = ((x * 65536 : Int) : Rat) := by rw [Rat.intCast_mul]; rfl
  rw [e] at k1 k2
  have f1 := (fl_le (x := x * 65536) hy0).2
  have f2 := (le_ce (x := x * 65536) hy0).2
  generalize ((x * 65536 : Int) : Rat) / (y : Rat) = q at *
  generalize min4 (fl (a'.1 * 65536) b'.1) (fl (a'.1 * 65536) b'.2) (fl (a'.2 * 65536) b'.1) (fl (a'.2 * 65536) b'.2) = m at *
  generalize max4 (ce (a'.1 * 65536) b'.1) (ce (a'.1 * 65536) b'.2) (ce (a'.2 * 65536) b'.1) (ce (a'.2 * 65536) b'.2) = M at *
  have g1 : (m : Rat) < ((fl (x * 65536) y + 1 : Int) : Rat) := by
    rw [Rat.intCast_add (fl (x * 65536) y) 1]; have e : ((1 : Int) : Rat) = 1 := rfl; rw [e]; grind
  have g2 : ((ce (x * 65536) y - 1 : Int) : Rat) < (M : Rat) := by
    rw [Rat.intCast_sub (ce (x * 65536) y) 1]; have e : ((1 : Int) : Rat) = 1 := rfl; rw [e]; grind
  have g1 := Rat.intCast_lt_intCast.1 g1
  have g2 := Rat.intCast_lt_intCast.1 g2
  omega
theorem div_mono (va : vB a = true) (vb : vB b = true) (va' : vB a' = true) (vb' : vB b' = true) (ha : Sb a a') (hb : Sb b b') : Sb (div a b) (div a' b') := by
  by_cases hd : defn b'
  · by_cases hea : a' = ent
    · have e : div a' b' = ent := by unfold div; rw [if_pos (by simp [entB_iff.2 hea])]
      rw [e]; exact Sb.ent (div_valid vb)
    have h1 := vB_bounds va
    have h2 := vB_bounds vb
    have hd2 := defn_mono vb' hb hd h2.2.1
    have hea2 := ha.bounded va' hea
    have z1 : ¬ (entB a' || entB b' || (decide (b'.1 ≤ 0) && decide (0 ≤ b'.2))) = true := by
      have := hd.1
      simp [entB_iff, *]
      rcases hd.2 with h | h <;> omega
    have z2 : ¬ (entB a || entB b || (decide (b.1 ≤ 0) && decide (0 ≤ b.2))) = true := by
      have := hd2.1
      simp [entB_iff, *]
      rcases hd2.2 with h | h <;> omega
    have c1 := qcorner_in ha hb hd (x := a.1) (y := b.1) (.inl rfl) (.inl rfl) h1.2.1 h2.2.1
    have c2 := qcorner_in ha hb hd (x := a.1) (y := b.2) (.inl rfl) (.inr rfl) h1.2.1 h2.2.1
    have c3 := qcorner_in ha hb hd (x := a.2) (y := b.1) (.inr rfl) (.inl rfl) h1.2.1 h2.2.1
    have c4 := qcorner_in ha hb hd (x := a.2) (y := b.2) (.inr rfl) (.inr rfl) h1.2.1 h2.2.1
    have c5 : fl (a.1 * 65536) b.1 ≤ ce (a.1 * 65536) b.1 := fl_le_ce' (by rcases hd2.2 with h | h <;> omega)
    unfold div
    rw [if_neg z1, if_neg z2]
    generalize min4 (fl (a'.1 * 65536) b'.1) (fl (a'.1 * 65536) b'.2) (fl (a'.2 * 65536) b'.1) (fl (a'.2 * 65536) b'.2) = m at *
    generalize max4 (ce (a'.1 * 65536) b'.1) (ce (a'.1 * 65536) b'.2) (ce (a'.2 * 65536) b'.1) (ce (a'.2 * 65536) b'.2) = M at *
    refine mk_mono ?_ ?_ ?_ <;> simp only [min4, max4] <;> omega
  · rw [div_undef hd]; exact Sb.ent (div_valid vb)
theorem root_mn {m n : Int} (hm : 0 ≤ m) (h : m ≤ n) : root m ≤ root n := by
  obtain ⟨g0, g1, g2⟩ := root_spec hm
  exact root_mono_lt (by omega) g0 (by omega)
theorem rootU_mono {m n : Int} (hm : 0 ≤ m) (h : m ≤ n) : rootU m ≤ rootU n := by
  obtain ⟨g0, g1, g2⟩ := root_spec hm
  obtain ⟨h0, h1⟩ := rootU_spec (n := n) (by omega)
  unfold rootU
  split
  · rename_i hlt
    have h3 : root m < rootU n := by
      rcases Int.lt_or_le (root m) (rootU n) with k | k
      · exact k
      · have := Int.mul_le_mul k k h0 g0
        omega
    unfold rootU at h3
    omega
  · have := root_mn hm h
    unfold rootU at h0
    split <;> omega
theorem sqrt_mono (va : vB a = true) (va' : vB a' = true) (ha : Sb a a') : Sb (unV .sqrt a) (unV .sqrt a') := by
  simp only [unV]
  by_cases h0 : a'.1 < 0
  · rw [if_pos h0]; exact Sb.ent (unV_valid (o := .sqrt) va)
  · have h1 := vB_bounds va
    have h3 := ha.1; have h4 := ha.2
    have hne' : ¬ entB a' = true := by rw [entB_iff]; rintro rfl; exact h0 (by decide)
    have hne : ¬ entB a = true := by rw [entB_iff]; exact ha.bounded va' (fun k => hne' (entB_iff.2 k))
    rw [if_neg h0, if_neg (by omega)]
    unfold sqrt
    rw [if_neg hne', if_neg hne, if_neg (by omega), if_neg (by omega)]
    have e1 : max a.1 0 = a.1 := by omega
    have e2 : max a'.1 0 = a'.1 := by omega
    rw [e1, e2]
    refine mk_mono (root_mn (by omega) (by omega)) ?_ (rootU_mono (by omega) (by omega))
    have := root_mn (m := a.1 * 65536) (n := a.2 * 65536) (by omega) (by omega)
    unfold rootU
    split <;> omega
theorem un_mono {o : U} (va : vB a = true) (va' : vB a' = true) (ha : Sb a a') : Sb (unV o a) (unV o a') := by
  cases o with
  | neg => exact neg_mono ha
  | sqr => exact sq_mono va va' ha
  | sqrt => exact sqrt_mono va va' ha
theorem bin_mono {o : B} (va : vB a = true) (vb : vB b = true) (va' : vB a' = true) (vb' : vB b' = true) (ha : Sb a a') (hb : Sb b b') : Sb (binV o a b) (binV o a' b') := by
  cases o with
  | add => exact add_mono va vb va' vb' ha hb
  | sub => exact sub_mono va vb va' vb' ha hb
  | mul => exact mul_mono va vb va' vb' ha hb
  | div => exact div_mono va vb va' vb' ha hb
end
end Go.Pl

/- Simplification: the value on a box gets no greater; a simplified expression stays as it is. -/
namespace Go.Pl

theorem mk_num {lo hi : Int} (h1 : -2147483648 < lo ∧ lo < 2147483648) (h2 : -2147483648 < hi ∧ hi < 2147483648) : mk lo hi = (lo, hi) := by
  unfold mk; rw [if_pos (by rw [Bool.and_eq_true, numB_iff, numB_iff]; exact ⟨h1, h2⟩)]
theorem mk_self {v : I} (h : vB v = true) (hne : entB v = false) : mk v.1 v.2 = v := by
  have := entB_false h hne
  rw [mk_num ⟨by omega, by omega⟩ ⟨by omega, by omega⟩]
theorem add_zero_l {v : I} (h : vB v = true) : add (0, 0) v = v := by
  unfold add
  cases he : entB v with
  | true => simp [entB_iff.1 he]
  | false => simp only [entB, Bool.or_false]; simp; exact mk_self h he
theorem add_zero_r {v : I} (h : vB v = true) : add v (0, 0) = v := by
  unfold add
  cases he : entB v with
  | true => simp [entB_iff.1 he]
  | false => simp [entB]; exact mk_self h he
theorem sub_zero_r {v : I} (h : vB v = true) : sub v (0, 0) = v := add_zero_r h
theorem sub_zero_l {v : I} (h : vB v = true) : sub (0, 0) v = neg v := add_zero_l (neg_valid h)
theorem neg_neg' (v : I) : neg (neg v) = v := by simp [neg]
theorem number0 : number 0 = .num (0, 0) := by decide
theorem number1 : number 1 = .num (65536, 65536) := by decide
theorem mul_zero_l {v : I} (h : entB v = false) : mul (0, 0) v = (0, 0) := by
  unfold mul
  rw [h]; simp [entB, min4, max4, fl, ce]; rfl
theorem mul_zero_r {v : I} (h : entB v = false) : mul v (0, 0) = (0, 0) := by
  unfold mul
  rw [h]; simp [entB, min4, max4, fl, ce]; rfl
theorem fl_one (x : Int) : fl (x * 65536) 65536 = x := by unfold fl; simp
theorem ce_one (x : Int) : ce (x * 65536) 65536 = x := by
  unfold ce
  rw [← Int.neg_mul, fl_one, Int.neg_neg]
theorem mul_one_l {v : I} (h : vB v = true) : mul (65536, 65536) v = v := by
  unfold mul
  cases he : entB v with
  | true => simp [entB_iff.1 he]
  | false =>
    have hb := entB_false h he
    have e1 : min4 (65536 * v.1) (65536 * v.2) (65536 * v.1) (65536 * v.2) = v.1 * 65536 := by simp only [min4]; omega
    have e2 : max4 (65536 * v.1) (65536 * v.2) (65536 * v.1) (65536 * v.2) = v.2 * 65536 := by simp only [max4]; omega
    simp only [entB, Bool.or_false]
    simp [e1, e2, fl_one, ce_one]
    exact mk_self h he
theorem mul_one_r {v : I} (h : vB v = true) : mul v (65536, 65536) = v := by
  unfold mul
  cases he : entB v with
  | true => simp [entB_iff.1 he]
  | false =>
    have hb := entB_false h he
    have e1 : min4 (v.1 * 65536) (v.1 * 65536) (v.2 * 65536) (v.2 * 65536) = v.1 * 65536 := by simp only [min4]; omega
    have e2 : max4 (v.1 * 65536) (v.1 * 65536) (v.2 * 65536) (v.2 * 65536) = v.2 * 65536 := by simp only [max4]; omega
    simp [entB, e1, e2, fl_one, ce_one]
    exact mk_self h he
theorem div_one {v : I} (h : vB v = true) : div v (65536, 65536) = v := by
  unfold div
  cases he : entB v with
  | true => simp [entB_iff.1 he]
  | false =>
    have hb := entB_false h he
    have e1 : min4 v.1 v.1 v.2 v.2 = v.1 := by simp only [min4]; omega
    have e2 : max4 v.1 v.1 v.2 v.2 = v.2 := by simp only [max4]; omega
    simp [entB, fl_one, ce_one, e1, e2]
    exact mk_self h he
theorem div_zero_l {v : I} : div (0, 0) v = (0, 0) ∨ div (0, 0) v = ent := by
  unfold div
  split
  · exact .inr rfl
  · left
    have f0 : ∀ b : Int, fl (0 * 65536) b = 0 := fun b => by unfold fl; split <;> simp
    have c0 : ∀ b : Int, ce (0 * 65536) b = 0 := fun b => by unfold ce; rw [show -(0 * 65536 : Int) = 0 * 65536 by decide, f0]; rfl
    simp only [f0, c0]
    decide
section
variable {x : List I} {t : I}
theorem ev_isK {e : Ex} {k : Int} (h : isK e k = true) : ev x t e = (k, k) := by rw [isK_num h]; rfl
theorem ev_isPt {e : Ex} {k : Int} (h : isPt e = some k) : e = .num (k, k) := by
  cases e <;> simp [isPt] at h
  rename_i c
  obtain ⟨a, b⟩ := c
  simp only at h
  obtain ⟨h1, h2⟩ := h
  rw [← h2, h1]
theorem ev_smpNeg {a : Ex} (h : wf x.length a = true) : ev x t (smpNeg a) = neg (ev x t a) := by
  unfold smpNeg
  split
  · rename_i c hc
    have e := ev_isPt hc
    subst e
    have hb : -2147483648 < c ∧ c < 2147483648 := by
      have he : entB (c, c) = false := by simp [entB]; omega
      have := entB_false h he
      simp only at this; omega
    simp only [ev, neg, pt]
    rw [mk_num ⟨by omega, by omega⟩ ⟨by omega, by omega⟩]
  · split
    · simp only [ev, unV]; rw [neg_neg']
    · rfl
theorem ev_foldC {o : B} {a b : Ex} : ev x t ((foldC (binV o) a b).getD (.bin o a b)) = binV o (ev x t a) (ev x t b) := by
  unfold foldC
  split
  · split <;> rfl
  · rfl
theorem ev_smpU {o : U} {a : Ex} (h : wf x.length a = true) : ev x t (smpU o a) = unV o (ev x t a) := by
  cases o with
  | neg => exact ev_smpNeg h
  | sqr =>
    simp only [smpU]
    split
    · rename_i hk
      rw [Bool.or_eq_true] at hk
      rcases hk with hk | hk <;> rw [ev_isK hk] <;> decide
    · rfl
  | sqrt =>
    simp only [smpU]
    split
    · rename_i hk
      rw [Bool.or_eq_true] at hk
      have r0 : root 0 = 0 := root_unique (by decide) (by decide) (by decide)
      have r1 : root (65536 * 65536) = 65536 := root_unique (by decide) (by decide) (by decide)
      rcases hk with hk | hk <;> rw [ev_isK hk]
      · simp [unV, sqrt, entB, rootU, r0]; rfl
      · simp only [unV, sqrt, entB, rootU]
        rw [show max (65536 : Int) 0 = 65536 by decide, r1]; decide
    · rfl
theorem ev_smpB {o : B} {a b : Ex} (hx : ∀ p ∈ x, vB p = true) (ht : vB t = true) (h : wf x.length a = true) (k : wf x.length b = true) : Sb (ev x t (smpB o a b)) (binV o (ev x t a) (ev x t b)) := by
  have va := ev_valid hx ht a h
  have vb := ev_valid hx ht b k
  have eq : ∀ {u v : I}, u = v → Sb u v := fun h => h ▸ Sb.refl _
  cases o with
  | add =>
    simp only [smpB, smpAdd, binV]
    split
    · rename_i hk; rw [ev_isK hk, add_zero_l vb]; exact Sb.refl _
    · split
      · rename_i hk; rw [ev_isK hk, add_zero_r va]; exact Sb.refl _
      · exact eq (ev_foldC (o := .add))
  | sub =>
    simp only [smpB, smpSub, binV]
    split
    · rename_i hk; rw [ev_isK hk, sub_zero_r va]; exact Sb.refl _
    · split
      · rename_i hk; rw [ev_isK hk, sub_zero_l vb, ev_smpNeg k]; exact Sb.refl _
      · exact eq (ev_foldC (o := .sub))
  | mul =>
    simp only [smpB, smpMul, binV]
    split
    · rename_i hk
      rw [Bool.or_eq_true] at hk
      rw [number0]
      simp only [ev]
      have z : Sb (0, 0) ent := ⟨by decide, by decide⟩
      rcases hk with hk | hk <;> rw [ev_isK hk]
      · cases he : entB (ev x t b) with
        | true => rw [entB_iff.1 he]; exact z
        | false => rw [mul_zero_l he]; exact Sb.refl _
      · cases he : entB (ev x t a) with
        | true => rw [entB_iff.1 he]; exact z
        | false => rw [mul_zero_r he]; exact Sb.refl _
    · split
      · rename_i hk; rw [ev_isK hk, mul_one_l vb]; exact Sb.refl _
      · split
        · rename_i hk; rw [ev_isK hk, mul_one_r va]; exact Sb.refl _
        · exact eq (ev_foldC (o := .mul))
  | div =>
    simp only [smpB, binV]
    split
    · rename_i hk
      rw [Bool.or_eq_true] at hk
      rcases hk with hk | hk
      · rw [ev_isK hk]
        rcases div_zero_l (v := ev x t b) with e | e <;> rw [e]
        · exact Sb.refl _
        · exact ⟨by decide, by decide⟩
      · rw [ev_isK hk, div_one va]; exact Sb.refl _
    · exact Sb.refl _
/-- Simplification: values get no greater. -/
theorem ev_smp (hx : ∀ p ∈ x, vB p = true) (ht : vB t = true) : ∀ e : Ex, wf x.length e = true → Sb (ev x t (smp e)) (ev x t e)
  | .num _, _ | .var _, _ | .time, _ => Sb.refl _
  | .un o a, h => by
    have h1 := smp_wf a h
    simp only [smp, ev]
    rw [ev_smpU h1]
    exact un_mono (ev_valid hx ht _ h1) (ev_valid hx ht a h) (ev_smp hx ht a h)
  | .bin o a b, h => by
    simp only [wf, Bool.and_eq_true] at h
    have h1 := smp_wf a h.1
    have h2 := smp_wf b h.2
    simp only [smp, ev]
    exact (ev_smpB hx ht h1 h2).trans (bin_mono (ev_valid hx ht _ h1) (ev_valid hx ht _ h2) (ev_valid hx ht a h.1) (ev_valid hx ht b h.2) (ev_smp hx ht a h.1) (ev_smp hx ht b h.2))
end

/-! ### A normal form -/
theorem smp_inner {b : Ex} (h : smp (.un .neg b) = .un .neg b) : smp b = b := by
  simp only [smp, smpU] at h
  generalize hs : smp b = s at h
  have hz := smp_sz b
  rw [hs] at hz
  unfold smpNeg at h
  split at h
  · cases h
  · split at h
    · rename_i c _
      have := congrArg sz h
      rw [sz_un] at hz this
      omega
    · simpa using h
theorem nrmNeg {a : Ex} (h : smp a = a) : smp (smpNeg a) = smpNeg a := by
  unfold smpNeg
  split
  · rfl
  · split
    · exact smp_inner h
    · rename_i heq e h2
      simp only [smp, smpU, h]
      unfold smpNeg
      rw [heq]
      dsimp only
      split
      · rename_i b; exact absurd rfl (h2 b)
      · rfl
theorem nrmFold {o : B} {f : I → I → I} {a b : Ex} (h : smp (.bin o a b) = (foldC f a b).getD (.bin o a b)) : smp ((foldC f a b).getD (.bin o a b)) = (foldC f a b).getD (.bin o a b) := by
  have key : ∀ r, foldC f a b = some r → smp r = r := by
    intro r hr
    unfold foldC at hr
    split at hr
    · split at hr
      · cases hr; rfl
      · cases hr
    · cases hr
  cases hf : foldC f a b with
  | some r => exact key r hf
  | none =>
    rw [hf] at h
    exact h
theorem nrmU {o : U} {a : Ex} (h : smp a = a) : smp (smpU o a) = smpU o a := by
  cases o with
  | neg => exact nrmNeg h
  | sqr =>
    simp only [smpU]
    split
    · exact h
    · rename_i hk; simp only [smp, smpU, h]; rw [if_neg hk]
  | sqrt =>
    simp only [smpU]
    split
    · exact h
    · rename_i hk; simp only [smp, smpU, h]; rw [if_neg hk]
theorem nrmB {o : B} {a b : Ex} (h : smp a = a) (k : smp b = b) : smp (smpB o a b) = smpB o a b := by
  cases o with
  | add =>
    simp only [smpB, smpAdd]
    split
    · exact k
    · split
      · exact h
      · rename_i h1 h2
        refine nrmFold ?_
        simp only [smp, smpB, smpAdd, h, k]; rw [if_neg h1, if_neg h2]
  | sub =>
    simp only [smpB, smpSub]
    split
    · exact h
    · split
      · exact nrmNeg k
      · rename_i h1 h2
        refine nrmFold ?_
        simp only [smp, smpB, smpSub, h, k]; rw [if_neg h1, if_neg h2]
  | mul =>
    simp only [smpB, smpMul]
    split
    · rfl
    · split
      · exact k
      · split
        · exact h
        · rename_i h1 h2 h3
          refine nrmFold ?_
          simp only [smp, smpB, smpMul, h, k]; rw [if_neg h1, if_neg h2, if_neg h3]
  | div =>
    simp only [smpB]
    split
    · exact h
    · rename_i h1
      simp only [smp, smpB, h, k]; rw [if_neg h1]
theorem smp_smp : ∀ e : Ex, smp (smp e) = smp e
  | .num _ | .var _ | .time => rfl
  | .un o a => nrmU (smp_smp a)
  | .bin o a b => nrmB (smp_smp a) (smp_smp b)
end Go.Pl

/- Exact values of expressions in rational numbers (with 1 / 0 = 0, and roots rounded to the grid): enclosed by the intervals, kept by simplification, symmetric second derivatives. -/
namespace Go.Pl

def unR : U → Rat → Rat
  | .neg, v => -v
  | .sqr, v => v * v
  | .sqrt, v => rt 0 v
def binR : B → Rat → Rat → Rat
  | .add, v, w => v + w
  | .sub, v, w => v - w
  | .mul, v, w => v * w
  | .div, v, w => v / w
def val (x : List Rat) (t : Rat) : Ex → Rat
  | .num c => (c.1 : Rat) / 65536
  | .var i => (x[i]?).getD 0
  | .time => t
  | .un o a => unR o (val x t a)
  | .bin o a b => binR o (val x t a) (val x t b)
/-- The values lie in the box. -/
def inBox (b : List I) (x : List Rat) : Prop := ∀ i, i < b.length → InI ((b[i]?).getD (0, 0)) ((x[i]?).getD 0)
theorem inI_num {c : I} (h : vB c = true) : InI c ((c.1 : Rat) / 65536) := by
  have h1 := vB_bounds h
  refine .inr ⟨?_, ?_⟩
  · grind
  · have : (c.1 : Rat) ≤ (c.2 : Rat) := Rat.intCast_le_intCast.2 h1.2.1
    grind
theorem in_un {o : U} {a : I} {x : Rat} (h : InI a x) : InI (unV o a) (unR o x) := by
  cases o with
  | neg => exact in_neg h
  | sqr => exact in_sq h
  | sqrt => exact in_rt 0 h
theorem in_bin {o : B} {a b : I} {x y : Rat} (h : InI a x) (k : InI b y) : InI (binV o a b) (binR o x y) := by
  cases o with
  | add => exact in_add h k
  | sub => exact in_sub h k
  | mul => exact in_mul h k
  | div => exact in_div h (fun _ => k)
theorem in_ev {b : List I} {x : List Rat} {T : I} {t : Rat} (hb : inBox b x) (ht : InI T t) : ∀ e : Ex, wf b.length e = true → InI (ev b T e) (val x t e)
  | .num c, h => inI_num h
  | .var i, h => by
    simp only [wf, decide_eq_true_eq] at h
    exact hb i h
  | .time, _ => ht
  | .un o a, h => in_un (in_ev hb ht a h)
  | .bin o a b', h => by
    simp only [wf, Bool.and_eq_true] at h
    exact in_bin (in_ev hb ht a h.1) (in_ev hb ht b' h.2)

/-! ### Simplification keeps values, and the values of derivatives -/
theorem val_number (x : List Rat) (t : Rat) (n : Int) (h : -32768 < n ∧ n < 32768) : val x t (number n) = n := by
  have : number n = .num (n * 65536, n * 65536) := by
    unfold number pt mk
    rw [if_pos (by simp [numB]; omega)]
  rw [this]
  simp only [val, Rat.intCast_mul]
  have e : ((65536 : Int) : Rat) = 65536 := rfl
  rw [e]; grind
theorem val_isK {x : List Rat} {t : Rat} {e : Ex} {k : Int} (h : isK e k = true) : val x t e = (k : Rat) / 65536 := by rw [isK_num h]; rfl
/-- Two expressions have the same value and the same values of derivatives. -/
def Like (x : List Rat) (t : Rat) (a b : Ex) : Prop := val x t a = val x t b ∧ ∀ v, val x t (dif v a) = val x t (dif v b)
section
variable {x : List Rat} {t : Rat}
theorem Like.refl (a : Ex) : Like x t a a := ⟨rfl, fun _ => rfl⟩
theorem Like.symm {a b : Ex} (h : Like x t a b) : Like x t b a := ⟨h.1.symm, fun v => (h.2 v).symm⟩
theorem Like.trans {a b c : Ex} (h : Like x t a b) (k : Like x t b c) : Like x t a c := ⟨h.1.trans k.1, fun v => (h.2 v).trans (k.2 v)⟩
theorem val2 : val x t (number 2) = 2 := val_number x t 2 (by decide)
theorem val1 : val x t (number 1) = 1 := val_number x t 1 (by decide)
theorem val0 : val x t (number 0) = 0 := val_number x t 0 (by decide)
theorem d_neg (v : Vr) (a : Ex) : dif v (.un .neg a) = .un .neg (dif v a) := rfl
theorem d_sqr (v : Vr) (a : Ex) : dif v (.un .sqr a) = .bin .mul (.bin .mul (number 2) a) (dif v a) := rfl
theorem d_sqrt (v : Vr) (a : Ex) : dif v (.un .sqrt a) = .bin .div (dif v a) (.bin .mul (number 2) (.un .sqrt a)) := rfl
theorem d_add (v : Vr) (a b : Ex) : dif v (.bin .add a b) = .bin .add (dif v a) (dif v b) := rfl
theorem d_sub (v : Vr) (a b : Ex) : dif v (.bin .sub a b) = .bin .sub (dif v a) (dif v b) := rfl
theorem d_mul (v : Vr) (a b : Ex) : dif v (.bin .mul a b) = .bin .add (.bin .mul (dif v a) b) (.bin .mul a (dif v b)) := rfl
theorem d_div (v : Vr) (a b : Ex) : dif v (.bin .div a b) = .bin .div (.bin .sub (.bin .mul (dif v a) b) (.bin .mul a (dif v b))) (.un .sqr b) := rfl
theorem dif_num (v : Vr) (c : I) : dif v (.num c) = number 0 := by
  unfold dif
  cases v <;> rfl
theorem Like.un {a b : Ex} (o : U) (h : Like x t a b) : Like x t (.un o a) (.un o b) := by
  refine ⟨by simp only [val, h.1], fun v => ?_⟩
  have := h.2 v
  cases o <;> simp only [dif, val, this, h.1, unR, binR]
theorem Like.bin {a b c d : Ex} (o : B) (h : Like x t a b) (k : Like x t c d) : Like x t (.bin o a c) (.bin o b d) := by
  refine ⟨by simp only [val, h.1, k.1], fun v => ?_⟩
  have h2 := h.2 v
  have k2 := k.2 v
  cases o <;> simp only [dif, val, h2, k2, h.1, k.1, binR, unR]
theorem like_num {c : I} {e : Ex} (h : val x t e = (c.1 : Rat) / 65536) (k : ∀ v, val x t (dif v e) = 0) : Like x t (.num c) e :=
  ⟨h.symm, fun v => by rw [dif_num, k v, val0]⟩
theorem like_k {k : Int} {e : Ex} (h : val x t e = (k : Rat) / 65536) (d : ∀ v, val x t (dif v e) = 0) : Like x t (.num (k, k)) e := like_num h d
theorem isPt_wf {n : Nat} {c : Int} (h : wf n (.num (c, c)) = true) : -2147483648 < c ∧ c < 2147483648 := by
  have he : entB (c, c) = false := by simp [entB]; omega
  have := entB_false h he
  simp only at this; omega
theorem like_neg {n : Nat} {a : Ex} (hw : wf n a = true) : Like x t (smpNeg a) (.un .neg a) := by
  unfold smpNeg
  split
  · rename_i c h
    have e := ev_isPt h
    subst e
    have hb := isPt_wf hw
    have e : pt (-c) = (-c, -c) := mk_num ⟨by omega, by omega⟩ ⟨by omega, by omega⟩
    rw [e]
    refine like_num ?_ fun v => ?_
    · simp only [val, unR, Rat.intCast_neg]; grind
    · simp only [d_neg, dif_num, val, unR, val0]; grind
  · split
    · refine ⟨?_, fun v => ?_⟩
      · simp only [val, unR]; grind
      · simp only [d_neg, d_sqr, d_sqrt, d_add, d_sub, d_mul, d_div, val, unR]; grind
    · exact Like.refl _
theorem kZero {e : Ex} (h : isK e 0 = true) : val x t e = 0 ∧ ∀ v, val x t (dif v e) = 0 := by
  rw [isK_num h]
  exact ⟨by simp only [val]; decide +kernel, fun v => by rw [dif_num, val0]⟩
theorem kOne {e : Ex} (h : isK e 65536 = true) : val x t e = 1 ∧ ∀ v, val x t (dif v e) = 0 := by
  rw [isK_num h]
  exact ⟨by simp only [val]; decide +kernel, fun v => by rw [dif_num, val0]⟩
/-- Folding two point constants whose result is one. -/
theorem like_fold {o : B} {f : I → I → I} {a b : Ex} (hf : ∀ c d : Int, ((f (c, c) (d, d)).1 = (f (c, c) (d, d)).2) → ((f (c, c) (d, d)).1 : Rat) / 65536 = binR o ((c : Rat) / 65536) ((d : Rat) / 65536)) (ho : o ≠ .div) : Like x t ((foldC f a b).getD (.bin o a b)) (.bin o a b) := by
  unfold foldC
  split
  · rename_i c d
    split
    · rename_i h
      obtain ⟨c1, c2⟩ := c
      obtain ⟨d1, d2⟩ := d
      simp only at h
      obtain ⟨rfl, rfl, h3⟩ := h
      refine ⟨?_, fun v => ?_⟩
      · simp only [Option.getD_some, val]; exact hf c1 d1 h3
      · rw [Option.getD_some, dif_num, val0]
        cases o with
        | div => exact absurd rfl ho
        | add => simp only [d_add, d_sub, dif_num, val, binR, val0]; grind
        | sub => simp only [d_add, d_sub, dif_num, val, binR, val0]; grind
        | mul => simp only [d_mul, dif_num, val, binR, val0]; grind
    · exact Like.refl _
  · exact Like.refl _
theorem ent12 : ¬ (ent.1 = ent.2) := by decide
theorem mk_pt {lo hi : Int} (h : (mk lo hi).1 = (mk lo hi).2) : mk lo hi = (lo, hi) := by
  unfold mk at h ⊢
  split
  · rfl
  · rename_i hn; rw [if_neg hn] at h; exact absurd h ent12
theorem fold_add (c d : Int) (h : (add (c, c) (d, d)).1 = (add (c, c) (d, d)).2) : ((add (c, c) (d, d)).1 : Rat) / 65536 = (c : Rat) / 65536 + (d : Rat) / 65536 := by
  unfold add at h ⊢
  split
  · rename_i he; rw [if_pos he] at h; exact absurd h ent12
  · rename_i he
    rw [if_neg he] at h
    rw [mk_pt h]
    simp only [Rat.intCast_add]; grind
theorem fold_sub (c d : Int) (h : (sub (c, c) (d, d)).1 = (sub (c, c) (d, d)).2) : ((sub (c, c) (d, d)).1 : Rat) / 65536 = (c : Rat) / 65536 - (d : Rat) / 65536 := by
  have := fold_add c (-d) h
  rw [Rat.intCast_neg] at this
  have e : sub (c, c) (d, d) = add (c, c) (-d, -d) := rfl
  rw [e, this]; grind
theorem fold_mul (c d : Int) (h : (mul (c, c) (d, d)).1 = (mul (c, c) (d, d)).2) : ((mul (c, c) (d, d)).1 : Rat) / 65536 = (c : Rat) / 65536 * ((d : Rat) / 65536) := by
  unfold mul at h ⊢
  split
  · rename_i he; rw [if_pos he] at h; exact absurd h ent12
  · rename_i he
    rw [if_neg he] at h
    have e1 : min4 (c * d) (c * d) (c * d) (c * d) = c * d := by simp only [min4]; omega
    have e2 : max4 (c * d) (c * d) (c * d) (c * d) = c * d := by simp only [max4]; omega
    simp only [e1, e2] at h ⊢
    have h2 := mk_pt h
    rw [h2] at h ⊢
    simp only at h ⊢
    have f1 := (fl_le (x := c * d) (b := 65536) (by decide)).1
    have f2 := (le_ce (x := c * d) (b := 65536) (by decide)).1
    rw [← h] at f2
    have e : ((65536 : Int) : Rat) = 65536 := rfl
    have e3 : ((fl (c * d) 65536 : Int) : Rat) = ((c * d : Int) : Rat) / ((65536 : Int) : Rat) := Rat.le_antisymm f1 f2
    rw [e3, Rat.intCast_mul, e]; grind
theorem rt1 (k : Rat) (h : k = 1) : rt 0 k = 1 := by rw [h]; exact rt_one
theorem rt0 (k : Rat) (h : k = 0) : rt 0 k = 0 := by rw [h]; exact rt_zero 0
theorem like_U {n : Nat} {o : U} {a : Ex} (hw : wf n a = true) : Like x t (smpU o a) (.un o a) := by
  cases o with
  | neg => exact like_neg hw
  | sqr =>
    simp only [smpU]
    split
    · rename_i hk
      rw [Bool.or_eq_true] at hk
      rcases hk with hk | hk
      · obtain ⟨h1, h2⟩ := kZero (x := x) (t := t) hk
        refine ⟨by simp only [val, unR, h1]; grind, fun v => ?_⟩
        simp only [d_neg, d_sqr, d_sqrt, d_add, d_sub, d_mul, d_div, val, binR, h1, h2, val2]; grind
      · obtain ⟨h1, h2⟩ := kOne (x := x) (t := t) hk
        refine ⟨by simp only [val, unR, h1]; grind, fun v => ?_⟩
        simp only [d_neg, d_sqr, d_sqrt, d_add, d_sub, d_mul, d_div, val, binR, h1, h2, val2]; grind
    · exact Like.refl _
  | sqrt =>
    simp only [smpU]
    split
    · rename_i hk
      rw [Bool.or_eq_true] at hk
      rcases hk with hk | hk
      · obtain ⟨h1, h2⟩ := kZero (x := x) (t := t) hk
        refine ⟨by simp only [val, unR]; rw [rt0 _ h1, h1], fun v => ?_⟩
        simp only [d_neg, d_sqr, d_sqrt, d_add, d_sub, d_mul, d_div, val, binR, h2]; grind
      · obtain ⟨h1, h2⟩ := kOne (x := x) (t := t) hk
        refine ⟨by simp only [val, unR]; rw [rt1 _ h1, h1], fun v => ?_⟩
        simp only [d_neg, d_sqr, d_sqrt, d_add, d_sub, d_mul, d_div, val, binR, h2]; grind
    · exact Like.refl _
theorem like_B {n : Nat} {o : B} {a b : Ex} (hb : wf n b = true) : Like x t (smpB o a b) (.bin o a b) := by
  cases o with
  | add =>
    simp only [smpB, smpAdd]
    split
    · rename_i hk
      obtain ⟨h1, h2⟩ := kZero (x := x) (t := t) hk
      refine ⟨by simp only [val, binR, h1]; grind, fun v => ?_⟩
      simp only [d_neg, d_sqr, d_sqrt, d_add, d_sub, d_mul, d_div, val, binR, h2]; grind
    · split
      · rename_i hk
        obtain ⟨h1, h2⟩ := kZero (x := x) (t := t) hk
        refine ⟨by simp only [val, binR, h1]; grind, fun v => ?_⟩
        simp only [d_neg, d_sqr, d_sqrt, d_add, d_sub, d_mul, d_div, val, binR, h2]; grind
      · exact like_fold (o := .add) fold_add (by simp)
  | sub =>
    simp only [smpB, smpSub]
    split
    · rename_i hk
      obtain ⟨h1, h2⟩ := kZero (x := x) (t := t) hk
      refine ⟨by simp only [val, binR, h1]; grind, fun v => ?_⟩
      simp only [d_neg, d_sqr, d_sqrt, d_add, d_sub, d_mul, d_div, val, binR, h2]; grind
    · split
      · rename_i hk
        obtain ⟨h1, h2⟩ := kZero (x := x) (t := t) hk
        refine (like_neg hb).trans ⟨by simp only [val, binR, unR, h1]; grind, fun v => ?_⟩
        simp only [d_neg, d_sqr, d_sqrt, d_add, d_sub, d_mul, d_div, val, binR, unR, h2]; grind
      · exact like_fold (o := .sub) fold_sub (by simp)
  | mul =>
    simp only [smpB, smpMul]
    split
    · rename_i hk
      rw [Bool.or_eq_true] at hk
      rw [number0]
      rcases hk with hk | hk
      · obtain ⟨h1, h2⟩ := kZero (x := x) (t := t) hk
        refine like_num (by simp only [val, binR, h1]; grind) fun v => ?_
        simp only [d_neg, d_sqr, d_sqrt, d_add, d_sub, d_mul, d_div, val, binR, h1, h2]; grind
      · obtain ⟨h1, h2⟩ := kZero (x := x) (t := t) hk
        refine like_num (by simp only [val, binR, h1]; grind) fun v => ?_
        simp only [d_neg, d_sqr, d_sqrt, d_add, d_sub, d_mul, d_div, val, binR, h1, h2]; grind
    · split
      · rename_i hk
        obtain ⟨h1, h2⟩ := kOne (x := x) (t := t) hk
        refine ⟨by simp only [val, binR, h1]; grind, fun v => ?_⟩
        simp only [d_neg, d_sqr, d_sqrt, d_add, d_sub, d_mul, d_div, val, binR, h1, h2]; grind
      · split
        · rename_i hk
          obtain ⟨h1, h2⟩ := kOne (x := x) (t := t) hk
          refine ⟨by simp only [val, binR, h1]; grind, fun v => ?_⟩
          simp only [d_neg, d_sqr, d_sqrt, d_add, d_sub, d_mul, d_div, val, binR, h1, h2]; grind
        · exact like_fold (o := .mul) fold_mul (by simp)
  | div =>
    simp only [smpB]
    split
    · rename_i hk
      rw [Bool.or_eq_true] at hk
      rcases hk with hk | hk
      · obtain ⟨h1, h2⟩ := kZero (x := x) (t := t) hk
        refine ⟨by simp only [val, binR, h1]; grind, fun v => ?_⟩
        simp only [d_neg, d_sqr, d_sqrt, d_add, d_sub, d_mul, d_div, val, binR, unR, h1, h2]; grind
      · obtain ⟨h1, h2⟩ := kOne (x := x) (t := t) hk
        refine ⟨by simp only [val, binR, h1]; grind, fun v => ?_⟩
        simp only [d_neg, d_sqr, d_sqrt, d_add, d_sub, d_mul, d_div, val, binR, unR, h1, h2]; grind
    · exact Like.refl _
theorem like_smp {n : Nat} : ∀ e : Ex, wf n e = true → Like x t (smp e) e
  | .num _, _ | .var _, _ | .time, _ => Like.refl _
  | .un o a, h => (like_U (smp_wf a h)).trans ((like_smp a h).un o)
  | .bin o a b, h => by
    simp only [wf, Bool.and_eq_true] at h
    exact (like_B (smp_wf b h.2)).trans ((like_smp a h.1).bin o (like_smp b h.2))
theorem val_smp {n : Nat} {e : Ex} (h : wf n e = true) : val x t (smp e) = val x t e := (like_smp e h).1
theorem val_der {n : Nat} {e : Ex} {v : Vr} (h : wf n e = true) : val x t (der v e) = val x t (dif v e) := val_smp (dif_wf v e h)
theorem val_der2 {n : Nat} {e : Ex} {v w : Vr} (h : wf n e = true) : val x t (der w (der v e)) = val x t (dif w (dif v e)) := by
  rw [val_der (der_wf h)]
  exact (like_smp (dif v e) (dif_wf v e h)).2 w

/-! ### Second derivatives are symmetric -/
theorem leaf_dd (v w : Vr) (e : Ex) (h : dif v e = number 1 ∨ dif v e = number 0) : val x t (dif w (dif v e)) = 0 := by
  rcases h with h | h <;> rw [h] <;> exact (by unfold number; rw [dif_num, val0])
theorem dif_leaf (v : Vr) (e : Ex) (h : kids e = []) : dif v e = number 1 ∨ dif v e = number 0 := by
  cases e with
  | num c => right; exact dif_num v c
  | var i => simp only [dif]; split <;> simp
  | time => simp only [dif]; split <;> simp
  | un o a => simp [kids] at h
  | bin o a b => simp [kids] at h
theorem mixed_alg_mul (a b av aw bv bw avw bvw : Rat) : avw * b + av * bw + (aw * bv + a * bvw) = avw * b + aw * bv + (av * bw + a * bvw) := by grind
theorem val_mixed (v w : Vr) : ∀ e : Ex, val x t (dif w (dif v e)) = val x t (dif v (dif w e))
  | .num c => by rw [leaf_dd v w _ (dif_leaf v _ rfl), leaf_dd w v _ (dif_leaf w _ rfl)]
  | .var i => by rw [leaf_dd v w _ (dif_leaf v _ rfl), leaf_dd w v _ (dif_leaf w _ rfl)]
  | .time => by rw [leaf_dd v w _ (dif_leaf v _ rfl), leaf_dd w v _ (dif_leaf w _ rfl)]
  | .un o a => by
    have ih := val_mixed v w a
    cases o with
    | neg => simp only [d_neg, d_sqr, d_sqrt, d_add, d_sub, d_mul, d_div, val, unR, ih]
    | sqr =>
      simp only [d_neg, d_sqr, d_sqrt, d_add, d_sub, d_mul, d_div, val, binR, ih]
      unfold number
      simp only [dif_num, val0]
      generalize val x t (.num (pt (2 * 65536))) = two
      grind
    | sqrt =>
      have h2 : ∀ u, val x t (dif u (number 2)) = 0 := fun u => by unfold number; rw [dif_num, val0]
      simp only [d_neg, d_sqr, d_sqrt, d_add, d_sub, d_mul, d_div, val, binR, unR, ih, h2]
      generalize val x t (number 2) = two
      generalize rt 0 (val x t a) = s
      generalize val x t (dif v (dif w a)) = d
      generalize val x t (dif v a) = p
      generalize val x t (dif w a) = q
      grind
  | .bin o a b => by
    have iha := val_mixed v w a
    have ihb := val_mixed v w b
    cases o with
    | add => simp only [d_neg, d_sqr, d_sqrt, d_add, d_sub, d_mul, d_div, val, binR, iha, ihb]
    | sub => simp only [d_neg, d_sqr, d_sqrt, d_add, d_sub, d_mul, d_div, val, binR, iha, ihb]
    | mul => simp only [d_neg, d_sqr, d_sqrt, d_add, d_sub, d_mul, d_div, val, binR, iha, ihb]; grind
    | div =>
      simp only [d_neg, d_sqr, d_sqrt, d_add, d_sub, d_mul, d_div, val, binR, unR, iha, ihb, val2]
      generalize val x t (dif v (dif w a)) = d
      generalize val x t (dif v (dif w b)) = e
      generalize val x t (dif v a) = p
      generalize val x t (dif w a) = q
      generalize val x t (dif v b) = r
      generalize val x t (dif w b) = s
      generalize val x t a = A
      generalize val x t b = B
      grind
end
end Go.Pl

/- The lengths of derivatives, by the depth of the expression. -/
namespace Go.Pl

def dp : Ex → Nat
  | .num _ | .var _ | .time => 1
  | .un _ a => dp a + 1
  | .bin _ a b => max (dp a) (dp b) + 1
def f0 : Nat → Nat
  | 0 => 0
  | k + 1 => 1 + 2 * f0 k
def f1 : Nat → Nat
  | 0 => 0
  | k + 1 => 5 + 2 * f1 k + 3 * f0 k
def f2 : Nat → Nat
  | 0 => 0
  | k + 1 => 21 + 2 * f2 k + 7 * f0 k + 7 * f1 k
theorem bld_dp (n : Nat) : ∀ (d : Nat) (l : List Nd), dp (bld n d l).1 ≤ d + 1
  | 0, [] => by simp [bld, number, dp]
  | d + 1, [] => by simp [bld, number, dp]
  | 0, x :: r => by
    simp only [bld]
    split
    · simp [dp]
    · split
      · simp [dp]
      · simp [bNum, dp]
  | d + 1, x :: r => by
    have h1 := bld_dp n d r
    have h2 := bld_dp n d (bld n d r).2
    simp only [bld]
    split
    · simp [bNum, dp]
    · split
      · simp [dp]
      · split
        · simp [dp]
        · split
          · simp only [dp]; omega
          · simp only [dp]; omega
theorem mde_dp (n : Nat) (raw : List Nd) (most : Nat) : dp (mde n raw most) ≤ 5 := bld_dp n 4 _
theorem sz_number (n : Int) : sz (number n) = 1 := rfl
theorem sz_neg (v : Vr) (a : Ex) : sz (dif v (.un .neg a)) = sz (dif v a) + 1 := by simp only [dif, sz_un]
theorem sz_sqr (v : Vr) (a : Ex) : sz (dif v (.un .sqr a)) = 3 + sz a + sz (dif v a) := by simp only [dif, sz_bin, sz_number]; omega
theorem sz_sqrt (v : Vr) (a : Ex) : sz (dif v (.un .sqrt a)) = 4 + sz a + sz (dif v a) := by simp only [dif, sz_bin, sz_un, sz_number]; omega
theorem sz_add (v : Vr) (a b : Ex) : sz (dif v (.bin .add a b)) = 1 + sz (dif v a) + sz (dif v b) := by simp only [dif, sz_bin]; omega
theorem sz_sub (v : Vr) (a b : Ex) : sz (dif v (.bin .sub a b)) = 1 + sz (dif v a) + sz (dif v b) := by simp only [dif, sz_bin]; omega
theorem sz_mul (v : Vr) (a b : Ex) : sz (dif v (.bin .mul a b)) = 3 + sz (dif v a) + sz (dif v b) + sz a + sz b := by simp only [dif, sz_bin]; omega
theorem sz_div (v : Vr) (a b : Ex) : sz (dif v (.bin .div a b)) = 5 + sz (dif v a) + sz (dif v b) + sz a + 2 * sz b := by simp only [dif, sz_bin, sz_un]; omega
theorem sz_leaf (v : Vr) {e : Ex} (h : kids e = []) : sz (dif v e) = 1 := by
  cases e with
  | num c => simp only [dif]; split <;> rfl
  | var i => simp only [dif]; split <;> rfl
  | time => simp only [dif]; split <;> rfl
  | un o a => simp [kids] at h
  | bin o a b => simp [kids] at h
theorem sz_knum (v : Vr) (n : Int) : sz (dif v (number n)) = 1 := sz_leaf v rfl
theorem sz_dp : ∀ (k : Nat) (e : Ex), dp e ≤ k → sz e ≤ f0 k ∧ ∀ v, sz (dif v e) ≤ f1 k ∧ ∀ w, sz (dif w (dif v e)) ≤ f2 k
  | 0, e, h => by cases e <;> simp [dp] at h
  | k + 1, .num c, h => ⟨by simp only [sz_num, f0]; omega, fun v => ⟨by rw [sz_leaf v rfl]; simp only [f1]; omega, fun w => by
      have : dif v (.num c) = number 0 := by simp only [dif]; cases v <;> rfl
      rw [this, sz_knum]; simp only [f2]; omega⟩⟩
  | k + 1, .var i, h => ⟨by simp only [sz_var, f0]; omega, fun v => ⟨by rw [sz_leaf v rfl]; simp only [f1]; omega, fun w => by
      have : dif v (.var i) = number 1 ∨ dif v (.var i) = number 0 := by simp only [dif]; split <;> simp
      rcases this with h | h <;> rw [h, sz_knum] <;> simp only [f2] <;> omega⟩⟩
  | k + 1, .time, h => ⟨by simp only [sz_time, f0]; omega, fun v => ⟨by rw [sz_leaf v rfl]; simp only [f1]; omega, fun w => by
      have : dif v .time = number 1 ∨ dif v .time = number 0 := by simp only [dif]; split <;> simp
      rcases this with h | h <;> rw [h, sz_knum] <;> simp only [f2] <;> omega⟩⟩
  | k + 1, .un o a, h => by
    simp only [dp] at h
    obtain ⟨h0, h1⟩ := sz_dp k a (by omega)
    have h0' := sz_pos a
    refine ⟨by simp only [sz_un, f0]; omega, fun v => ?_⟩
    obtain ⟨hv, hvw⟩ := h1 v
    refine ⟨?_, fun w => ?_⟩
    · cases o <;> simp only [sz_neg, sz_sqr, sz_sqrt, f1] <;> omega
    · have := hvw w
      have hw := (h1 w).1
      cases o <;> simp only [d_neg, d_sqr, d_sqrt, sz_neg, sz_sqr, sz_sqrt, sz_add, sz_sub, sz_mul, sz_div, sz_knum, sz_number, sz_un, sz_bin, f2] <;> omega
  | k + 1, .bin o a b, h => by
    simp only [dp] at h
    obtain ⟨a0, a1⟩ := sz_dp k a (by omega)
    obtain ⟨b0, b1⟩ := sz_dp k b (by omega)
    refine ⟨by simp only [sz_bin, f0]; omega, fun v => ?_⟩
    obtain ⟨av, avw⟩ := a1 v
    obtain ⟨bv, bvw⟩ := b1 v
    refine ⟨?_, fun w => ?_⟩
    · cases o <;> simp only [sz_add, sz_sub, sz_mul, sz_div, f1] <;> omega
    · have := avw w
      have := bvw w
      have := (a1 w).1
      have := (b1 w).1
      cases o <;> simp only [d_add, d_sub, d_mul, d_div, sz_neg, sz_sqr, sz_sqrt, sz_add, sz_sub, sz_mul, sz_div, sz_knum, sz_number, sz_un, sz_bin, f2] <;> omega
/-- Simplification shortens derivatives too. -/
theorem number_dif (v : Vr) (c : I) : sz (dif v (.num c)) = 1 := sz_leaf v rfl
theorem sz_dif_pos (v : Vr) (e : Ex) : 1 ≤ sz (dif v e) := sz_pos _
theorem dneg_sz (v : Vr) (a : Ex) : sz (dif v (smpNeg a)) ≤ sz (dif v a) + 1 := by
  unfold smpNeg
  split
  · rw [number_dif]; omega
  · split
    · rw [sz_neg]; omega
    · rw [sz_neg]; omega
theorem dfold_sz (v : Vr) (o : B) (f : I → I → I) (a b : Ex) : sz (dif v ((foldC f a b).getD (.bin o a b))) ≤ sz (dif v (.bin o a b)) := by
  unfold foldC
  split
  · split
    · rw [Option.getD_some, number_dif]; exact sz_pos _
    · exact Nat.le_refl _
  · exact Nat.le_refl _
theorem dif_smp (v : Vr) : ∀ e : Ex, sz (dif v (smp e)) ≤ sz (dif v e)
  | .num _ | .var _ | .time => Nat.le_refl _
  | .un o a => by
    have h := dif_smp v a
    have h2 := smp_sz a
    simp only [smp]
    cases o with
    | neg => have := dneg_sz v (smp a); rw [sz_neg]; simp only [smpU]; omega
    | sqr =>
      simp only [smpU]; rw [sz_sqr]; split
      · omega
      · rw [sz_sqr]; omega
    | sqrt =>
      simp only [smpU]; rw [sz_sqrt]; split
      · omega
      · rw [sz_sqrt]; omega
  | .bin o a b => by
    have h := dif_smp v a
    have h2 := smp_sz a
    have k := dif_smp v b
    have k2 := smp_sz b
    have hf := fun f => dfold_sz v o f (smp a) (smp b)
    have hp := sz_pos (dif v a)
    simp only [smp]
    cases o with
    | add =>
      simp only [sz_add] at hf
      simp only [smpB, smpAdd]; rw [sz_add]; split
      · omega
      · split
        · omega
        · have := hf add; omega
    | sub =>
      simp only [sz_sub] at hf
      simp only [smpB, smpSub]; rw [sz_sub]; split
      · omega
      · split
        · have := dneg_sz v (smp b); omega
        · have := hf sub; omega
    | mul =>
      simp only [sz_mul] at hf
      simp only [smpB, smpMul]; rw [sz_mul]; split
      · rw [sz_knum]; omega
      · split
        · omega
        · split
          · omega
          · have := hf mul; omega
    | div =>
      simp only [smpB]; rw [sz_div]; split
      · omega
      · rw [sz_div]; omega
theorem der_sz {k : Nat} {e : Ex} (h : dp e ≤ k) (v : Vr) : sz (der v e) ≤ f1 k := Nat.le_trans (smp_sz _) ((sz_dp k e h).2 v).1
theorem der2_sz {k : Nat} {e : Ex} (h : dp e ≤ k) (v w : Vr) : sz (dif w (der v e)) ≤ f2 k := Nat.le_trans (dif_smp w _) (((sz_dp k e h).2 v).2 w)
theorem f1_5 : f1 5 = 302 := by decide
theorem f1_6 : f1 6 = 702 := by decide
theorem f2_5 : f2 5 = 3360 := by decide
end Go.Pl

namespace Go.Proofs.YtohmodcheahpgaaGreatDoor.Arm
open Go.Arm Go.Pl

theorem dimN (n : Int) (hn : 0 ≤ n ∧ n ≤ 255) : ∃ N : Nat, 1 + n.tmod 3 = (N : Int) ∧ 0 < N ∧ N ≤ 3 := by
  have h1 : 0 ≤ n.tmod 3 ∧ n.tmod 3 < 3 := ⟨Int.tmod_nonneg _ hn.1, Int.tmod_lt_of_pos _ (by decide)⟩
  exact ⟨(1 + n.tmod 3).toNat, by omega, by omega, by omega⟩
theorem modN (i : Int) (hi : 0 ≤ i ∧ i ≤ 255) {N : Nat} (hN : 0 < N) : ∃ K : Nat, i.tmod N = (K : Int) ∧ K < N := by
  have h1 : 0 ≤ i.tmod N ∧ i.tmod N < N := ⟨Int.tmod_nonneg _ hi.1, Int.tmod_lt_of_pos _ (by omega)⟩
  exact ⟨(i.tmod N).toNat, by omega, by omega⟩
theorem lDim (F : List (List Nd)) (l : List Nd) (b : List I) (t : I) (n : Int) (hn : 0 ≤ n ∧ n ≤ 255) {N : Nat} (h : 1 + n.tmod 3 = (N : Int)) (H : AH) : Sound E 5 [inp F l b t n] H (.ret (.int .i64 N)) H := by
  have := lDimension F l b t n hn H
  rwa [h] at this
theorem mds_dp {l : List (List Nd)} {most N i : Nat} : ∀ e ∈ mds l most N i, dp e ≤ 5 := fun e he => by
  obtain ⟨k, _, rfl⟩ := List.mem_map.1 he
  exact mde_dp _ _ _
theorem mds_ok {l : List (List Nd)} {most N i : Nat} (hN : 0 < N) : ∀ e ∈ mds l most N i, sz e ≤ 1000000 ∧ wf N e = true := fun e he => by
  obtain ⟨k, _, rfl⟩ := List.mem_map.1 he
  exact ⟨by have := mde_sz N ((l[k]?).getD []) most; omega, mde_wf hN _ _⟩
set_option maxRecDepth 8000 in
theorem lMR (F : List (List Nd)) (l : List Nd) (b : List I) (t : I) (n i : Int) (hn : 0 ≤ n ∧ n ≤ 255) (hi : 0 ≤ i ∧ i ≤ 255) (hF : ∀ r ∈ F, r.length ≤ 200000000000000) (hF2 : F.length ≤ 200000000000000) (hl : l.length ≤ 200000000000000) (hb : b.length ≤ 200000000000000) (H : AH) :
    Sound E 3 [inp F l b t n, .int .u8 i] H (.ret (.bool true)) H := by
  refine sound_of_awp tabOk mixed Tryz.func3 rfl (by rfl) Tryz.ntmps3 (by kernel_rfl) (by simp) ?_
  obtain ⟨N, hN, hN0, hN3⟩ := dimN n hn
  obtain ⟨K, hK, hKN⟩ := modN i hi hN0
  have wi : IntKind.i64.wrap i = i := wrap64 (by omega) (by omega)
  simp [inp]
  refine call_ret (sanityOk _) ?_
  simp
  refine call_ret (lDim F l b t n hn hN _) ?_
  simp
  refine callD_ret0 (fun Hx => r7MadeSystem F 10 N ⟨hN0, by omega⟩ (by decide) hF hF2 Hx) ?_
  simp
  refine callD_ret0 (fun Hx => r7Made l 20 N ⟨hN0, by omega⟩ hl (by decide) Hx) ?_
  simp
  refine callD_ret0 (fun Hx => r3Made b N (by omega) hb Hx) ?_
  simp
  refine callD_ret0 (fun Hx => rMade t Hx) ?_
  have hw := mde_wf hN0 l 20
  have hs := mde_sz N l 20
  have hd := mde_dp N l 20
  generalize mde N l 20 = g at *
  have hbv := mdb_valid b N
  have hbl := mdb_len b N
  have htv := madeI_valid t
  have hfs := mds_ok (l := F) (most := 10) (i := N) hN0
  have hfd := mds_dp (l := F) (most := 10) (N := N) (i := N)
  have hfl := mds_len F 10 N N
  generalize mds F 10 N N = fs at *
  generalize mdb b N = box at *
  generalize madeI t = T at *
  obtain ⟨sy, hsy⟩ : ∃ sy : Sys, sy = ⟨nms.take N, fs⟩ := ⟨_, rfl⟩
  rw [← hsy]
  have hsf : sy.f = fs := by rw [hsy]
  have hsl : sy.f.length ≤ 1000000000 := by rw [hsf]; omega
  have hwb : wf box.length g = true := by rw [hbl]; exact hw
  have hf1 : ∀ e ∈ sy.f, sz e ≤ 1000000000 ∧ wf box.length e = true := fun e he => by rw [hsf] at he; rw [hbl]; have := hfs e he; exact ⟨by omega, this.2⟩
  have hf2 : ∀ e ∈ sy.f, sz e ≤ 1000000 ∧ wf box.length e = true ∧ ∀ j : Nat, j < sy.f.length → sz (dif (.st j) e) ≤ 1000000 := fun e he => by
    rw [hsf] at he; rw [hbl]; have := hfs e he
    refine ⟨this.1, this.2, fun j _ => ?_⟩
    have := ((sz_dp 5 e (hfd e he)).2 (.st j)).1
    rw [f1_5] at this; omega
  have zt := ((sz_dp 5 g hd).2 .tm).1
  rw [f1_5] at zt
  have zs : ∀ j : Nat, sz (dif (.st j) g) ≤ 302 := fun j => by have := ((sz_dp 5 g hd).2 (.st j)).1; rw [f1_5] at this; exact this
  have zK := zs K
  have hgd : ∀ j : Nat, j < sy.f.length → sz (dif (.st j) g) ≤ 1000000 := fun j _ => by have := zs j; omega
  have s1 := smp_sz g
  have s2 : sz (der (.st K) g) ≤ sz (dif (.st K) g) := smp_sz _
  have s3 : sz (der .tm g) ≤ sz (dif .tm g) := smp_sz _
  have mA : ∀ a ∈ sy.f.map (fun e => jrow box T e sy.f.length), a.length ≤ 1000000000 := fun a ha => by obtain ⟨e, _, rfl⟩ := List.mem_map.1 ha; rw [jrow_len]; exact hsl
  have m1 := fun Hx => jMatrix sy box T hbv (by omega) htv hf2 hsl Hx
  have m2 := fun Hx => zMatrix sy box T hbv (by omega) htv hf2 hsl Hx
  have hmm : (AV.slice (sy.f.map fun e => bx (jrow box T e sy.f.length)) false) = mx (sy.f.map fun e => jrow box T e sy.f.length) := by simp [mx]
  rw [hmm] at m1 m2
  generalize hMM : (sy.f.map fun e => jrow box T e sy.f.length) = MM at *
  have hMl : MM.length ≤ 1000000000 := by rw [← hMM, List.length_map]; exact hsl
  have mS := fun Hx => r4Same MM MM hMl hMl mA mA Hx
  rw [show decide (MM = MM) = true by simp] at mS
  have l1 := fun Hx => jLieDerivative sy g box T hbv (by omega) htv hf1 hsl (by omega) hwb (by omega) hgd Hx
  have l2 := fun Hx => zLieDerivative sy g box T hbv (by omega) htv hf1 hsl (by omega) hwb (by omega) hgd Hx
  generalize lieSum box T g (sy.f.map (ev box T)) sy.f.length = R at *
  simp [sys]
  refine endD [(15, 17), (16, 20)] (by rfl) (by simp [okW, note, Eff.triv, Eff.wr, Eff.none, upTo, newAt]) ?_
  simp [wi]
  refine bind_ifn (by omega) ?_
  simp [hK]
  refine callD_ret0 (fun Hx => jSimplify (sz g) g (Nat.le_refl _) hw (by omega) Hx) ?_
  simp
  refine callD_ret0 (fun Hx => zSimplify (sz g) g (Nat.le_refl _) hw (by omega) Hx) ?_
  simp
  refine callD_ret0 (fun Hx => r7SameE (smp g) (smp g) (by omega) (by omega) rfl Hx) ?_
  simp
  refine callD_ret0 (fun Hx => jDiff g K hw (by omega) (by omega) Hx) ?_
  simp
  refine callD_ret0 (fun Hx => zDiff g K hw (by omega) (by omega) Hx) ?_
  simp
  refine callD_ret0 (fun Hx => r7SameE (der (.st K) g) (der (.st K) g) (by omega) (by omega) rfl Hx) ?_
  simp
  refine callD_ret0 (fun Hx => jTimeDerivative g hw (by omega) (by omega) Hx) ?_
  simp
  refine callD_ret0 (fun Hx => zTimeDerivative g hw (by omega) (by omega) Hx) ?_
  simp
  refine callD_ret0 (fun Hx => r7SameE (der .tm g) (der .tm g) (by omega) (by omega) rfl Hx) ?_
  simp
  refine callD_ret0 (fun Hx => m1 Hx) ?_
  simp
  refine callD_ret0 (fun Hx => m2 Hx) ?_
  simp
  refine callD_ret0 (fun Hx => mS Hx) ?_
  simp
  refine callD_ret0 (fun Hx => l1 Hx) ?_
  simp
  refine callD_ret0 (fun Hx => l2 Hx) ?_
  simp
  refine endD [] (by rfl) (by simp [okW, note, Eff.triv, Eff.wr, Eff.none, upTo, newAt]) ?_
  simp
  exact fin1 (rs := [.tmp 4]) (by rfl) (by simp [resA]) (by simp [noF])
end Go.Proofs.YtohmodcheahpgaaGreatDoor.Arm
