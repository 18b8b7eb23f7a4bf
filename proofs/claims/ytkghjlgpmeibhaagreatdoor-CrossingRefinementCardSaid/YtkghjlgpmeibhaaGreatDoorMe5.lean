/- Part of a proof: what the functions of the program do to abstract states, step by step. -/
import Derived.Test.YtkghjlgpmeibhaaGreatDoorMe4
import Derived.Test.YtkghjlgpmeibhaaGreatDoorMe3
import Derived.Test.YtkghjlgpmeibhaaGreatDoorMe2
import Derived.Test.YtkghjlgpmeibhaaGreatDoorTie
import Derived.Test.YtkghjlgpmeibhaaGreatDoorCards
import Derived.ProofKit
import Derived.Stop.Joined
import Derived.SevenTiedAt
set_option linter.unusedVariables false
set_option linter.unusedSimpArgs false
namespace Go.Proofs.YtkghjlgpmeibhaaGreatDoor.Arm
open Go.Arm Go.Pl
def j3 (l : List Nd) (n : Nat) : zE := .row true 2 [.agg [xs l, .int .i64 n]]
theorem uOf_code {o : Int} (h : 4 ≤ o) (k : o ≤ 6) : (WZ o).code = o := by
 unfold WZ
 split
 ·simp [U.code, *]
 ·split
  ·simp [U.code, *]
  ·simp only [U.code]; omega
theorem bOf_code {o : Int} (h : 7 ≤ o) (k : o ≤ 10) : (bOf o).code = o := by
 unfold bOf
 split
 ·simp [B.code, *]
 ·split
  ·simp [B.code, *]
  ·split
   ·simp [B.code, *]
   ·simp only [B.code]; omega
theorem rBuild (n : Nat) (hn : 0 < n ∧ n ≤ 1000000) : ∀ (d : Nat) (l : List Nd) (b : Nat) (H : AH), d ≤ 20 → l.length ≤ 1000000000 → H[b]? = some (j3 l n) →
  zg E 130 [.ptr b 1 0 0, .int .i64 ((d : Int) + 1)] H (.ret (xs (zb (qj n d l).1))) (H.set b (j3 (qj n d l).2 n)) := by
 intro d
 induction d using Nat.strongRecOn with
 | _ d ih =>
 intro l b H hd hl hb
 refine zt zn zo Tryz.func130 rfl (by rfl) Tryz.ntmps130 (by kernel_rfl) (by simp) ?_
 have hbl : b < H.length := (gI.1 hb).1
 have w1 : IntKind.i64.wrap ((d : Int) + 1 - 1) = (d : Int) := by rw [zj (by omega) (by omega)]; omega
 cases l with
 | nil =>
  simp [hb, j3, xs]
  refine zd (XD _ _) ?_
  simp
  refine zd (YH _ _) ?_
  simp [qj]
  have hset : H.set b (.row true 2 [.agg [.slice [] false, .int .i64 n]]) = H := by
   apply List.ext_getElem?
   intro c
   by_cases hc : b = c
   ·subst hc; rw [List.getElem?_set_self hbl, hb]; rfl
   ·rw [List.getElem?_set_ne hc]
  have e1 : (qj n d []).1 = jB 1 := by cases d <;> rfl
  have e2 : (qj n d []).2 = [] := by cases d <;> rfl
  have e3 : ∀ v, jd E Tryz.f130 H v H .ret = jd E Tryz.f130 H v (H.set b (.row true 2 [.agg [.slice [] false, .int .i64 n]])) .ret := by intro v; rw [hset]
  try rw [e1]
  try rw [e2]
  try simp only [j3, xs, List.map_nil]
  rw [hset]
  exact zY (rs := [.tmp 4]) (by rfl) (by simp [ze, jB, xs])
 | cons x r =>
  have hne : ((r.length : Int) + 1 == 0) = false := by rw [beq_eq_false_iff_ne]; omega
  have hb' := hb
  unfold j3 at hb'
  have hop := bOp_bounds x
  have hwop : IntKind.i64.wrap (1 + (Vi .i64 x.op 255).tmod 10) = jx x := by
   obtain ⟨l1, l2⟩ := zay x.op (m := 255) (by decide)
   rw [zdq, Int.tmod_eq_emod_of_nonneg l1]
   unfold jx at hop ⊢
   exact zj (by omega) (by omega)
  have hwn : IntKind.i64.wrap (1 + IntKind.i64.wrap (Vi .i64 x.n 255 * Vi .i64 x.n 1)) = 1 + jW x.n 255 * jW x.n 1 := by
   have hw := bW x
   rw [zdq, and1']
   rw [zj (n := jW x.n 255 * jW x.n 1) (by omega) (by omega), zj (by omega) (by omega)]
  obtain ⟨v1, v2⟩ := zcI x.n hn.1
  have hvn : (Vi .i64 x.n 255).tmod n = jW x.n 255 % n := by
   obtain ⟨l1, l2⟩ := zay x.n (m := 255) (by decide)
   rw [zdq, Int.tmod_eq_emod_of_nonneg l1]
  have htk : List.take r.length (List.map nd r) = List.map nd r := List.take_of_length_le (by simp)
  simp [hb', xs, hne, old hb', qZ hb']
  refine ZQ (by omega) ?_
  rw [htk]
  have hb1 : (H.set b (j3 r n))[b]? = some (j3 r n) := List.getElem?_set_self hbl
  have hset : ∀ l, (H.set b (j3 r n)).set b (j3 l n) = H.set b (j3 l n) := fun l => List.set_set ..
  simp [old hb', qZ hb', hwop]
  have hfold : H.set b (.row true 2 [.agg [.slice (List.map nd r) false, .int .i64 n]]) = H.set b (j3 r n) := rfl
  have fin : ∀ (fr : zx) (e : Ex) (q : List Nd) (J : AH) (x : jJ), fr 4 = xs (zb e) → (x = .ret ∨ x = .normal) →
    jd E Tryz.f130 H (.ret (xs (zb e))) (H.set b (j3 q n)) x fr (H.set b (j3 q n) ++ J) := by
   intro fr e q J x h4 hx
   exact finU (rs := [.tmp 4]) (by rfl) (by simp [ze, h4]) (by simp) (za5 (by simp [j3, qh, noF, zh, jh])) (jh _ _) hx
  have fin2 : ∀ (fr : zx) (e : Ex) (q : List Nd) (J : AH) (x : jJ), fr 4 = .slice ((zb e).map nd) true → (x = .ret ∨ x = .normal) →
    jd E Tryz.f130 H (.ret (xs (zb e))) (H.set b (j3 q n)) x fr (H.set b (j3 q n) ++ J) := by
   intro fr e q J x h4 hx
   exact finG (rs := [.tmp 4]) (vs := [.slice ((zb e).map nd) true]) (vs' := [xs (zb e)]) (J' := J) (by rfl) (by simp [ze, h4]) (by simp [xs]) (by simp) (za5 (by simp [j3, qh, noF, zh, jh])) (by simp only [zh, Bool.and_true]; exact jh _ _) (by simp [one]) hx
  try rw [hfold]
  obtain ⟨H1, hH1⟩ : ∃ H1, H1 = H.set b (j3 r n) := ⟨_, rfl⟩
  have hl1 : H1.length = H.length := by rw [hH1]; simp
  rw [← hH1, ← hl1]
  rw [← hH1] at hb1
  have hb1' := hb1
  unfold j3 at hb1'
  by_cases h1 : jx x = 1
  ·have e1 : qj n d (x :: r) = (JI x, r) := by cases d <;> simp [qj, h1]
   rw [e1]
   simp [h1]
   refine zd (zdr _ _ (by rw [hwn]; exact bW x) _) ?_
   rw [hwn]
   simp
   refine zd (YH _ _) ?_
   simp
   rw [hH1]
   exact fin _ _ _ _ _ (by simp [JI, nearI', ZL]) (by simp)
  have h1' : (jx x == 1) = false := by simp [h1]
  by_cases h2 : jx x = 2
  ·have e1 : qj n d (x :: r) = (.var (jW x.n 255 % n).toNat, r) := by cases d <;> simp [qj, h2]
   rw [e1]
   simp [h2]
   refine zd (UM _ _) ?_
   simp [qO, h2, old hb1']
   refine Uk (by omega) ?_
   simp [hvn]
   refine zm [] (by rfl) (by simp [zl, zk, za.triv, za.wr, za.none, upTo, newAt]) ?_
   simp
   rw [hH1]
   exact fin2 _ _ _ _ _ (by simp [zb, zK]; omega) (by simp)
  have h2' : (jx x == 2) = false := by simp [h2]
  by_cases h3 : jx x = 3
  ·have e1 : qj n d (x :: r) = (.time, r) := by cases d <;> simp [qj, h3]
   rw [e1]
   simp [h3]
   refine zd (UM _ _) ?_
   simp [qO, h3, old hb1']
   rw [hH1]
   exact fin2 _ _ _ _ _ (by simp [zb, zK]) (by simp)
  have h3' : (jx x == 3) = false := by simp [h3]
  have har : qO (jx x) = if jx x ≤ 6 then 1 else 2 := by
   unfold qO
   rw [if_neg (by omega)]
   by_cases h6 : jx x ≤ 6
   ·rw [if_pos (by omega), if_pos h6]
   ·rw [if_neg (by omega), if_pos (by omega), if_neg h6]
  have hpos : 0 < qO (jx x) := by rw [har]; split <;> omega
  cases d with
  | zero =>
   have e1 : qj n 0 (x :: r) = (JI x, r) := by simp [qj, h2, h3]
   rw [e1]
   simp [h1']
   refine zd (UM _ _) ?_
   simp [hpos]
   refine zd (zdr _ _ (by rw [hwn]; exact bW x) _) ?_
   rw [hwn]
   simp
   refine zd (YH _ _) ?_
   simp
   rw [hH1]
   exact fin _ _ _ _ _ (by simp [JI, nearI', ZL]) (by simp)
  | succ d =>
   have hd2 : ¬ ((d + 1 : Nat) : Int) + 1 < 2 := by omega
   have hd2' : decide ((d : Int) + 1 + 1 < 2) = false := by simp; omega
   simp [h1']
   refine zd (UM _ _) ?_
   simp [hpos, h2', h3', hd2']
   refine zd (UM _ _) ?_
   rw [har]
   have hs1 := WL n d r
   have hs2 := WL n d (qj n d r).2
   have hp2 : 2 ^ (d + 1) ≤ 2 ^ 21 := Nat.pow_le_pow_right (by decide) (by omega)
   have hq1 := zcM n d r
   have w1' : IntKind.i64.wrap ((d : Int) + 1) = (d : Int) + 1 := zj (by omega) (by omega)
   have hne1 : ∀ e : Ex, zb e ≠ [] := fun e h => by have := Jd e; rw [sz, h] at this; simp at this
   have hsz : ∀ e : Ex, (zb e).length = sz e := fun _ => rfl
   have rec1 : ∀ (l : List Nd) (J : AH), l.length ≤ 1000000000 → zg E 130 [.ptr b 1 0 0, .int .i64 ((d : Int) + 1)] (H.set b (j3 l n) ++ J) (.ret (xs (zb (qj n d l).1))) (H.set b (j3 (qj n d l).2 n) ++ J) := by
    intro l J hl
    have h := ih d (by omega) l b (H.set b (j3 l n) ++ J) (by omega) hl (zi (List.getElem?_set_self hbl))
    rwa [Yz hbl] at h
   by_cases h6 : jx x ≤ 6
   ·have e1 : qj n (d + 1) (x :: r) = (.un (WZ (jx x)) (qj n d r).1, (qj n d r).2) := by simp [qj, h1, h2, h3, h6]
    rw [e1]
    simp [h6, w1']
    rw [hH1]
    refine zd (rec1 r _ (by simp at hl; omega)) ?_
    simp
    refine zd (r7Unary _ _ (hne1 _) (by rw [hsz]; omega) _) ?_
    simp
    exact fin _ _ _ _ _ (by simp [zb, uOf_code (show 4 ≤ jx x by omega) h6]) (by simp)
   ·have e1 : qj n (d + 1) (x :: r) = (.bin (bOf (jx x)) (qj n d r).1 (qj n d (qj n d r).2).1, (qj n d (qj n d r).2).2) := by simp [qj, h1, h2, h3, h6]
    rw [e1]
    simp [h6, w1']
    rw [hH1]
    refine zd (rec1 r _ (by simp at hl; omega)) ?_
    simp [w1']
    refine zd (rec1 (qj n d r).2 _ (by simp at hl; omega)) ?_
    simp
    refine zd (zbU _ _ _ (hne1 _) (hne1 _) (by rw [hsz, hsz]; omega) _) ?_
    simp
    exact fin _ _ _ _ _ (by simp [zb, bOf_code (show 7 ≤ jx x by omega) hop.2]) (by simp)
theorem UL (l : List Nd) (most n : Nat) (hn : 0 < n ∧ n ≤ 1000000) (hl : l.length ≤ 200000000000000) (hm : most ≤ 1000000000) (H : AH) : zg E 78 [xs l, .int .i64 most, .int .i64 n] H (.ret (xs (zb (Z5 n l most)))) H := by
 refine zt zn zo Tryz.func78 rfl (by rfl) Tryz.ntmps78 (by kernel_rfl) (by simp) ?_
 have hmin : (if (most : Int) < (l.length : Int) then (most : Int) else (l.length : Int)) = ((min most l.length : Nat) : Int) := by split <;> omega
 have hmin2 : (if most < l.length then (most : Int) else (l.length : Int)) = ((min most l.length : Nat) : Int) := by split <;> omega
 simp [xs]
 refine ZQ (UB fun _ => rfl) ?_
 rw [hmin2]
 refine ZQ (by omega) ?_
 have htk : List.take ((min most l.length : Nat) : Int).toNat (l.map nd) = (l.take most).map nd := by
  rw [Int.toNat_natCast, List.map_take]
  by_cases h : most ≤ l.length
  ·rw [Nat.min_eq_left h]
  ·rw [Nat.min_eq_right (by omega), List.take_of_length_le (by simp), List.take_of_length_le (by simp; omega)]
 rw [htk]
 simp
 have h := rBuild n hn 4 (l.take most) H.length (H ++ [j3 (l.take most) n]) (by decide) (by rw [List.length_take]; omega) (by simp)
 simp only [j3, xs] at h
 simp at h
 refine zd h ?_
 simp
 exact zv (rs := [.tmp 6]) (by rfl) (by simp [ze, xs, Z5]) (jh _ _)
def ix (l : List Int) : AV := .slice (l.map (.int .i64)) false
theorem WN {H : AH} {t e : TypeId} {i ie : TI} {x : AV} {f : Bool} (hi : zp t = some i) (hd : i.d = .slice e) (he : zp e = some ie) (h1 : ie.size = 1) (hx : ([x].all fun y => y.cells.length == 1 && y.cells.all qo) = true) (hz : (qF ie.zero).map List.length = some 1) (hb : ie.bytes ≤ 1000) :
  qn zp H t .nilslice (.slice [x] f) = some (.ref H.length 1, H ++ [.row true 1 [x]]) := by
 obtain ⟨v', J', hap, hacc', _⟩ := qr.push (T := zp) (t := t) (e := e) (H := H) (J := []) (v := .nilslice) (v0 := .nilslice) (x := .slice [x] f) (ys := [x]) (xs := []) (.inl ⟨rfl, rfl⟩) hi hd he rfl rfl (by rw [h1]; exact hx) ⟨by omega, by rw [h1]; exact hz⟩ (by simp; omega) (by simp)
 rw [List.append_nil] at hap
 have h2 : qn zp H t .nilslice (.slice [x] f) = jO ie H .nilslice [x] := by
  simp only [qn, hi, hd, he, jk]
  rw [if_neg (by simp), if_pos ⟨by omega, by rw [h1]; exact hz, by rw [h1]; exact hx⟩]
 have h3 : jO ie H .nilslice [x] = (Qc ie .nilslice [x]).map fun zs => (.ref H.length zs.length, H ++ [.row true ie.size zs]) := rfl
 rw [h2, h3, Qc]
 rw [if_pos (by simp; omega)]
 simp [h1]
theorem X9 {H : AH} {t e : TypeId} {i ie : TI} {x : AV} {l : List AV} {b n : Nat} {f : Bool} (hi : zp t = some i) (hd : i.d = .slice e) (he : zp e = some ie) (h1 : ie.size = 1) (hx : ([x].all fun y => y.cells.length == 1 && y.cells.all qo) = true) (hz : (qF ie.zero).map List.length = some 1) (hb : ie.bytes ≤ 1000) (hn : l.length = n) (hnb : n ≤ 1000000000) (hH : H[b]? = some (.row true 1 l)) :
  qn zp H t (.ref b n) (.slice [x] f) = some (.ref b (n + 1), H.set b (.row true 1 (l ++ [x]))) := by
 subst hn
 have h2 : qn zp H t (.ref b l.length) (.slice [x] f) = jO ie H (.ref b l.length) [x] := by
  simp only [qn, hi, hd, he, jk]
  rw [if_neg (by simp), if_pos ⟨by omega, by rw [h1]; exact hz, by rw [h1]; exact hx⟩]
 have hk : (l.length + 1) * ie.bytes ≤ 1000000001 * 1000 := Nat.mul_le_mul (by omega) hb
 rw [h2]
 simp only [jO, hH]
 rw [if_pos (by simp [h1]; omega)]
 simp [h1]
def ZK : List ByteArray := [⟨#[120]⟩, ⟨#[121]⟩, ⟨#[118, 120]⟩, ⟨#[118, 121]⟩, ⟨#[97, 49]⟩, ⟨#[122, 122]⟩]
def jV (l : List (List Nd)) (most n i : Nat) : List Ex := (List.range i).map fun k => Z5 n ((l[k]?).getD []) most
theorem zbk (l : List (List Nd)) (most n i : Nat) : jV l most n (i + 1) = jV l most n i ++ [Z5 n ((l[i]?).getD []) most] := by simp [jV, List.range_succ]
theorem YR (l : List (List Nd)) (most n i : Nat) : (jV l most n i).length = i := by simp [jV]
def LMs (l : List (List Nd)) (most n : Nat) (H : AH) (i : Nat) (fr : zx) (H' : AH) : Prop :=
 fr 0 = .slice (l.map xs) false ∧ fr 1 = .int .i64 most ∧ fr 2 = .int .i64 n ∧ fr 6 = .ptr H.length 1 0 0 ∧ fr 7 = .ptr (H.length + 1) 1 0 0 ∧ fr 8 = .slice (ZK.map .str) true ∧ fr 9 = .int .i64 i ∧ i ≤ n ∧
 ((i = 0 ∧ H' = H ++ [.row true 2 [.agg [.nilslice, .nilslice]], .row true 2 [.agg [.nilslice, .nilslice]]]) ∨
  ∃ J a b, a ≠ b ∧ J[a]? = some (.row true 1 ((ZK.take i).map .str)) ∧ J[b]? = some (.row true 1 ((jV l most n i).map fun e => xs (zb e))) ∧ 0 < i ∧
    H' = H ++ .row true 2 [.agg [.nilslice, .nilslice]] :: .row true 2 [.agg [.ref (H.length + (a + 2)) i, .ref (H.length + (b + 2)) i]] :: J)
theorem r7MadeSystem (l : List (List Nd)) (most n : Nat) (hn : 0 < n ∧ n ≤ 6) (hm : most ≤ 1000000000) (hl : ∀ r ∈ l, r.length ≤ 200000000000000) (hl2 : l.length ≤ 200000000000000) (H : AH) : zg E 56 [.slice (l.map xs) false, .int .i64 most, .int .i64 n] H (.ret (z5 ⟨ZK.take n, jV l most n n⟩)) H := by
 refine zt zn zo Tryz.func56 rfl (by rfl) Tryz.ntmps56 (by kernel_rfl) (by simp) ?_
 simp
 refine zZ (LMs l most n H) (fun i => n - i) 0 ⟨by simp, by simp, by simp, by simp, by simp, by simp [ZK], by simp, by omega, .inl ⟨rfl, by simp⟩⟩ ?_
 rintro i fr H' ⟨g0, g1, g2, g6, g7, g8, g9, hi, hmem⟩
 have hnl : ZK.length = 6 := rfl
 simp [g2, g9]
 refine zL (fun hc => ?_) (fun hc => ?_)
 ·have hlt : i < n := by simpa using hc
  have w2 : IntKind.i64.wrap ((i : Int) + 1) = ((i + 1 : Nat) : Int) := by rw [zj (by omega) (by omega)]; omega
  obtain ⟨s, hs⟩ := zD (l := ZK) (i := i) (by omega)
  have hsE : ∀ h, ZK[i]'h = s := fun h => (gI.1 hs).2
  have hst : ZK.take (i + 1) = ZK.take i ++ [s] := by rw [List.take_add_one, hs]; rfl
  have main : ∀ r : List Nd, r = (l[i]?).getD [] → r.length ≤ 200000000000000 → True := fun _ _ _ => trivial
  simp [g0, g9]
  refine zL (fun hc2 => ?_) (fun hc2 => ?_)
  ·have hlt2 : i < l.length := by simpa using hc2
   obtain ⟨r, hr⟩ := zD hlt2
   have hrE : ∀ h, l[i]'h = r := fun h => (gI.1 hr).2
   rcases hmem with ⟨rfl, rfl⟩ | ⟨J, a, b, hab, ha, hb, hpos, rfl⟩
   ·simp [hr, hrE, xs, g0, g7, g8, g9, hs, hsE]
    refine bind_some (WN (x := .str s) tab31 rfl tab9 rfl (by simp [qo]) rfl (by decide)) ?_
    simp [g7]
    refine zm [(1, 9)] (by rfl) (by simp [zl, zk, za.triv, za.wr, za.none, upTo, newAt]) ?_
    simp [g1, g2, g7]
    refine zB (fun Hx => UL r most n ⟨hn.1, by omega⟩ (hl r (List.mem_of_getElem? hr)) hm Hx) ?_
    simp [g7, xs]
    refine bind_some (WN (x := xs (zb (Z5 n (r) most))) tab22 rfl tab26 rfl (by simp [qo, xs]) rfl (by decide)) ?_
    simp [g7]
    refine zm [(1, 9)] (by rfl) (by simp [zl, zk, za.triv, za.wr, za.none, upTo, newAt]) ?_
    have w3 : IntKind.i64.wrap 1 = 1 := zj (by decide) (by decide)
    simp [g9, w3]
    refine ⟨1, by show n - 1 < n - 0; omega, by simp [g0], by simp [g1], by simp [g2], by simp [g6], by simp [g7], by simp [g8], by simp, by omega, .inr ⟨[.row true 1 [.str s], .row true 1 [xs (zb (Z5 n (r) most))]], 0, 1, by decide, ?_, ?_, by decide, ?_⟩⟩
    ·rw [hst]; simp
    ·rw [zbk]; simp [jV, hr, hrE, xs, xs]
    ·simp
   ·simp [hr, hrE, xs, g0, g7, g8, g9, hs, hsE]
    refine bind_some (X9 (x := .str s) (l := (ZK.take i).map .str) tab31 rfl tab9 rfl (by simp [qo]) rfl (by decide) (by simp; omega) (by omega) (by simp [ha])) ?_
    simp [g7]
    refine zm [(1, 9)] (by rfl) (by simp [zl, zk, za.triv, za.wr, za.none, upTo, newAt]) ?_
    simp [g1, g2, g7]
    refine zB (fun Hx => UL r most n ⟨hn.1, by omega⟩ (hl r (List.mem_of_getElem? hr)) hm Hx) ?_
    simp [g7, xs]
    refine bind_some (X9 (n := i) (x := xs (zb (Z5 n (r) most))) (l := (jV l most n i).map fun e => xs (zb e)) tab22 rfl tab26 rfl (by simp [qo, xs]) rfl (by decide) (by simp [YR]) (by omega) (by simp [hb, List.getElem?_set_ne hab])) ?_
    simp [g7]
    refine zm [(1, 9)] (by rfl) (by simp [zl, zk, za.triv, za.wr, za.none, upTo, newAt]) ?_
    simp [g9, w2]
    refine ⟨i + 1, by show n - (i + 1) < n - i; omega, by simp [g0], by simp [g1], by simp [g2], by simp [g6], by simp [g7], by simp [g8], by simp, by omega, .inr ⟨(J.set a (.row true 1 ((ZK.take i).map .str ++ [.str s]))).set b (.row true 1 (((jV l most n i).map fun e => xs (zb e)) ++ [xs (zb (Z5 n (r) most))])), a, b, hab, ?_, ?_, by omega, ?_⟩⟩
    ·rw [hst, List.getElem?_set_ne (Ne.symm hab), List.getElem?_set_self (gI.1 ha).1]; simp
    ·rw [zbk, List.getElem?_set_self (by rw [List.length_set]; exact (gI.1 hb).1)]; simp [hr, hrE, xs, xs]
    ·simp
  ·have hr : l[i]? = none := by
    have : ¬ i < l.length := by simpa using hc2
    rw [List.getElem?_eq_none_iff]; omega
   rcases hmem with ⟨rfl, rfl⟩ | ⟨J, a, b, hab, ha, hb, hpos, rfl⟩
   ·simp [hr, g0, g7, g8, g9, hs, hsE]
    refine bind_some (WN (x := .str s) tab31 rfl tab9 rfl (by simp [qo]) rfl (by decide)) ?_
    simp [g7]
    refine zm [(1, 9)] (by rfl) (by simp [zl, zk, za.triv, za.wr, za.none, upTo, newAt]) ?_
    simp [g1, g2, g7]
    refine Zm (args' := [xs [], .int .i64 most, .int .i64 n]) (fun Hx => UL [] most n ⟨hn.1, by omega⟩ (by simp) hm Hx) (by simp [xs]) ?_
    simp [g7, xs]
    refine bind_some (WN (x := xs (zb (Z5 n ([]) most))) tab22 rfl tab26 rfl (by simp [qo, xs]) rfl (by decide)) ?_
    simp [g7]
    refine zm [(1, 9)] (by rfl) (by simp [zl, zk, za.triv, za.wr, za.none, upTo, newAt]) ?_
    have w3 : IntKind.i64.wrap 1 = 1 := zj (by decide) (by decide)
    simp [g9, w3]
    refine ⟨1, by show n - 1 < n - 0; omega, by simp [g0], by simp [g1], by simp [g2], by simp [g6], by simp [g7], by simp [g8], by simp, by omega, .inr ⟨[.row true 1 [.str s], .row true 1 [xs (zb (Z5 n ([]) most))]], 0, 1, by decide, ?_, ?_, by decide, ?_⟩⟩
    ·rw [hst]; simp
    ·rw [zbk]; simp [jV, hr, xs]
    ·simp
   ·simp [hr, g0, g7, g8, g9, hs, hsE]
    refine bind_some (X9 (x := .str s) (l := (ZK.take i).map .str) tab31 rfl tab9 rfl (by simp [qo]) rfl (by decide) (by simp; omega) (by omega) (by simp [ha])) ?_
    simp [g7]
    refine zm [(1, 9)] (by rfl) (by simp [zl, zk, za.triv, za.wr, za.none, upTo, newAt]) ?_
    simp [g1, g2, g7]
    refine Zm (args' := [xs [], .int .i64 most, .int .i64 n]) (fun Hx => UL [] most n ⟨hn.1, by omega⟩ (by simp) hm Hx) (by simp [xs]) ?_
    simp [g7, xs]
    refine bind_some (X9 (n := i) (x := xs (zb (Z5 n ([]) most))) (l := (jV l most n i).map fun e => xs (zb e)) tab22 rfl tab26 rfl (by simp [qo, xs]) rfl (by decide) (by simp [YR]) (by omega) (by simp [hb, List.getElem?_set_ne hab])) ?_
    simp [g7]
    refine zm [(1, 9)] (by rfl) (by simp [zl, zk, za.triv, za.wr, za.none, upTo, newAt]) ?_
    simp [g9, w2]
    refine ⟨i + 1, by show n - (i + 1) < n - i; omega, by simp [g0], by simp [g1], by simp [g2], by simp [g6], by simp [g7], by simp [g8], by simp, by omega, .inr ⟨(J.set a (.row true 1 ((ZK.take i).map .str ++ [.str s]))).set b (.row true 1 (((jV l most n i).map fun e => xs (zb e)) ++ [xs (zb (Z5 n ([]) most))])), a, b, hab, ?_, ?_, by omega, ?_⟩⟩
    ·rw [hst, List.getElem?_set_ne (Ne.symm hab), List.getElem?_set_self (gI.1 ha).1]; simp
    ·rw [zbk, List.getElem?_set_self (by rw [List.length_set]; exact (gI.1 hb).1)]; simp [hr, xs]
    ·simp
 ·have hge : n ≤ i := by simpa using hc
  have hi' : i = n := by omega
  subst hi'
  rcases hmem with ⟨rfl, rfl⟩ | ⟨J, a, b, hab, ha, hb, hpos, rfl⟩
  ·omega
  ·simp [g6, g7]
   exact qm (rs := [.cell 6 33]) (vs := [.agg [.ref (H.length + (a + 2)) i, .ref (H.length + (b + 2)) i]]) (vs' := [z5 ⟨ZK.take i, jV l most i i⟩]) (J' := .row true 2 [.agg [.ref (H.length + (a + 2)) i, .ref (H.length + (b + 2)) i]] :: .row true 2 [.agg [.ref (H.length + (a + 2)) i, .ref (H.length + (b + 2)) i]] :: (J.set a (.row false 1 ((ZK.take i).map .str))).set b (.row false 1 ((jV l most i i).map fun e => xs (zb e)))) (by rfl) (by simp [ze, g6]) (by simp [ha, hb, List.getElem?_set_ne hab, z5, show min i ZK.length = i by omega, YR]) (by simp only [zh, z5, noF, Bool.and_true, Bool.and_eq_true]; exact ⟨jL.2 fun x hx => by obtain ⟨y, _, rfl⟩ := List.mem_map.1 hx; rfl, jL.2 fun x hx => by obtain ⟨y, _, rfl⟩ := List.mem_map.1 hx; exact jh _ _⟩) rfl
def JQ (t : Int) : Int := t.tmod 1048576
def j8 (h : Int) : Int := Vz h 131072 + 1
theorem r12Made (t h : Int) (H : AH) : zg E 57 [.agg [.int .i64 t, .int .i64 h]] H (.ret (.agg [.int .i64 (JQ t), .int .i64 (j8 h)])) H := by
 refine zt zn zo Tryz.func57 rfl (by rfl) Tryz.ntmps57 (by kernel_rfl) (by simp) ?_
 have hb := magn_bounds h (n := 131072) (by decide)
 have hmd : Vz h 131072 = max (h.tmod 131072) (-(h.tmod 131072)) := rfl
 have w1 : IntKind.i64.wrap (Vz h 131072 + 1) = Vz h 131072 + 1 := zj (by omega) (by omega)
 obtain ⟨t1, t2⟩ := ZZ h (b := 131072) (by decide)
 have hr : -131072 < h.tmod 131072 ∧ h.tmod 131072 < 131072 := by
  by_cases hh : 0 ≤ h
  ·have := t1 hh; omega
  ·have := t2 (by omega); omega
 by_cases h0 : h.tmod 131072 < 0
 ·have e : Vz h 131072 = -(h.tmod 131072) := by omega
  have w2 : IntKind.i64.wrap (-(h.tmod 131072)) = -(h.tmod 131072) := zj (by omega) (by omega)
  rw [e] at w1
  simp [h0, w2, w1]
  exact zv (rs := [.cell 2 25]) (by rfl) (by simp [ze, JQ, j8, e]) (by simp [noF, zh])
 ·have e : Vz h 131072 = h.tmod 131072 := by omega
  rw [e] at w1
  simp [h0, w1]
  exact zv (rs := [.cell 2 25]) (by rfl) (by simp [ze, JQ, j8, e]) (by simp [noF, zh])
def QC (least h : Int) : Int := 1 + h.tdiv 16 + (least.tmod h + h).tmod h
theorem zcR {least h : Int} (hh : 1 ≤ h ∧ h ≤ 1000000000) : 1 ≤ QC least h ∧ QC least h ≤ 2000000000 := by
 have h1 := Int.tmod_nonneg h (a := least.tmod h + h) (by
  obtain ⟨a, b⟩ := ZZ least (b := h) (by omega)
  by_cases k : 0 ≤ least
  ·have := a k; omega
  ·have := b (by omega); omega)
 have h2 := Int.tmod_lt_of_pos (least.tmod h + h) (b := h) (by omega)
 have h3 : h.tdiv 16 = h / 16 := Int.tdiv_eq_ediv_of_nonneg (by omega)
 unfold QC
 omega
theorem lResolution (least h : Int) (hh : 1 ≤ h ∧ h ≤ 1000000000) (H : AH) : zg E 26 [.int .i64 least, .int .i64 h] H (.ret (.int .i64 (QC least h))) H := by
 refine zt zn zo Tryz.func26 rfl (by rfl) Tryz.ntmps26 (by kernel_rfl) (by simp) ?_
 have hb := zcR (least := least) hh
 obtain ⟨t1, t2⟩ := ZZ least (b := h) (by omega)
 have hr : -h < least.tmod h ∧ least.tmod h < h := by
  by_cases k : 0 ≤ least
  ·have := t1 k; omega
  ·have := t2 (by omega); omega
 have h3 : h.tdiv 16 = h / 16 := Int.tdiv_eq_ediv_of_nonneg (by omega)
 have hne : ¬ h = 0 := by omega
 have w0 : IntKind.i64.wrap (h.tdiv 16) = h.tdiv 16 := zj (by omega) (by omega)
 have w1 : IntKind.i64.wrap (1 + h.tdiv 16) = 1 + h.tdiv 16 := zj (by omega) (by omega)
 have w2 : IntKind.i64.wrap (least.tmod h) = least.tmod h := zj (by omega) (by omega)
 have w3 : IntKind.i64.wrap (least.tmod h + h) = least.tmod h + h := zj (by omega) (by omega)
 have h1 := Int.tmod_nonneg h (a := least.tmod h + h) (by omega)
 have h2 := Int.tmod_lt_of_pos (least.tmod h + h) (b := h) (by omega)
 have w4 : IntKind.i64.wrap ((least.tmod h + h).tmod h) = (least.tmod h + h).tmod h := zj (by omega) (by omega)
 have w5 : IntKind.i64.wrap (1 + h.tdiv 16 + (least.tmod h + h).tmod h) = QC least h := by unfold QC; exact zj (by unfold QC at hb; omega) (by unfold QC at hb; omega)
 simp [hne, w0, w1, w2, w3, w4, w5]
 exact zY (rs := [.tmp 4]) (by rfl) (by simp [ze])
def zcX (l : List Nd) (dir : Int) (n : Nat) : Gd := ⟨Z5 n l 8, dir.tmod 2⟩
theorem r15Made (l : List Nd) (dir : Int) (n : Nat) (hn : 0 < n ∧ n ≤ 1000) (hl : l.length ≤ 200000000000000) (hd : -128 ≤ dir ∧ dir ≤ 127) (H : AH) : zg E 39 [xs l, .int .i8 dir, .int .i64 n] H (.ret (zN (zcX l dir n))) H := by
 refine zt zn zo Tryz.func39 rfl (by rfl) Tryz.ntmps39 (by kernel_rfl) (by simp) ?_
 have hM := fun Hx => UL l 8 n ⟨hn.1, by omega⟩ hl (by decide) Hx
 obtain ⟨t1, t2⟩ := ZZ dir (b := 2) (by decide)
 have hr : -2 < dir.tmod 2 ∧ dir.tmod 2 < 2 := by
  by_cases k : 0 ≤ dir
  ·have := t1 k; omega
  ·have := t2 (by omega); omega
 have w0 : IntKind.i8.wrap (dir.tmod 2) = dir.tmod 2 := by
  have : dir.tmod 2 = -1 ∨ dir.tmod 2 = 0 ∨ dir.tmod 2 = 1 := by omega
  rcases this with h | h | h <;> rw [h] <;> rfl
 have w1 : IntKind.i64.wrap (dir.tmod 2) = dir.tmod 2 := zj (by omega) (by omega)
 simp only [xs] at hM
 simp [xs]
 refine zd (hM _) ?_
 simp [w0, w1]
 exact zv (rs := [.cell 6 35]) (by rfl) (by simp [ze, zN, zcX, xs]) (by simp [zN, xs, noF, zh, YQ])
structure Zb (T : Tp) (t : I) (B : Nat) (J : AH) (tag : Nat → Nat) (co cl : List AV) (out l : List (List I)) : Prop where
 h0 : J[0]? = some (.row true 3 [zr T])
 h1 : J[1]? = some (.row true 2 [iv t])
 h2 : J[2]? = some (.row true 1 co)
 h3 : J[3]? = some (.row true 1 cl)
 ho : je (.slice [] true) tag B J 0 co out
 hl : je (.slice [] true) tag B J 1 cl l
section
variable {T : Tp} {t : I} {B i b : Nat} {J : AH} {tag : Nat → Nat} {co cl : List AV} {out l : List (List I)} {q : List I} {p : I}
theorem Zb.len (h : Zb T t B J tag co cl out l) : 4 ≤ J.length := (gI.1 h.h3).1
theorem Zb.app (h : Zb T t B J tag co cl out l) (K : AH) : Zb T t B (J ++ K) tag co cl out l :=
 ⟨zi h.h0, zi h.h1, zi h.h2, zi h.h3, h.ho.app K, h.hl.app K⟩
theorem Zb.lN (h : Zb T t B J tag co cl out l) (hJ : 5 ≤ J.length) :
  Zb T t B ((J ++ [zX (q ++ [p])]).set 3 (.row true 1 (cl.set i (.ref (B + J.length) (q.length + 1))))) (VU tag J.length (2 * i + 1)) co (cl.set i (.ref (B + J.length) (q.length + 1))) out (l.set i (q ++ [p])) := by
 refine ⟨?_, ?_, ?_, ?_, ?_, ?_⟩
 ·rw [List.getElem?_set_ne (by omega)]; exact zi h.h0
 ·rw [List.getElem?_set_ne (by omega)]; exact zi h.h1
 ·rw [List.getElem?_set_ne (by omega)]; exact zi h.h2
 ·rw [List.getElem?_set_self (by simp; omega)]
 ·exact h.ho.otherN.set (by omega)
 ·exact (h.hl.pushN (by omega)).set (by omega)
theorem Zb.lR (h : Zb T t B J tag co cl out l) (hb : J[b]? = some (zX q)) (h5 : 5 ≤ b) (ht : tag b = 2 * i + 1) :
  Zb T t B ((J.set b (zX (q ++ [p]))).set 3 (.row true 1 (cl.set i (.ref (B + b) (q.length + 1))))) tag co (cl.set i (.ref (B + b) (q.length + 1))) out (l.set i (q ++ [p])) := by
 have hJ := h.len
 refine ⟨?_, ?_, ?_, ?_, ?_, ?_⟩
 ·rw [List.getElem?_set_ne (by omega), List.getElem?_set_ne (by omega)]; exact h.h0
 ·rw [List.getElem?_set_ne (by omega), List.getElem?_set_ne (by omega)]; exact h.h1
 ·rw [List.getElem?_set_ne (by omega), List.getElem?_set_ne (by omega)]; exact h.h2
 ·rw [List.getElem?_set_self (by simp; omega)]
 ·exact (h.ho.otherR ht (fun j => by omega)).set (by omega)
 ·exact (h.hl.pushR hb h5 ht).set (by omega)
theorem Zb.oN (h : Zb T t B J tag co cl out l) (hJ : 5 ≤ J.length) :
  Zb T t B ((J ++ [zX (q ++ [p])]).set 2 (.row true 1 (co.set i (.ref (B + J.length) (q.length + 1))))) (VU tag J.length (2 * i + 0)) (co.set i (.ref (B + J.length) (q.length + 1))) cl (out.set i (q ++ [p])) l := by
 refine ⟨?_, ?_, ?_, ?_, ?_, ?_⟩
 ·rw [List.getElem?_set_ne (by omega)]; exact zi h.h0
 ·rw [List.getElem?_set_ne (by omega)]; exact zi h.h1
 ·rw [List.getElem?_set_self (by simp; omega)]
 ·rw [List.getElem?_set_ne (by omega)]; exact zi h.h3
 ·exact (h.ho.pushN (by omega)).set (by omega)
 ·exact h.hl.otherN.set (by omega)
theorem Zb.oR (h : Zb T t B J tag co cl out l) (hb : J[b]? = some (zX q)) (h5 : 5 ≤ b) (ht : tag b = 2 * i + 0) :
  Zb T t B ((J.set b (zX (q ++ [p]))).set 2 (.row true 1 (co.set i (.ref (B + b) (q.length + 1))))) tag (co.set i (.ref (B + b) (q.length + 1))) cl (out.set i (q ++ [p])) l := by
 have hJ := h.len
 refine ⟨?_, ?_, ?_, ?_, ?_, ?_⟩
 ·rw [List.getElem?_set_ne (by omega), List.getElem?_set_ne (by omega)]; exact h.h0
 ·rw [List.getElem?_set_ne (by omega), List.getElem?_set_ne (by omega)]; exact h.h1
 ·rw [List.getElem?_set_self (by simp; omega)]
 ·rw [List.getElem?_set_ne (by omega), List.getElem?_set_ne (by omega)]; exact h.h3
 ·exact (h.ho.pushR hb h5 ht).set (by omega)
 ·exact (h.hl.otherR ht (fun j => by omega)).set (by omega)
end
def Vb (x : List I) (i : Nat) : List AV := (List.range i).map fun j => .slice [iv (zf x j)] true
theorem inR_succ (x : List I) (i : Nat) : Vb x (i + 1) = Vb x i ++ [.slice [iv (zf x i)] true] := by simp [Vb, List.range_succ]
theorem inR_len (x : List I) (i : Nat) : (Vb x i).length = i := by simp [Vb]
theorem inR_all (x : List I) (n : Nat) : Vb x n = Qa x n n := by
 unfold Vb Qa
 apply List.map_congr_left
 intro j hj
 rw [if_pos (List.mem_range.1 hj)]
def gK (H : AH) (n m order k : Nat) (fr : zx) : Prop := fr 3 = .int .i64 order ∧ fr 4 = .ptr H.length 1 0 0 ∧ fr 6 = .ptr (H.length + 1) 1 0 0 ∧ fr 9 = .ref (H.length + 2) n ∧ fr 11 = .ref (H.length + 3) m ∧ fr 13 = .int .i64 k ∧ k ≤ order
def SyI (T : Tp) (x : List I) (t : I) (order : Nat) (H : AH) (i : Nat) (fr : zx) (H' : AH) : Prop :=
 fr 1 = bx x ∧ fr 3 = .int .i64 order ∧ fr 4 = .ptr H.length 1 0 0 ∧ fr 6 = .ptr (H.length + 1) 1 0 0 ∧ fr 10 = .int .i64 i ∧ i ≤ T.n ∧
 ((i = 0 ∧ fr 9 = .slice [] true ∧ H' = H ++ [.row true 3 [zr T], .row true 2 [iv t]]) ∨ (1 ≤ i ∧ fr 9 = .ref (H.length + 2) i ∧ H' = H ++ [.row true 3 [zr T], .row true 2 [iv t], .row true 1 (Vb x i)]))
def SyJ (T : Tp) (x : List I) (t : I) (order : Nat) (H : AH) (i : Nat) (fr : zx) (H' : AH) : Prop :=
 fr 3 = .int .i64 order ∧ fr 4 = .ptr H.length 1 0 0 ∧ fr 6 = .ptr (H.length + 1) 1 0 0 ∧ fr 9 = .ref (H.length + 2) T.n ∧ fr 12 = .int .i64 i ∧ i ≤ T.L.length ∧
 ((i = 0 ∧ fr 11 = .slice [] true ∧ H' = H ++ [.row true 3 [zr T], .row true 2 [iv t], .row true 1 (Qa x T.n T.n)]) ∨ (1 ≤ i ∧ fr 11 = .ref (H.length + 3) i ∧ H' = H ++ [.row true 3 [zr T], .row true 2 [iv t], .row true 1 (Qa x T.n T.n), .row true 1 (List.replicate i (.slice [] true))]))
def SyK (T : Tp) (x : List I) (t : I) (order : Nat) (H : AH) (k : Nat) (fr : zx) (H' : AH) : Prop :=
 gK H T.n T.L.length order k fr ∧ ∃ J tag co cl, H' = H ++ J ∧ Zb T t H.length J tag co cl (zH T x t k).2 (zH T x t k).1
def SyL (T : Tp) (x : List I) (t : I) (order : Nat) (H : AH) (k i : Nat) (fr : zx) (H' : AH) : Prop :=
 gK H T.n T.L.length order k fr ∧ fr 14 = .int .i64 i ∧ i ≤ T.L.length ∧
 ∃ J tag co cl, H' = H ++ J ∧ (i = 0 ∨ 5 ≤ J.length) ∧ Zb T t H.length J tag co cl (zH T x t k).2 (jG T.L (zH T x t k).2 t k (zH T x t k).1 i)
def SyO (T : Tp) (x : List I) (t : I) (order : Nat) (H : AH) (k i : Nat) (fr : zx) (H' : AH) : Prop :=
 gK H T.n T.L.length order k fr ∧ fr 16 = .int .i64 i ∧ i ≤ T.out.length ∧
 ∃ J tag co cl, H' = H ++ J ∧ 5 ≤ J.length ∧ Zb T t H.length J tag co cl (j5 T (zH T x t (k + 1)).1 k (zH T x t k).2 i) (zH T x t (k + 1)).1
theorem app_rows0 {H : AH} {q : I} {f g : Bool} {v : AV} (h : v = .nilslice ∨ v = .slice [] true) : qn zp H 183 v (.slice [.slice [iv q] g] f) = some (.ref H.length 1, H ++ [.row true 1 [.slice [iv q] g]]) := by
 rcases h with rfl | rfl <;> simp [qn, jk, jO, Qc, qo]
theorem app_rows0e {H : AH} {f : Bool} : qn zp H 183 (.slice [] true) (.slice [.slice [] true] f) = some (.ref H.length 1, H ++ [.row true 1 [.slice [] true]]) := by
 simp [qn, jk, jO, Qc, qo]
theorem app_rows {H : AH} {q : I} {l : List AV} {b n : Nat} {f g : Bool} (hn : l.length = n) (hnb : n ≤ 1000000000) (hH : H[b]? = some (.row true 1 l)) : qn zp H 183 (.ref b n) (.slice [.slice [iv q] g] f) = some (.ref b (n + 1), H.set b (.row true 1 (l ++ [.slice [iv q] g]))) :=
 X9 tab183 rfl tab23 rfl (by simp [qo]) rfl (by decide) hn hnb hH
theorem app_rowse {H : AH} {l : List AV} {b n : Nat} {f : Bool} (hn : l.length = n) (hnb : n ≤ 1000000000) (hH : H[b]? = some (.row true 1 l)) : qn zp H 183 (.ref b n) (.slice [.slice [] true] f) = some (.ref b (n + 1), H.set b (.row true 1 (l ++ [.slice [] true]))) :=
 X9 tab183 rfl tab23 rfl (by simp [qo]) rfl (by decide) hn hnb hH
set_option maxHeartbeats 4000000 in
theorem r9Coef (T : Tp) (x : List I) (t : I) (order : Nat) (hT : z8 T) (hx : zq x) (hxn : x.length = T.n) (hn : 1 ≤ T.n) (ht : vB t = true) (ho : 1 ≤ order ∧ order ≤ 1000) (H H' : AH) (p : Nat)
  (hd : ∀ j, j ≤ T.n → H[p + j]? = some .dead) (hlen : H'.length = H.length) (g1 : H'[p]? = some (.row true 1 (qC p (qw T x t order)))) (g2 : ∀ (j : Nat) q, (qw T x t order)[j]? = some q → H'[p + 1 + j]? = some (zX q)) (g3 : ∀ c, c < H.length → (c < p ∨ p + T.n < c) → H'[c]? = H[c]?) :
  zg E 126 [zr T, bx x, iv t, .int .i64 order] H (.ret (.ref p T.n)) H' := by
 refine soundX_of_awp zn zo Tryz.func126 rfl (by rfl) Tryz.ntmps126 (by kernel_rfl) (by simp) ?_
 have hsm := hT.small
 have hL1 : 1 ≤ T.L.length := by
  have h1 : 0 < T.out.length := by rw [hT.len]; omega
  have := hT.out _ (List.getElem_mem h1)
  omega
 simp [zr]
 refine zZ (SyI T x t order H) (fun i => T.n - i) 0 ⟨by simp, by simp, by simp, by simp, by simp, by omega, .inl ⟨rfl, by simp, by simp [zr]⟩⟩ ?_
 rintro i fr H1 ⟨f1, f3, f4, f6, f10, hi, hst⟩
 have hj0 : ∃ J0, H1 = H ++ (.row true 3 [zr T] :: J0) := by
  rcases hst with ⟨_, _, h⟩ | ⟨_, _, h⟩ <;> exact ⟨_, h⟩
 obtain ⟨J0, hJ0⟩ := hj0
 subst hJ0
 simp [f4, f10, zr]
 refine zL (fun hc => ?_) (fun hc => ?_)
 ·have hlt : i < T.n := by simpa using hc
  obtain ⟨q, hq⟩ := zD (l := x) (i := i) (by omega)
  have hqE : ∀ h, x[i]'h = q := fun h => (gI.1 hq).2
  have hqa : zf x i = q := by simp [zf, hq]
  have w2 : IntKind.i64.wrap ((i : Int) + 1) = ((i + 1 : Nat) : Int) := by rw [zj (by omega) (by omega)]; omega
  have hs := inR_succ x i
  rw [hqa] at hs
  simp only [XN] at hs
  rcases hst with ⟨rfl, f9, he⟩ | ⟨h1, f9, he⟩
  ·have he := List.cons.inj (List.append_cancel_left he)
   rw [he.2]
   have w1 : IntKind.i64.wrap 1 = 1 := zj (by omega) (by omega)
   simp [f1, f9, f10, bx, hq, hqE]
   refine bind_some (app_rows0 (.inr rfl)) ?_
   simp [f10, w1]
   refine ⟨1, by show T.n - 1 < T.n - 0; omega, by simp [f1, bx], by simp [f3], by simp [f4], by simp [f6], by simp, by omega, .inr ⟨by omega, by simp, by simp [hqa, zr, Vb]⟩⟩
  ·have he := List.cons.inj (List.append_cancel_left he)
   rw [he.2]
   simp [f1, f9, f10, bx, hq, hqE]
   refine bind_some (app_rows (l := Vb x i) (inR_len x i) (by omega) (by simp)) ?_
   simp [f10, w2]
   refine ⟨i + 1, by show T.n - (i + 1) < T.n - i; omega, by simp [f1, bx], by simp [f3], by simp [f4], by simp [f6], by simp, by omega, .inr ⟨by omega, by simp, by simp [hs, zr]⟩⟩
 ·have hin : i = T.n := by have : ¬ i < T.n := by simpa using hc
                           omega
  subst hin
  rcases hst with ⟨h0, _, _⟩ | ⟨h1, f9, he⟩
  ·omega
  have he := List.cons.inj (List.append_cancel_left he)
  rw [he.2, inR_all]
  simp
  refine zZ (SyJ T x t order H) (fun i => T.L.length - i) 0 ⟨by simp [f3], by simp [f4], by simp [f6], by simp [f9], by simp, by omega, .inl ⟨rfl, by simp, by simp [zr]⟩⟩ ?_
  clear f1 f3 f4 f6 f9 f10 hi hc h1
  rintro i fr H1 ⟨f3, f4, f6, f9, f12, hi, hst⟩
  have hj0 : ∃ J0, H1 = H ++ (.row true 3 [zr T] :: J0) := by
   rcases hst with ⟨_, _, h⟩ | ⟨_, _, h⟩ <;> exact ⟨_, h⟩
  obtain ⟨J0, hJ0⟩ := hj0
  subst hJ0
  simp [f4, f12, zr]
  refine zL (fun hc => ?_) (fun hc => ?_)
  ·have hlt : i < T.L.length := by simpa using hc
   have w2 : IntKind.i64.wrap ((i : Int) + 1) = ((i + 1 : Nat) : Int) := by rw [zj (by omega) (by omega)]; omega
   rcases hst with ⟨rfl, f11, he⟩ | ⟨h1, f11, he⟩
   ·have he := List.cons.inj (List.append_cancel_left he)
    rw [he.2]
    have w1 : IntKind.i64.wrap 1 = 1 := zj (by omega) (by omega)
    simp [f11, f12]
    refine bind_some (app_rows0e) ?_
    simp [f12, w1]
    refine ⟨1, by show T.L.length - 1 < T.L.length - 0; omega, by simp [f3], by simp [f4], by simp [f6], by simp [f9], by simp, by omega, .inr ⟨by omega, by simp, by simp [zr]⟩⟩
   ·have he := List.cons.inj (List.append_cancel_left he)
    rw [he.2]
    simp [f11, f12]
    refine bind_some (app_rowse (l := List.replicate i (.slice [] true)) (by simp) (by omega) (by simp)) ?_
    simp [f12, w2]
    refine ⟨i + 1, by show T.L.length - (i + 1) < T.L.length - i; omega, by simp [f3], by simp [f4], by simp [f6], by simp [f9], by simp, by omega, .inr ⟨by omega, by simp, by simp [zr, List.replicate_succ']⟩⟩
  ·have hin : i = T.L.length := by have : ¬ i < T.L.length := by simpa using hc
                                   omega
   subst hin
   rcases hst with ⟨h0, _, _⟩ | ⟨h1, f11, he⟩
   ·omega
   have he := List.cons.inj (List.append_cancel_left he)
   rw [he.2]
   simp
   refine zZ (SyK T x t order H) (fun k => order - k) 0 ⟨⟨by simp [f3], by simp [f4], by simp [f6], by simp [f9], by simp [f11], by simp, by omega⟩, _, fun _ => 0, _, _, rfl, ⟨by simp [zr], rfl, rfl, rfl, fam_out0 x T.n, fam_l0 _⟩⟩ ?_
   clear f3 f4 f6 f9 f11 f12 hi hc h1
   rintro k fr H1 ⟨⟨f3, f4, f6, f9, f11, f13, hk⟩, J, tag, co, cl, rfl, hM⟩
   simp [f3, f13]
   refine zL (fun hc => ?_) (fun hc => ?_)
   ·have hklt : k < order := by simpa using hc
    simp
    have wk : IntKind.i64.wrap ((k : Int) + 1) = ((k + 1 : Nat) : Int) := by rw [zj (by omega) (by omega)]; omega
    refine zZ (SyL T x t order H k) (fun i => T.L.length - i) 0 ⟨⟨by simp [f3], by simp [f4], by simp [f6], by simp [f9], by simp [f11], by simp [f13], by omega⟩, by simp, by omega, J, tag, co, cl, rfl, .inl rfl, hM⟩ ?_
    clear f3 f4 f6 f9 f11 f13 hM
    clear J tag co cl
    rintro i fr H1 ⟨⟨f3, f4, f6, f9, f11, f13, _⟩, f14, hi, J, tag, co, cl, rfl, hJ5, hM⟩
    have h0' := hM.h0
    simp only [zr] at h0'
    simp [f4, f14, h0']
    obtain ⟨e1, e2⟩ := j0 hT hx ht k
    have hrl := Yv hT ht e1 e2.val i hi
    refine zL (fun hc => ?_) (fun hc => ?_)
    ·have hlt : i < T.L.length := by simpa using hc
     obtain ⟨y, hy⟩ := zD hlt
     have hyE : ∀ h, T.L[i]'h = y := fun h => (gI.1 hy).2
     have hins := hT.ins i y hy
     have w2 : IntKind.i64.wrap ((i : Int) + 1) = ((i + 1 : Nat) : Int) := by rw [zj (by omega) (by omega)]; omega
     have hnext := Yu (out := (zH T x t k).2) (l := (zH T x t k).1) (t := t) (k := k) hy
     have hfin : ∀ (J' : AH) (tag' : Nat → Nat) (co' cl' : List AV), 5 ≤ J'.length → Zb T t H.length J' tag' co' cl' (zH T x t k).2 (jG T.L (zH T x t k).2 t k (zH T x t k).1 (i + 1)) → ∀ fr' : zx, gK H T.n T.L.length order k fr' → fr' 14 = .int .i64 (i + 1 : Nat) → Xt (SyL T x t order H k) (fun i => T.L.length - i) i fr' (H ++ J') :=
      fun J' tag' co' cl' h5 hM' fr' g1 g2 => ⟨i + 1, by show T.L.length - (i + 1) < T.L.length - i; omega, g1, g2, by omega, J', tag', co', cl', rfl, .inr h5, hM'⟩
     generalize hL : jG T.L (zH T x t k).2 t k (zH T x t k).1 i = l at *
     generalize hO : (zH T x t k).2 = out at *
     rw [hnext] at hfin
     have hil : i < l.length := by rw [hrl.len]; exact hlt
     obtain ⟨q, hq⟩ := zD hil
     have hqr : zu l (i : Int) = q := ZT hq
     have hqk : q.length = k := by have := hrl.row i hlt; rw [hqr, if_neg (by omega)] at this; exact this
     obtain ⟨v, hv⟩ := zD (l := cl) (i := i) (by rw [hM.hl.1]; exact hil)
     have hvE : ∀ h, cl[i]'h = v := fun h => (gI.1 hv).2
     have hcll : cl.length = T.L.length := by rw [hM.hl.1, hrl.len]
     have hMl := hM.len
     obtain ⟨o, a, b, c⟩ := y
     have hM2 : ∀ z : I, Zb T t H.length (J ++ [.row true 2 [iv z]]) tag co cl out l := fun z => hM.app _
     have hlF := fun z : I => hM.hl.2 i v q hv hq
     have hJl : ∀ z : I, (J ++ [zE.row true 2 [iv z]]).length = J.length + 1 := fun z => by simp
     have m3 := hM.h3
     have h1' := hM.h1
     simp only [XN] at h1'
     have h1b := hM.h1
     simp [f4, f14, h0', ↓old h0', hy, hyE, zG]
     refine zL (fun ho2 => ?_) (fun ho2 => ?_)
     ·have ho2 : o = 2 := by simpa using ho2
      subst ho2
      have hins : 0 ≤ a ∧ a < T.n := by rcases hins with h | h | h | h | h <;> simp only at h <;> omega
      obtain ⟨ka, rfl⟩ : ∃ ka : Nat, a = ka := ⟨a.toNat, by omega⟩
      obtain ⟨r, hr⟩ := zD (l := out) (i := ka) (by rw [e2.len]; omega)
      have hrr : zu out (ka : Int) = r := ZT hr
      have hrk : r.length = k + 1 := by have := e2.row ka (by omega); rw [hrr, if_neg (by omega)] at this; exact this
      obtain ⟨u, hu⟩ := zD (l := co) (i := ka) (by rw [hM.ho.1, e2.len]; omega)
      have huE : ∀ h, co[ka]'h = u := fun h => (gI.1 hu).2
      have hcol : co.length = T.n := by rw [hM.ho.1, e2.len]
      obtain ⟨z, hz⟩ := zD (l := r) (i := k) (by omega)
      have hzE : ∀ h, r[k]'h = z := fun h => (gI.1 hz).2
      have hcv : QQ ⟨2, ka, b, c⟩ out l t k i = z := by simp [QQ, hrr, zf, hz]
      rw [hcv, hqr] at hfin
      have hka : ka < T.n := by omega
      have hkk : (k : Int) < (k : Int) + 1 := by omega
      have hkn : k < k + 1 := by omega
      have hoF := hM.ho.2 ka u r hu hr
      have m2 := hM.h2
      rcases hoF with (⟨h0, _⟩ | ⟨_, z', h0, hu'⟩) | ⟨bo, hu', g2o, g5o, gto⟩
      ·rw [h0] at hrk; simp at hrk
      ·have hk0 : k = 0 := by rw [h0] at hrk; simpa using hrk.symm
       subst hk0
       have hzz : z' = z := by rw [h0] at hz; simpa using hz
       subst hzz
       subst hu'
       have hlF := hlF z'
       have hM2 := hM2 z'
       have hJl := hJl z'
       simp [f4, f9, f13, f14, h0', ↓old h0', hy, hyE, zG, m2, ↓old m2, hu, huE, hcol, hka]
       simp only [XN] at hlF hM2 hJl
       generalize hJ2 : J ++ [zE.row true 2 [.agg [.int .i64 z'.1, .int .i64 z'.2]]] = J2 at *
       have h16 : J2[J.length]? = some (.row true 2 [.agg [.int .i64 z'.1, .int .i64 z'.2]]) := by rw [← hJ2]; simp
       have n3 := hM2.h3
       have hJ2n : J2 ≠ [] := by rintro rfl; simp at hJl
       rcases hlF with (hn | ⟨hn, _⟩) | ⟨bl, rfl, g2l0, g5l, gtl⟩
       ·obtain ⟨h0q, rfl⟩ := hn
        subst h0q
        simp [f11, f14, hcll, hlt, hv, hvE, n3, h16]
        refine bind_some (Uo (.inr rfl)) ?_
        simp [f11, f14, hcll, hlt, hv, hvE, n3, zi n3]
        refine zm [(4, 10), (5, 10), (9, 10)] (by rfl) (by simp [zl, zk, za.triv, za.wr, za.none, upTo, newAt]; omega) ?_
        simp [f14, w2]
        exact hfin _ _ _ _ (by simp; omega) (hM2.lN (i := i) (q := []) (p := z') (by omega)) _ ⟨by simp [f3], by simp [f4], by simp [f6], by simp [f9], by simp [f11], by simp [f13], by omega⟩ (by simp)
       ·cases hn
       ·have hbl := (gI.1 g2l0).1
        have g2l : J2[bl]? = some (zX q) := by rw [← hJ2]; exact zi g2l0
        have m4b : (J2.set bl (zX (q ++ [z'])))[3]? = some (.row true 1 cl) := by rw [List.getElem?_set_ne (by omega)]; exact n3
        simp [f11, f14, hcll, hlt, hv, hvE, n3, h16]
        refine bind_some (Vh (by omega) (by simpa using g2l)) ?_
        simp [f11, f14, hcll, hlt, hv, hvE, m4b]
        refine zm [(4, 10), (5, 10), (9, 10)] (by rfl) (by simp [zl, zk, za.triv, za.wr, za.none, upTo, newAt]; omega) ?_
        simp [f14, w2]
        exact hfin _ _ _ _ (by simp; omega) (hM2.lR (i := i) (q := q) (p := z') g2l g5l gtl) _ ⟨by simp [f3], by simp [f4], by simp [f6], by simp [f9], by simp [f11], by simp [f13], by omega⟩ (by simp)
      ·subst hu'
       have g2o' := g2o
       simp only [zX] at g2o'
       have hlF := hlF z
       have hM2 := hM2 z
       have hJl := hJl z
       simp [f4, f9, f13, f14, h0', ↓old h0', hy, hyE, zG, m2, ↓old m2, hu, huE, hcol, hka, g2o', ↓old g2o', hz, hzE, hrk, hkk, hkn]
       simp only [XN] at hlF hM2 hJl
       generalize hJ2 : J ++ [zE.row true 2 [.agg [.int .i64 z.1, .int .i64 z.2]]] = J2 at *
       have h16 : J2[J.length]? = some (.row true 2 [.agg [.int .i64 z.1, .int .i64 z.2]]) := by rw [← hJ2]; simp
       have n3 := hM2.h3
       have hJ2n : J2 ≠ [] := by rintro rfl; simp at hJl
       rcases hlF with (hn | ⟨hn, _⟩) | ⟨bl, rfl, g2l0, g5l, gtl⟩
       ·obtain ⟨h0q, rfl⟩ := hn
        subst h0q
        simp [f11, f14, hcll, hlt, hv, hvE, n3, h16]
        refine bind_some (Uo (.inr rfl)) ?_
        simp [f11, f14, hcll, hlt, hv, hvE, n3, zi n3]
        refine zm [(4, 10), (5, 10), (9, 10)] (by rfl) (by simp [zl, zk, za.triv, za.wr, za.none, upTo, newAt]; omega) ?_
        simp [f14, w2]
        exact hfin _ _ _ _ (by simp; omega) (hM2.lN (i := i) (q := []) (p := z) (by omega)) _ ⟨by simp [f3], by simp [f4], by simp [f6], by simp [f9], by simp [f11], by simp [f13], by omega⟩ (by simp)
       ·cases hn
       ·have hbl := (gI.1 g2l0).1
        have g2l : J2[bl]? = some (zX q) := by rw [← hJ2]; exact zi g2l0
        have m4b : (J2.set bl (zX (q ++ [z])))[3]? = some (.row true 1 cl) := by rw [List.getElem?_set_ne (by omega)]; exact n3
        simp [f11, f14, hcll, hlt, hv, hvE, n3, h16]
        refine bind_some (Vh (by omega) (by simpa using g2l)) ?_
        simp [f11, f14, hcll, hlt, hv, hvE, m4b]
        refine zm [(4, 10), (5, 10), (9, 10)] (by rfl) (by simp [zl, zk, za.triv, za.wr, za.none, upTo, newAt]; omega) ?_
        simp [f14, w2]
        exact hfin _ _ _ _ (by simp; omega) (hM2.lR (i := i) (q := q) (p := z) g2l g5l gtl) _ ⟨by simp [f3], by simp [f4], by simp [f6], by simp [f9], by simp [f11], by simp [f13], by omega⟩ (by simp)
     ·have ho2 : o ≠ 2 := by simpa using ho2
      have hnx : zcW ⟨o, a, b, c⟩ l q.length := by
       have hrow : ∀ z : Int, 0 ≤ z → z < i → (zu l z).length = q.length + 1 := by
        intro z h1 h2
        obtain ⟨kz, rfl⟩ : ∃ kz : Nat, z = kz := ⟨z.toNat, by omega⟩
        have := hrl.row kz (by omega)
        rw [if_pos (by omega)] at this
        rw [this, hqk]
       rcases hins with h | h | h | h | h <;> simp only at h
       ·exact .inl h
       ·exact absurd h.1 ho2
       ·exact .inr (.inl h)
       ·exact .inr (.inr (.inl ⟨h.1, h.2.1, h.2.2.1, hrow _ h.2.2.1 h.2.2.2.1⟩))
       ·exact .inr (.inr (.inr ⟨h.1, h.2.1, h.2.2.1, h.2.2.2.2.1, hrow _ h.2.2.1 h.2.2.2.1, hrow _ h.2.2.2.2.1 h.2.2.2.2.2⟩))
      have hcv : QQ ⟨o, a, b, c⟩ out l t k i = qq ⟨o, a, b, c⟩ l q t := by simp [QQ, ho2, hqr]
      rw [hcv, hqr] at hfin
      have hqv : zq q := hrl.val q (List.mem_of_getElem? hq)
      have hS := fun X : AH => r9Next ⟨o, a, b, c⟩ (H.length + 3) cl l q v t hnx hrl.val hqv ht (by omega) (H ++ (J ++ X)) ((hM.app X).hl.rows (by rw [jI]; exact zi m3) (.inr rfl)) ((hM.app X).hl.own hv hq (.inr rfl))
      rw [hrl.len] at hS
      have hvc : v.cells = [v] := by
       rcases hM.hl.2 i v q hv hq with (⟨_, rfl⟩ | ⟨_, _, _, rfl⟩) | ⟨_, rfl, _⟩ <;> rfl
      simp only [AV.cells] at hvc
      have hJn : J ≠ [] := by rintro rfl; simp at hMl
      simp [f4, f6, f11, f14, h0', h1', ↓old h0', ↓old h1', hy, hyE, zG, m3, ↓old m3, hv, hvE, hcll, hlt, hvc]
      refine Ui (fun X => by
       have := hS ([.row true 2 [iv (0, 0)]] ++ X)
       simp [zG] at this ⊢
       exact this) ?_
      generalize qq ⟨o, a, b, c⟩ l q t = z at *
      simp
      refine zm [(4, 12), (8, 12), (9, 12), (10, 12), (11, 12)] (by rfl) (by simp [zl, zk, za.triv, za.wr, za.none, upTo, newAt, hJn]) ?_
      have hlF := hlF z
      have hM2 := hM2 z
      have hJl := hJl z
      simp
      simp only [XN] at hlF hM2 hJl
      generalize hJ2 : J ++ [zE.row true 2 [.agg [.int .i64 z.1, .int .i64 z.2]]] = J2 at *
      have h16 : J2[J.length]? = some (.row true 2 [.agg [.int .i64 z.1, .int .i64 z.2]]) := by rw [← hJ2]; simp
      have n3 := hM2.h3
      have hJ2n : J2 ≠ [] := by rintro rfl; simp at hJl
      rcases hlF with (hn | ⟨hn, _⟩) | ⟨bl, rfl, g2l0, g5l, gtl⟩
      ·obtain ⟨h0q, rfl⟩ := hn
       subst h0q
       simp [f11, f14, hcll, hlt, hv, hvE, n3, h16]
       refine bind_some (Uo (.inr rfl)) ?_
       simp [f11, f14, hcll, hlt, hv, hvE, n3, zi n3]
       refine zm [(4, 10), (5, 10), (9, 10)] (by rfl) (by simp [zl, zk, za.triv, za.wr, za.none, upTo, newAt]; omega) ?_
       simp [f14, w2]
       exact hfin _ _ _ _ (by simp; omega) (hM2.lN (i := i) (q := []) (p := z) (by omega)) _ ⟨by simp [f3], by simp [f4], by simp [f6], by simp [f9], by simp [f11], by simp [f13], by omega⟩ (by simp)
      ·cases hn
      ·have hbl := (gI.1 g2l0).1
       have g2l : J2[bl]? = some (zX q) := by rw [← hJ2]; exact zi g2l0
       have m4b : (J2.set bl (zX (q ++ [z])))[3]? = some (.row true 1 cl) := by rw [List.getElem?_set_ne (by omega)]; exact n3
       simp [f11, f14, hcll, hlt, hv, hvE, n3, h16]
       refine bind_some (Vh (by omega) (by simpa using g2l)) ?_
       simp [f11, f14, hcll, hlt, hv, hvE, m4b]
       refine zm [(4, 10), (5, 10), (9, 10)] (by rfl) (by simp [zl, zk, za.triv, za.wr, za.none, upTo, newAt]; omega) ?_
       simp [f14, w2]
       exact hfin _ _ _ _ (by simp; omega) (hM2.lR (i := i) (q := q) (p := z) g2l g5l gtl) _ ⟨by simp [f3], by simp [f4], by simp [f6], by simp [f9], by simp [f11], by simp [f13], by omega⟩ (by simp)
    ·have hin : i = T.L.length := by have : ¬ i < T.L.length := by simpa using hc
                                     omega
     subst hin
     have hJ5' : 5 ≤ J.length := by rcases hJ5 with h | h <;> omega
     simp
     refine zZ (SyO T x t order H k) (fun i => T.out.length - i) 0 ⟨⟨by simp [f3], by simp [f4], by simp [f6], by simp [f9], by simp [f11], by simp [f13], by omega⟩, by simp, by omega, J, tag, co, cl, rfl, hJ5', hM⟩ ?_
     clear f3 f4 f6 f9 f11 f13 f14 hM hJ5 hJ5' h0' hrl
     clear J tag co cl
     rintro i fr H1 ⟨⟨f3, f4, f6, f9, f11, f13, _⟩, f16, hi, J, tag, co, cl, rfl, hJ5, hM⟩
     have h0' := hM.h0
     simp only [zr] at h0'
     simp [f4, f16, h0']
     obtain ⟨e3, e4⟩ := j0 hT hx ht (k + 1)
     have hro := UC hT e3.val e2 i (by rw [← hT.len]; exact hi)
     refine zL (fun hc => ?_) (fun hc => ?_)
     ·have hltn : i < T.n := by simpa using hc
      have hlt : i < T.out.length := by rw [hT.len]; exact hltn
      obtain ⟨y, hy⟩ := zD hlt
      have hyE : ∀ h, T.out[i]'h = y := fun h => (gI.1 hy).2
      have hyl := hT.out y (List.mem_of_getElem? hy)
      have w2 : IntKind.i64.wrap ((i : Int) + 1) = ((i + 1 : Nat) : Int) := by rw [zj (by omega) (by omega)]; omega
      have hnext := Yt (l := (zH T x t (k + 1)).1) (out := (zH T x t k).2) (k := k) hy
      have hfin : ∀ (J' : AH) (tag' : Nat → Nat) (co' cl' : List AV), 5 ≤ J'.length → Zb T t H.length J' tag' co' cl' (j5 T (zH T x t (k + 1)).1 k (zH T x t k).2 (i + 1)) (zH T x t (k + 1)).1 → ∀ fr' : zx, gK H T.n T.L.length order k fr' → fr' 16 = .int .i64 (i + 1 : Nat) → Xt (SyO T x t order H k) (fun i => T.out.length - i) i fr' (H ++ J') :=
       fun J' tag' co' cl' h5 hM' fr' g1 g2 => ⟨i + 1, by show T.out.length - (i + 1) < T.out.length - i; omega, g1, g2, by omega, J', tag', co', cl', rfl, h5, hM'⟩
      generalize hL : (zH T x t (k + 1)).1 = l at *
      generalize hO : j5 T l k (zH T x t k).2 i = out at *
      rw [hnext] at hfin
      have hil : i < out.length := by rw [hro.len]; exact hltn
      obtain ⟨q, hq⟩ := zD hil
      have hqr : zu out (i : Int) = q := ZT hq
      have hqk : q.length = k + 1 := by have := hro.row i hltn; rw [hqr, if_neg (by omega)] at this; exact this
      obtain ⟨v, hv⟩ := zD (l := co) (i := i) (by rw [hM.ho.1]; exact hil)
      have hvE : ∀ h, co[i]'h = v := fun h => (gI.1 hv).2
      have hcol : co.length = T.n := by rw [hM.ho.1, hro.len]
      obtain ⟨r, hr⟩ := zD (l := l) (i := y) (by rw [e3.len]; exact hyl)
      have hrr : zu l (y : Int) = r := ZT hr
      have hrk : r.length = k + 1 := by have := e3.row y hyl; rw [hrr, if_neg (by omega)] at this; exact this
      obtain ⟨u, hu⟩ := zD (l := cl) (i := y) (by rw [hM.hl.1, e3.len]; exact hyl)
      have huE : ∀ h, cl[y]'h = u := fun h => (gI.1 hu).2
      have hcll : cl.length = T.L.length := by rw [hM.hl.1, e3.len]
      obtain ⟨z, hz⟩ := zD (l := r) (i := k) (by omega)
      have hzE : ∀ h, r[k]'h = z := fun h => (gI.1 hz).2
      have hzv : vB z = true := e3.val r (List.mem_of_getElem? hr) z (List.mem_of_getElem? hz)
      have hkk : (k : Int) < (k : Int) + 1 := by omega
      have hkn : k < k + 1 := by omega
      have hJn : J ≠ [] := by rintro rfl; simp at hJ5
      rw [hrr, hqr, show zf r k = z by simp [zf, hz]] at hfin
      have hoF := hM.ho.2 i v q hv hq
      have hlF := hM.hl.2 y u r hu hr
      have m2 := hM.h2
      have m3 := hM.h3
      rcases hlF with (⟨h0, _⟩ | ⟨h0, _⟩) | ⟨bl, hu', g2l, g5l, gtl⟩
      ·rw [h0] at hrk; simp at hrk
      ·cases h0
      subst hu'
      have g2l' := g2l
      have hbl := (gI.1 g2l).1
      simp only [zX] at g2l'
      rcases hoF with (⟨h0, _⟩ | ⟨_, a, h0, hv'⟩) | ⟨bo, hv', g2o, g5o, gto⟩
      ·rw [h0] at hqk; simp at hqk
      ·subst hv'
       subst h0
       simp [f4, f9, f11, f13, f16, h0', hy, hyE, qx, m2, m3, hv, hvE, hu, huE, hcll, hcol, hltn, hyl, g2l', hz, hzE, hrk, hkk, hkn, wk]
       refine zB (fun Hx => by simpa using zbx z 1 ((k + 1 : Nat) : Int) hzv (by omega) (by omega) Hx) ?_
       generalize jM z 1 (k + 1) = d at *
       simp
       refine bind_some app_new1 ?_
       simp [f9, f13, f16, hcol, hltn, hv, hvE, m2, zi m2]
       refine zm [(4, 23), (5, 23), (22, 23)] (by rfl) (by simp [zl, zk, za.triv, za.wr, za.none, upTo, newAt, hJn]; omega) ?_
       simp [f16, w2]
       exact hfin _ _ _ _ (by simp; omega) (hM.oN (i := i) (q := [a]) (p := d) hJ5) _ ⟨by simp [f3], by simp [f4], by simp [f6], by simp [f9], by simp [f11], by simp [f13], by omega⟩ (by simp)
      ·subst hv'
       have hne2 : bo ≠ bl := by rintro rfl; omega
       simp [f4, f9, f11, f13, f16, h0', hy, hyE, qx, m2, m3, hv, hvE, hu, huE, hcll, hcol, hltn, hyl, g2l', hz, hzE, hrk, hkk, hkn, wk]
       refine zB (fun Hx => by simpa using zbx z 1 ((k + 1 : Nat) : Int) hzv (by omega) (by omega) Hx) ?_
       generalize jM z 1 (k + 1) = d at *
       simp
       refine bind_some (Vh (by omega) (by simpa using g2o)) ?_
       have m2b : (J.set bo (zX (q ++ [d])))[2]? = some (.row true 1 co) := by rw [List.getElem?_set_ne (by omega)]; exact m2
       simp [f9, f13, f16, hcol, hltn, hv, hvE, m2b]
       refine zm [(4, 23), (5, 23), (22, 23)] (by rfl) (by simp [zl, zk, za.triv, za.wr, za.none, upTo, newAt, hJn]; omega) ?_
       simp [f16, w2]
       exact hfin _ _ _ _ (by simp; omega) (hM.oR (i := i) (q := q) (p := d) g2o g5o gto) _ ⟨by simp [f3], by simp [f4], by simp [f6], by simp [f9], by simp [f11], by simp [f13], by omega⟩ (by simp)
     ·have hin : i = T.out.length := by have : ¬ i < T.n := by simpa using hc
                                        rw [hT.len] at hi ⊢; omega
      subst hin
      simp [f13, wk]
      exact ⟨k + 1, by show order - (k + 1) < order - k; omega, ⟨by simp [f3], by simp [f4], by simp [f6], by simp [f9], by simp [f11], by simp, by omega⟩, J, tag, co, cl, rfl, hM⟩
   ·have hkn : k = order := by have : ¬ k < order := by simpa using hc
                               omega
    subst hkn
    obtain ⟨_, e4⟩ := j0 hT hx ht k
    have hcf : qw T x t k = (zH T x t k).2 := rfl
    rw [hcf] at g1 g2
    have hlen2 : ∀ q ∈ (zH T x t k).2, 2 ≤ q.length := fun q hq => by
     obtain ⟨j, hj⟩ := List.mem_iff_getElem?.1 hq
     have := e4.row j (by rw [← e4.len]; exact (gI.1 hj).1)
     rw [ZT hj, if_neg (by omega)] at this
     omega
    obtain ⟨σ, hσ⟩ := fam_fills hM.ho hM.h2 (by omega) hlen2 (by rw [e4.len]; exact hd) hlen g1 g2 (by rw [e4.len]; exact g3)
    rw [e4.len] at hσ
    simp [f9]
    exact ⟨_, _, σ, hσ, Zx (rs := [.tmp 8]) (vs := [.ref (H.length + 2) T.n]) (by rfl) (by simp [ze]) rfl⟩
theorem r9Coef' (T : Tp) (x : List I) (t : I) (order : Nat) (hT : z8 T) (hx : zq x) (hxn : x.length = T.n) (hn : 1 ≤ T.n) (ht : vB t = true) (ho : 1 ≤ order ∧ order ≤ 1000) (H0 X : AH) :
  zg E 126 [zr T, bx x, iv t, .int .i64 order] (H0 ++ (Qg T.n ++ X)) (.ret (.ref H0.length T.n)) (H0 ++ (qG H0.length (qw T x t order) ++ X)) := by
 have hl := Qv (order := order) hT hx ht
 have ha := zaH H0 X (qw T x t order)
 rw [hl] at ha
 refine r9Coef T x t order hT hx hxn hn ht ho _ _ H0.length (fun j hj => dead_at j hj) ha.1 (by simp [qG]) (fun j q hq => zaT hq) (fun c hc h => ?_)
 rcases Nat.lt_or_ge c H0.length with h3 | h3
 ·exact Wn h3
 ·exact W8 (by rw [jS, ZF, hl]) (by rw [jS, hl]; omega)
def LRm (l : List (List I)) (order : Nat) (H : AH) (i : Nat) (fr : zx) (H' : AH) : Prop :=
 fr 3 = .int .i64 order ∧ fr 9 = .ref H.length l.length ∧ fr 11 = .int .i64 i ∧ i ≤ l.length ∧
 ∃ J, H' = H ++ J ∧ J[0]? = some (.row true 1 (qC H.length l)) ∧ (∀ (j : Nat) q, l[j]? = some q → J[1 + j]? = some (zX q)) ∧ qr H J (fr 10) 2 (((l.take i).map fun s => zf s (order + 1)).map iv) (.slice [] true) ∧ ∀ c n, c ≤ l.length → fr 10 ≠ .ref (H.length + c) n
theorem r12Remainder (T : Tp) (b : List I) (t h : Int) (order : Nat) (hT : z8 T) (hb : zq b) (hbn : b.length = T.n) (hn : 1 ≤ T.n) (hh : 0 ≤ h ∧ h ≤ 1000000000) (ht : -1000000000 ≤ t ∧ t ≤ 1000000000) (ho : order ≤ 900) (H : AH) :
  zg E 127 [zr T, bx b, .agg [.int .i64 t, .int .i64 h], .int .i64 order] H (.ret (bx (j6 T b t h order))) H := by
 refine Yw (T.n + 1) zn zo Tryz.func127 rfl (by rfl) Tryz.ntmps127 (by kernel_rfl) (by simp) ?_
 rw [show List.replicate (T.n + 1) zE.dead = Qg T.n from rfl]
 have hsm := hT.small
 have htv : vB (t, t + h) = true := qA (by omega) (by omega) (by omega)
 have hS := r9Coef' T b (t, t + h) (order + 1) hT hb hbn hn htv (by omega)
 have hl := Qv (order := order + 1) hT hb htv
 have hrow := WG (order := order + 1) hT hb htv
 unfold j6
 generalize hc : qw T b (t, t + h) (order + 1) = l at *
 have w1 : IntKind.i64.wrap ((order : Int) + 1) = ((order + 1 : Nat) : Int) := by rw [zj (by omega) (by omega)]; omega
 have w2 : IntKind.i64.wrap (t + h) = t + h := zj (by omega) (by omega)
 simp [zr, w1, w2]
 refine zd (by
  have := hS H [.row true 3 [zr T], .row true 2 [.agg [.int .i64 t, .int .i64 h]]]
  simp [zr] at this ⊢
  exact this) ?_
 simp
 refine zZ (LRm l order H) (fun i => l.length - i) 0 ⟨by simp, by simp [hl], by simp, by omega, _, rfl, by simp [qG], fun j q hq => ?_, .inl ⟨by simp, by simp⟩, by simp⟩ ?_
 ·have := zaT (H0 := H) (X := [.row true 3 [.agg [.int .i64 T.n, .slice (T.L.map zG) false, qx T.out]], .row true 2 [.agg [.int .i64 t, .int .i64 h]]]) hq
  rw [Nat.add_assoc, jI] at this
  exact this
 rintro i fr H' ⟨g3, g9, g11, hi, J, rfl, hJ0, hJr, hacc, hne⟩
 have hJl := (gI.1 hJ0).1
 simp [g9, g11, hJ0, Jx]
 refine zL (fun hc => ?_) (fun hc => ?_)
 ·have hlt : i < l.length := by simpa using hc
  obtain ⟨q, hq⟩ := zD hlt
  have hql := (hrow q (List.mem_of_getElem? hq)).1
  obtain ⟨z, hz⟩ := zD (l := q) (i := order + 1) (by omega)
  have hzE : ∀ h, q[order + 1]'h = z := fun h => (gI.1 hz).2
  have hrf := YC (p := H.length) hq
  have hrE : ∀ h, (qC H.length l)[i]'h = .ref (H.length + 1 + i) q.length := fun h => (gI.1 hrf).2
  have hrow1 := hJr i q hq
  simp only [zX] at hrow1
  have hrowH : (H ++ J)[H.length + 1 + i]? = some (.row true 2 (q.map iv)) := by rw [Nat.add_assoc, jI]; exact hrow1
  have w3 : IntKind.i64.wrap ((i : Int) + 1) = ((i + 1 : Nat) : Int) := by rw [zj (by omega) (by omega)]; omega
  have hft : (l.take (i + 1)).map (fun s => zf s (order + 1)) = (l.take i).map (fun s => zf s (order + 1)) ++ [z] := by rw [List.take_add_one, hq]; simp [zf, hz]
  have hlt2 : order + 1 < q.length := by omega
  have hltI : (order : Int) + 1 < q.length := by omega
  have h0o : (0 : Int) ≤ (order : Int) + 1 := by omega
  obtain ⟨v', J2, hap, hacc', hk', hle, hnew⟩ := qr.push (T := zp) (t := 23) (e := 48) (x := .slice [iv z] true) (ys := [iv z]) hacc tab23 rfl tab48 rfl rfl (by simp [qo]) ⟨by decide, by simp⟩ (by simp; omega) (by simp; omega)
  simp [g3, g9, g11, hJ0, Jx, hlt, hrf, hrE, hrowH, hz, hzE, w1, hlt2, hltI, h0o]
  refine bind_some (by simpa using hap) ?_
  simp [g11, w3]
  refine ⟨i + 1, by show l.length - (i + 1) < l.length - i; omega, by simp [g3], by simp [g9], by simp, by omega, J2, rfl, hk' 0 _ hJ0 (fun n => hne 0 n (by omega)), fun j q hq => hk' (1 + j) _ (hJr j q hq) (fun n => hne (1 + j) n (by have := (gI.1 hq).1; omega)), by rw [hft]; simpa using hacc', ?_⟩
  intro c n hcl hv
  rcases hnew c n (by simpa using hv) with ⟨m, hm⟩ | hm
  ·exact hne c m hcl hm
  ·have : l.length < J.length := by
    cases hln : l.length with
    | zero => omega
    | succ k =>
     obtain ⟨q2, hq2⟩ := zD (l := l) (i := k) (by omega)
     have := (gI.1 (hJr k q2 hq2)).1
     omega
   omega
 ·have hi' : i = l.length := by have : ¬ i < l.length := by simpa using hc
                                omega
  subst hi'
  rw [List.take_length] at hacc
  simp
  exact ZO (t := 8) (by rfl) (by simp) hacc rfl (js _ _)
end Go.Proofs.YtkghjlgpmeibhaaGreatDoor.Arm

namespace Go.Arm
open Go.RowKit
theorem zg.deep0 {E : zW} {f : FuncId} {rest : List AV} {H H2 H' : AH} {e : VQ} {c : Nat} {wr : Bool} {xs xs' : List AV} (hc : H[c]? = some (.row wr 1 xs)) (hk : (jq H xs).2[c]? = some (.row wr 1 xs)) (hx : ∀ x ∈ xs, x.cells = [x]) (hx' : ∀ x ∈ (jq H xs).1, x.cells = [x])
  (he : (jq H xs).1 = xs') (hH : (jq H xs).2.set c (.row false 1 xs') = H2) (h : zg E f (.slice xs' false :: rest) H2 e H') : zg E f (.ref c xs.length :: rest) H e H' := by
 refine ⟨h.1, fun F n hF G w vs hI hv => ?_⟩
 obtain ⟨G1, e1, i1⟩ := deep_ok hI hc hk hx hx'
 rw [he] at i1
 have hlt : c < (jq H xs).2.length := (gI.1 hk).1
 obtain ⟨vs', hvs⟩ : ∃ l, vs.toList = l := ⟨_, rfl⟩
 rw [hvs] at hv
 cases vs' with
 | nil => have := hv.1; simp at this
 | cons v0 r0 =>
  obtain ⟨h1, h2⟩ := hv.uncons
  have hlen : xs'.length = xs.length := by rw [← he]; exact zae xs H
  obtain ⟨G2, e2, i2, r2⟩ := zbs i1 (h1.mono e1)
  have hc1 : Zs ((jq H xs).2.set c (.row wr 1 xs')) (.ref c xs.length) = (.slice xs' false, H2) := by
   simp only [Zs]
   rw [List.getElem?_set_self hlt]
   simp only
   rw [if_pos hlen, List.set_set, hH]
  rw [hc1] at i2 r2
  have e12 : zA G w G2 w := hI.trans e1 e2
  refine (h.2 F n hF G2 w vs i2 (by rw [hvs]; exact .cons r2 (h2.mono e12))).mono ?_
  rintro z w' ⟨G', e3, i3, hz⟩
  exact ⟨G', hI.trans e12 e3, i3, hz⟩
end Go.Arm

namespace Go.Proofs.YtkghjlgpmeibhaaGreatDoor.Arm
open Go.Arm Go.Pl
theorem refsN_refsF (p : Nat) (l : List (List I)) : qC p l = ZC (p + 1) l := by
 apply List.ext_getElem?
 intro j
 by_cases h : j < l.length
 ·rw [YC (List.getElem?_eq_getElem h), UI (List.getElem?_eq_getElem h)]
 ·rw [List.getElem?_eq_none (by rw [Jx]; omega), List.getElem?_eq_none (by rw [UH]; omega)]
theorem r9EvalRef (l : List (List I)) (h : I) (hl : ∀ s ∈ l, zq s ∧ s ≠ [] ∧ s.length ≤ 100000) (hn : l.length ≤ 1000) (hh : vB h = true) (H X : AH) :
  zg E 129 [.ref H.length l.length, iv h] (H ++ (qG H.length l ++ X)) (.ret (bx (ZE l h))) (H ++ (.row false 1 (l.map bx) :: (l.map jR ++ X))) := by
 have e0 : H ++ (qG H.length l ++ X) = (H ++ [.row true 1 (ZC (H.length + 1) l)]) ++ (l.map zX ++ X) := by unfold qG; rw [refsN_refsF]; simp
 have hA : (H ++ [zE.row true 1 (ZC (H.length + 1) l)]).length = H.length + 1 := by simp
 have hcv := zbe l (H ++ [.row true 1 (ZC (H.length + 1) l)]) X
 rw [hA] at hcv
 rw [e0]
 have hln : l.length = (ZC (H.length + 1) l).length := (UH l (H.length + 1)).symm
 have hg : ∀ Y : AH, (H ++ [zE.row true 1 (ZC (H.length + 1) l)] ++ Y)[H.length]? = some (.row true 1 (ZC (H.length + 1) l)) := fun Y => by simp
 have := (r9Eval l h hl hn hh (H ++ (.row false 1 (l.map bx) :: (l.map jR ++ X))))
 rw [hln]
 refine zg.deep0 (hg _) (by rw [hcv]; exact hg _) (fun x hx => ?_) (fun x hx => ?_) (by rw [hcv]) ?_ this
 ·obtain ⟨j, hj⟩ := List.mem_iff_getElem?.1 hx
  have hjl : j < l.length := by rw [hln]; exact (gI.1 hj).1
  have := UI (p := H.length + 1) (List.getElem?_eq_getElem hjl)
  rw [hj] at this; cases this; rfl
 ·rw [hcv] at hx
  obtain ⟨q, _, rfl⟩ := List.mem_map.1 hx; rfl
 ·rw [hcv]
  have := JX (H := H) (J := .row true 1 (ZC (H.length + 1) l) :: (l.map jR ++ X)) (b := 0) (y := .row false 1 (l.map bx))
  simp at this ⊢
def Qf (p : Nat) (l : List (List I)) (i : Nat) : List AV := (List.range l.length).map fun j : Nat => .ref (p + 1 + j) (if j < i then (zu l (j : Int)).length + 1 else (zu l (j : Int)).length)
theorem Y9 (p : Nat) (l : List (List I)) (i : Nat) : (Qf p l i).length = l.length := by simp [Qf]
theorem Ua {p : Nat} {l : List (List I)} {i j : Nat} (h : j < l.length) : (Qf p l i)[j]? = some (.ref (p + 1 + j) (if j < i then (zu l (j : Int)).length + 1 else (zu l (j : Int)).length)) := by
 unfold Qf; rw [List.getElem?_map, List.getElem?_range h]; rfl
theorem extR_set {p : Nat} {l : List (List I)} {i : Nat} (h : i < l.length) : (Qf p l i).set i (.ref (p + 1 + i) ((zu l (i : Int)).length + 1)) = Qf p l (i + 1) := by
 apply List.ext_getElem?
 intro j
 by_cases hj : j < l.length
 ·by_cases hij : i = j
  ·subst hij; rw [List.getElem?_set_self (by rw [Y9]; exact h), Ua h, if_pos (by omega)]
  ·rw [List.getElem?_set_ne hij, Ua hj, Ua hj]
   by_cases h1 : j < i
   ·rw [if_pos h1, if_pos (by omega)]
   ·rw [if_neg h1, if_neg (by omega)]
 ·rw [List.getElem?_eq_none (by rw [List.length_set, Y9]; omega), List.getElem?_eq_none (by rw [Y9]; omega)]
theorem extR_zero (p : Nat) (l : List (List I)) : Qf p l 0 = qC p l := by
 apply List.ext_getElem?
 intro j
 by_cases h : j < l.length
 ·rw [Ua h, if_neg (by omega), YC (List.getElem?_eq_getElem h), ZT (List.getElem?_eq_getElem h)]
 ·rw [List.getElem?_eq_none (by rw [Y9]; omega), List.getElem?_eq_none (by rw [Jx]; omega)]
theorem extR_all (p : Nat) (l : List (List I)) (r : List I) : Qf p l l.length = qC p (qW l r) := by
 apply List.ext_getElem?
 intro j
 by_cases h : j < l.length
 ·rw [Ua h, if_pos h, YC (zaE h)]; simp
 ·rw [List.getElem?_eq_none (by rw [Y9]; omega), List.getElem?_eq_none (by rw [Jx, VS]; omega)]
def mR (H X : AH) (l : List (List I)) (r : List I) (i k : Nat) : AH := H ++ (.row true 1 (Qf H.length l k) :: (Qt l r i ++ X))
section
variable {H X : AH} {l : List (List I)} {r : List I} {i k : Nat}
theorem mR_at0 : (mR H X l r i k)[H.length]? = some (.row true 1 (Qf H.length l k)) := by
 have := jI (H := H) (J := .row true 1 (Qf H.length l k) :: (Qt l r i ++ X)) (b := 0)
 exact this
theorem mR_row {j : Nat} (h : j < l.length) : (mR H X l r i k)[H.length + 1 + j]? = (Qt l r i)[j]? := by
 unfold mR
 rw [Nat.add_assoc, jI, Nat.add_comm 1 j, List.getElem?_cons_succ, List.getElem?_append_left (by rw [Qs]; exact h)]
theorem mR_set (h : i < l.length) : (mR H X l r i k).set (H.length + 1 + i) (zX (zu l (i : Int) ++ [zf r i])) = mR H X l r (i + 1) k := by
 unfold mR
 rw [Nat.add_assoc, JX, Nat.add_comm 1 i, List.set_cons_succ, List.set_append_left _ _ (by rw [Qs]; exact h), extB_set h]
theorem mR_set0 (h : k < l.length) : (mR H X l r i k).set H.length (.row true 1 ((Qf H.length l k).set k (.ref (H.length + 1 + k) ((zu l (k : Int)).length + 1)))) = mR H X l r i (k + 1) := by
 unfold mR
 have := JX (H := H) (J := .row true 1 (Qf H.length l k) :: (Qt l r i ++ X)) (b := 0) (y := .row true 1 ((Qf H.length l k).set k (.ref (H.length + 1 + k) ((zu l (k : Int)).length + 1))))
 rw [Nat.add_zero] at this
 rw [this, extR_set h]; rfl
theorem mR_start : mR H X l r 0 0 = H ++ (qG H.length l ++ X) := by unfold mR qG; rw [extB_zero, extR_zero]; rfl
theorem mR_end : mR H X l r l.length l.length = H ++ (qG H.length (qW l r) ++ X) := by unfold mR qG; rw [extB_all, extR_all _ _ r]; rfl
end
def LEn (H X : AH) (b : List I) (part : AV) (l : List (List I)) (r : List I) (i : Nat) (fr : zx) (H' : AH) : Prop :=
 fr 2 = bx b ∧ fr 7 = .ptr (H.length + (l.length + 1 + 1)) 1 0 0 ∧ fr 9 = .ref H.length l.length ∧ fr 10 = bx r ∧ fr 11 = .int .i64 i ∧ i ≤ l.length ∧ H' = mR H X l r i i
theorem r12EnclosureAt (T : Tp) (x b : List I) (t h : Int) (part : I) (order : Nat) (hT : z8 T) (hx : zq x) (hxn : x.length = T.n) (hn : 1 ≤ T.n) (hb : zq b) (hbn : b.length = T.n) (hh : 0 ≤ h ∧ h ≤ 1000000000) (ht : -1000000000 ≤ t ∧ t ≤ 1000000000) (hp : vB part = true) (ho : 1 ≤ order ∧ order ≤ 900) (H : AH) :
  zg E 77 [zr T, bx x, bx b, .agg [.int .i64 t, .int .i64 h, .int .i64 part.1, .int .i64 part.2, .int .i64 order]] H (.ret (bx (qM T x b t h part order))) H := by
 refine Yw (T.n + 1) zn zo Tryz.func77 rfl (by rfl) Tryz.ntmps77 (by kernel_rfl) (by simp) ?_
 rw [show List.replicate (T.n + 1) zE.dead = Qg T.n from rfl]
 have hsm := hT.small
 have htv : vB (t, t + h) = true := qA (by omega) (by omega) (by omega)
 have htp : pt t = (t, t) := zcU (by omega)
 have htv2 : vB (t, t) = true := qA (by omega) (by omega) (by omega)
 have hR := r12Remainder T b t h order hT hb hbn hn hh ht (by omega)
 have hC := r9Coef' T x (t, t) order hT hx hxn hn htv2 (by omega)
 have hl := Qv (order := order) hT hx htv2
 have hrows := WG (order := order) hT hx htv2
 have hrv := za8 (order := order) hT hb htv
 have hrl := remS_len (order := order) hT hb htv
 unfold qM
 generalize qw T x (t, t) order = l at *
 generalize j6 T b t h order = r at *
 simp [zr]
 refine zB (fun Hx => XD t Hx) ?_
 rw [htp]
 simp
 refine za1 (r := .ref H.length T.n) (K := H ++ (qG H.length l ++ [.row true 3 [zr T], .row true 5 [.agg [.int .i64 t, .int .i64 h, .int .i64 part.1, .int .i64 part.2, .int .i64 order]]])) (by simp [jS, ZF, hl]) (fun Y => by
  have := hC H ([.row true 3 [zr T], .row true 5 [.agg [.int .i64 t, .int .i64 h, .int .i64 part.1, .int .i64 part.2, .int .i64 order]]] ++ Y)
  simp [zr] at this ⊢
  exact this) ?_
 simp
 refine zm [(0, 7), (3, 7), (6, 7)] (by rfl) (by simp [zl, zk, za.triv, za.wr, za.none, upTo, newAt, ZF, jS, hl]) ?_
 simp [ZF, jS, hl, zr]
 refine zd (by simpa [zr] using hR _) ?_
 simp
 obtain ⟨X, hX⟩ : ∃ X : AH, X = [.row true 3 [.agg [.int .i64 T.n, .slice (T.L.map zG) false, qx T.out]], .row true 5 [.agg [.int .i64 t, .int .i64 h, .int .i64 part.1, .int .i64 part.2, .int .i64 order]]] := ⟨_, rfl⟩
 have hX1 : X[1]? = some (.row true 5 [.agg [.int .i64 t, .int .i64 h, .int .i64 part.1, .int .i64 part.2, .int .i64 order]]) := by rw [hX]; rfl
 rw [← hX]
 refine zZ (LEn H X b (iv part) l r) (fun i => l.length - i) 0 ⟨by simp, by simp [hl], by simp [hl], by simp, by simp, by omega, by rw [mR_start]⟩ ?_
 rintro i fr H1 ⟨g2, g7, g9, g10, g11, hi, rfl⟩
 have a0 := mR_at0 (H := H) (X := X) (l := l) (r := r) (i := i) (k := i)
 have hll := Y9 H.length l i
 simp [g9, g11, a0, hll]
 refine zL (fun hc => ?_) (fun hc => ?_)
 ·have hlt : i < l.length := by simpa using hc
  obtain ⟨q, hqi⟩ := zD hlt
  obtain ⟨z, hz⟩ := zD (l := r) (i := i) (by omega)
  have hzE : ∀ h, r[i]'h = z := fun h => (gI.1 hz).2
  have hrow : zu l (i : Int) = q := ZT hqi
  have hza : zf r i = z := by simp [zf, hz]
  have hrg := Ua (p := H.length) (i := i) hlt
  rw [if_neg (by omega), hrow] at hrg
  have hrE : ∀ h, (Qf H.length l i)[i]'h = .ref (H.length + 1 + i) q.length := fun h => (gI.1 hrg).2
  have w2 : IntKind.i64.wrap ((i : Int) + 1) = ((i + 1 : Nat) : Int) := by rw [zj (by omega) (by omega)]; omega
  have a1 := mR_row (H := H) (X := X) (l := l) (r := r) (i := i) (k := i) hlt
  rw [XX hlt, if_neg (by omega), hrow] at a1
  have a3 := mR_set (H := H) (X := X) (l := l) (r := r) (i := i) (k := i) hlt
  rw [hrow, hza] at a3
  have a4 := mR_at0 (H := H) (X := X) (l := l) (r := r) (i := i + 1) (k := i)
  have a5 := mR_set0 (H := H) (X := X) (l := l) (r := r) (i := i + 1) (k := i) hlt
  rw [hrow] at a5
  have hfin : ∀ fr' : zx, fr' 2 = bx b → fr' 7 = .ptr (H.length + (l.length + 1 + 1)) 1 0 0 → fr' 9 = .ref H.length l.length → fr' 10 = bx r → fr' 11 = .int .i64 (i + 1 : Nat) → Xt (LEn H X b (iv part) l r) (fun i => l.length - i) i fr' (mR H X l r (i + 1) (i + 1)) :=
   fun fr' h1 h2 h3 h4 h5 => ⟨i + 1, by show l.length - (i + 1) < l.length - i; omega, h1, h2, h3, h4, h5, by omega, rfl⟩
  rw [← a5] at hfin
  have hql := (hrows q (List.mem_of_getElem? hqi)).1
  have hirl : i < r.length := by omega
  generalize mR H X l r (i + 1) i = M1 at *
  generalize mR H X l r i i = M2 at *
  generalize Qf H.length l i = C at *
  simp [g9, g10, g11, a0, hll, hlt, hrg, hrE, bx, hz, hzE, hirl]
  refine bind_some (Vh (by omega) a1) ?_
  rw [a3]
  simp [g9, g11, a4, hll, hlt, hrg, hrE]
  refine zm [(4, 13), (5, 13), (12, 13)] (by rfl) (by simp [zl, zk, za.triv, za.wr, za.none, upTo, newAt]; omega) ?_
  simp [g11, w2]
  exact hfin _ (by simp [g2]) (by simp [g7]) (by simp [g9]) (by simp [g10, bx]) (by simp)
 ·have hi' : i = l.length := by have : ¬ i < l.length := by simpa using hc
                                omega
  subst hi'
  rw [mR_end] at a0 ⊢
  have hw1 := zam hrows hrv
  have hw2 := VS l r
  generalize hw : qW l r = l' at *
  have hE := r9EvalRef l' part (fun q hq => ⟨(hw1 q hq).2, by intro h; have := (hw1 q hq).1; rw [h] at this; simp at this, by rw [(hw1 q hq).1]; omega⟩) (by omega) hp H X
  have hel := zbG l' part
  rw [hw2] at hE
  generalize ZE l' part = e at *
  have hXg : (H ++ (qG H.length l' ++ X))[H.length + (l.length + 1 + 1)]? = some (.row true 5 [.agg [.int .i64 t, .int .i64 h, .int .i64 part.1, .int .i64 part.2, .int .i64 order]]) := by
   rw [jI, List.getElem?_append_right (by rw [jS]; omega), jS, hw2, Nat.add_sub_cancel_left]; exact hX1
  generalize H ++ (qG H.length l' ++ X) = M3 at *
  simp [g2, g7, g9, hXg]
  refine zd (by simpa using hE) ?_
  simp [g2]
  refine zd (by simpa using r12Restricted e b (by omega) (by omega) _) ?_
  simp
  exact zv (rs := [.tmp 8]) (by rfl) (by simp [ze]) (by simp only [bx, noF, js])
theorem r12IntervalStep (T : Tp) (x : List I) (t h : Int) (order : Nat) (hT : z8 T) (hx : zq x) (hxn : x.length = T.n) (hn : 1 ≤ T.n) (hh : 0 ≤ h ∧ h ≤ 1000000000) (ht : -1000000000 ≤ t ∧ t ≤ 1000000000) (ho : 1 ≤ order ∧ order ≤ 900) (H : AH) :
  zg E 55 [zr T, bx x, .agg [.int .i64 t, .int .i64 h], .int .i64 order] H (.ret (UE (QG T x t h order))) H := by
 refine zt zn zo Tryz.func55 rfl (by rfl) Tryz.ntmps55 (by kernel_rfl) (by simp) ?_
 have hsm := hT.small
 have hE := r11Enclose T x t h hT hx hxn hh ht
 unfold QG
 cases hr : Qu T x t h with
 | none =>
  rw [hr] at hE
  simp [zr]
  refine zd (by simpa [zr] using hE _) ?_
  simp [encA]
  exact ⟨[Qx, .bool false], [Qx, .bool false], by simp [show (Tryz.f55).results.toList = [.cell 8 37, .tmp 9] from rfl, ze, Qx], .drop (by simp [zh, noF, Qx]), rfl⟩
 | some b =>
  rw [hr] at hE
  obtain ⟨hbv, hbl⟩ := enclS_ok hx hr
  have hp1 : vB (0, h) = true := qA (by omega) (by omega) (by omega)
  have hp2 : vB (h, h) = true := qA (by omega) (by omega) (by omega)
  have hph : pt h = (h, h) := zcU (by omega)
  have k1 := enclAt_ok (order := order) hT hx hbv hh ht hp1
  have k2 := enclAt_ok (order := order) hT hx hbv hh ht hp2
  have hA := r12EnclosureAt T x b t h (0, h) order hT hx hxn hn hbv (by omega) hh ht hp1 ho
  have hB := r12EnclosureAt T x b t h (h, h) order hT hx hxn hn hbv (by omega) hh ht hp2 ho
  simp only
  generalize qM T x b t h (0, h) order = A at *
  generalize qM T x b t h (h, h) order = B at *
  simp [zr]
  refine zd (by simpa [zr] using hE _) ?_
  simp [encA]
  refine zd (by simpa [zr] using hA _) ?_
  simp
  refine zB (fun Hx => XD h Hx) ?_
  rw [hph]
  simp
  refine zB (fun Hx => by simpa [zr] using hB Hx) ?_
  simp
  refine zm [] (by rfl) (by simp [zl, zk, za.triv, za.wr, za.none, upTo, newAt]) ?_
  simp
  refine zd (by simpa using r12Unbounded A (by omega) _) ?_
  simp
  cases m1 : Zn A with
  | false =>
   simp
   exact ⟨[Qx, .bool false], [Qx, .bool false], by simp [show (Tryz.f55).results.toList = [.cell 8 37, .tmp 9] from rfl, ze, Qx], .drop (by simp [zh, noF, Qx]), rfl⟩
  | true =>
   simp
   refine zd (by simpa using r12Unbounded B (by omega) _) ?_
   simp
   cases m2 : Zn B with
   | false =>
    simp
    exact ⟨[Qx, .bool false], [Qx, .bool false], by simp [show (Tryz.f55).results.toList = [.cell 8 37, .tmp 9] from rfl, ze, Qx], .drop (by simp [zh, noF, Qx]), rfl⟩
   | true =>
    simp [bx]
    exact ⟨[JW ⟨t, h, x, b, A, B⟩, .bool true], [JW ⟨t, h, x, b, A, B⟩, .bool true], by simp [show (Tryz.f55).results.toList = [.cell 8 37, .tmp 9] from rfl, ze, JW, bx], .drop (by simp only [zh, noF, JW, bx, js, Bool.and_self]), rfl⟩
def mx (A : List (List I)) : AV := .slice (A.map bx) false
def VI (ks : List Nat) : AV := .agg [.int .i64 ((ks[0]?).getD 0 : Nat), .int .i64 ((ks[1]?).getD 0 : Nat)]
def LCm (a : Ex) (r : List Nd) (l : List zT) (H : AH) (i : Nat) (fr : zx) (H' : AH) : Prop :=
 fr 0 = xs (z3 ((zz a).drop i) ++ r) ∧ fr 1 = lA (j2 ((zz a).take i) l).1 ∧ fr 7 = .ptr H.length 1 0 0 ∧ fr 8 = .ptr (H.length + 1) 1 0 0 ∧ fr 9 = .ptr (H.length + 2) 1 0 0 ∧ fr 10 = .int .i64 i ∧ i ≤ (zz a).length ∧
 H' = H ++ [.row true 4 [nd (zM a)], .row true 5 [zG ⟨(zM a).op, 0, 0, (0, 0)⟩], .row true 2 [VI (j2 ((zz a).take i) l).2]]
theorem zby : ∀ (n : Nat) (a : Ex) (r : List Nd) (l : List zT), sz a ≤ n → sz a + r.length ≤ 1000000 → l.length + sz a ≤ 100000 → ∀ H, zg E 59 [xs (zb a ++ r), lA l] H (.ret (.tuple [lA (qc a l).1, .int .i64 (qc a l).2, xs r])) H
 | 0, a, r, l, hn, hl, hll, H => by have := Jd a; omega
 | n + 1, a, r, l, hn, hl, hll, H => by
  refine zt zn zo Tryz.func59 rfl (by rfl) Tryz.ntmps59 (by kernel_rfl) (by simp) ?_
  have hp := Jd a
  have hget : (zb a ++ r)[0]? = some (zM a) := by rw [QW]; rfl
  have hmap : ((zb a ++ r).map nd)[0]? = some (nd (zM a)) := by rw [List.getElem?_map, hget]; rfl
  have hmapE : ∀ h, ((zb a ++ r).map nd)[0]'h = nd (zM a) := fun h => (gI.1 hmap).2
  have hlen : (zb a ++ r).length = sz a + r.length := by simp [sz]
  have hk := U5 a
  have har := zbf a
  have hsk := sz_kids a
  have hd1 : (zb a ++ r).drop 1 = z3 (zz a) ++ r := by rw [QW]; simp
  have ih : ∀ (k : Ex) (i : Nat) (r' : List Nd) (l' : List zT), (zz a)[i]? = some k → sz k + r'.length ≤ 1000000 → l'.length + sz k ≤ 100000 → ∀ H, zg E 59 [xs (zb k ++ r'), lA l'] H (.ret (.tuple [lA (qc k l').1, .int .i64 (qc k l').2, xs r'])) H := fun k i r' l' hi hb hb2 H =>
   zby n k r' l' (by have := U6 hi; omega) hb hb2 H
  unfold xs
  generalize hL : zb a ++ r = L at *
  simp [hmap, hmapE]
  refine zm [(9, 12), (10, 13), (11, 14)] (by rfl) (by simp [zl, zk, za.triv, za.wr, za.none, upTo, newAt]) ?_
  simp
  refine ZQ (UB fun _ => rfl) ?_
  refine ZQ (by omega) ?_
  have htail : (List.take L.length (L.map nd)).tail = (z3 (zz a) ++ r).map nd := by rw [List.take_of_length_le (by simp), ← List.drop_one, ← List.map_drop, hd1]
  rw [htail]
  simp
  refine zZ (LCm a r l H) (fun i => (zz a).length - i) 0 ⟨by simp [xs], by simp [j2], by simp, by simp, by simp, by simp, by omega, by simp [zG, VI, j2, nd]⟩ ?_
  rintro i fr H' ⟨g0, g1, g7, g8, g9, g10, hi, rfl⟩
  simp [g7, g10, nd]
  refine zd (r8Arity _ _) ?_
  rw [har]
  simp [g10]
  refine zL (fun hc => ?_) (fun hc => ?_)
  ·have hlt : i < (zz a).length := by simpa using hc
   obtain ⟨k, hki⟩ := zD hlt
   have hd := serL_drop hki
   have htk : (zz a).take (i + 1) = (zz a).take i ++ [k] := by rw [List.take_add_one, hki]; rfl
   have w2 : IntKind.i64.wrap ((i : Int) + 1) = ((i + 1 : Nat) : Int) := by rw [zj (by omega) (by omega)]; omega
   have hcl := zcm ((zz a).take i) l
   have hsl : (z3 ((zz a).take i)).length + (zb k).length + (z3 ((zz a).drop (i + 1))).length ≤ sz a := by
    have h1 := congrArg List.length (za6 (zz a) i)
    rw [hd] at h1
    simp only [List.length_append] at h1
    omega
   have hszk : sz k = (zb k).length := rfl
   simp [g0, g1, g10]
   have hS := ih k i (z3 ((zz a).drop (i + 1)) ++ r) (j2 ((zz a).take i) l).1 hki (by simp only [List.length_append]; omega) (by omega)
   rw [← List.append_assoc, ← hd] at hS
   have hsn := cmpK_snoc ((zz a).take i) k l
   have hql : (j2 ((zz a).take i) l).2.length = i := by rw [hcl.2]; simp; omega
   rw [← htk] at hsn
   refine zd (hS _) ?_
   have wr1 : IntKind.i64.wrap 1 = 1 := zj (by decide) (by decide)
   have wr2 : IntKind.i64.wrap 2 = 2 := zj (by decide) (by decide)
   have hi01 : i = 0 ∨ i = 1 := by omega
   rcases hi01 with rfl | rfl
   ·simp only [List.take_zero] at hsn hql ⊢
    simp [g9, g10, VI, j2, wr1]
    refine ⟨1, by show (zz a).length - 1 < (zz a).length - 0; omega, by simp [xs], by simp [hsn, j2], by simp [g7], by simp [g8], by simp [g9], by simp, by omega, ?_⟩
    simp [hsn, j2, VI]
   ·generalize j2 ((zz a).take 1) l = q at *
    obtain ⟨q1, q2⟩ := q
    simp only at hql hsn ⊢
    obtain ⟨k0, rfl⟩ : ∃ k0, q2 = [k0] := by
     match q2, hql with
     | [k0], _ => exact ⟨k0, rfl⟩
    simp [g9, g10, VI, wr2]
    refine ⟨2, by show (zz a).length - 2 < (zz a).length - 1; omega, by simp [xs], by simp [hsn], by simp [g7], by simp [g8], by simp [g9], by simp, by omega, ?_⟩
    simp [hsn, VI]
  ·have hi' : i = (zz a).length := by have : ¬ i < (zz a).length := by simpa using hc
                                      omega
   subst hi'
   rw [List.take_length] at g1
   rw [List.drop_length] at g0
   have hce := zcL a l
   have hcl := zcm (zz a) l
   simp only [List.take_length]
   generalize j2 (zz a) l = q at *
   obtain ⟨q1, q2⟩ := q
   simp only at hce hcl g1 ⊢
   have hq1 : q1.length ≤ 100000 := by omega
   have hfin : ∀ (fr : zx) (J : AH), fr 0 = xs r → fr 4 = lA (qS q1 (Z9 a q2)).1 → fr 5 = .int .i64 (qS q1 (Z9 a q2)).2 → fr 6 = xs r →
     jd E Tryz.f59 H (.ret (.tuple [lA (qc a l).1, .int .i64 (qc a l).2, xs r])) H .ret fr (H ++ J) := by
    intro fr J h0 h4 h5 h6
    rw [hce]
    have hsl : lA (qS q1 (Z9 a q2)).1 = .slice ((qS q1 (Z9 a q2)).1.map zG) false := by unfold lA; rw [if_neg (zch _ _)]
    rw [hsl] at h4 ⊢
    exact qm (J := J) (J' := J) (rs := [.tmp 4, .tmp 5, .tmp 6]) (vs := [.slice ((qS q1 (Z9 a q2)).1.map zG) false, .int .i64 (qS q1 (Z9 a q2)).2, xs r]) (vs' := [.slice ((qS q1 (Z9 a q2)).1.map zG) false, .int .i64 (qS q1 (Z9 a q2)).2, xs r]) (by rfl) (by simp [ze, h4, h5, h6]) (by simp [xs]) (by simp [zh, noF, zbn, xs, jL, nd]) rfl
   have hE : ∀ v, v = zG (Z9 a q2) → ∀ H, zg E 105 ([lA q1, v] ++ []) H (.ret (.tuple [lA (qS q1 (Z9 a q2)).1, .int .i64 (qS q1 (Z9 a q2)).2])) H := fun v hv H => by subst hv; exact r8Emit q1 (Z9 a q2) hq1 H
   by_cases o1 : (zM a).op = 1
   ·simp [g1, g7, g8, g9, VI, zG, o1]
    refine zd (hE _ ?_ _) ?_
    ·simp [zG, Z9, o1]
    simp [g0]
    exact hfin _ _ (by simp [g0, z3, xs]) (by simp) (by simp) (by simp [g0, z3, xs])
   ·by_cases o2 : (zM a).op = 2
    ·simp [g1, g7, g8, g9, VI, zG, o1, o2]
     refine zd (hE _ ?_ _) ?_
     ·simp [zG, Z9, o1, o2]
     simp [g0]
     exact hfin _ _ (by simp [g0, z3, xs]) (by simp) (by simp) (by simp [g0, z3, xs])
    ·have o1' : ((zM a).op == 1) = false := by simp [o1]
     have o2' : ((zM a).op == 2) = false := by simp [o2]
     simp [g1, g7, g8, g9, VI, zG, o1', o2']
     refine zd (hE _ ?_ _) ?_
     ·simp [zG, Z9, o1, o2]
     simp [g0]
     exact hfin _ _ (by simp [g0, z3, xs]) (by simp) (by simp) (by simp [g0, z3, xs])
theorem zaM : ∀ (F : List Ex) (e : Ex) (s : List zT × List Nat), jf (F ++ [e]) s = ((qc e (jf F s).1).1, (jf F s).2 ++ [(qc e (jf F s).1).2])
 | [], e, s => rfl
 | a :: F, e, s => by simp only [List.cons_append, jf, zaM F e]
theorem cmpAll_len : ∀ (F : List Ex) (s : List zT × List Nat), (jf F s).1.length ≤ s.1.length + (F.map sz).sum ∧ (jf F s).2.length = s.2.length + F.length
 | [], s => by simp [jf]
 | e :: r, s => by
  have h1 := WH e s.1
  have h2 := cmpAll_len r ((qc e s.1).1, s.2 ++ [(qc e s.1).2])
  simp only [jf, List.map_cons, List.sum_cons, List.length_append, List.length_cons, List.length_nil] at h2 ⊢
  omega
theorem cmpS_ne (e : Ex) (l : List zT) : (qc e l).1 ≠ [] := by rw [zcL]; exact zch _ _
theorem zcY (e : Ex) (l : List zT) : lA (qc e l).1 = .slice ((qc e l).1.map zG) false := by unfold lA; rw [if_neg (cmpS_ne _ _)]
def Xg (s : Jr) (q : List zT × List Nat) (o : AV) : AV := .agg [.int .i64 s.f.length, lA q.1, o]
def LCp (s : Jr) (H : AH) (i : Nat) (fr : zx) (H' : AH) : Prop :=
 fr 1 = .ptr H.length 1 0 0 ∧ fr 2 = .ptr (H.length + 1) 1 0 0 ∧ fr 3 = .ptr (H.length + 2) 1 0 0 ∧ fr 4 = .int .i64 i ∧ i ≤ s.f.length ∧
 ((i = 0 ∧ H' = H ++ [.row true 2 [z5 s], .row true 3 [.agg [.int .i64 0, .nilslice, .nilslice]], .row true 3 [Xg s ([], []) .nilslice]]) ∨
  (0 < i ∧ H' = H ++ [.row true 2 [z5 s], .row true 3 [.agg [.int .i64 0, .nilslice, .nilslice]], .row true 3 [Xg s (jf (s.f.take i) ([], [])) (.ref (H.length + 3) i)], .row true 1 ((jf (s.f.take i) ([], [])).2.map fun k : Nat => .int .i64 (k : Int))]))
theorem zbz (s : Jr) (hn : 0 < s.f.length ∧ s.f.length ≤ 6) (hf : ∀ e ∈ s.f, sz e ≤ 31) (H : AH) : zg E 17 [z5 s] H (.ret (zr (Uh s.f))) H := by
 refine zt zn zo Tryz.func17 rfl (by rfl) Tryz.ntmps17 (by kernel_rfl) (by simp) ?_
 simp [z5]
 refine zZ (LCp s H) (fun i => s.f.length - i) 0 ⟨by simp, by simp, by simp, by simp, by omega, .inl ⟨rfl, by simp [z5, Xg, lA]⟩⟩ ?_
 rintro i fr H' ⟨g1, g2, g3, g4, hi, hmem⟩
 have hsum : ∀ j, ((s.f.take j).map sz).sum ≤ 31 * j := by
  intro j
  have : ∀ (l : List Ex), (∀ e ∈ l, sz e ≤ 31) → (l.map sz).sum ≤ 31 * l.length := by
   intro l
   induction l with
   | nil => intro _; simp
   | cons a r ih => intro h; have := ih fun e he => h e (by simp [he]); have := h a (by simp); simp; omega
  have h1 := this (s.f.take j) fun e he => hf e (List.mem_of_mem_take he)
  have h2 : (s.f.take j).length ≤ j := by simp; omega
  omega
 have hcl := cmpAll_len (s.f.take i) ([], [])
 have hsi := hsum i
 simp only [List.length_nil, Nat.zero_add] at hcl
 rcases hmem with ⟨rfl, rfl⟩ | ⟨hpos, rfl⟩
 ·obtain ⟨e, he⟩ := zD (l := s.f) (i := 0) hn.1
  have heE : ∀ h, s.f[0]'h = e := fun h => (gI.1 he).2
  have hft : s.f.take 1 = [e] := by rw [List.take_add_one, he]; rfl
  have hc0 : (decide ((0 : Int) < (s.f.length : Int))) = true := by simp; omega
  have hS := zby (sz e) e [] [] (Nat.le_refl _) (by have := hf e (List.mem_of_getElem? he); simp; omega) (by have := hf e (List.mem_of_getElem? he); simp; omega)
  rw [List.append_nil, zcY] at hS
  have hcf : jf [e] ([], []) = ((qc e []).1, [(qc e []).2]) := rfl
  have wr1 : IntKind.i64.wrap 1 = 1 := zj (by decide) (by decide)
  simp [g1, g3, g4, z5, hn.1, he, heE, Xg, lA, xs]
  refine zB (fun Hx => by simpa [xs, show lA [] = AV.nilslice from rfl] using hS Hx) ?_
  simp
  refine zm [] (by rfl) (by simp [zl, zk, za.triv, za.wr, za.none, upTo, newAt]) ?_
  simp [g3]
  refine bind_some (WN (x := .int .i64 (qc e []).2) tab43 rfl tab3 rfl (by simp [qo]) rfl (by decide)) ?_
  simp [g3, g4, wr1]
  refine ⟨1, by show s.f.length - 1 < s.f.length - 0; omega, by simp [g1], by simp [g2], by simp [g3], by simp, by omega, .inr ⟨by decide, ?_⟩⟩
  rw [hft, hcf]
  simp [z5, Xg, zcY, xs]
 ·simp [g1, g3, g4, z5, Xg]
  refine zL (fun hc => ?_) (fun hc => ?_)
  ·have hlt : i < s.f.length := by simpa using hc
   obtain ⟨e, he⟩ := zD hlt
   have heE : ∀ h, s.f[i]'h = e := fun h => (gI.1 he).2
   have hft : s.f.take (i + 1) = s.f.take i ++ [e] := by rw [List.take_add_one, he]; rfl
   have hsz := hf e (List.mem_of_getElem? he)
   have w2 : IntKind.i64.wrap ((i : Int) + 1) = ((i + 1 : Nat) : Int) := by rw [zj (by omega) (by omega)]; omega
   have hsn := zaM (s.f.take i) e ([], [])
   rw [← hft] at hsn
   have hq2 : (jf (s.f.take i) ([], [])).2.length = i := by rw [hcl.2]; simp; omega
   generalize jf (s.f.take i) ([], []) = q at *
   have hS := zby (sz e) e [] q.1 (Nat.le_refl _) (by simp; omega) (by omega)
   rw [List.append_nil, zcY] at hS
   simp [g1, g3, g4, z5, he, heE, Xg, xs]
   refine zB (fun Hx => by simpa [xs] using hS Hx) ?_
   simp
   refine zm [] (by rfl) (by simp [zl, zk, za.triv, za.wr, za.none, upTo, newAt]) ?_
   simp [g3]
   refine bind_some (X9 (n := i) (x := .int .i64 (qc e q.1).2) (l := q.2.map fun k : Nat => .int .i64 (k : Int)) tab43 rfl tab3 rfl (by simp [qo]) rfl (by decide) (by simp [hq2]) (by omega) (by simp)) ?_
   simp [g3, g4, w2]
   refine ⟨i + 1, by show s.f.length - (i + 1) < s.f.length - i; omega, by simp [g1], by simp [g2], by simp [g3], by simp, by omega, .inr ⟨by omega, ?_⟩⟩
   rw [hsn]
   simp [z5, Xg, zcY, xs]
  ·have hi' : i = s.f.length := by have : ¬ i < s.f.length := by simpa using hc
                                   omega
   subst hi'
   rw [List.take_length] at hcl hsi ⊢
   have hq2 := hcl.2
   have hct : Uh s.f = ⟨s.f.length, (jf s.f ([], [])).1, (jf s.f ([], [])).2⟩ := rfl
   rw [hct]
   have hql : (jf s.f ([], [])).1.length ≤ 400 := by omega
   have hqe : (jf s.f ([], [])).1 ≠ [] := by
    intro h0
    obtain ⟨F, e, hFe⟩ : ∃ F e, s.f = F ++ [e] := ⟨s.f.dropLast, s.f.getLast (by intro h; rw [h] at hn; simp at hn), (List.dropLast_concat_getLast _).symm⟩
    rw [hFe, zaM] at h0
    simp only [zcL] at h0
    exact zch _ _ h0
   generalize jf s.f ([], []) = q at *
   have hlq : lA q.1 = .slice (q.1.map zG) false := by unfold lA; rw [if_neg hqe]
   have hgt : ¬ (400 : Int) < (q.1.length : Int) := by omega
   simp [g2, g3, hlq, hgt]
   exact qm (rs := [.cell 2 45]) (vs := [.agg [.int .i64 s.f.length, .slice (q.1.map zG) false, .ref (H.length + 3) s.f.length]]) (vs' := [zr ⟨s.f.length, q.1, q.2⟩]) (by rfl) (by simp [ze, g2]) (by simp [zr, qx, hq2]; rfl) (by simp [zr, qx, zh, noF, zbn, jL]) rfl
structure Iq where
 F : List (List Nd)
 X : List I
 gt : Int
 gh : Int
 gu : List Nd
 dir : Int
 least : Int
 n : Int
 k : Int
structure Xq (q : Iq) : Prop where
 hF : ∀ r ∈ q.F, r.length ≤ 200000000000000
 hF2 : q.F.length ≤ 200000000000000
 hX : q.X.length ≤ 200000000000000
 hg : q.gu.length ≤ 200000000000000
 hd : -128 ≤ q.dir ∧ q.dir ≤ 127
 hn : 0 ≤ q.n ∧ q.n ≤ 255
 hk : 0 ≤ q.k ∧ q.k ≤ 255
def JE (q : Iq) : AV := .agg [.slice (q.F.map xs) false, bx q.X, .int .i64 q.gt, .int .i64 q.gh, xs q.gu, .int .i8 q.dir, .int .i64 q.least, .int .u8 q.n, .int .u8 q.k]
def qv (q : Iq) : Nat := (1 + q.n.tmod 2).toNat
def Z8 (q : Iq) : Nat := (1 + q.k.tmod 3).toNat
def J9 (q : Iq) : Jr := ⟨ZK.take (qv q), jV q.F 5 (qv q) (qv q)⟩
def z7 (q : Iq) : Tp := Uh (jV q.F 5 (qv q) (qv q))
def XO (q : Iq) : List I := J3 q.X 4096 (qv q)
def jN (q : Iq) : Gd := zcX q.gu q.dir (qv q)
def YX (q : Iq) : Option Sg := QG (z7 q) (XO q) (JQ q.gt) (j8 q.gh) (Z8 q)
def QI (q : Iq) : Int := QC q.least (j8 q.gh)
theorem Wc {q : Iq} (h : Xq q) : ((qv q : Int) = 1 + q.n.tmod 2 ∧ 1 ≤ qv q ∧ qv q ≤ 2) ∧ ((Z8 q : Int) = 1 + q.k.tmod 3 ∧ 1 ≤ Z8 q ∧ Z8 q ≤ 3) := by
 have h1 := Int.tmod_nonneg 2 h.hn.1
 have h2 := Int.tmod_lt_of_pos q.n (b := 2) (by decide)
 have h3 := Int.tmod_nonneg 3 h.hk.1
 have h4 := Int.tmod_lt_of_pos q.k (b := 3) (by decide)
 unfold qv Z8
 omega
theorem cmpT_okX {F : List Ex} (h : F.length ≤ 1000) (hw : ∀ e ∈ F, wf F.length e = true) (hz : (F.map sz).sum ≤ 100000) : z8 (Uh F) := by
 obtain ⟨h1, h2, h3, h4⟩ := cmpAll_ok (F := F) (s := ([], [])) hw (fun i x hx => by simp at hx) (fun k hk => by simp at hk)
 exact ⟨h1, by simpa [Uh] using h3, h2, h, by simp at h4; show (jf F ([], [])).1.length ≤ 100000; omega⟩
theorem sum_leX {l : List Nat} {c : Nat} (h : ∀ x ∈ l, x ≤ c) : l.sum ≤ l.length * c := by
 induction l with
 | nil => simp
 | cons a l ih =>
  have h1 := ih fun x hx => h x (by simp [hx])
  have h2 := h a (by simp)
  simp only [List.sum_cons, List.length_cons]
  rw [Nat.add_mul]; omega
theorem zb3 {l : List (List Nd)} {most N i : Nat} (hN : 0 < N) : ∀ e ∈ jV l most N i, sz e ≤ 31 ∧ wf N e = true := fun e he => by
 obtain ⟨k, _, rfl⟩ := List.mem_map.1 he
 exact ⟨mde_sz N _ most, mde_wf hN _ _⟩
theorem Wb {q : Iq} (h : Xq q) : z8 (z7 q) ∧ (z7 q).n = qv q := by
 obtain ⟨⟨h1, h2, h3⟩, -⟩ := Wc h
 have hl := YR q.F 5 (qv q) (qv q)
 have ha := zb3 (l := q.F) (most := 5) (i := qv q) (N := qv q) (by omega)
 have hs := sum_leX (l := (jV q.F 5 (qv q) (qv q)).map sz) (c := 31) (fun x hx => by obtain ⟨e, he, rfl⟩ := List.mem_map.1 hx; exact (ha e he).1)
 rw [List.length_map, hl] at hs
 refine ⟨cmpT_okX (by rw [hl]; omega) (fun e he => by rw [hl]; exact (ha e he).2) (by omega), hl⟩
theorem iqX_ok {q : Iq} (h : Xq q) : zq (XO q) ∧ (XO q).length = (z7 q).n := ⟨nrb_valid _ (by omega) _, by rw [(Wb h).2]; exact zcH _ _ _⟩
theorem iqG_ok {q : Iq} (h : Xq q) : Jb (z7 q).n (jN q) := by
 rw [(Wb h).2]
 obtain ⟨⟨h1, h2, h3⟩, -⟩ := Wc h
 exact ⟨by have := mde_sz (qv q) q.gu 8; show sz (Z5 (qv q) q.gu 8) ≤ _; omega, mde_wf (by omega) _ _⟩
theorem zdb (t h : Int) : (-1048576 < JQ t ∧ JQ t < 1048576) ∧ (1 ≤ j8 h ∧ j8 h ≤ 131072) := by
 obtain ⟨a, b⟩ := ZZ t (b := 1048576) (by decide)
 have hm := magn_bounds h (n := 131072) (by decide)
 unfold JQ j8
 by_cases k : 0 ≤ t
 ·have := a k; omega
 ·have := b (by omega); omega
def qb (q : Iq) (s : Sg) : Cw := ⟨s, Z8 q, QI q⟩
def zwA (q : Iq) : AV := .agg [.int .i64 0, .int .i64 0, .nilslice, .nilslice, .nilslice, .nilslice, .int .i64 (Z8 q), .int .i64 (QI q)]
def prA (q : Iq) : AV := match YX q with
 | some s => .tuple [z5 (J9 q), zN (jN q), zQ (qb q s), .bool true]
 | none => .tuple [z5 (J9 q), zN (jN q), zwA q, .bool false]
set_option maxHeartbeats 2000000 in
theorem lProblem16 (q : Iq) (hq : Xq q) (H : AH) : zg E 16 [JE q] H (.ret (prA q)) H := by
 refine zt zn zo Tryz.func16 rfl (by rfl) Tryz.ntmps16 (by kernel_rfl) (by simp) ?_
 obtain ⟨⟨hN, hN1, hN2⟩, hO, hO1, hO2⟩ := Wc hq
 obtain ⟨hT, hTn⟩ := Wb hq
 obtain ⟨hX, hXn⟩ := iqX_ok hq
 obtain ⟨htm, hhh⟩ := zdb q.gt q.gh
 have ha := zb3 (l := q.F) (most := 5) (i := qv q) (N := qv q) (by omega)
 have hl := YR q.F 5 (qv q) (qv q)
 have hMs := fun Hx => r7MadeSystem q.F 5 (qv q) ⟨by omega, by omega⟩ (by decide) hq.hF hq.hF2 Hx
 have hGu := fun Hx => r15Made q.gu q.dir (qv q) ⟨by omega, by omega⟩ hq.hg hq.hd Hx
 have hSt := fun Hx => r12Made q.gt q.gh Hx
 have hCo : ∀ Hx, zg E 17 [z5 (J9 q)] Hx (.ret (zr (z7 q))) Hx := zbz (J9 q) (by show 0 < (jV q.F 5 (qv q) (qv q)).length ∧ (jV q.F 5 (qv q) (qv q)).length ≤ 6; rw [hl]; omega) (fun e he => (ha e he).1)
 have hBx : ∀ Hx, zg E 58 [bx q.X, .int .i64 (qv q), .int .i64 4096] Hx (.ret (bx (XO q))) Hx := fun Hx => r8Boxes q.X (qv q) 4096 (by omega) (by decide) hq.hX Hx
 have hIs : ∀ Hx, zg E 55 [zr (z7 q), bx (XO q), .agg [.int .i64 (JQ q.gt), .int .i64 (j8 q.gh)], .int .i64 (Z8 q)] Hx (.ret (UE (YX q))) Hx := fun Hx => r12IntervalStep (z7 q) (XO q) (JQ q.gt) (j8 q.gh) (Z8 q) hT hX hXn (by omega) (by omega) (by omega) ⟨hO1, by omega⟩ Hx
 have hRe : ∀ Hx, zg E 26 [.int .i64 q.least, .int .i64 (j8 q.gh)] Hx (.ret (.int .i64 (QI q))) Hx := fun Hx => lResolution q.least (j8 q.gh) (by omega) Hx
 rw [show (⟨ZK.take (qv q), jV q.F 5 (qv q) (qv q)⟩ : Jr) = J9 q from rfl] at hMs
 rw [show zcX q.gu q.dir (qv q) = jN q from rfl] at hGu
 have wn : IntKind.i64.wrap q.n = q.n := zj (by have := hq.hn; omega) (by have := hq.hn; omega)
 have wk : IntKind.i64.wrap q.k = q.k := zj (by have := hq.hk; omega) (by have := hq.hk; omega)
 have w0 : IntKind.i64.wrap (q.n.tmod 2) = q.n.tmod 2 := zj (by omega) (by omega)
 have w1 : IntKind.i64.wrap (1 + q.n.tmod 2) = (qv q : Int) := by rw [← hN]; exact zj (by omega) (by omega)
 have w2 : IntKind.i64.wrap (q.k.tmod 3) = q.k.tmod 3 := zj (by omega) (by omega)
 have w3 : IntKind.i64.wrap (1 + q.k.tmod 3) = (Z8 q : Int) := by rw [← hO]; exact zj (by omega) (by omega)
 unfold prA zwA qb
 generalize J9 q = S at *
 generalize jN q = G at *
 generalize z7 q = T at *
 generalize XO q = X at *
 generalize JQ q.gt = t at *
 generalize j8 q.gh = h at *
 generalize QI q = L at *
 generalize YX q = st at *
 generalize qv q = N at *
 generalize Z8 q = O at *
 simp [JE, bx, wn, wk, w0, w1, w2, w3]
 refine zB (fun Hx => hMs Hx) ?_
 simp [xs]
 refine zB (fun Hx => by simpa [xs] using hGu Hx) ?_
 simp [xs]
 refine zB (fun Hx => hSt Hx) ?_
 simp [z5, zN, xs]
 refine zm [(13, 16), (14, 17), (15, 18), (16, 17), (17, 18)] (by rfl) (by simp [zl, zk, za.triv, za.wr, za.none, upTo, newAt]) ?_
 simp [wk, w2, w3]
 refine zB (fun Hx => by simpa [z5, xs] using hCo Hx) ?_
 simp [bx]
 refine zB (fun Hx => by simpa [bx] using hBx Hx) ?_
 simp
 refine zB (fun Hx => by simpa [bx] using hIs Hx) ?_
 cases st with
 | none =>
  simp [UE, Qx]
  refine zm [(12, 13)] (by rfl) (by simp [zl, zk, za.triv, za.wr, za.none, upTo, newAt]) ?_
  simp
  refine zB (fun Hx => hRe Hx) ?_
  simp
  refine zm [] (by rfl) (by simp [zl, zk, za.triv, za.wr, za.none, upTo, newAt]) ?_
  simp
  exact ⟨[z5 S, zN G, .agg [.int .i64 0, .int .i64 0, .nilslice, .nilslice, .nilslice, .nilslice, .int .i64 O, .int .i64 L], .bool false], [z5 S, zN G, .agg [.int .i64 0, .int .i64 0, .nilslice, .nilslice, .nilslice, .nilslice, .int .i64 O, .int .i64 L], .bool false], by simp [show (Tryz.f16).results.toList = [.cell 2 33, .cell 3 35, .cell 4 39, .tmp 5] from rfl, ze, z5, zN, xs], .drop (by simp [zh, noF, z5, zN, xs, jL, nd]), rfl⟩
 | some s =>
  simp [UE, JW, bx]
  refine zm [(12, 13)] (by rfl) (by simp [zl, zk, za.triv, za.wr, za.none, upTo, newAt]) ?_
  simp
  refine zB (fun Hx => hRe Hx) ?_
  simp
  refine zm [] (by rfl) (by simp [zl, zk, za.triv, za.wr, za.none, upTo, newAt]) ?_
  simp
  exact ⟨[z5 S, zN G, zQ ⟨s, O, L⟩, .bool true], [z5 S, zN G, zQ ⟨s, O, L⟩, .bool true], by simp [show (Tryz.f16).results.toList = [.cell 2 33, .cell 3 35, .cell 4 39, .tmp 5] from rfl, ze, z5, zN, zQ, bx, xs], .drop (by simp [zh, noF, z5, zN, zQ, bx, xs, js, jL, nd]), rfl⟩
def XJ (time : Bool) (level : Int) : Ex := .bin .sub (if time then .time else .var 0) (.num (pt level))
theorem zdi (time : Bool) (level : Int) (H : AH) : zg E 27 [.bool time, .int .i64 level] H (.ret (xs (zb (XJ time level)))) H := by
 refine zt zn zo Tryz.func27 rfl (by rfl) Tryz.ntmps27 (by kernel_rfl) (by simp) ?_
 have hP := fun Hx => XD level Hx
 have hC := fun Hx => YH (pt level) Hx
 cases time with
 | false =>
  have hB := fun Hx => zbU 8 (zb (.var 0)) (zb (.num (pt level))) (by simp [zb]) (by simp [zb]) (by simp [zb]) Hx
  rw [show zK 8 0 :: (zb (.var 0) ++ zb (.num (pt level))) = zb (XJ false level) from rfl] at hB
  generalize pt level = c at *
  simp
  refine zd (hP _) ?_
  simp
  refine zd (hC _) ?_
  simp
  refine Jq (args' := [.int .i64 8, xs (zb (.var 0)), xs (zb (.num c))]) (hB _) (by simp [xs, zb, nd, zK]; rfl) ?_
  simp
  exact zY (rs := [.tmp 4]) (by rfl) (by simp [ze])
 | true =>
  have hB := fun Hx => zbU 8 (zb .time) (zb (.num (pt level))) (by simp [zb]) (by simp [zb]) (by simp [zb]) Hx
  rw [show zK 8 0 :: (zb .time ++ zb (.num (pt level))) = zb (XJ true level) from rfl] at hB
  generalize pt level = c at *
  simp
  refine zd (hP _) ?_
  simp
  refine zd (hC _) ?_
  simp
  refine Jq (args' := [.int .i64 8, xs (zb .time), xs (zb (.num c))]) (hB _) (by simp [xs, zb, nd, zK]; rfl) ?_
  simp
  exact zY (rs := [.tmp 4]) (by rfl) (by simp [ze])
def Qm : Jr := ⟨[⟨#[120]⟩], [.num (65536, 65536)]⟩
def ZB : Tp := Uh Qm.f
def XB : Sg := ⟨0, 65536, [(0, 0)], [(0, 65536)], [(0, 65536)], [(65536, 65536)]⟩
theorem stepX : QG ZB [(0, 0)] 0 65536 2 = some XB := by kernel_rfl
def qN : Cw := ⟨XB, 2, 16384⟩
def QK (level dir : Int) : Gd := ⟨XJ false level, dir⟩
theorem UO : jm ZB (QK 32768 1) qN = [(16384, 49152)] := by kernel_rfl
theorem prt2 : jm ZB (QK 65536 1) qN = [(49152, 65536)] := by kernel_rfl
theorem UN : jm ZB (QK 131072 0) qN = [] := by kernel_rfl
theorem loc1 : J6 ZB qN [(16384, 49152)] = .tuple [bx [(16384, 49152)], iv (16384, 49152), .bool true] := by kernel_rfl
theorem tm1 : [((16384, 49152) : I)].map (absC qN) = [(16384, 49152)] := by kernel_rfl
theorem tm2 : [((49152, 65536) : I)].map (absC qN) = [(49152, 65536)] := by kernel_rfl
theorem Ym : z8 ZB := cmpT_okX (by decide) (by decide) (by decide)
theorem X3 : JP ZB qN := by
 have v : ∀ p : I, p = (0, 0) ∨ p = (0, 65536) ∨ p = (65536, 65536) → vB p = true := fun p h => by rcases h with rfl | rfl | rfl <;> decide
 refine ⟨fun p hp => v p ?_, rfl, fun p hp => v p ?_, rfl, fun p hp => v p ?_, rfl, fun p hp => v p ?_, rfl, by decide, by decide, by decide⟩ <;> (simp [qN, XB] at hp; subst hp; simp)
theorem Y6 (level dir : Int) (h : wf 1 (XJ false level) = true) : Jb ZB.n (QK level dir) := ⟨by show sz (XJ false level) ≤ _; simp [XJ, sz, zb], h⟩
def Wr : Gd := ⟨.num (0, 0), 0⟩
theorem gdZ_ok : Jb ZB.n Wr := ⟨by decide, rfl⟩
theorem once1 : (Vp (Z6 qN.s.tube (qN.s.t, qN.s.t + qN.s.h) (QK 32768 1).f (Qm.f.map (ev qN.s.tube (qN.s.t, qN.s.t + qN.s.h))) Qm.f.length) != 0) = true := by kernel_rfl
theorem once2 : (Vp (Z6 qN.s.tube (qN.s.t, qN.s.t + qN.s.h) Wr.f (Qm.f.map (ev qN.s.tube (qN.s.t, qN.s.t + qN.s.h))) Qm.f.length) != 0) = false := by kernel_rfl
set_option maxRecDepth 100000 in
set_option maxHeartbeats 4000000 in
theorem lSanity16 (H : AH) : zg E 15 [] H (.ret (.bool true)) H := by
 refine zt zn zo Tryz.func15 rfl (by rfl) Tryz.ntmps15 (by kernel_rfl) (by simp) ?_
 have pb : ∀ l : List I, (∀ p ∈ l, p = (16384, 49152) ∨ p = (49152, 65536)) → ∀ p ∈ l, 0 ≤ p.1 ∧ p.1 ≤ p.2 ∧ p.2 ≤ qN.s.h := fun l h p hp => by
  rcases h p hp with rfl | rfl <;> decide
 have L1 := fun Hx => WX ZB (QK 32768 1) qN Ym (by decide) X3 (Y6 _ _ (by kernel_rfl)) (by rw [UO]; exact pb _ (by simp)) (by rw [UO]; decide) Hx
 have L3 := fun Hx => WX ZB (QK 131072 0) qN Ym (by decide) X3 (Y6 _ _ (by kernel_rfl)) (by rw [UN]; exact pb _ (by simp)) (by rw [UN]; decide) Hx
 have T1 := fun Hx => Uy ZB (QK 32768 1) qN Ym (by decide) X3 (Y6 _ _ (by kernel_rfl)) (by rw [UO]; exact pb _ (by simp)) (by rw [UO]; decide) Hx
 have T2 := fun Hx => Uy ZB (QK 65536 1) qN Ym (by decide) X3 (Y6 _ _ (by kernel_rfl)) (by rw [prt2]; exact pb _ (by simp)) (by rw [prt2]; decide) Hx
 have T3 := fun Hx => Uy ZB (QK 131072 0) qN Ym (by decide) X3 (Y6 _ _ (by kernel_rfl)) (by rw [UN]; exact pb _ (by simp)) (by rw [UN]; decide) Hx
 rw [UO] at L1 T1
 rw [prt2] at T2
 rw [UN] at L3 T3
 rw [loc1] at L1
 rw [tm1] at T1
 rw [tm2] at T2
 have A1 := fun Hx => xOnce ZB Qm (QK 32768 1) qN X3 (by decide) (by decide) (by decide) (Y6 _ _ (by kernel_rfl)) (by decide) (by decide) Hx
 have A2 := fun Hx => xOnce ZB Qm Wr qN X3 (by decide) (by decide) (by decide) gdZ_ok (by decide) (by decide) Hx
 rw [once1] at A1
 rw [once2] at A2
 have C1 : ∀ Hx, zg E 17 [z5 Qm] Hx (.ret (zr ZB)) Hx := zbz Qm (by decide) (by decide)
 have S1 := fun Hx => r12IntervalStep ZB [(0, 0)] 0 65536 2 Ym (fun p hp => by simp at hp; subst hp; decide) rfl (by decide) (by decide) (by decide) (by decide) Hx
 rw [stepX] at S1
 have m1 := zdi false 32768
 have m2 := zdi false 65536
 have m3 := zdi false 131072
 have p1 := XD 65536
 have p0 := XD 0
 rw [zcU (by omega)] at p1 p0
 have c1 := YH (65536, 65536)
 have c0 := YH (0, 0)
 have q1 := r3Same [(16384, 49152)] [(16384, 49152)] (by decide) (by decide)
 have q2 := r3Same [(49152, 65536)] [(49152, 65536)] (by decide) (by decide)
 simp only [decide_true] at q1 q2
 simp
 refine zd (p1 _) ?_
 simp
 refine zd (c1 _) ?_
 simp [xs, zb, nd]
 refine Jq (args' := [z5 Qm]) (C1 _) (by simp [z5, Qm, xs, zb, nd]; rfl) ?_
 generalize hTp : ZB = T at *
 simp [zr, qx]
 refine Jq (args' := [zr T, bx [(0, 0)], .agg [.int .i64 0, .int .i64 65536], .int .i64 2]) (S1 _) (by simp [zr, qx, bx]; rfl) ?_
 simp [UE, XB, JW, bx]
 refine zd (m1 _) ?_
 simp
 refine zd (m2 _) ?_
 simp
 refine zd (m3 _) ?_
 simp [xs]
 have l3 : J6 T qN [] = .tuple [.nilslice, iv (0, 0), .bool false] := rfl
 rw [l3] at L3
 have r3 : Zf (([] : List I).map (absC qN)) = .nilslice := rfl
 rw [r3] at T3
 have r1 : Zf [((16384, 49152) : I)] = bx [(16384, 49152)] := rfl
 have r2 : Zf [((49152, 65536) : I)] = bx [(49152, 65536)] := rfl
 rw [r1] at T1
 rw [r2] at T2
 simp only [zN, QK, zQ, qN, XB, zr, qx, bx, xs, List.map_cons, List.map_nil] at L1 L3 T1 T2 T3
 refine zd (by simpa using L1 _) ?_
 simp
 refine zd (by simpa using L3 _) ?_
 simp
 refine zd (p0 _) ?_
 simp
 refine zd (c0 _) ?_
 simp [xs]
 refine zB (fun Hx => by simpa using T1 Hx) ?_
 simp
 refine Zm (args' := [bx [(16384, 49152)], bx [(16384, 49152)]]) (fun Hx => q1 Hx) (fun Hx => by simp [bx]) ?_
 simp
 refine zB (fun Hx => by simpa using T2 Hx) ?_
 simp
 refine Zm (args' := [bx [(49152, 65536)], bx [(49152, 65536)]]) (fun Hx => q2 Hx) (fun Hx => by simp [bx]) ?_
 simp
 refine zB (fun Hx => by simpa using T3 Hx) ?_
 simp
 refine Zm (args' := [bx [(16384, 49152)], bx [(16384, 49152)]]) (fun Hx => q1 Hx) (fun Hx => by simp [bx]) ?_
 simp
 refine Zm (args' := [z5 Qm, zN (QK 32768 1), zQ qN]) (fun Hx => A1 Hx) (fun Hx => by simp [z5, Qm, zN, QK, zQ, qN, XB, bx, xs, zb, nd]) ?_
 simp
 refine Zm (args' := [z5 Qm, zN Wr, zQ qN]) (fun Hx => A2 Hx) (fun Hx => by simp [z5, Qm, zN, Wr, zQ, qN, XB, bx, xs, zb, nd]) ?_
 simp
 refine zm [] (by rfl) (by simp [zl, zk, za.triv, za.wr, za.none, upTo, newAt]) ?_
 simp
 exact zv (rs := [.tmp 0]) (by rfl) (by simp [ze]) (by simp [noF])
end Go.Proofs.YtkghjlgpmeibhaaGreatDoor.Arm

namespace Go.Pl
def Bn (K x : Rat) : Prop := -K ≤ x ∧ x ≤ K
theorem Bn.nn {K x : Rat} (h : Bn K x) : 0 ≤ K := by unfold Bn at h; grind
theorem Bn.mono {K L x : Rat} (h : Bn K x) (k : K ≤ L) : Bn L x := by unfold Bn at *; grind
theorem Bn.add {K L x y : Rat} (h : Bn K x) (k : Bn L y) : Bn (K + L) (x + y) := by unfold Bn at *; grind
theorem Bn.sub {K L x y : Rat} (h : Bn K x) (k : Bn L y) : Bn (K + L) (x - y) := by unfold Bn at *; grind
theorem Bn.neg {K x : Rat} (h : Bn K x) : Bn K (-x) := by unfold Bn at *; grind
theorem Bn.zero {K : Rat} (h : 0 ≤ K) : Bn K 0 := by unfold Bn; grind
theorem Bn.mul {K L x y : Rat} (h : Bn K x) (k : Bn L y) : Bn (K * L) (x * y) := by
 unfold Bn at *
 have h1 : 0 ≤ (K - x) * (L + y) := Rat.mul_nonneg (by grind) (by grind)
 have h2 : 0 ≤ (K + x) * (L - y) := Rat.mul_nonneg (by grind) (by grind)
 have h3 : 0 ≤ (K + x) * (L + y) := Rat.mul_nonneg (by grind) (by grind)
 have h4 : 0 ≤ (K - x) * (L - y) := Rat.mul_nonneg (by grind) (by grind)
 grind
def JM (β b : Rat) : Prop := β ≤ b ∨ b ≤ -β
theorem Bn.cancel {K β b x : Rat} (hβ : 0 < β) (hb : JM β b) (h : Bn K (b * x)) : Bn (K / β) x := by
 have key : ∀ b x : Rat, β ≤ b → Bn K (b * x) → Bn (K / β) x := by
  intro b x hb h
  have hK : 0 ≤ K := h.nn
  have e : K / β * β = K := by grind
  have hq : 0 ≤ K / β := by
   rw [Rat.div_def]; exact Rat.mul_nonneg hK (Rat.le_of_lt (Rat.inv_pos.2 hβ))
  have hm : K ≤ K / β * b := by
   have := Rat.mul_le_mul_of_nonneg_left hb hq
   grind
  unfold Bn at *
  refine ⟨Rat.not_lt.1 fun hx => ?_, Rat.not_lt.1 fun hx => ?_⟩
  ·have hbp : 0 < b := by grind
   have := Rat.mul_lt_mul_of_pos_left hx hbp
   grind
  ·have hbp : 0 < b := by grind
   have := Rat.mul_lt_mul_of_pos_left hx hbp
   grind
 rcases hb with hb | hb
 ·exact key b x hb h
 ·have := key (-b) (-x) (by grind) (by have e : -b * -x = b * x := by grind
                                       rw [e]; exact h)
  have := this.neg
  have e : - -x = x := by grind
  rwa [e] at this
theorem zdN {K δ : Rat} (hp : 0 < δ) (h : 0 ≤ K * (δ * δ)) : 0 ≤ K := by
 have h2 : 0 < δ * δ := Rat.mul_pos hp hp
 refine Rat.not_lt.1 fun hk => ?_
 have := Rat.mul_pos (show (0 : Rat) < -K by grind) h2
 grind
section
variable {δ D W : Rat}
def Df (K δ u u' d : Rat) : Prop := Bn (K * (δ * δ)) (u' - u - δ * d)
theorem Df.add {K L u u' d v v' e : Rat} (h : Df K δ u u' d) (k : Df L δ v v' e) : Df (K + L) δ (u + v) (u' + v') (d + e) := by
 have := Bn.add h k
 unfold Df
 have e1 : K * (δ * δ) + L * (δ * δ) = (K + L) * (δ * δ) := by grind
 have e2 : u' - u - δ * d + (v' - v - δ * e) = u' + v' - (u + v) - δ * (d + e) := by grind
 rwa [e1, e2] at this
theorem Df.neg {K u u' d : Rat} (h : Df K δ u u' d) : Df K δ (-u) (-u') (-d) := by
 have := Bn.neg h
 unfold Df
 have e2 : -(u' - u - δ * d) = -u' - -u - δ * -d := by grind
 rwa [e2] at this
theorem Df.sub {K L u u' d v v' e : Rat} (h : Df K δ u u' d) (k : Df L δ v v' e) : Df (K + L) δ (u - v) (u' - v') (d - e) := by
 have := h.add k.neg
 have e1 : u + -v = u - v := by grind
 have e2 : u' + -v' = u' - v' := by grind
 have e3 : d + -e = d - e := by grind
 rwa [e1, e2, e3] at this
theorem Df.smul {K u u' d : Rat} (c : Rat) {C : Rat} (hc : Bn C c) (h : Df K δ u u' d) : Df (C * K) δ (c * u) (c * u') (c * d) := by
 have := Bn.mul hc h
 unfold Df
 have e1 : C * (K * (δ * δ)) = C * K * (δ * δ) := by grind
 have e2 : c * (u' - u - δ * d) = c * u' - c * u - δ * (c * d) := by grind
 rwa [e1, e2] at this
theorem Df.mono {K L u u' d : Rat} (h : Df K δ u u' d) (k : K ≤ L) : Df L δ u u' d := Bn.mono h (Rat.mul_le_mul_of_nonneg_right k (zaO δ))
theorem Df.const (u : Rat) : Df 0 δ u u 0 := by
 unfold Df
 have e : u - u - δ * 0 = 0 := by grind
 rw [e]; exact Bn.zero (by grind)
theorem Df.mul {K L u u' d v v' e : Rat} (hδ : 0 ≤ δ) (hD : δ ≤ D) (h : Df K δ u u' d) (k : Df L δ v v' e) (hu' : Bn W u') (hv : Bn W v) (hd : Bn W d) (he : Bn W e) :
  Df (W * W + D * W * K + W * L + W * K) δ (u * v) (u' * v') (d * v + u * e) := by
 unfold Df at *
 have hW : 0 ≤ W := hv.nn
 have b1 : Bn ((δ * δ) * (W * W)) ((δ * δ) * (e * d)) := Bn.mul (by unfold Bn; have := zaO δ; grind) (Bn.mul he hd)
 have b2 : Bn ((δ * W) * (K * (δ * δ))) ((δ * e) * (u' - u - δ * d)) := Bn.mul (Bn.mul (by unfold Bn; grind) he) h
 have b3 : Bn (W * (L * (δ * δ))) (u' * (v' - v - δ * e)) := Bn.mul hu' k
 have b4 : Bn (W * (K * (δ * δ))) (v * (u' - u - δ * d)) := Bn.mul hv h
 have hK : 0 ≤ K * (δ * δ) := h.nn
 have m2 : (δ * W) * (K * (δ * δ)) ≤ (D * W) * (K * (δ * δ)) := Rat.mul_le_mul_of_nonneg_right (Rat.mul_le_mul_of_nonneg_right hD hW) hK
 have := ((b1.add (b2.mono m2)).add b3).add b4
 have e1 : (δ * δ) * (W * W) + (D * W) * (K * (δ * δ)) + W * (L * (δ * δ)) + W * (K * (δ * δ)) = (W * W + D * W * K + W * L + W * K) * (δ * δ) := by grind
 have e2 : (δ * δ) * (e * d) + (δ * e) * (u' - u - δ * d) + u' * (v' - v - δ * e) + v * (u' - u - δ * d) = u' * v' - u * v - δ * (d * v + u * e) := by grind
 rwa [e1, e2] at this
theorem Df.cancel {K L β b b' db q q' dq : Rat} (hδ : 0 ≤ δ) (hD : δ ≤ D) (hβ : 0 < β) (hb : JM β b) (hb' : JM β b') (hP : Df K δ (b * q) (b' * q') (db * q + b * dq)) (hB : Df L δ b b' db) (wb : Bn W b) (wq : Bn W q) (wdb : Bn W db) (wdq : Bn W dq) :
  Df ((K + W * L + (W * W + D * K + D * W * L) / β * (W + D * L)) / β) δ q q' dq := by
 have hW : 0 ≤ W := wb.nn
 have hdd := zaO δ
 unfold Df at hP hB
 have hK : 0 ≤ K * (δ * δ) := hP.nn
 have hL : 0 ≤ L * (δ * δ) := hB.nn
 have a1 : Bn (δ * (W * W)) (δ * (b * dq)) := Bn.mul (by unfold Bn; grind) (Bn.mul wb wdq)
 have a2 : Bn (W * (L * (δ * δ))) (q * (b' - b - δ * db)) := Bn.mul wq hB
 have a3 := (a1.add hP).sub a2
 have e3 : δ * (b * dq) + (b' * q' - b * q - δ * (db * q + b * dq)) - q * (b' - b - δ * db) = b' * (q' - q) := by grind
 rw [e3] at a3
 by_cases h0 : δ = 0
 ·subst h0
  have a4 : Bn 0 (b' * (q' - q)) := by
   have e : (0 : Rat) * (W * W) + K * (0 * 0) + W * (L * (0 * 0)) = 0 := by grind
   rwa [e] at a3
  have a5 := Bn.cancel hβ hb' a4
  have e0 : (0 : Rat) / β = 0 := by grind
  rw [e0] at a5
  unfold Df
  have e1 : ∀ X : Rat, X * (0 * 0) = 0 := by intro X; grind
  rw [e1]
  have e2 : q' - q - 0 * dq = q' - q := by grind
  rw [e2]; exact a5
 ·have hp : 0 < δ := by grind
  have m1 : K * (δ * δ) ≤ D * K * δ := by
   have hK' : 0 ≤ K := zdN hp hK
   have := Rat.mul_le_mul_of_nonneg_left (Rat.mul_le_mul_of_nonneg_right hD hδ) hK'
   grind
  have m2 : W * (L * (δ * δ)) ≤ D * W * L * δ := by
   have hL' : 0 ≤ L := zdN hp hL
   have := Rat.mul_le_mul_of_nonneg_left (Rat.mul_le_mul_of_nonneg_right hD hδ) (Rat.mul_nonneg hW hL')
   grind
  have a4 : Bn ((W * W + D * K + D * W * L) * δ) (b' * (q' - q)) := a3.mono (by grind)
  have a5 := Bn.cancel hβ hb' a4
  have e5 : (W * W + D * K + D * W * L) * δ / β = (W * W + D * K + D * W * L) / β * δ := by grind
  rw [e5] at a5
  generalize (W * W + D * K + D * W * L) / β = C at *
  have b1 : Bn (W * δ) (db * δ) := Bn.mul wdb (by unfold Bn; grind)
  have hBL : Bn ((W + D * L) * δ) (b' - b) := by
   have := b1.add hB
   have e : db * δ + (b' - b - δ * db) = b' - b := by grind
   rw [e] at this
   refine this.mono ?_
   have hL' : 0 ≤ L := zdN hp hL
   have := Rat.mul_le_mul_of_nonneg_left (Rat.mul_le_mul_of_nonneg_right hD hδ) hL'
   grind
  have b2 := Bn.mul a5 hBL
  have b3 := (hP.sub a2).sub b2
  have e6 : b' * q' - b * q - δ * (db * q + b * dq) - q * (b' - b - δ * db) - (q' - q) * (b' - b) = b * (q' - q - δ * dq) := by grind
  rw [e6] at b3
  have e7 : K * (δ * δ) + W * (L * (δ * δ)) + C * δ * ((W + D * L) * δ) = (K + W * L + C * (W + D * L)) * (δ * δ) := by grind
  rw [e7] at b3
  have b4 := Bn.cancel hβ hb b3
  unfold Df
  have e8 : (K + W * L + C * (W + D * L)) * (δ * δ) / β = (K + W * L + C * (W + D * L)) / β * (δ * δ) := by grind
  rwa [e8] at b4
theorem Df.root {K β q q' dq : Rat} (hδ : 0 ≤ δ) (hβ : 0 < β) (hD : δ ≤ D) (hb : β ≤ q) (hb' : β ≤ q') (hP : Df K δ (q * q) (q' * q') (2 * q * dq)) (hK : 0 ≤ K) (wq : Bn W q) (wdq : Bn W dq) :
  Df ((K + (2 * W * W + D * K) / (2 * β) * ((2 * W * W + D * K) / (2 * β))) / (2 * β)) δ q q' dq := by
 have hW : 0 ≤ W := wq.nn
 unfold Df at hP
 have h2 : Bn 2 (2 : Rat) := by unfold Bn; grind
 have a1 : Bn (δ * (2 * (W * W))) (δ * (2 * (q * dq))) := Bn.mul (by unfold Bn; grind) (Bn.mul h2 (Bn.mul wq wdq))
 have a2 := a1.add hP
 have e2 : δ * (2 * (q * dq)) + (q' * q' - q * q - δ * (2 * q * dq)) = (q' + q) * (q' - q) := by grind
 rw [e2] at a2
 have m1 : δ * (2 * (W * W)) + K * (δ * δ) ≤ (2 * W * W + D * K) * δ := by
  have := Rat.mul_le_mul_of_nonneg_left (Rat.mul_le_mul_of_nonneg_right hD hδ) hK
  grind
 have a3 := Bn.cancel (β := 2 * β) (by grind) (.inl (by grind)) (a2.mono m1)
 have e3 : (2 * W * W + D * K) * δ / (2 * β) = (2 * W * W + D * K) / (2 * β) * δ := by grind
 rw [e3] at a3
 generalize (2 * W * W + D * K) / (2 * β) = C at *
 have b1 := hP.sub (Bn.mul a3 a3)
 have e4 : q' * q' - q * q - δ * (2 * q * dq) - (q' - q) * (q' - q) = (2 * q) * (q' - q - δ * dq) := by grind
 have e5 : K * (δ * δ) + C * δ * (C * δ) = (K + C * C) * (δ * δ) := by grind
 rw [e4, e5] at b1
 have b2 := Bn.cancel (β := 2 * β) (by grind) (.inl (by grind)) b1
 unfold Df
 have e6 : (K + C * C) * (δ * δ) / (2 * β) = (K + C * C) / (2 * β) * (δ * δ) := by grind
 rwa [e6] at b2
end
end Go.Pl

namespace Go.Pl
section
variable {x : List I} {t : I}
end
end Go.Pl

namespace Go.Pl
def unR : U → Rat → Rat
 | .neg, v => -v
 | .sqr, v => v * v
 | .sqrt, v => rt 0 v
def binR : B → Rat → Rat → Rat
 | .add, v, w => v + w
 | .sub, v, w => v - w
 | .mul, v, w => v * w
 | .div, v, w => v / w
def val (x : List Rat) (t : Rat) : Ex → Rat
 | .num c => (c.1 : Rat) / 65536
 | .var i => (x[i]?).getD 0
 | .time => t
 | .un o a => unR o (val x t a)
 | .bin o a b => binR o (val x t a) (val x t b)
def zdx (b : List I) (x : List Rat) : Prop := ∀ i, i < b.length → zP ((b[i]?).getD (0, 0)) ((x[i]?).getD 0)
theorem Y0 {c : I} (h : vB c = true) : zP c ((c.1 : Rat) / 65536) := by
 have h1 := qR h
 refine .inr ⟨?_, ?_⟩
 ·grind
 ·have : (c.1 : Rat) ≤ (c.2 : Rat) := Rat.intCast_le_intCast.2 h1.2.1
  grind
def Ql (x : List Rat) (t : Rat) (a b : Ex) : Prop := val x t a = val x t b ∧ ∀ v, val x t (zJ v a) = val x t (zJ v b)
section
variable {x : List Rat} {t : Rat}
theorem Ql.refl (a : Ex) : Ql x t a a := ⟨rfl, fun _ => rfl⟩
theorem Ql.symm {a b : Ex} (h : Ql x t a b) : Ql x t b a := ⟨h.1.symm, fun v => (h.2 v).symm⟩
theorem Ql.trans {a b c : Ex} (h : Ql x t a b) (k : Ql x t b c) : Ql x t a c := ⟨h.1.trans k.1, fun v => (h.2 v).trans (k.2 v)⟩
theorem Ql.un {a b : Ex} (o : U) (h : Ql x t a b) : Ql x t (.un o a) (.un o b) := by
 refine ⟨by simp only [val, h.1], fun v => ?_⟩
 have := h.2 v
 cases o <;> simp only [zJ, val, this, h.1, unR, binR]
theorem Ql.bin {a b c d : Ex} (o : B) (h : Ql x t a b) (k : Ql x t c d) : Ql x t (.bin o a c) (.bin o b d) := by
 refine ⟨by simp only [val, h.1, k.1], fun v => ?_⟩
 have h2 := h.2 v
 have k2 := k.2 v
 cases o <;> simp only [zJ, val, h2, k2, h.1, k.1, binR, unR]
end
end Go.Pl

namespace Go.Pl
def f0 : Nat → Nat
 | 0 => 0
 | k + 1 => 1 + 2 * f0 k
def f1 : Nat → Nat
 | 0 => 0
 | k + 1 => 5 + 2 * f1 k + 3 * f0 k
def f2 : Nat → Nat
 | 0 => 0
 | k + 1 => 21 + 2 * f2 k + 7 * f0 k + 7 * f1 k
end Go.Pl

namespace Go.Pl
def UR (v : Vr) : Ex → Bool
 | .un _ a => UR v a
 | .bin _ a b => UR v a || UR v b
 | e => QH v e
def Lv (a b : Ex) : Prop := ∀ v, UR v a = true → UR v b = true
theorem Lv.refl (a : Ex) : Lv a a := fun _ h => h
theorem Lv.trans {a b c : Ex} (h : Lv a b) (k : Lv b c) : Lv a c := fun v hv => k v (h v hv)
end Go.Pl

namespace Go.Pl
theorem inI_conv {V : I} {x y m : Rat} (h : zP V x) (k : zP V y) (h1 : x ≤ m) (h2 : m ≤ y) : zP V m := by
 rcases h with rfl | ⟨a, b⟩
 ·exact .inl rfl
 ·rcases k with rfl | ⟨c, d⟩
  ·exact .inl rfl
  ·exact .inr ⟨by grind, by grind⟩
theorem Wj : zP (0, 0) 0 := .inr ⟨by decide +kernel, by decide +kernel⟩
theorem inI_11 : zP (65536, 65536) 1 := .inr ⟨by decide +kernel, by decide +kernel⟩
section
variable {x : List I} {t : I}
end
theorem small (δ : Rat) (h : 0 < δ) : ∃ k, 1 / (qp k : Rat) ≤ δ := by
 refine ⟨(1 / δ).ceil.toNat, ?_⟩
 have hN := Wq (1 / δ).ceil.toNat
 have h1 : 1 / δ ≤ ((1 / δ).ceil : Rat) := Rat.le_ceil
 have h2 : ((1 / δ).ceil : Rat) ≤ (qp (1 / δ).ceil.toNat : Rat) := ic.2 (by unfold qp; omega)
 have h3 : 1 / δ ≤ (qp (1 / δ).ceil.toNat : Rat) := Rat.le_trans h1 h2
 generalize (qp (1 / δ).ceil.toNat : Rat) = N at *
 refine VB hN ?_
 have h4 := Jw (Rat.le_of_lt h) h3
 have h5 : δ * (1 / δ) = 1 := by grind
 rw [h5] at h4; exact h4
end Go.Pl

namespace Go.Pl
structure Alg (α : Type) where
 zero : α
 one : α
 num : I → α
 neg : α → α
 add : α → α → α
 sub : α → α → α
 mul : α → α → α
 sq : α → α
 div : α → α → α
 root : α → α
 dbl : α → α
section
variable {α : Type} (G : Alg α)
def Qz (f : Nat → α) : Nat → α
 | 0 => G.zero
 | 1 => f 0
 | m + 2 => G.add (Qz f (m + 1)) (f (m + 1))
def jP (f g : Nat → α) (frm m k : Nat) : α := Qz G (fun i => G.mul (f (frm + i)) (g (k - (frm + i)))) m
def fA (x : zT) (A : Nat → Nat → α) (q : Nat → α) (t : α) (m : Nat) : α :=
 if x.op = 4 then G.neg (A x.a.toNat m)
 else if x.op = 7 then G.add (A x.a.toNat m) (A x.b.toNat m)
 else if x.op = 8 then G.sub (A x.a.toNat m) (A x.b.toNat m)
 else if x.op = 9 then jP G (A x.a.toNat) (A x.b.toNat) 0 (m + 1) m
 else if x.op = 5 then (if m = 0 then G.sq (A x.a.toNat 0) else jP G (A x.a.toNat) (A x.a.toNat) 0 (m + 1) m)
 else if x.op = 10 then (if m = 0 then G.div (A x.a.toNat 0) (A x.b.toNat 0) else G.div (G.sub (A x.a.toNat m) (jP G (A x.b.toNat) q 1 m m)) (A x.b.toNat 0))
 else if x.op = 6 then (if m = 0 then G.root (A x.a.toNat 0) else G.div (G.sub (A x.a.toNat m) (jP G q q 1 (m - 1) m)) (G.dbl (q 0)))
 else if x.op = 1 then (if m = 0 then G.num x.c else G.zero)
 else if x.op = 3 then (if m = 0 then t else if m = 1 then G.one else G.zero)
 else G.zero
variable {G}
theorem sumA_congr {f g : Nat → α} : ∀ {m : Nat}, (∀ i, i < m → f i = g i) → Qz G f m = Qz G g m
 | 0, _ => rfl
 | 1, h => h 0 (by omega)
 | m + 2, h => by simp only [Qz]; rw [sumA_congr (m := m + 1) (fun i hi => h i (by omega)), h (m + 1) (by omega)]
theorem zak {f g f' g' : Nat → α} {frm m k : Nat} (hf : ∀ i, frm ≤ i → i < frm + m → f i = f' i) (hg : ∀ i, frm ≤ i → i < frm + m → g (k - i) = g' (k - i)) : jP G f g frm m k = jP G f' g' frm m k :=
 sumA_congr fun i hi => by rw [hf (frm + i) (by omega) (by omega), hg (frm + i) (by omega) (by omega)]
theorem fA_congr {x : zT} {n j : Nat} (hx : Wf n j x) {A A' : Nat → Nat → α} {q q' : Nat → α} {t : α} {m : Nat} (hA : ∀ j' i, j' < j → i ≤ m → A j' i = A' j' i) (hq : ∀ i, i < m → q i = q' i) : fA G x A q t m = fA G x A' q' t m := by
 have h2 : 4 ≤ x.op → x.a.toNat < j := fun h => by rcases hx with h1 | h1 | h1 | h1 | h1 <;> omega
 have h3 : 7 ≤ x.op → x.b.toNat < j := fun h => by rcases hx with h1 | h1 | h1 | h1 | h1 <;> omega
 unfold fA
 by_cases o4 : x.op = 4
 ·rw [if_pos o4, if_pos o4, hA _ _ (h2 (by omega)) (Nat.le_refl _)]
 rw [if_neg o4, if_neg o4]
 by_cases o7 : x.op = 7
 ·rw [if_pos o7, if_pos o7, hA _ _ (h2 (by omega)) (Nat.le_refl _), hA _ _ (h3 (by omega)) (Nat.le_refl _)]
 rw [if_neg o7, if_neg o7]
 by_cases o8 : x.op = 8
 ·rw [if_pos o8, if_pos o8, hA _ _ (h2 (by omega)) (Nat.le_refl _), hA _ _ (h3 (by omega)) (Nat.le_refl _)]
 rw [if_neg o8, if_neg o8]
 by_cases o9 : x.op = 9
 ·rw [if_pos o9, if_pos o9]
  exact zak (fun i _ h => hA _ _ (h2 (by omega)) (by omega)) (fun i _ h => hA _ _ (h3 (by omega)) (by omega))
 rw [if_neg o9, if_neg o9]
 by_cases o5 : x.op = 5
 ·rw [if_pos o5, if_pos o5]
  by_cases m0 : m = 0
  ·rw [if_pos m0, if_pos m0, hA _ _ (h2 (by omega)) (by omega)]
  ·rw [if_neg m0, if_neg m0]
   exact zak (fun i _ h => hA _ _ (h2 (by omega)) (by omega)) (fun i _ h => hA _ _ (h2 (by omega)) (by omega))
 rw [if_neg o5, if_neg o5]
 by_cases o10 : x.op = 10
 ·rw [if_pos o10, if_pos o10]
  by_cases m0 : m = 0
  ·rw [if_pos m0, if_pos m0, hA _ _ (h2 (by omega)) (by omega), hA _ _ (h3 (by omega)) (by omega)]
  ·rw [if_neg m0, if_neg m0, hA _ _ (h2 (by omega)) (Nat.le_refl _), hA _ 0 (h3 (by omega)) (by omega)]
   rw [zak (f' := A' x.b.toNat) (g' := q') (fun i _ h => hA _ _ (h3 (by omega)) (by omega)) (fun i _ h => hq _ (by omega))]
 rw [if_neg o10, if_neg o10]
 by_cases o6 : x.op = 6
 ·rw [if_pos o6, if_pos o6]
  by_cases m0 : m = 0
  ·rw [if_pos m0, if_pos m0, hA _ _ (h2 (by omega)) (by omega)]
  ·rw [if_neg m0, if_neg m0, hA _ _ (h2 (by omega)) (Nat.le_refl _), hq 0 (by omega)]
   rw [zak (f' := q') (g' := q') (fun i _ h => hq _ (by omega)) (fun i _ h => hq _ (by omega))]
 rw [if_neg o6, if_neg o6]
end
def ja : Alg I := ⟨(0, 0), (65536, 65536), fun c => c, neg, add, sub, mul, sq, div, Zg, fun q => jM q 2 1⟩
theorem sumA_I (f : Nat → I) : ∀ m, Qz ja f m = Xx f m
 | 0 => rfl
 | 1 => rfl
 | m + 2 => by simp only [Qz, Xx]; rw [sumA_I f (m + 1)]; rfl
theorem convA_I (a b : List I) (frm m k : Nat) : jP ja (zf a) (zf b) frm m k = qB a b frm m k := sumA_I _ _
theorem rowN_toNat (l : List (List I)) (k : Int) : zu l (k.toNat : Int) = zu l k := by unfold zu; rw [Int.toNat_natCast]
theorem nextC_fA (x : zT) (l : List (List I)) (own : List I) (t : I) : qq x l own t = fA ja x (fun j i => zf (zu l (j : Int)) i) (zf own) t own.length := by
 unfold qq fA Zu Zp
 simp only [rowN_toNat, convA_I]
 rfl
section
variable {T : Tp} {x : List I} {t : I} (hT : z8 T) (hx : zq x) (ht : vB t = true)
def Vt (a b : List I) : Prop := ∃ r, b = a ++ r
theorem Vt.refl (a : List I) : Vt a a := ⟨[], by simp⟩
theorem Vt.trans {a b c : List I} (h : Vt a b) (k : Vt b c) : Vt a c := by
 obtain ⟨r, rfl⟩ := h; obtain ⟨s, rfl⟩ := k; exact ⟨r ++ s, by simp⟩
theorem Vt.at {a b : List I} (h : Vt a b) {i : Nat} (hi : i < a.length) : zf b i = zf a i := by
 obtain ⟨r, rfl⟩ := h
 unfold zf; rw [List.getElem?_append_left hi]
def QE (l l' : List (List I)) : Prop := ∀ j : Nat, Vt (zu l (j : Int)) (zu l' (j : Int))
theorem QE.refl (l : List (List I)) : QE l l := fun _ => .refl _
theorem QE.trans {l l' l'' : List (List I)} (h : QE l l') (k : QE l' l'') : QE l l'' := fun j => (h j).trans (k j)
theorem QE.push (l : List (List I)) (i : Nat) (p : I) : QE l (l.set i (zu l (i : Int) ++ [p])) := fun j => by
 by_cases h : i = j
 ·subst h
  by_cases hi : i < l.length
  ·rw [zaa hi]; exact ⟨[p], rfl⟩
  ·rw [List.set_eq_of_length_le (by omega)]; exact .refl _
 ·rw [rowN_set_ne h]; exact .refl _
theorem zbw (L : List zT) (out : List (List I)) (t : I) (k : Nat) (l : List (List I)) : ∀ i, QE l (jG L out t k l i)
 | 0 => .refl _
 | i + 1 => by
  cases hy : L[i]? with
  | none => simp only [jG, hy]; exact zbw L out t k l i
  | some y => rw [Yu hy]; exact (zbw L out t k l i).trans (.push _ _ _)
theorem za4 (L : List zT) (out : List (List I)) (t : I) (k : Nat) (l : List (List I)) (i : Nat) : ∀ d, QE (jG L out t k l i) (jG L out t k l (i + d))
 | 0 => .refl _
 | d + 1 => by
  refine (za4 L out t k l i d).trans ?_
  rw [show i + (d + 1) = (i + d) + 1 by omega]
  cases hy : L[i + d]? with
  | none => simp only [jG, hy]; exact .refl _
  | some y => rw [Yu hy]; exact .push _ _ _
theorem zbv (T : Tp) (l out : List (List I)) (k : Nat) : ∀ i, QE out (j5 T l k out i)
 | 0 => .refl _
 | i + 1 => by
  cases hy : T.out[i]? with
  | none => simp only [j5, hy]; exact zbv T l out k i
  | some y => rw [Yt hy]; exact (zbv T l out k i).trans (.push _ _ _)
theorem stepO_pre2 (T : Tp) (l out : List (List I)) (k i : Nat) : ∀ d, QE (j5 T l k out i) (j5 T l k out (i + d))
 | 0 => .refl _
 | d + 1 => by
  refine (stepO_pre2 T l out k i d).trans ?_
  rw [show i + (d + 1) = (i + d) + 1 by omega]
  cases hy : T.out[i + d]? with
  | none => simp only [j5, hy]; exact .refl _
  | some y => rw [Yt hy]; exact .push _ _ _
theorem zbp (T : Tp) (x : List I) (t : I) (k : Nat) : ∀ d, QE (zH T x t k).1 (zH T x t (k + d)).1 ∧ QE (zH T x t k).2 (zH T x t (k + d)).2
 | 0 => ⟨.refl _, .refl _⟩
 | d + 1 => ⟨(zbp T x t k d).1.trans (zbw _ _ _ _ _ _), (zbp T x t k d).2.trans (zbv _ _ _ _ _)⟩
def cL (T : Tp) (x : List I) (t : I) (j m : Nat) : I := zf (zu (zH T x t (m + 1)).1 (j : Int)) m
def cO (T : Tp) (x : List I) (t : I) (i m : Nat) : I := zf (zu (zH T x t m).2 (i : Int)) m
include hT hx ht in
theorem cL_at {k j m : Nat} (hj : j < T.L.length) (hm : m < k) : zf (zu (zH T x t k).1 (j : Int)) m = cL T x t j m := by
 have h := (zbp T x t (m + 1) (k - (m + 1))).1 j
 rw [show m + 1 + (k - (m + 1)) = k by omega] at h
 exact h.at (by rw [(j0 hT hx ht (m + 1)).1.row j hj, if_neg (by omega)]; omega)
include hT hx ht in
theorem zdU {k i m : Nat} (hi : i < T.n) (hm : m ≤ k) : zf (zu (zH T x t k).2 (i : Int)) m = cO T x t i m := by
 have h := (zbp T x t m (k - m)).2 i
 rw [show m + (k - m) = k by omega] at h
 exact h.at (by rw [(j0 hT hx ht m).2.row i hi, if_neg (by omega)]; omega)
theorem zco {i : Nat} (hi : i < T.n) : cO T x t i 0 = zf x i := by
 simp [cO, zH, zu, hi, zf]
include hT hx ht in
theorem zcp {i m o : Nat} (hi : i < T.n) (ho : T.out[i]? = some o) : cO T x t i (m + 1) = jM (cL T x t o m) 1 (m + 1) := by
 obtain ⟨e1, e2⟩ := j0 hT hx ht m
 have hl := Yv hT ht e1 e2.val T.L.length (Nat.le_refl _)
 have hs := UC hT hl.val e2 i (by omega)
 have hp := stepO_pre2 T (zH T x t (m + 1)).1 (zH T x t m).2 m (i + 1) (T.out.length - (i + 1)) i
 have hil : i < T.out.length := (gJ.1 ho).1
 rw [show i + 1 + (T.out.length - (i + 1)) = T.out.length by omega] at hp
 have hrow := hs.row i hi
 rw [if_neg (by omega)] at hrow
 have hsl : i < (j5 T (zH T x t (m + 1)).1 m (zH T x t m).2 i).length := by rw [show (zH T x t (m + 1)).1 = jG T.L (zH T x t m).2 t m (zH T x t m).1 T.L.length from rfl, hs.len]; exact hi
 have e : zu (j5 T (zH T x t (m + 1)).1 m (zH T x t m).2 (i + 1)) (i : Int) = zu (j5 T (zH T x t (m + 1)).1 m (zH T x t m).2 i) (i : Int) ++ [jM (zf (zu (zH T x t (m + 1)).1 (o : Int)) m) 1 (m + 1)] := by
  rw [Yt ho, zaa hsl]
 have hrow' : (zu (j5 T (zH T x t (m + 1)).1 m (zH T x t m).2 i) (i : Int)).length = m + 1 := hrow
 show zf (zu (j5 T (zH T x t (m + 1)).1 m (zH T x t m).2 T.out.length) (i : Int)) (m + 1) = _
 rw [hp.at (by rw [e]; simp [hrow']), e]
 unfold zf
 rw [List.getElem?_append_right (by omega), hrow', Nat.sub_self]
 rfl
include hT hx ht in
theorem zdA {j m : Nat} {y : zT} (hy : T.L[j]? = some y) : cL T x t j m = if y.op = 2 then cO T x t y.a.toNat m else fA ja y (cL T x t) (cL T x t j) t m := by
 have hj := (gJ.1 hy).1
 obtain ⟨e1, e2⟩ := j0 hT hx ht m
 have hl := Yv hT ht e1 e2.val j (by omega)
 have hp := za4 T.L (zH T x t m).2 t m (zH T x t m).1 (j + 1) (T.L.length - (j + 1)) j
 rw [show j + 1 + (T.L.length - (j + 1)) = T.L.length by omega] at hp
 have hp0 := za4 T.L (zH T x t m).2 t m (zH T x t m).1 j (T.L.length - j)
 rw [show j + (T.L.length - j) = T.L.length by omega] at hp0
 have hrow := hl.row j hj
 rw [if_neg (by omega)] at hrow
 have hsl : j < (jG T.L (zH T x t m).2 t m (zH T x t m).1 j).length := by rw [hl.len]; exact hj
 have e := Yu (out := (zH T x t m).2) (l := (zH T x t m).1) (t := t) (k := m) hy
 have er : zu (jG T.L (zH T x t m).2 t m (zH T x t m).1 (j + 1)) (j : Int) = zu (jG T.L (zH T x t m).2 t m (zH T x t m).1 j) (j : Int) ++ [QQ y (zH T x t m).2 (jG T.L (zH T x t m).2 t m (zH T x t m).1 j) t m j] := by
  rw [e, zaa hsl]
 have h1 : cL T x t j m = QQ y (zH T x t m).2 (jG T.L (zH T x t m).2 t m (zH T x t m).1 j) t m j := by
  show zf (zu (jG T.L (zH T x t m).2 t m (zH T x t m).1 T.L.length) (j : Int)) m = _
  rw [hp.at (by rw [er]; simp [hrow]), er]
  unfold zf
  rw [List.getElem?_append_right (by omega), hrow, Nat.sub_self]
  rfl
 rw [h1]
 have hins := hT.ins j y hy
 unfold QQ
 by_cases o2 : y.op = 2
 ·rw [if_pos o2, if_pos o2]
  have hn : y.a.toNat < T.n := by rcases hins with h | h | h | h | h <;> omega
  rw [← rowN_toNat]
  exact zdU hT hx ht hn (Nat.le_refl _)
 ·rw [if_neg o2, if_neg o2, nextC_fA, hrow]
  refine fA_congr hins (fun j' i hj' hi => ?_) (fun i hi => ?_)
  ·have hr := hl.row j' (by omega)
   rw [if_pos hj'] at hr
   rw [← (hp0 j').at (by omega)]
   exact cL_at (k := m + 1) hT hx ht (by omega) (by omega)
  ·rw [← (hp0 j).at (by omega)]
   exact cL_at (k := m + 1) hT hx ht hj (by omega)
end
end Go.Pl

namespace Go.Pl
def qi (p : Nat) : Alg Rat := ⟨0, 1, fun c => (c.1 : Rat) / 65536, fun x => -x, fun x y => x + y, fun x y => x - y, fun x y => x * y, fun x => x * x, fun x y => x / y, rt p, fun x => 2 * x⟩
def Vf (T : Tp) (p : Nat) (s : Rat) (A : Nat → Nat → Rat) (o : Nat → Rat) (m : Nat) : Nat → Nat → Rat
 | 0 => fun _ => 0
 | i + 1 => fun j => if j = i then (match T.L[i]? with
   | some x => if x.op = 2 then o x.a.toNat else fA (qi p) x (fun j' i' => if i' = m then Vf T p s A o m i j' else A j' i') (A i) s m
   | none => 0) else Vf T p s A o m i j
def ZJ (T : Tp) (p : Nat) (s : Rat) (y : Nat → Rat) : Nat → (Nat → Nat → Rat) × (Nat → Rat)
 | 0 => (fun _ _ => 0, y)
 | m + 1 => (fun j i => if i = m then Vf T p s (ZJ T p s y m).1 (ZJ T p s y m).2 m T.L.length j else (ZJ T p s y m).1 j i,
   fun i => Vf T p s (ZJ T p s y m).1 (ZJ T p s y m).2 m T.L.length ((T.out[i]?).getD 0) / ((m + 1 : Nat) : Rat))
def rL (T : Tp) (p : Nat) (s : Rat) (y : Nat → Rat) (j m : Nat) : Rat := (ZJ T p s y (m + 1)).1 j m
def rO (T : Tp) (p : Nat) (s : Rat) (y : Nat → Rat) (i m : Nat) : Rat := (ZJ T p s y m).2 i
section
variable {T : Tp} {p : Nat} {s : Rat} {y : Nat → Rat}
theorem zcB {m : Nat} : ∀ {k : Nat}, m < k → ∀ j, (ZJ T p s y k).1 j m = rL T p s y j m
 | 0, h, j => by omega
 | k + 1, h, j => by
  by_cases e : m = k
  ·subst e; rfl
  ·show (if m = k then _ else (ZJ T p s y k).1 j m) = _
   rw [if_neg e]; exact zcB (by omega) j
theorem zcK {A : Nat → Nat → Rat} {o : Nat → Rat} {m i j : Nat} (hj : j < i) : ∀ {k : Nat}, i ≤ k → Vf T p s A o m k j = Vf T p s A o m i j
 | k, h => by
  induction k with
  | zero => rw [show i = 0 by omega]
  | succ k ih =>
   by_cases e : i = k + 1
   ·rw [e]
   ·show (if j = k then _ else Vf T p s A o m k j) = _
    rw [if_neg (by omega)]; exact ih (by omega)
theorem rO_zero (i : Nat) : rO T p s y i 0 = y i := rfl
theorem zde (j m : Nat) : rL T p s y j m = Vf T p s (ZJ T p s y m).1 (ZJ T p s y m).2 m T.L.length j := by
 show (if m = m then _ else _) = _
 rw [if_pos rfl]
theorem Vs {i m o : Nat} (ho : T.out[i]? = some o) : rO T p s y i (m + 1) = rL T p s y o m / ((m + 1 : Nat) : Rat) := by
 rw [zde]
 show Vf T p s (ZJ T p s y m).1 (ZJ T p s y m).2 m T.L.length ((T.out[i]?).getD 0) / ((m + 1 : Nat) : Rat) = _
 rw [ho]; rfl
theorem Jy (hT : z8 T) {j m : Nat} {x : zT} (hx : T.L[j]? = some x) : rL T p s y j m = if x.op = 2 then rO T p s y x.a.toNat m else fA (qi p) x (rL T p s y) (rL T p s y j) s m := by
 have hj := (gJ.1 hx).1
 rw [zde, zcK (i := j + 1) (by omega) (by omega)]
 show (if j = j then (match T.L[j]? with
   | some x => if x.op = 2 then (ZJ T p s y m).2 x.a.toNat else fA (qi p) x (fun j' i' => if i' = m then Vf T p s (ZJ T p s y m).1 (ZJ T p s y m).2 m j j' else (ZJ T p s y m).1 j' i') ((ZJ T p s y m).1 j) s m
   | none => 0) else _) = _
 rw [if_pos rfl, hx]
 simp only
 by_cases o2 : x.op = 2
 ·rw [if_pos o2, if_pos o2]; rfl
 ·rw [if_neg o2, if_neg o2]
  refine fA_congr (hT.ins j x hx) (fun j' i hj' hi => ?_) (fun i hi => zcB hi j)
  by_cases e : i = m
  ·subst e
   rw [if_pos rfl, zde, zcK (i := j' + 1) (k := T.L.length) (by omega) (by omega), zcK (i := j' + 1) (k := j) (by omega) (by omega)]
  ·rw [if_neg e]; exact zcB (by omega) j'
end
theorem in_mulr {a : I} {x : Rat} {n d : Int} (hn : 0 ≤ n) (hd : 0 < d) (h : zP a x) : zP (jM a n d) (x * n / d) := by
 unfold jM
 rcases h with rfl | ⟨h1, h2⟩
 ·rw [if_pos (by decide)]; exact .inl rfl
 ·split
  ·rename_i he; rw [jw] at he; exact .inl he
  ·have hdR : (0 : Rat) < (d : Rat) := Rat.intCast_pos.2 hd
   have hnR : (0 : Rat) ≤ (n : Rat) := Rat.intCast_nonneg.2 hn
   have f1 := (Vc (x := a.1 * n) (b := d) (by omega)).1
   have f2 := (VC (x := a.2 * n) (b := d) (by omega)).1
   have m1 := Rat.mul_le_mul_of_nonneg_right h1 hnR
   have m2 := Rat.mul_le_mul_of_nonneg_right h2 hnR
   have c1 : ((a.1 * n : Int) : Rat) = (a.1 : Rat) * (n : Rat) := Rat.intCast_mul _ _
   have c2 : ((a.2 * n : Int) : Rat) = (a.2 : Rat) * (n : Rat) := Rat.intCast_mul _ _
   rw [c1] at f1
   rw [c2] at f2
   have e : x * n / d * 65536 = (x * 65536 * n) / d := by grind
   refine YZ ?_ ?_
   ·rw [e]
    refine Rat.le_trans f1 ?_
    exact XC hdR (by have : (a.1 : Rat) * n / d * d = a.1 * n := by grind
                     rw [this]; exact m1)
   ·rw [e]
    refine Rat.le_trans ?_ f2
    exact VB hdR (by have : (a.2 : Rat) * n / d * d = a.2 * n := by grind
                     rw [this]; exact m2)
theorem in_sumA {p : Nat} {f : Nat → I} {g : Nat → Rat} : ∀ {m : Nat}, (∀ i, i < m → zP (f i) (g i)) → zP (Qz ja f m) (Qz (qi p) g m)
 | 0, _ => Wj
 | 1, h => h 0 (by omega)
 | m + 2, h => Wi (in_sumA fun i hi => h i (by omega)) (h (m + 1) (by omega))
theorem zbo {p : Nat} {f g : Nat → I} {f' g' : Nat → Rat} {frm m k : Nat} (hf : ∀ i, frm ≤ i → i < frm + m → zP (f i) (f' i)) (hg : ∀ i, frm ≤ i → i < frm + m → zP (g (k - i)) (g' (k - i))) : zP (jP ja f g frm m k) (jP (qi p) f' g' frm m k) :=
 in_sumA fun i hi => zdk (hf (frm + i) (by omega) (by omega)) (hg (frm + i) (by omega) (by omega))
theorem in_root {p : Nat} {a : I} {x : Rat} (h : zP a x) : zP (Zg a) (rt p x) := in_rt p h
theorem zdm {a : I} {x : Rat} (h : zP a x) : zP (jM a 2 1) (2 * x) := by
 have := in_mulr (n := 2) (d := 1) (by decide) (by decide) h
 have e : x * ((2 : Int) : Rat) / ((1 : Int) : Rat) = 2 * x := by
  have e1 : ((2 : Int) : Rat) = 2 := rfl
  have e2 : ((1 : Int) : Rat) = 1 := rfl
  rw [e1, e2]; grind
 rwa [e] at this
theorem in_fA {x : zT} {n j : Nat} (hx : Wf n j x) (o2 : x.op ≠ 2) {p : Nat} {A : Nat → Nat → I} {A' : Nat → Nat → Rat} {q : Nat → I} {q' : Nat → Rat} {t : I} {s : Rat} {m : Nat} (hA : ∀ j' i, j' < j → i ≤ m → zP (A j' i) (A' j' i)) (hq : ∀ i, i < m → zP (q i) (q' i)) (ht : zP t s) :
  zP (fA ja x A q t m) (fA (qi p) x A' q' s m) := by
 have h2 : 4 ≤ x.op → x.a.toNat < j := fun h => by rcases hx with h1 | h1 | h1 | h1 | h1 <;> omega
 have h3 : 7 ≤ x.op → x.b.toNat < j := fun h => by rcases hx with h1 | h1 | h1 | h1 | h1 <;> omega
 unfold fA
 by_cases o4 : x.op = 4
 ·rw [if_pos o4, if_pos o4]; exact in_neg (hA _ _ (h2 (by omega)) (Nat.le_refl _))
 rw [if_neg o4, if_neg o4]
 by_cases o7 : x.op = 7
 ·rw [if_pos o7, if_pos o7]; exact Wi (hA _ _ (h2 (by omega)) (Nat.le_refl _)) (hA _ _ (h3 (by omega)) (Nat.le_refl _))
 rw [if_neg o7, if_neg o7]
 by_cases o8 : x.op = 8
 ·rw [if_pos o8, if_pos o8]; exact zdj (hA _ _ (h2 (by omega)) (Nat.le_refl _)) (hA _ _ (h3 (by omega)) (Nat.le_refl _))
 rw [if_neg o8, if_neg o8]
 by_cases o9 : x.op = 9
 ·rw [if_pos o9, if_pos o9]
  exact zbo (fun i _ h => hA _ _ (h2 (by omega)) (by omega)) (fun i _ h => hA _ _ (h3 (by omega)) (by omega))
 rw [if_neg o9, if_neg o9]
 by_cases o5 : x.op = 5
 ·rw [if_pos o5, if_pos o5]
  by_cases m0 : m = 0
  ·rw [if_pos m0, if_pos m0]; exact in_sq (hA _ _ (h2 (by omega)) (by omega))
  ·rw [if_neg m0, if_neg m0]
   exact zbo (fun i _ h => hA _ _ (h2 (by omega)) (by omega)) (fun i _ h => hA _ _ (h2 (by omega)) (by omega))
 rw [if_neg o5, if_neg o5]
 by_cases o10 : x.op = 10
 ·rw [if_pos o10, if_pos o10]
  by_cases m0 : m = 0
  ·rw [if_pos m0, if_pos m0]; exact zdl (hA _ _ (h2 (by omega)) (by omega)) (fun _ => hA _ _ (h3 (by omega)) (by omega))
  ·rw [if_neg m0, if_neg m0]
   exact zdl (zdj (hA _ _ (h2 (by omega)) (Nat.le_refl _)) (zbo (fun i _ h => hA _ _ (h3 (by omega)) (by omega)) (fun i _ h => hq _ (by omega)))) (fun _ => hA _ _ (h3 (by omega)) (by omega))
 rw [if_neg o10, if_neg o10]
 by_cases o6 : x.op = 6
 ·rw [if_pos o6, if_pos o6]
  by_cases m0 : m = 0
  ·rw [if_pos m0, if_pos m0]; exact in_root (hA _ _ (h2 (by omega)) (by omega))
  ·rw [if_neg m0, if_neg m0]
   exact zdl (zdj (hA _ _ (h2 (by omega)) (Nat.le_refl _)) (zbo (fun i _ h => hq _ (by omega)) (fun i _ h => hq _ (by omega)))) (fun _ => zdm (hq 0 (by omega)))
 rw [if_neg o6, if_neg o6]
 by_cases o1 : x.op = 1
 ·rw [if_pos o1, if_pos o1]
  by_cases m0 : m = 0
  ·rw [if_pos m0, if_pos m0]
   have hv : vB x.c = true := by rcases hx with h1 | h1 | h1 | h1 | h1 <;> first | exact h1.2 | omega
   exact Y0 hv
  ·rw [if_neg m0, if_neg m0]; exact Wj
 rw [if_neg o1, if_neg o1]
 by_cases o3 : x.op = 3
 ·rw [if_pos o3, if_pos o3]
  by_cases m0 : m = 0
  ·rw [if_pos m0, if_pos m0]; exact ht
  ·rw [if_neg m0, if_neg m0]
   by_cases m1 : m = 1
   ·rw [if_pos m1, if_pos m1]; exact inI_11
   ·rw [if_neg m1, if_neg m1]; exact Wj
 rw [if_neg o3, if_neg o3]; exact Wj
theorem Wh {T : Tp} {x : List I} {t : I} (hT : z8 T) (hx : zq x) (ht : vB t = true) (p : Nat) {s : Rat} {y : Nat → Rat} (hy : ∀ i, i < T.n → zP (zf x i) (y i)) (hs : zP t s) :
  ∀ m, (∀ i, i < T.n → zP (cO T x t i m) (rO T p s y i m)) ∧ (∀ j, j < T.L.length → zP (cL T x t j m) (rL T p s y j m)) := by
 intro m
 induction m using Nat.strongRecOn with
 | ind m ih =>
  have hO : ∀ i, i < T.n → zP (cO T x t i m) (rO T p s y i m) := by
   intro i hi
   cases m with
   | zero => rw [zco hi, rO_zero]; exact hy i hi
   | succ m =>
    obtain ⟨o, ho⟩ : ∃ o, T.out[i]? = some o := ⟨T.out[i]'(by rw [hT.len]; exact hi), by simp⟩
    rw [zcp hT hx ht hi ho, Vs ho]
    have := in_mulr (n := 1) (d := (m : Int) + 1) (by decide) (by omega) ((ih m (by omega)).2 o (hT.out o (List.mem_of_getElem? ho)))
    have e : rL T p s y o m * ((1 : Int) : Rat) / (((m : Int) + 1 : Int) : Rat) = rL T p s y o m / ((m + 1 : Nat) : Rat) := by
     have e1 : ((1 : Int) : Rat) = 1 := rfl
     have e2 : (((m : Int) + 1 : Int) : Rat) = ((m + 1 : Nat) : Rat) := by
      have : ((m : Int) + 1) = ((m + 1 : Nat) : Int) := by omega
      rw [this]; exact Rat.intCast_natCast _
     rw [e1, e2]; grind
    rwa [e] at this
  refine ⟨hO, fun j => ?_⟩
  induction j using Nat.strongRecOn with
  | ind j ihj =>
   intro hj
   obtain ⟨x', hx'⟩ : ∃ x', T.L[j]? = some x' := ⟨T.L[j], by simp [hj]⟩
   rw [zdA hT hx ht hx', Jy hT hx']
   by_cases o2 : x'.op = 2
   ·rw [if_pos o2, if_pos o2]
    refine hO _ ?_
    have := hT.ins j x' hx'
    rcases this with h | h | h | h | h <;> omega
   ·rw [if_neg o2, if_neg o2]
    refine in_fA (hT.ins j x' hx') o2 (fun j' i hj' hi => ?_) (fun i hi => (ih i hi).2 j hj) hs
    rcases Nat.lt_or_eq_of_le hi with h | h
    ·exact (ih i h).2 j' (by omega)
    ·rw [h]; exact ihj j' hj' (by omega)
end Go.Pl

namespace Go.Pl
def sm (f : Nat → Rat) : Nat → Rat
 | 0 => 0
 | m + 1 => sm f m + f m
theorem zcv (p : Nat) (f : Nat → Rat) : ∀ m, Qz (qi p) f m = sm f m
 | 0 => rfl
 | 1 => by show f 0 = 0 + f 0; grind
 | m + 2 => by
  show Qz (qi p) f (m + 1) + f (m + 1) = sm f (m + 1) + f (m + 1)
  rw [zcv p f (m + 1)]
theorem JV {f g : Nat → Rat} : ∀ {m : Nat}, (∀ i, i < m → f i = g i) → sm f m = sm g m
 | 0, _ => rfl
 | m + 1, h => by simp only [sm]; rw [JV fun i hi => h i (by omega), h m (by omega)]
theorem zdd (f g : Nat → Rat) : ∀ m, sm (fun i => f i + g i) m = sm f m + sm g m
 | 0 => by simp only [sm]; grind
 | m + 1 => by simp only [sm]; rw [zdd f g m]; grind
theorem sm_mul (c : Rat) (f : Nat → Rat) : ∀ m, sm (fun i => c * f i) m = c * sm f m
 | 0 => by simp only [sm]; grind
 | m + 1 => by simp only [sm]; rw [sm_mul c f m]; grind
theorem Yx (f : Nat → Rat) : ∀ m, sm f (m + 1) = f 0 + sm (fun i => f (i + 1)) m
 | 0 => by simp only [sm]; grind
 | m + 1 => by
  have := Yx f m
  simp only [sm] at this ⊢
  grind
def cv (a b : Nat → Rat) (m : Nat) : Rat := sm (fun i => a i * b (m - i)) (m + 1)
theorem UU (i : Nat) : ((i + 1 : Nat) : Rat) = (i : Rat) + 1 := by
 have : ((i + 1 : Nat) : Rat) = ((((i : Int) + 1 : Int)) : Rat) := (Rat.intCast_natCast (i + 1)).symm
 rw [this, Rat.intCast_add]
 rfl
theorem zck (a b : Nat → Rat) (m : Nat) : sm (fun i => ((i + 1 : Nat) : Rat) * a (i + 1) * b (m - i) + a i * (((m - i + 1 : Nat) : Rat) * b (m - i + 1))) (m + 1) = ((m + 1 : Nat) : Rat) * cv a b (m + 1) := by
 rw [zdd]
 have h1 : sm (fun i => ((i + 1 : Nat) : Rat) * a (i + 1) * b (m - i)) (m + 1) = sm (fun i => (i : Rat) * (a i * b (m + 1 - i))) (m + 2) := by
  rw [Yx (fun i => (i : Rat) * (a i * b (m + 1 - i))) (m + 1)]
  have e0 : ((0 : Nat) : Rat) * (a 0 * b (m + 1 - 0)) = 0 := by
   have : ((0 : Nat) : Rat) = 0 := rfl
   rw [this]; grind
  rw [e0]
  have : ∀ x : Rat, 0 + x = x := by intro x; grind
  rw [this]
  refine JV fun i hi => ?_
  rw [show m + 1 - (i + 1) = m - i by omega]
  grind
 have h2 : sm (fun i => a i * (((m - i + 1 : Nat) : Rat) * b (m - i + 1))) (m + 1) = sm (fun i => ((m + 1 - i : Nat) : Rat) * (a i * b (m + 1 - i))) (m + 2) := by
  show _ = sm (fun i => ((m + 1 - i : Nat) : Rat) * (a i * b (m + 1 - i))) (m + 1) + ((m + 1 - (m + 1) : Nat) : Rat) * (a (m + 1) * b (m + 1 - (m + 1)))
  have e0 : ((m + 1 - (m + 1) : Nat) : Rat) * (a (m + 1) * b (m + 1 - (m + 1))) = 0 := by
   have : ((m + 1 - (m + 1) : Nat) : Rat) = 0 := by rw [Nat.sub_self]; rfl
   rw [this]; grind
  rw [e0]
  have : ∀ x : Rat, x + 0 = x := by intro x; grind
  rw [this]
  refine JV fun i hi => ?_
  rw [show m + 1 - i = m - i + 1 by omega]
  grind
 rw [h1, h2, ← zdd, cv, ← sm_mul]
 refine JV fun i hi => ?_
 have e : ((m + 1 - i : Nat) : Rat) = ((m + 1 : Nat) : Rat) - (i : Rat) := by
  have h3 : ((m + 1 - i : Nat) : Int) = ((m + 1 : Nat) : Int) - (i : Int) := by omega
  have h4 : ((m + 1 - i : Nat) : Rat) = (((m + 1 - i : Nat) : Int) : Rat) := (Rat.intCast_natCast _).symm
  rw [h4, h3, Rat.intCast_sub, Rat.intCast_natCast, Rat.intCast_natCast]
 rw [e]; grind
structure qk (T : Tp) (X : List I) (τ : I) where
 p : Nat
 δ : Rat
 s : Rat
 y : Nat → Rat
 y' : Nat → Rat
 hy : ∀ i, i < T.n → zP (zf X i) (y i)
 hy' : ∀ i, i < T.n → zP (zf X i) (y' i)
 hs : zP τ s
 hs' : zP τ (s + δ)
 pos : 0 < δ
 small : δ ≤ 4
 fine : 1 / (qp p : Rat) ≤ δ * δ
 euler : ∀ i o, T.out[i]? = some o → y' i = y i + δ * rL T p s y o 0
section
variable {T : Tp} {X : List I} {τ : I}
def zU (u u' d : qk T X τ → Rat) : Prop := ∃ K, 0 ≤ K ∧ ∀ r, Df K r.δ (u r) (u' r) (d r)
def zR (u : qk T X τ → Rat) : Prop := ∃ W, 0 ≤ W ∧ ∀ r, Bn W (u r)
variable {u u' d v v' e : qk T X τ → Rat}
theorem zR.add (h : zR u) (k : zR v) : zR fun r => u r + v r := by
 obtain ⟨K, k0, hK⟩ := h; obtain ⟨L, l0, hL⟩ := k
 exact ⟨K + L, by grind, fun r => (hK r).add (hL r)⟩
theorem zR.mul (h : zR u) (k : zR v) : zR fun r => u r * v r := by
 obtain ⟨K, k0, hK⟩ := h; obtain ⟨L, l0, hL⟩ := k
 exact ⟨K * L, Rat.mul_nonneg k0 l0, fun r => (hK r).mul (hL r)⟩
theorem zR.smul (c : Rat) (h : zR u) : zR fun r => c * u r := by
 obtain ⟨K, k0, hK⟩ := h
 have hc : ∃ C, 0 ≤ C ∧ Bn C c := by
  by_cases h : 0 ≤ c
  ·exact ⟨c, h, by unfold Bn; grind⟩
  ·exact ⟨-c, by grind, by unfold Bn; grind⟩
 obtain ⟨C, c0, hC⟩ := hc
 exact ⟨C * K, Rat.mul_nonneg c0 k0, fun r => Bn.mul hC (hK r)⟩
theorem zU.add (h : zU u u' d) (k : zU v v' e) : zU (fun r => u r + v r) (fun r => u' r + v' r) (fun r => d r + e r) := by
 obtain ⟨K, k0, hK⟩ := h; obtain ⟨L, l0, hL⟩ := k
 exact ⟨K + L, by grind, fun r => (hK r).add (hL r)⟩
theorem zU.sub (h : zU u u' d) (k : zU v v' e) : zU (fun r => u r - v r) (fun r => u' r - v' r) (fun r => d r - e r) := by
 obtain ⟨K, k0, hK⟩ := h; obtain ⟨L, l0, hL⟩ := k
 exact ⟨K + L, by grind, fun r => (hK r).sub (hL r)⟩
theorem zU.neg (h : zU u u' d) : zU (fun r => - u r) (fun r => - u' r) (fun r => - d r) := by
 obtain ⟨K, k0, hK⟩ := h
 exact ⟨K, k0, fun r => (hK r).neg⟩
theorem zU.const (c : Rat) : zU (fun _ : qk T X τ => c) (fun _ => c) (fun _ => 0) := ⟨0, by grind, fun r => Df.const c⟩
theorem zU.congr (h : zU u u' d) (h1 : ∀ r, u r = v r) (h2 : ∀ r, u' r = v' r) (h3 : ∀ r, d r = e r) : zU v v' e := by
 obtain ⟨K, k0, hK⟩ := h
 exact ⟨K, k0, fun r => by rw [← h1, ← h2, ← h3]; exact hK r⟩
theorem zU.smul (c : Rat) (h : zU u u' d) : zU (fun r => c * u r) (fun r => c * u' r) (fun r => c * d r) := by
 obtain ⟨K, k0, hK⟩ := h
 have hc : ∃ C, 0 ≤ C ∧ Bn C c := by
  by_cases h : 0 ≤ c
  ·exact ⟨c, h, by unfold Bn; grind⟩
  ·exact ⟨-c, by grind, by unfold Bn; grind⟩
 obtain ⟨C, c0, hC⟩ := hc
 exact ⟨C * K, Rat.mul_nonneg c0 k0, fun r => (hK r).smul c hC⟩
theorem zU.mul (h : zU u u' d) (k : zU v v' e) (bu' : zR u') (bv : zR v) (bd : zR d) (be : zR e) : zU (fun r => u r * v r) (fun r => u' r * v' r) (fun r => d r * v r + u r * e r) := by
 obtain ⟨K, k0, hK⟩ := h; obtain ⟨L, l0, hL⟩ := k
 obtain ⟨W1, w1, h1⟩ := bu'; obtain ⟨W2, w2, h2⟩ := bv; obtain ⟨W3, w3, h3⟩ := bd; obtain ⟨W4, w4, h4⟩ := be
 generalize hW : W1 + W2 + W3 + W4 = W
 have w0 : 0 ≤ W := by grind
 have n1 := Rat.mul_nonneg w0 w0
 have n2 := Rat.mul_nonneg (Rat.mul_nonneg (show (0 : Rat) ≤ 4 by grind) w0) k0
 have n3 := Rat.mul_nonneg w0 l0
 have n4 := Rat.mul_nonneg w0 k0
 exact ⟨W * W + 4 * W * K + W * L + W * K, by grind, fun r => (hK r).mul (Rat.le_of_lt r.pos) r.small (hL r) ((h1 r).mono (by grind)) ((h2 r).mono (by grind)) ((h3 r).mono (by grind)) ((h4 r).mono (by grind))⟩
theorem zU.sum {f f' g : Nat → qk T X τ → Rat} : ∀ {m : Nat}, (∀ i, i < m → zU (f i) (f' i) (g i)) → zU (fun r => sm (fun i => f i r) m) (fun r => sm (fun i => f' i r) m) (fun r => sm (fun i => g i r) m)
 | 0, _ => zU.const 0
 | m + 1, h => zU.add (zU.sum fun i hi => h i (by omega)) (h m (by omega))
theorem zR.sum {f : Nat → qk T X τ → Rat} : ∀ {m : Nat}, (∀ i, i < m → zR (f i)) → zR (fun r => sm (fun i => f i r) m)
 | 0, _ => ⟨0, by grind, fun r => Bn.zero (by grind)⟩
 | m + 1, h => zR.add (zR.sum fun i hi => h i (by omega)) (h m (by omega))
theorem UT {a b : Rat} (ha : 0 ≤ a) (hb : 0 < b) : 0 ≤ a / b := by
 rw [Rat.div_def]; exact Rat.mul_nonneg ha (Rat.le_of_lt (Rat.inv_pos.2 hb))
theorem zU.cancel {b b' db q q' dq : qk T X τ → Rat} {β : Rat} (hβ : 0 < β) (hb : ∀ r, JM β (b r)) (hb' : ∀ r, JM β (b' r)) (hP : zU (fun r => b r * q r) (fun r => b' r * q' r) (fun r => db r * q r + b r * dq r)) (hB : zU b b' db)
  (wb : zR b) (wq : zR q) (wdb : zR db) (wdq : zR dq) : zU q q' dq := by
 obtain ⟨K, k0, hK⟩ := hP; obtain ⟨L, l0, hL⟩ := hB
 obtain ⟨W1, w1, h1⟩ := wb; obtain ⟨W2, w2, h2⟩ := wq; obtain ⟨W3, w3, h3⟩ := wdb; obtain ⟨W4, w4, h4⟩ := wdq
 generalize hW : W1 + W2 + W3 + W4 = W
 have w0 : 0 ≤ W := by grind
 have n1 := Rat.mul_nonneg w0 w0
 have n2 := Rat.mul_nonneg (show (0 : Rat) ≤ 4 by grind) k0
 have n3 := Rat.mul_nonneg (Rat.mul_nonneg (show (0 : Rat) ≤ 4 by grind) w0) l0
 have n4 := Rat.mul_nonneg (show (0 : Rat) ≤ 4 by grind) l0
 have n5 := Rat.mul_nonneg w0 l0
 have n6 : 0 ≤ (W * W + 4 * K + 4 * W * L) / β := UT (by grind) hβ
 have n7 : 0 ≤ (W * W + 4 * K + 4 * W * L) / β * (W + 4 * L) := Rat.mul_nonneg n6 (by grind)
 exact ⟨(K + W * L + (W * W + 4 * K + 4 * W * L) / β * (W + 4 * L)) / β, UT (by grind) hβ, fun r => Df.cancel (Rat.le_of_lt r.pos) r.small hβ (hb r) (hb' r) (hK r) (hL r) ((h1 r).mono (by grind)) ((h2 r).mono (by grind)) ((h3 r).mono (by grind)) ((h4 r).mono (by grind))⟩
theorem zU.root {q q' dq : qk T X τ → Rat} {β : Rat} (hβ : 0 < β) (hb : ∀ r, β ≤ q r) (hb' : ∀ r, β ≤ q' r) (hP : zU (fun r => q r * q r) (fun r => q' r * q' r) (fun r => 2 * q r * dq r)) (wq : zR q) (wdq : zR dq) : zU q q' dq := by
 obtain ⟨K, k0, hK⟩ := hP
 obtain ⟨W1, w1, h1⟩ := wq; obtain ⟨W2, w2, h2⟩ := wdq
 generalize hW : W1 + W2 = W
 have w0 : 0 ≤ W := by grind
 have n1 := Rat.mul_nonneg w0 w0
 have n2 : 0 ≤ (2 * W * W + 4 * K) / (2 * β) := UT (by grind) (by grind)
 have n3 := Rat.mul_nonneg n2 n2
 exact ⟨(K + (2 * W * W + 4 * K) / (2 * β) * ((2 * W * W + 4 * K) / (2 * β))) / (2 * β), UT (by grind) (by grind), fun r => Df.root (Rat.le_of_lt r.pos) hβ r.small (hb r) (hb' r) (hK r) k0 ((h1 r).mono (by grind)) ((h2 r).mono (by grind))⟩
theorem zU.near (h : zU u u' d) {C : Rat} (hC : 0 ≤ C) (h1 : ∀ r, Bn (C * (r.δ * r.δ)) (v r - u r)) (h2 : ∀ r, Bn (C * (r.δ * r.δ)) (v' r - u' r)) : zU v v' d := by
 obtain ⟨K, k0, hK⟩ := h
 refine ⟨K + 2 * C, by grind, fun r => ?_⟩
 have h0 : Bn (K * (r.δ * r.δ)) (u' r - u r - r.δ * d r) := hK r
 have := (Bn.add h0 (h2 r)).sub (h1 r)
 unfold Df
 have e1 : K * (r.δ * r.δ) + C * (r.δ * r.δ) + C * (r.δ * r.δ) = (K + 2 * C) * (r.δ * r.δ) := by grind
 have e2 : u' r - u r - r.δ * d r + (v' r - u' r) - (v r - u r) = v' r - v r - r.δ * d r := by grind
 rwa [e1, e2] at this
end
end Go.Pl

namespace Go.Pl
theorem WQ {a b : I} (h : add a b ≠ ent) : a ≠ ent ∧ b ≠ ent := by
 refine ⟨fun e => h ?_, fun e => h ?_⟩ <;> subst e <;> unfold add <;> simp [show zI ent = true from rfl]
theorem neg_ne {a : I} (h : neg a ≠ ent) : a ≠ ent := fun e => h (by subst e; rfl)
theorem Yq {a b : I} (h : sub a b ≠ ent) : a ≠ ent ∧ b ≠ ent := by
 unfold sub at h
 exact ⟨(WQ h).1, neg_ne (WQ h).2⟩
theorem mul_ne {a b : I} (h : mul a b ≠ ent) : a ≠ ent ∧ b ≠ ent := by
 refine ⟨fun e => h ?_, fun e => h ?_⟩ <;> subst e <;> unfold mul <;> simp [show zI ent = true from rfl]
theorem WC {a b : I} (h : div a b ≠ ent) : a ≠ ent ∧ b ≠ ent ∧ (0 < b.1 ∨ b.2 < 0) := by
 refine ⟨fun e => h ?_, fun e => h ?_, ?_⟩
 ·subst e; unfold div; simp [show zI ent = true from rfl]
 ·subst e; unfold div; simp [show zI ent = true from rfl]
 ·by_cases k : 0 < b.1 ∨ b.2 < 0
  ·exact k
  ·exfalso
   apply h
   unfold div
   rw [if_pos]
   simp
   omega
theorem UV {a : I} {n d : Int} (h : jM a n d ≠ ent) : a ≠ ent := fun e => h (by subst e; rfl)
theorem sumA_ne {f : Nat → I} : ∀ {m : Nat}, Qz ja f m ≠ ent → ∀ i, i < m → f i ≠ ent
 | 0, _, i, hi => by omega
 | 1, h, i, hi => by rw [show i = 0 by omega]; exact h
 | m + 2, h, i, hi => by
  have h' : add (Qz ja f (m + 1)) (f (m + 1)) ≠ ent := h
  obtain ⟨h1, h2⟩ := WQ h'
  by_cases e : i = m + 1
  ·rw [e]; exact h2
  ·exact sumA_ne h1 i (by omega)
theorem Xe {f g : Nat → I} {frm m k : Nat} (h : jP ja f g frm m k ≠ ent) : ∀ i, frm ≤ i → i < frm + m → f i ≠ ent ∧ g (k - i) ≠ ent := fun i h1 h2 => by
 have := sumA_ne h (i - frm) (by omega)
 rw [show frm + (i - frm) = i by omega] at this
 exact mul_ne this
theorem sqrt_ent_root : Zg ent = ent := by
 unfold Zg
 rw [if_pos (by decide)]
theorem rootI_ne {a : I} (h : Zg a ≠ ent) : a ≠ ent ∧ 0 ≤ a.1 := by
 refine ⟨fun e => h (by subst e; exact sqrt_ent_root), ?_⟩
 unfold Zg at h
 split at h
 ·exact absurd rfl h
 ·omega
section
variable {T : Tp} {X : List I} {τ : I}
def aL (j m : Nat) (r : qk T X τ) : Rat := rL T r.p r.s r.y j m
def aL' (j m : Nat) (r : qk T X τ) : Rat := rL T r.p (r.s + r.δ) r.y' j m
def aO (i m : Nat) (r : qk T X τ) : Rat := rO T r.p r.s r.y i m
def aO' (i m : Nat) (r : qk T X τ) : Rat := rO T r.p (r.s + r.δ) r.y' i m
variable (hT : z8 T) (hX : zq X) (hτ : vB τ = true)
include hT hX hτ in
theorem Xm (j m : Nat) (hj : j < T.L.length) (r : qk T X τ) : zP (cL T X τ j m) (aL j m r) ∧ zP (cL T X τ j m) (aL' j m r) :=
 ⟨(Wh hT hX hτ r.p r.hy r.hs m).2 j hj, (Wh hT hX hτ r.p r.hy' r.hs' m).2 j hj⟩
theorem zc8 {c : I} (hc : c ≠ ent) : ∃ W, 0 ≤ W ∧ ∀ x, zP c x → Bn W x := by
 have w0 : (0 : Int) ≤ max (max c.1 (-c.1)) (max c.2 (-c.2)) := by omega
 have w1 : -(max (max c.1 (-c.1)) (max c.2 (-c.2))) ≤ c.1 := by omega
 have w2 : c.2 ≤ max (max c.1 (-c.1)) (max c.2 (-c.2)) := by omega
 generalize max (max c.1 (-c.1)) (max c.2 (-c.2)) = W at *
 have r0 : (0 : Rat) ≤ (W : Rat) := Rat.intCast_nonneg.2 w0
 have r1 : -(W : Rat) ≤ (c.1 : Rat) := by
  have := Rat.intCast_le_intCast.2 w1
  rwa [Rat.intCast_neg] at this
 have r2 : (c.2 : Rat) ≤ (W : Rat) := Rat.intCast_le_intCast.2 w2
 refine ⟨(W : Rat), r0, fun x hx => ?_⟩
 rcases hx with hx | ⟨h1, h2⟩
 ·exact absurd hx hc
 ·unfold Bn
  constructor <;> grind
include hT hX hτ in
theorem Zz (j m : Nat) (hj : j < T.L.length) (hc : cL T X τ j m ≠ ent) : zR (T := T) (X := X) (τ := τ) (aL j m) ∧ zR (T := T) (X := X) (τ := τ) (aL' j m) := by
 obtain ⟨W, w0, hW⟩ := zc8 hc
 exact ⟨⟨W, w0, fun r => hW _ (Xm hT hX hτ j m hj r).1⟩, ⟨W, w0, fun r => hW _ (Xm hT hX hτ j m hj r).2⟩⟩
theorem dO_step {i o m : Nat} (ho : T.out[i]? = some o) (h : zU (T := T) (X := X) (τ := τ) (aL o m) (aL' o m) (fun r => ((m + 1 : Nat) : Rat) * aL o (m + 1) r)) :
  zU (T := T) (X := X) (τ := τ) (aO i (m + 1)) (aO' i (m + 1)) (fun r => ((m + 1 + 1 : Nat) : Rat) * aO i (m + 1 + 1) r) := by
 have m1 : ((m + 1 : Nat) : Rat) ≠ 0 := by
  have : (0 : Rat) < ((m + 1 : Nat) : Rat) := by rw [← Rat.intCast_natCast]; exact Rat.intCast_pos.2 (by omega)
  grind
 have m2 : ((m + 1 + 1 : Nat) : Rat) ≠ 0 := by
  have : (0 : Rat) < ((m + 1 + 1 : Nat) : Rat) := by rw [← Rat.intCast_natCast]; exact Rat.intCast_pos.2 (by omega)
  grind
 refine (zU.smul (1 / ((m + 1 : Nat) : Rat)) h).congr (fun r => ?_) (fun r => ?_) (fun r => ?_)
 ·show _ = rO T r.p r.s r.y i (m + 1)
  rw [Vs ho]
  show 1 / ((m + 1 : Nat) : Rat) * rL T r.p r.s r.y o m = _
  grind
 ·show _ = rO T r.p (r.s + r.δ) r.y' i (m + 1)
  rw [Vs ho]
  show 1 / ((m + 1 : Nat) : Rat) * rL T r.p (r.s + r.δ) r.y' o m = _
  grind
 ·show _ = ((m + 1 + 1 : Nat) : Rat) * rO T r.p r.s r.y i (m + 1 + 1)
  rw [Vs ho]
  show 1 / ((m + 1 : Nat) : Rat) * (((m + 1 : Nat) : Rat) * rL T r.p r.s r.y o (m + 1)) = _
  grind
theorem dO_zero {i o : Nat} (ho : T.out[i]? = some o) : zU (T := T) (X := X) (τ := τ) (aO i 0) (aO' i 0) (fun r => ((0 + 1 : Nat) : Rat) * aO i (0 + 1) r) := by
 refine ⟨0, by grind, fun r => ?_⟩
 show Df 0 r.δ (r.y i) (r.y' i) (((0 + 1 : Nat) : Rat) * rO T r.p r.s r.y i (0 + 1))
 rw [Vs ho, r.euler i o ho]
 have e4 : ((0 + 1 : Nat) : Rat) = 1 := rfl
 rw [e4]
 unfold Df Bn
 constructor <;> grind
theorem Ug (p : Nat) (a b : Nat → Rat) (m : Nat) : jP (qi p) a b 0 (m + 1) m = cv a b m := by
 unfold jP
 rw [zcv]
 refine JV fun i hi => ?_
 rw [Nat.zero_add]
 rfl
theorem zU.conv {f f' g g' : Nat → qk T X τ → Rat} {m : Nat} (hf : ∀ i, i ≤ m → zU (f i) (f' i) (fun r => ((i + 1 : Nat) : Rat) * f (i + 1) r)) (hg : ∀ i, i ≤ m → zU (g i) (g' i) (fun r => ((i + 1 : Nat) : Rat) * g (i + 1) r))
  (bf : ∀ i, i ≤ m + 1 → zR (f i)) (bf' : ∀ i, i ≤ m → zR (f' i)) (bg : ∀ i, i ≤ m + 1 → zR (g i)) :
  zU (fun r => cv (fun i => f i r) (fun i => g i r) m) (fun r => cv (fun i => f' i r) (fun i => g' i r) m) (fun r => ((m + 1 : Nat) : Rat) * cv (fun i => f i r) (fun i => g i r) (m + 1)) := by
 have h := zU.sum (m := m + 1) (fun i (hi : i < m + 1) => zU.mul (hf i (by omega)) (hg (m - i) (by omega)) (bf' i (by omega)) (bg (m - i) (by omega)) (zR.smul _ (bf (i + 1) (by omega))) (zR.smul _ (bg (m - i + 1) (by omega))))
 refine h.congr (fun r => rfl) (fun r => rfl) (fun r => ?_)
 rw [← zck]
theorem zU.tail {f f' g g' : Nat → qk T X τ → Rat} {m : Nat} (hf : ∀ i, 1 ≤ i → i ≤ m → zU (f i) (f' i) (fun r => ((i + 1 : Nat) : Rat) * f (i + 1) r)) (hg : ∀ i, i < m → zU (g i) (g' i) (fun r => ((i + 1 : Nat) : Rat) * g (i + 1) r))
  (bf : ∀ i, 1 ≤ i → i ≤ m + 1 → zR (f i)) (bf' : ∀ i, 1 ≤ i → i ≤ m → zR (f' i)) (bg : ∀ i, i ≤ m → zR (g i)) :
  zU (fun r => sm (fun i => f (1 + i) r * g (m - (1 + i)) r) m) (fun r => sm (fun i => f' (1 + i) r * g' (m - (1 + i)) r) m)
   (fun r => ((m + 1 : Nat) : Rat) * cv (fun i => f i r) (fun i => g i r) (m + 1) - (((0 + 1 : Nat) : Rat) * f (0 + 1) r * g m r + f 0 r * (((m + 1 : Nat) : Rat) * g (m + 1) r))) := by
 have h := zU.sum (m := m) (fun i (hi : i < m) => zU.mul (hf (1 + i) (by omega) (by omega)) (hg (m - (1 + i)) (by omega)) (bf' (1 + i) (by omega) (by omega)) (bg (m - (1 + i)) (by omega)) (zR.smul _ (bf (1 + i + 1) (by omega) (by omega))) (zR.smul _ (bg (m - (1 + i) + 1) (by omega))))
 refine h.congr (fun r => rfl) (fun r => rfl) (fun r => ?_)
 rw [← zck, Yx]
 have e : ∀ a b c : Rat, a = b → a = c + b - c := by intro a b c h; grind
 refine e _ _ _ (JV fun i hi => ?_)
 rw [show 1 + i = i + 1 by omega]
end
end Go.Pl

namespace Go.Pl
section
variable {T : Tp} {X : List I} {τ : I}
def DL (T : Tp) (X : List I) (τ : I) (j m : Nat) : Prop := zU (T := T) (X := X) (τ := τ) (aL j m) (aL' j m) (fun r => ((m + 1 : Nat) : Rat) * aL j (m + 1) r)
theorem zdh (m : Nat) : (0 : Rat) < ((m + 1 : Nat) : Rat) := by rw [← Rat.intCast_natCast]; exact Rat.intCast_pos.2 (by omega)
theorem dL_num {j m : Nat} {x : zT} (hT : z8 T) (hx : T.L[j]? = some x) (ho : x.op = 1) : DL T X τ j m := by
 have eA : ∀ k (r : qk T X τ), aL j k r = if k = 0 then (x.c.1 : Rat) / 65536 else 0 := fun k r => by
  show rL T r.p r.s r.y j k = _
  rw [Jy hT hx]; simp [fA, ho, qi]
 have eA' : ∀ k (r : qk T X τ), aL' j k r = if k = 0 then (x.c.1 : Rat) / 65536 else 0 := fun k r => by
  show rL T r.p (r.s + r.δ) r.y' j k = _
  rw [Jy hT hx]; simp [fA, ho, qi]
 refine (zU.const (if m = 0 then (x.c.1 : Rat) / 65536 else 0)).congr (fun r => (eA m r).symm) (fun r => (eA' m r).symm) (fun r => ?_)
 rw [eA (m + 1) r, if_neg (by omega)]
 grind
theorem dL_time {j m : Nat} {x : zT} (hT : z8 T) (hx : T.L[j]? = some x) (ho : x.op = 3) : DL T X τ j m := by
 have eA : ∀ k (r : qk T X τ), aL j k r = if k = 0 then r.s else if k = 1 then 1 else 0 := fun k r => by
  show rL T r.p r.s r.y j k = _
  rw [Jy hT hx]; simp [fA, ho, qi]
 have eA' : ∀ k (r : qk T X τ), aL' j k r = if k = 0 then r.s + r.δ else if k = 1 then 1 else 0 := fun k r => by
  show rL T r.p (r.s + r.δ) r.y' j k = _
  rw [Jy hT hx]; simp [fA, ho, qi]
 cases m with
 | zero =>
  refine ⟨0, by grind, fun r => ?_⟩
  rw [eA, eA']
  show Df 0 r.δ _ _ (((0 + 1 : Nat) : Rat) * aL j (0 + 1) r)
  rw [eA]
  have e4 : ((0 + 1 : Nat) : Rat) = 1 := rfl
  rw [e4]
  simp only [if_true]
  unfold Df Bn
  constructor <;> grind
 | succ m =>
  refine (zU.const (if m = 0 then 1 else 0)).congr (fun r => ?_) (fun r => ?_) (fun r => ?_)
  ·rw [eA]; simp
  ·rw [eA']; simp
  ·rw [eA]; simp
variable (hT : z8 T) (hX : zq X) (hτ : vB τ = true)
include hT hX hτ
theorem VH {j m : Nat} {x : zT} (hx : T.L[j]? = some x) (h2 : x.op ≠ 2) : cL T X τ j m = fA ja x (cL T X τ) (cL T X τ j) τ m := by
 rw [zdA hT hX hτ hx, if_neg h2]
omit hX hτ in
theorem ZX {j m : Nat} {x : zT} (hx : T.L[j]? = some x) (h2 : x.op ≠ 2) (r : qk T X τ) : aL j m r = fA (qi r.p) x (fun a k => aL a k r) (fun k => aL j k r) r.s m := by
 show rL T r.p r.s r.y j m = _
 rw [Jy hT hx, if_neg h2]; rfl
omit hX hτ in
theorem aL'_fA {j m : Nat} {x : zT} (hx : T.L[j]? = some x) (h2 : x.op ≠ 2) (r : qk T X τ) : aL' j m r = fA (qi r.p) x (fun a k => aL' a k r) (fun k => aL' j k r) (r.s + r.δ) m := by
 show rL T r.p (r.s + r.δ) r.y' j m = _
 rw [Jy hT hx, if_neg h2]; rfl
omit hX hτ in
theorem dL_var {j m : Nat} {x : zT} (hx : T.L[j]? = some x) (ho : x.op = 2) (ha : x.a.toNat < T.n) (ih : ∀ m' o, m = m' + 1 → T.out[x.a.toNat]? = some o → DL T X τ o m') : DL T X τ j m := by
 obtain ⟨o, hoo⟩ : ∃ o, T.out[x.a.toNat]? = some o := ⟨T.out[x.a.toNat]'(by rw [hT.len]; exact ha), by simp⟩
 have eA : ∀ k (r : qk T X τ), aO x.a.toNat k r = aL j k r := fun k r => by
  show _ = rL T r.p r.s r.y j k
  rw [Jy hT hx, if_pos ho]; rfl
 have eA' : ∀ k (r : qk T X τ), aO' x.a.toNat k r = aL' j k r := fun k r => by
  show _ = rL T r.p (r.s + r.δ) r.y' j k
  rw [Jy hT hx, if_pos ho]; rfl
 have hd : zU (T := T) (X := X) (τ := τ) (aO x.a.toNat m) (aO' x.a.toNat m) (fun r => ((m + 1 : Nat) : Rat) * aO x.a.toNat (m + 1) r) := by
  cases m with
  | zero => exact dO_zero hoo
  | succ m => exact dO_step hoo (ih m o rfl hoo)
 exact hd.congr (eA m) (eA' m) (fun r => by rw [eA])
omit hX hτ in
theorem dL_lin {j m : Nat} {x : zT} (hx : T.L[j]? = some x) (ho : x.op = 4 ∨ x.op = 7 ∨ x.op = 8)
  (iha : DL T X τ x.a.toNat m) (ihb : x.op ≠ 4 → DL T X τ x.b.toNat m) : DL T X τ j m := by
 have h2 : x.op ≠ 2 := by omega
 rcases ho with ho | ho | ho
 ·refine iha.neg.congr (fun r => ?_) (fun r => ?_) (fun r => ?_)
  ·rw [ZX hT hx h2]; simp [fA, ho, qi]
  ·rw [aL'_fA hT hx h2]; simp [fA, ho, qi]
  ·rw [ZX hT (m := m + 1) hx h2]; simp [fA, ho, qi]; grind
 ·refine (iha.add (ihb (by omega))).congr (fun r => ?_) (fun r => ?_) (fun r => ?_)
  ·rw [ZX hT hx h2]; simp [fA, ho, qi]
  ·rw [aL'_fA hT hx h2]; simp [fA, ho, qi]
  ·rw [ZX hT (m := m + 1) hx h2]; simp [fA, ho, qi]; grind
 ·refine (iha.sub (ihb (by omega))).congr (fun r => ?_) (fun r => ?_) (fun r => ?_)
  ·rw [ZX hT hx h2]; simp [fA, ho, qi]
  ·rw [aL'_fA hT hx h2]; simp [fA, ho, qi]
  ·rw [ZX hT (m := m + 1) hx h2]; simp [fA, ho, qi]; grind
omit hX hτ in
theorem dL_mul {j m : Nat} {x : zT} {b : Nat} (hx : T.L[j]? = some x) (ho : (x.op = 9 ∧ b = x.b.toNat) ∨ (x.op = 5 ∧ b = x.a.toNat)) (ba : ∀ i, i ≤ m + 1 → zR (T := T) (X := X) (τ := τ) (aL x.a.toNat i) ∧ zR (T := T) (X := X) (τ := τ) (aL' x.a.toNat i)) (bb : ∀ i, i ≤ m + 1 → zR (T := T) (X := X) (τ := τ) (aL b i) ∧ zR (T := T) (X := X) (τ := τ) (aL' b i))
  (iha : ∀ i, i ≤ m → DL T X τ x.a.toNat i) (ihb : ∀ i, i ≤ m → DL T X τ b i) : DL T X τ j m := by
 have h2 : x.op ≠ 2 := by omega
 have e : ∀ k (r : qk T X τ), cv (fun i => aL x.a.toNat i r) (fun i => aL b i r) k = aL j k r := fun k r => by
  rw [ZX hT hx h2]
  rcases ho with ⟨ho, rfl⟩ | ⟨ho, rfl⟩
  ·simp [fA, ho, Ug]
  ·cases k with
   | zero => simp [fA, ho, cv, sm, qi]; grind
   | succ k => simp [fA, ho, Ug]
 have e' : ∀ k (r : qk T X τ), cv (fun i => aL' x.a.toNat i r) (fun i => aL' b i r) k = aL' j k r := fun k r => by
  rw [aL'_fA hT hx h2]
  rcases ho with ⟨ho, rfl⟩ | ⟨ho, rfl⟩
  ·simp [fA, ho, Ug]
  ·cases k with
   | zero => simp [fA, ho, cv, sm, qi]; grind
   | succ k => simp [fA, ho, Ug]
 have h := zU.conv (m := m) (f := fun i => aL x.a.toNat i) (f' := fun i => aL' x.a.toNat i) (g := fun i => aL b i) (g' := fun i => aL' b i)
  iha ihb (fun i hi => (ba i hi).1) (fun i hi => (ba i (by omega)).2) (fun i hi => (bb i hi).1)
 exact h.congr (e m) (e' m) (fun r => by rw [e (m + 1) r])
omit hT hX hτ in
theorem zc1 {c : I} (hc : c ≠ ent) (h : 0 < c.1 ∨ c.2 < 0) {x : Rat} (hx : zP c x) : JM (1 / 65536) x := by
 rcases hx with hx | ⟨h1, h2⟩
 ·exact absurd hx hc
 ·rcases h with h | h
  ·have : (1 : Rat) ≤ (c.1 : Rat) := Rat.intCast_le_intCast.2 (show (1 : Int) ≤ c.1 by omega)
   exact .inl (by grind)
  ·have : (c.2 : Rat) ≤ (-1 : Rat) := Rat.intCast_le_intCast.2 (show c.2 ≤ (-1 : Int) by omega)
   exact .inr (by grind)
omit hT hX hτ in
theorem zc2 {x : Rat} (h : JM (1 / 65536) x) : x ≠ 0 := by
 rcases h with h | h <;> grind
omit hT hX hτ in
theorem zaC (p : Nat) (a b : Nat → Rat) (m k : Nat) : jP (qi p) a b 1 m k = sm (fun i => a (1 + i) * b (k - (1 + i))) m := by
 unfold jP
 rw [zcv]
 rfl
theorem dL_div {j m : Nat} {x : zT} (hj : j < T.L.length) (hx : T.L[j]? = some x) (ho : x.op = 10) (la : x.a.toNat < T.L.length) (lb : x.b.toNat < T.L.length) (hc : cL T X τ j (m + 1) ≠ ent)
  (iha : ∀ i, i ≤ m → cL T X τ x.a.toNat (i + 1) ≠ ent → DL T X τ x.a.toNat i) (ihb : ∀ i, i ≤ m → cL T X τ x.b.toNat (i + 1) ≠ ent → DL T X τ x.b.toNat i) (ihj : ∀ i, i < m → cL T X τ j (i + 1) ≠ ent → DL T X τ j i) : DL T X τ j m := by
 have h2 : x.op ≠ 2 := by omega
 have hc0 := hc
 rw [VH hT hX hτ hx h2] at hc
 have hc' : div (sub (cL T X τ x.a.toNat (m + 1)) (jP ja (cL T X τ x.b.toNat) (cL T X τ j) 1 (m + 1) (m + 1))) (cL T X τ x.b.toNat 0) ≠ ent := by simpa [fA, ho, ja] using hc
 obtain ⟨d1, d2, d3⟩ := WC hc'
 obtain ⟨d4, d5⟩ := Yq d1
 have nb : ∀ i, i ≤ m + 1 → cL T X τ x.b.toNat i ≠ ent := fun i hi => by
  by_cases h0 : i = 0
  ·subst h0; exact d2
  ·exact (Xe d5 i (by omega) (by omega)).1
 have nj : ∀ i, i ≤ m → cL T X τ j i ≠ ent := fun i hi => by
  have := (Xe d5 (m + 1 - i) (by omega) (by omega)).2
  rwa [show m + 1 - (m + 1 - i) = i by omega] at this
 have hB0 : ∀ r : qk T X τ, JM (1 / 65536) (aL x.b.toNat 0 r) := fun r => zc1 d2 d3 (Xm hT hX hτ _ 0 lb r).1
 have hB0' : ∀ r : qk T X τ, JM (1 / 65536) (aL' x.b.toNat 0 r) := fun r => zc1 d2 d3 (Xm hT hX hτ _ 0 lb r).2
 have e : ∀ k (r : qk T X τ), aL x.b.toNat 0 r * aL j k r = aL x.a.toNat k r - sm (fun i => aL x.b.toNat (1 + i) r * aL j (k - (1 + i)) r) k := fun k r => by
  have hn := zc2 (hB0 r)
  rw [ZX hT (j := j) (m := k) hx h2]
  cases k with
  | zero => simp [fA, ho, qi, sm]; grind
  | succ k =>
   have : fA (qi r.p) x (fun a k => aL a k r) (fun k => aL j k r) r.s (k + 1) = (aL x.a.toNat (k + 1) r - jP (qi r.p) (fun k => aL x.b.toNat k r) (fun k => aL j k r) 1 (k + 1) (k + 1)) / aL x.b.toNat 0 r := by simp [fA, ho, qi]
   rw [this, zaC]
   grind
 have e' : ∀ k (r : qk T X τ), aL' x.b.toNat 0 r * aL' j k r = aL' x.a.toNat k r - sm (fun i => aL' x.b.toNat (1 + i) r * aL' j (k - (1 + i)) r) k := fun k r => by
  have hn := zc2 (hB0' r)
  rw [aL'_fA hT (j := j) (m := k) hx h2]
  cases k with
  | zero => simp [fA, ho, qi, sm]; grind
  | succ k =>
   have : fA (qi r.p) x (fun a k => aL' a k r) (fun k => aL' j k r) (r.s + r.δ) (k + 1) = (aL' x.a.toNat (k + 1) r - jP (qi r.p) (fun k => aL' x.b.toNat k r) (fun k => aL' j k r) 1 (k + 1) (k + 1)) / aL' x.b.toNat 0 r := by simp [fA, ho, qi]
   rw [this, zaC]
   grind
 have ecv : ∀ r : qk T X τ, cv (fun i => aL x.b.toNat i r) (fun i => aL j i r) (m + 1) = aL x.a.toNat (m + 1) r := fun r => by
  have h1 := e (m + 1) r
  unfold cv
  rw [Yx]
  have h3 : sm (fun i => aL x.b.toNat (i + 1) r * aL j (m + 1 - (i + 1)) r) (m + 1) = sm (fun i => aL x.b.toNat (1 + i) r * aL j (m + 1 - (1 + i)) r) (m + 1) := JV fun i hi => by rw [show i + 1 = 1 + i by omega]
  rw [h3]
  show aL x.b.toNat 0 r * aL j (m + 1) r + _ = _
  grind
 have ht := zU.tail (m := m) (f := fun i => aL x.b.toNat i) (f' := fun i => aL' x.b.toNat i) (g := fun i => aL j i) (g' := fun i => aL' j i)
  (fun i h1 hi => ihb i hi (nb (i + 1) (by omega))) (fun i hi => ihj i hi (nj (i + 1) (by omega)))
  (fun i h1 hi => (Zz hT hX hτ _ i lb (nb i hi)).1) (fun i h1 hi => (Zz hT hX hτ _ i lb (nb i (by omega))).2) (fun i hi => (Zz hT hX hτ _ i hj (nj i hi)).1)
 have hA : DL T X τ x.a.toNat m := iha m (Nat.le_refl _) d4
 have hP : zU (T := T) (X := X) (τ := τ) (fun r => aL x.b.toNat 0 r * aL j m r) (fun r => aL' x.b.toNat 0 r * aL' j m r) (fun r => (((0 + 1 : Nat) : Rat) * aL x.b.toNat (0 + 1) r) * aL j m r + aL x.b.toNat 0 r * (((m + 1 : Nat) : Rat) * aL j (m + 1) r)) := by
  refine (zU.sub hA ht).congr (fun r => (e m r).symm) (fun r => (e' m r).symm) (fun r => ?_)
  rw [ecv r]
  grind
 exact zU.cancel (by grind) hB0 hB0' hP (ihb 0 (by omega) (nb 1 (by omega))) (Zz hT hX hτ _ 0 lb d2).1 (Zz hT hX hτ _ m hj (nj m (Nat.le_refl _))).1 (zR.smul _ (Zz hT hX hτ _ 1 lb (nb 1 (by omega))).1) (zR.smul _ (Zz hT hX hτ _ (m + 1) hj hc0).1)
end
end Go.Pl

namespace Go.Pl
section
variable {T : Tp} {X : List I} {τ : I}
theorem zU.mid {q q' : Nat → qk T X τ → Rat} {n : Nat} (hq : ∀ i, 1 ≤ i → i ≤ n → zU (q i) (q' i) (fun r => ((i + 1 : Nat) : Rat) * q (i + 1) r))
  (bq : ∀ i, 1 ≤ i → i ≤ n + 1 → zR (q i)) (bq' : ∀ i, 1 ≤ i → i ≤ n → zR (q' i)) :
  zU (fun r => sm (fun i => q (1 + i) r * q (n + 1 - (1 + i)) r) n) (fun r => sm (fun i => q' (1 + i) r * q' (n + 1 - (1 + i)) r) n)
   (fun r => ((n + 1 + 1 : Nat) : Rat) * cv (fun i => q i r) (fun i => q i r) (n + 1 + 1) - 2 * (((0 + 1 : Nat) : Rat) * q (0 + 1) r * q (n + 1) r + q 0 r * (((n + 1 + 1 : Nat) : Rat) * q (n + 1 + 1) r))) := by
 have h := zU.sum (m := n) (fun i (hi : i < n) => zU.mul (hq (1 + i) (by omega) (by omega)) (hq (n + 1 - (1 + i)) (by omega) (by omega)) (bq' (1 + i) (by omega) (by omega)) (bq (n + 1 - (1 + i)) (by omega) (by omega)) (zR.smul _ (bq (1 + i + 1) (by omega) (by omega))) (zR.smul _ (bq (n + 1 - (1 + i) + 1) (by omega) (by omega))))
 refine h.congr (fun r => rfl) (fun r => rfl) (fun r => ?_)
 rw [← zck, Yx]
 have hs : ∀ f : Nat → Rat, sm f (n + 1) = sm f n + f n := fun f => rfl
 rw [hs]
 have e0 : n + 1 - (n + 1) = 0 := by omega
 rw [e0]
 have e1 : sm (fun i => ((1 + i + 1 : Nat) : Rat) * q (1 + i + 1) r * q (n + 1 - (1 + i)) r + q (1 + i) r * (((n + 1 - (1 + i) + 1 : Nat) : Rat) * q (n + 1 - (1 + i) + 1) r)) n = sm (fun i => ((i + 1 + 1 : Nat) : Rat) * q (i + 1 + 1) r * q (n + 1 - (i + 1)) r + q (i + 1) r * (((n + 1 - (i + 1) + 1 : Nat) : Rat) * q (n + 1 - (i + 1) + 1) r)) n := JV fun i hi => by rw [show 1 + i = i + 1 by omega]
 refine e1.trans ?_
 generalize sm (fun i => ((i + 1 + 1 : Nat) : Rat) * q (i + 1 + 1) r * q (n + 1 - (i + 1)) r + q (i + 1) r * (((n + 1 - (i + 1) + 1 : Nat) : Rat) * q (n + 1 - (i + 1) + 1) r)) n = S
 show S = ((0 + 1 : Nat) : Rat) * q (0 + 1) r * q (n + 1 - 0) r + q 0 r * (((n + 1 - 0 + 1 : Nat) : Rat) * q (n + 1 - 0 + 1) r) + (S + (((n + 1 + 1 : Nat) : Rat) * q (n + 1 + 1) r * q 0 r + q (n + 1) r * (((0 + 1 : Nat) : Rat) * q (0 + 1) r))) - _
 rw [Nat.sub_zero]
 grind
variable (hT : z8 T) (hX : zq X) (hτ : vB τ = true)
include hT hX hτ
theorem dL_root {j m : Nat} {x : zT} (hj : j < T.L.length) (hx : T.L[j]? = some x) (ho : x.op = 6) (la : x.a.toNat < T.L.length) (hc : cL T X τ j (m + 1) ≠ ent)
  (iha : ∀ i, i ≤ m → cL T X τ x.a.toNat (i + 1) ≠ ent → DL T X τ x.a.toNat i) (ihj : ∀ i, i < m → cL T X τ j (i + 1) ≠ ent → DL T X τ j i) : DL T X τ j m := by
 have h2 : x.op ≠ 2 := by omega
 have hc0 := hc
 rw [VH hT hX hτ hx h2] at hc
 have hc' : div (sub (cL T X τ x.a.toNat (m + 1)) (jP ja (cL T X τ j) (cL T X τ j) 1 m (m + 1))) (jM (cL T X τ j 0) 2 1) ≠ ent := by simpa [fA, ho, ja] using hc
 obtain ⟨d1, d2, d3⟩ := WC hc'
 obtain ⟨d4, d5⟩ := Yq d1
 have n0 := UV d2
 have c0 : cL T X τ j 0 = Zg (cL T X τ x.a.toNat 0) := by rw [VH hT hX hτ hx h2]; simp [fA, ho, ja]
 obtain ⟨na0, nn0⟩ := rootI_ne (c0 ▸ n0)
 have nj : ∀ i, i ≤ m → cL T X τ j i ≠ ent := fun i hi => by
  by_cases h0 : i = 0
  ·subst h0; exact n0
  ·exact (Xe d5 i (by omega) (by omega)).1
 have a0 : ∀ v : Rat, zP (cL T X τ x.a.toNat 0) v → 0 ≤ v := fun v hv => by
  rcases hv with hv | ⟨h1, _⟩
  ·exact absurd hv na0
  ·have : (0 : Rat) ≤ ((cL T X τ x.a.toNat 0).1 : Rat) := Rat.intCast_nonneg.2 nn0
   grind
 have q0 : ∀ r : qk T X τ, aL j 0 r = rt r.p (aL x.a.toNat 0 r) := fun r => by rw [ZX hT hx h2]; simp [fA, ho, qi]
 have q0' : ∀ r : qk T X τ, aL' j 0 r = rt r.p (aL' x.a.toNat 0 r) := fun r => by rw [aL'_fA hT hx h2]; simp [fA, ho, qi]
 have sp := fun r : qk T X τ => zcC r.p (a0 _ (Xm hT hX hτ _ 0 la r).1)
 have sp' := fun r : qk T X τ => zcC r.p (a0 _ (Xm hT hX hτ _ 0 la r).2)
 have hF : ∀ r : qk T X τ, JM (1 / 65536) (2 * aL j 0 r) := fun r => zc1 d2 d3 (zdm (Xm hT hX hτ j 0 hj r).1)
 have hF' : ∀ r : qk T X τ, JM (1 / 65536) (2 * aL' j 0 r) := fun r => zc1 d2 d3 (zdm (Xm hT hX hτ j 0 hj r).2)
 have e : ∀ k (r : qk T X τ), 2 * aL j 0 r * aL j (k + 1) r = aL x.a.toNat (k + 1) r - sm (fun i => aL j (1 + i) r * aL j (k + 1 - (1 + i)) r) k := fun k r => by
  have hn := zc2 (hF r)
  rw [ZX hT (j := j) (m := k + 1) hx h2]
  have : fA (qi r.p) x (fun a k => aL a k r) (fun k => aL j k r) r.s (k + 1) = (aL x.a.toNat (k + 1) r - jP (qi r.p) (fun k => aL j k r) (fun k => aL j k r) 1 k (k + 1)) / (2 * aL j 0 r) := by simp [fA, ho, qi]
  rw [this, zaC]
  grind
 have e' : ∀ k (r : qk T X τ), 2 * aL' j 0 r * aL' j (k + 1) r = aL' x.a.toNat (k + 1) r - sm (fun i => aL' j (1 + i) r * aL' j (k + 1 - (1 + i)) r) k := fun k r => by
  have hn := zc2 (hF' r)
  rw [aL'_fA hT (j := j) (m := k + 1) hx h2]
  have : fA (qi r.p) x (fun a k => aL' a k r) (fun k => aL' j k r) (r.s + r.δ) (k + 1) = (aL' x.a.toNat (k + 1) r - jP (qi r.p) (fun k => aL' j k r) (fun k => aL' j k r) 1 k (k + 1)) / (2 * aL' j 0 r) := by simp [fA, ho, qi]
  rw [this, zaC]
  grind
 have hA : DL T X τ x.a.toNat m := iha m (Nat.le_refl _) d4
 obtain ⟨⟨W1, w1, hW1⟩, ⟨W2, w2, hW2⟩⟩ := Zz hT hX hτ j 0 hj n0
 have D0 : m = 0 → DL T X τ j 0 := fun hm => by
  subst hm
  have hP : zU (T := T) (X := X) (τ := τ) (fun r => aL j 0 r * aL j 0 r) (fun r => aL' j 0 r * aL' j 0 r) (fun r => 2 * aL j 0 r * (((0 + 1 : Nat) : Rat) * aL j (0 + 1) r)) := by
   have e4 : ((0 + 1 : Nat) : Rat) = 1 := rfl
   have hA2 : zU (T := T) (X := X) (τ := τ) (aL x.a.toNat 0) (aL' x.a.toNat 0) (fun r => 2 * aL j 0 r * (((0 + 1 : Nat) : Rat) * aL j (0 + 1) r)) := hA.congr (fun r => rfl) (fun r => rfl) (fun r => by
    have := e 0 r
    have z : sm (fun i => aL j (1 + i) r * aL j (0 + 1 - (1 + i)) r) 0 = 0 := rfl
    rw [z] at this
    rw [e4]
    grind)
   have near : ∀ (r : qk T X τ) (W v w : Rat), 0 ≤ v → Bn W v → v * v ≤ w → w < (v + 1 / (qp r.p : Rat)) * (v + 1 / (qp r.p : Rat)) → Bn ((2 * W + 1) * (r.δ * r.δ)) (v * v - w) := fun r W v w h0 hb h1 h3 => by
    have hg := Wq r.p
    have hfine := r.fine
    have g1 : 1 / (qp r.p : Rat) ≤ 1 := by
     have : (1 : Rat) ≤ (qp r.p : Rat) := Rat.intCast_le_intCast.2 (show (1 : Int) ≤ qp r.p by have := grid_pos r.p; omega)
     exact Rat.not_lt.1 fun k => by
      have h5 := Rat.mul_lt_mul_of_pos_right k hg
      have h6 : 1 / (qp r.p : Rat) * (qp r.p : Rat) = 1 := by grind
      grind
    have g0 : 0 ≤ 1 / (qp r.p : Rat) := UT (by grind) hg
    generalize 1 / (qp r.p : Rat) = γ at *
    have hv : v ≤ W := hb.2
    have m1 := Rat.mul_le_mul_of_nonneg_right hv g0
    have m2 := Rat.mul_le_mul_of_nonneg_left g1 g0
    have m3 := Rat.mul_le_mul_of_nonneg_left hfine (show (0 : Rat) ≤ 2 * W + 1 by grind)
    unfold Bn
    constructor <;> grind
   refine zU.near hA2 (C := 2 * (W1 + W2) + 1) (by grind) (fun r => ?_) (fun r => ?_)
   ·have := sp r
    rw [← q0] at this
    exact near r (W1 + W2) _ _ this.1 ((hW1 r).mono (by grind)) this.2.1 this.2.2
   ·have := sp' r
    rw [← q0'] at this
    exact near r (W1 + W2) _ _ this.1 ((hW2 r).mono (by grind)) this.2.1 this.2.2
  have b0 : ∀ r : qk T X τ, 1 / 131072 ≤ aL j 0 r := fun r => by
   have h1 := (sp r).1
   rw [← q0] at h1
   rcases hF r with h | h <;> grind
  have b0' : ∀ r : qk T X τ, 1 / 131072 ≤ aL' j 0 r := fun r => by
   have h1 := (sp' r).1
   rw [← q0'] at h1
   rcases hF' r with h | h <;> grind
  exact zU.root (by grind) b0 b0' hP ⟨W1, w1, hW1⟩ (zR.smul _ (Zz hT hX hτ _ (0 + 1) hj hc0).1)
 cases m with
 | zero => exact D0 rfl
 | succ n =>
  have ecv : ∀ r : qk T X τ, cv (fun i => aL j i r) (fun i => aL j i r) (n + 1 + 1) = aL x.a.toNat (n + 1 + 1) r := fun r => by
   have h1 := e (n + 1) r
   unfold cv
   rw [Yx]
   have hs : ∀ f : Nat → Rat, sm f (n + 1 + 1) = sm f (n + 1) + f (n + 1) := fun f => rfl
   rw [hs]
   have h3 : sm (fun i => aL j (i + 1) r * aL j (n + 1 + 1 - (i + 1)) r) (n + 1) = sm (fun i => aL j (1 + i) r * aL j (n + 1 + 1 - (1 + i)) r) (n + 1) := JV fun i hi => by rw [show i + 1 = 1 + i by omega]
   rw [h3, show n + 1 + 1 - (n + 1 + 1) = 0 by omega]
   show aL j 0 r * aL j (n + 1 + 1) r + (_ + aL j (n + 1 + 1) r * aL j 0 r) = _
   grind
  have ht := zU.mid (n := n) (q := fun i => aL j i) (q' := fun i => aL' j i) (fun i h1 hi => ihj i (by omega) (nj (i + 1) (by omega)))
   (fun i h1 hi => (Zz hT hX hτ _ i hj (nj i hi)).1) (fun i h1 hi => (Zz hT hX hτ _ i hj (nj i (by omega))).2)
  have D00 : DL T X τ j 0 := ihj 0 (by omega) (nj 1 (by omega))
  have hB : zU (T := T) (X := X) (τ := τ) (fun r => 2 * aL j 0 r) (fun r => 2 * aL' j 0 r) (fun r => 2 * (((0 + 1 : Nat) : Rat) * aL j (0 + 1) r)) := zU.smul 2 D00
  have hP : zU (T := T) (X := X) (τ := τ) (fun r => 2 * aL j 0 r * aL j (n + 1) r) (fun r => 2 * aL' j 0 r * aL' j (n + 1) r) (fun r => (2 * (((0 + 1 : Nat) : Rat) * aL j (0 + 1) r)) * aL j (n + 1) r + 2 * aL j 0 r * (((n + 1 + 1 : Nat) : Rat) * aL j (n + 1 + 1) r)) := by
   refine (zU.sub hA ht).congr (fun r => (e n r).symm) (fun r => (e' n r).symm) (fun r => ?_)
   rw [ecv r]
   grind
  exact zU.cancel (by grind) hF hF' hP hB (zR.smul 2 ⟨W1, w1, hW1⟩) (Zz hT hX hτ _ (n + 1) hj (nj (n + 1) (Nat.le_refl _))).1 (zR.smul _ (zR.smul _ (Zz hT hX hτ _ (0 + 1) hj (nj (0 + 1) (by omega))).1)) (zR.smul _ (Zz hT hX hτ _ (n + 1 + 1) hj hc0).1)
theorem nj_div {j m : Nat} {x : zT} (hx : T.L[j]? = some x) (ho : x.op = 10) (hc : cL T X τ j (m + 1) ≠ ent) : ∀ i, i ≤ m → cL T X τ j i ≠ ent := fun i hi => by
 rw [VH hT hX hτ hx (by omega)] at hc
 have hc' : div (sub (cL T X τ x.a.toNat (m + 1)) (jP ja (cL T X τ x.b.toNat) (cL T X τ j) 1 (m + 1) (m + 1))) (cL T X τ x.b.toNat 0) ≠ ent := by simpa [fA, ho, ja] using hc
 have := (Xe (Yq (WC hc').1).2 (m + 1 - i) (by omega) (by omega)).2
 rwa [show m + 1 - (m + 1 - i) = i by omega] at this
theorem nj_root {j m : Nat} {x : zT} (hx : T.L[j]? = some x) (ho : x.op = 6) (hc : cL T X τ j (m + 1) ≠ ent) : ∀ i, i ≤ m → cL T X τ j i ≠ ent := fun i hi => by
 rw [VH hT hX hτ hx (by omega)] at hc
 have hc' : div (sub (cL T X τ x.a.toNat (m + 1)) (jP ja (cL T X τ j) (cL T X τ j) 1 m (m + 1))) (jM (cL T X τ j 0) 2 1) ≠ ent := by simpa [fA, ho, ja] using hc
 by_cases h0 : i = 0
 ·subst h0; exact UV (WC hc').2.1
 ·exact (Xe (Yq (WC hc').1).2 i (by omega) (by omega)).1
omit hX hτ in
theorem mul_cv {j : Nat} {x : zT} {b : Nat} (hx : T.L[j]? = some x) (ho : (x.op = 9 ∧ b = x.b.toNat) ∨ (x.op = 5 ∧ b = x.a.toNat)) (k : Nat) (r : qk T X τ) :
  aL j k r = cv (fun i => aL x.a.toNat i r) (fun i => aL b i r) k ∧ aL' j k r = cv (fun i => aL' x.a.toNat i r) (fun i => aL' b i r) k := by
 have h2 : x.op ≠ 2 := by omega
 rw [ZX hT hx h2, aL'_fA hT hx h2]
 rcases ho with ⟨ho, rfl⟩ | ⟨ho, rfl⟩
 ·simp [fA, ho, Ug]
 ·cases k with
  | zero => simp [fA, ho, cv, sm, qi]; constructor <;> grind
  | succ k => simp [fA, ho, Ug]
omit hT hX hτ in
theorem zR.congr {u v : qk T X τ → Rat} (h : zR u) (e : ∀ r, u r = v r) : zR v := by
 obtain ⟨W, w0, hW⟩ := h
 exact ⟨W, w0, fun r => by rw [← e]; exact hW r⟩
omit hT hX hτ in
theorem zR.const (c : Rat) : zR (T := T) (X := X) (τ := τ) fun _ => c := by
 by_cases h : 0 ≤ c
 ·exact ⟨c, h, fun r => by unfold Bn; grind⟩
 ·exact ⟨-c, by grind, fun r => by unfold Bn; grind⟩
omit hT hX hτ in
theorem zR.cv {f g : Nat → qk T X τ → Rat} {m : Nat} (hf : ∀ i, i ≤ m → zR (f i)) (hg : ∀ i, i ≤ m → zR (g i)) : zR fun r => cv (fun i => f i r) (fun i => g i r) m :=
 zR.sum (m := m + 1) fun i hi => zR.mul (hf i (by omega)) (hg (m - i) (by omega))
def BdL (T : Tp) (X : List I) (τ : I) (j m : Nat) : Prop := zR (T := T) (X := X) (τ := τ) (aL j m) ∧ zR (T := T) (X := X) (τ := τ) (aL' j m)
def VP (T : Tp) (X : List I) (τ : I) (j M : Nat) : Prop := (∀ m, m ≤ M → BdL T X τ j m) ∧ ∀ m, m < M → DL T X τ j m
omit hX hτ in
theorem bd_num {j m : Nat} {x : zT} (hx : T.L[j]? = some x) (ho : x.op = 1) : BdL T X τ j m :=
 ⟨(zR.const (if m = 0 then (x.c.1 : Rat) / 65536 else 0)).congr fun r => by rw [ZX hT hx (by omega)]; simp [fA, ho, qi],
  (zR.const (if m = 0 then (x.c.1 : Rat) / 65536 else 0)).congr fun r => by rw [aL'_fA hT hx (by omega)]; simp [fA, ho, qi]⟩
omit hX hτ in
theorem bd_time {j m : Nat} {x : zT} (hte : τ ≠ ent) (hx : T.L[j]? = some x) (ho : x.op = 3) : BdL T X τ j m := by
 obtain ⟨W, w0, hW⟩ := zc8 hte
 cases m with
 | zero => exact ⟨⟨W, w0, fun r => by rw [ZX hT hx (by omega)]; simpa [fA, ho] using hW _ r.hs⟩, ⟨W, w0, fun r => by rw [aL'_fA hT hx (by omega)]; simpa [fA, ho] using hW _ r.hs'⟩⟩
 | succ m =>
  exact ⟨(zR.const (if m = 0 then 1 else 0)).congr fun r => by rw [ZX hT hx (by omega)]; simp [fA, ho, qi],
   (zR.const (if m = 0 then 1 else 0)).congr fun r => by rw [aL'_fA hT hx (by omega)]; simp [fA, ho, qi]⟩
theorem good_all (hte : τ ≠ ent) (hXe : ∀ i, i < T.n → zf X i ≠ ent) : ∀ M j, j < T.L.length → cL T X τ j M ≠ ent → VP T X τ j M := by
 intro M
 induction M using Nat.strongRecOn with
 | ind M ihM =>
  intro j
  induction j using Nat.strongRecOn with
  | ind j ihj =>
   intro hj hc
   have hx : T.L[j]? = some T.L[j] := List.getElem?_eq_getElem hj
   generalize T.L[j] = x at hx
   have both : ∀ m, m + 1 = M → ∀ a, a < j → ∀ i, i ≤ m → cL T X τ a (i + 1) ≠ ent → DL T X τ a i := fun m hm a ha i hi hn => by
    by_cases e : i + 1 = M
    ·rw [e] at hn
     exact (ihj a ha (by omega) hn).2 i (by omega)
    ·exact (ihM (i + 1) (by omega) a (by omega) hn).2 i (by omega)
   rcases hT.ins j x hx with ⟨ho, _⟩ | ⟨ho, h0, h1⟩ | ho | ⟨h4, h6, a0, a1, _⟩ | ⟨h7, h10, a0, a1, b0, b1⟩
   ·exact ⟨fun m _ => bd_num hT hx ho, fun m _ => dL_num hT hx ho⟩
   ·have ha : x.a.toNat < T.n := by omega
    obtain ⟨o, hoo⟩ : ∃ o, T.out[x.a.toNat]? = some o := ⟨T.out[x.a.toNat]'(by rw [hT.len]; exact ha), by simp⟩
    have hol := hT.out o (List.mem_of_getElem? hoo)
    have hg : ∀ m, M = m + 1 → VP T X τ o m := fun m hm => by
     subst hm
     rw [zdA hT hX hτ hx, if_pos ho, zcp hT hX hτ ha hoo] at hc
     exact ihM m (by omega) o hol (UV hc)
    have eA : ∀ k (r : qk T X τ), aL j k r = rO T r.p r.s r.y x.a.toNat k := fun k r => by
     show rL T r.p r.s r.y j k = _
     rw [Jy hT hx, if_pos ho]
    have eA' : ∀ k (r : qk T X τ), aL' j k r = rO T r.p (r.s + r.δ) r.y' x.a.toNat k := fun k r => by
     show rL T r.p (r.s + r.δ) r.y' j k = _
     rw [Jy hT hx, if_pos ho]
    refine ⟨fun m hm => ?_, fun m hm => dL_var hT hx ho ha fun m' o' e1 e2 => ?_⟩
    ·cases m with
     | zero =>
      obtain ⟨W, w0, hW⟩ := zc8 (hXe _ ha)
      exact ⟨⟨W, w0, fun r => by rw [eA]; exact hW _ (r.hy _ ha)⟩, ⟨W, w0, fun r => by rw [eA']; exact hW _ (r.hy' _ ha)⟩⟩
     | succ m =>
      obtain ⟨M', rfl⟩ : ∃ M', M = M' + 1 := ⟨M - 1, by omega⟩
      have hb := (hg M' rfl).1 m (by omega)
      exact ⟨(zR.smul (1 / ((m + 1 : Nat) : Rat)) hb.1).congr fun r => by rw [eA, Vs hoo]; show 1 / ((m + 1 : Nat) : Rat) * rL T r.p r.s r.y o m = _; grind,
       (zR.smul (1 / ((m + 1 : Nat) : Rat)) hb.2).congr fun r => by rw [eA', Vs hoo]; show 1 / ((m + 1 : Nat) : Rat) * rL T r.p (r.s + r.δ) r.y' o m = _; grind⟩
    ·rw [hoo] at e2
     cases e2
     obtain ⟨M', rfl⟩ : ∃ M', M = M' + 1 := ⟨M - 1, by omega⟩
     exact (hg M' rfl).2 m' (by omega)
   ·exact ⟨fun m _ => bd_time hT hte hx ho, fun m _ => dL_time hT hx ho⟩
   ·have la : x.a.toNat < j := by omega
    have h2 : x.op ≠ 2 := by omega
    by_cases o4 : x.op = 4
    ·have hc' : neg (cL T X τ x.a.toNat M) ≠ ent := by rw [VH hT hX hτ hx h2] at hc; simpa [fA, o4, ja] using hc
     have hg := ihj _ la (by omega) (neg_ne hc')
     refine ⟨fun m hm => ⟨(zR.smul (-1) (hg.1 m hm).1).congr fun r => ?_, (zR.smul (-1) (hg.1 m hm).2).congr fun r => ?_⟩, fun m hm => dL_lin hT hx (.inl o4) (hg.2 m hm) (fun h => absurd o4 h)⟩
     ·rw [ZX hT hx h2]; simp [fA, o4, qi]; grind
     ·rw [aL'_fA hT hx h2]; simp [fA, o4, qi]; grind
    ·by_cases o5 : x.op = 5
     ·have na : cL T X τ x.a.toNat M ≠ ent := by
       rw [VH hT hX hτ hx h2] at hc
       cases M with
       | zero =>
        have hc' : sq (cL T X τ x.a.toNat 0) ≠ ent := by simpa [fA, o5, ja] using hc
        exact fun e => hc' (by rw [e]; rfl)
       | succ M =>
        have hc' : jP ja (cL T X τ x.a.toNat) (cL T X τ x.a.toNat) 0 (M + 1 + 1) (M + 1) ≠ ent := by simpa [fA, o5] using hc
        exact (Xe hc' (M + 1) (by omega) (by omega)).1
      have hg := ihj _ la (by omega) na
      have e := fun k r => mul_cv hT (X := X) (τ := τ) (b := x.a.toNat) hx (.inr ⟨o5, rfl⟩) k r
      exact ⟨fun m hm => ⟨(zR.cv (fun i hi => (hg.1 i (by omega)).1) (fun i hi => (hg.1 i (by omega)).1)).congr fun r => (e m r).1.symm, (zR.cv (fun i hi => (hg.1 i (by omega)).2) (fun i hi => (hg.1 i (by omega)).2)).congr fun r => (e m r).2.symm⟩,
       fun m hm => dL_mul hT hx (.inr ⟨o5, rfl⟩) (fun i hi => hg.1 i (by omega)) (fun i hi => hg.1 i (by omega)) (fun i hi => hg.2 i (by omega)) (fun i hi => hg.2 i (by omega))⟩
     ·have o6 : x.op = 6 := by omega
      cases M with
      | zero => exact ⟨fun m hm => by rw [show m = 0 by omega]; exact Zz hT hX hτ j 0 hj hc, fun m hm => by omega⟩
      | succ M =>
       have nj := nj_root hT hX hτ hx o6 hc
       refine ⟨fun m hm => ?_, fun m hm => ?_⟩
       ·by_cases e : m = M + 1
        ·rw [e]; exact Zz hT hX hτ j _ hj hc
        ·exact Zz hT hX hτ j m hj (nj m (by omega))
       ·by_cases e : m = M
        ·subst e
         exact dL_root hT hX hτ hj hx o6 (by omega) hc (both m rfl _ la) (fun i hi hn => (ihM (i + 1) (by omega) j hj hn).2 i (by omega))
        ·exact (ihM M (by omega) j hj (nj M (Nat.le_refl _))).2 m (by omega)
   ·have la : x.a.toNat < j := by omega
    have lb : x.b.toNat < j := by omega
    have h2 : x.op ≠ 2 := by omega
    by_cases o9 : x.op = 9
    ·have hc' : jP ja (cL T X τ x.a.toNat) (cL T X τ x.b.toNat) 0 (M + 1) M ≠ ent := by rw [VH hT hX hτ hx h2] at hc; simpa [fA, o9] using hc
     have ga := ihj _ la (by omega) (Xe hc' M (by omega) (by omega)).1
     have gb := ihj _ lb (by omega) (Xe hc' 0 (by omega) (by omega)).2
     have e := fun k r => mul_cv hT (X := X) (τ := τ) (b := x.b.toNat) hx (.inl ⟨o9, rfl⟩) k r
     exact ⟨fun m hm => ⟨(zR.cv (fun i hi => (ga.1 i (by omega)).1) (fun i hi => (gb.1 i (by omega)).1)).congr fun r => (e m r).1.symm, (zR.cv (fun i hi => (ga.1 i (by omega)).2) (fun i hi => (gb.1 i (by omega)).2)).congr fun r => (e m r).2.symm⟩,
      fun m hm => dL_mul hT hx (.inl ⟨o9, rfl⟩) (fun i hi => ga.1 i (by omega)) (fun i hi => gb.1 i (by omega)) (fun i hi => ga.2 i (by omega)) (fun i hi => gb.2 i (by omega))⟩
    ·by_cases o10 : x.op = 10
     ·cases M with
      | zero => exact ⟨fun m hm => by rw [show m = 0 by omega]; exact Zz hT hX hτ j 0 hj hc, fun m hm => by omega⟩
      | succ M =>
       have nj := nj_div hT hX hτ hx o10 hc
       refine ⟨fun m hm => ?_, fun m hm => ?_⟩
       ·by_cases e : m = M + 1
        ·rw [e]; exact Zz hT hX hτ j _ hj hc
        ·exact Zz hT hX hτ j m hj (nj m (by omega))
       ·by_cases e : m = M
        ·subst e
         exact dL_div hT hX hτ hj hx o10 (by omega) (by omega) hc (both m rfl _ la) (both m rfl _ lb) (fun i hi hn => (ihM (i + 1) (by omega) j hj hn).2 i (by omega))
        ·exact (ihM M (by omega) j hj (nj M (Nat.le_refl _))).2 m (by omega)
     ·have hg : VP T X τ x.a.toNat M ∧ VP T X τ x.b.toNat M := by
       rw [VH hT hX hτ hx h2] at hc
       by_cases o7 : x.op = 7
       ·have hc' : add (cL T X τ x.a.toNat M) (cL T X τ x.b.toNat M) ≠ ent := by simpa [fA, o7, ja] using hc
        exact ⟨ihj _ la (by omega) (WQ hc').1, ihj _ lb (by omega) (WQ hc').2⟩
       ·have o8 : x.op = 8 := by omega
        have hc' : sub (cL T X τ x.a.toNat M) (cL T X τ x.b.toNat M) ≠ ent := by simpa [fA, o8, ja] using hc
        exact ⟨ihj _ la (by omega) (Yq hc').1, ihj _ lb (by omega) (Yq hc').2⟩
      refine ⟨fun m hm => ?_, fun m hm => dL_lin hT hx (.inr (by omega)) (hg.1.2 m hm) (fun _ => hg.2.2 m hm)⟩
      have ba := hg.1.1 m hm
      have bb := hg.2.1 m hm
      by_cases o7 : x.op = 7
      ·exact ⟨(ba.1.add bb.1).congr fun r => by rw [ZX hT hx h2]; simp [fA, o7, qi], (ba.2.add bb.2).congr fun r => by rw [aL'_fA hT hx h2]; simp [fA, o7, qi]⟩
      ·have o8 : x.op = 8 := by omega
       exact ⟨(ba.1.add (zR.smul (-1) bb.1)).congr fun r => by rw [ZX hT hx h2]; simp [fA, o8, qi]; grind, (ba.2.add (zR.smul (-1) bb.2)).congr fun r => by rw [aL'_fA hT hx h2]; simp [fA, o8, qi]; grind⟩
theorem goodO (hte : τ ≠ ent) (hXe : ∀ i, i < T.n → zf X i ≠ ent) {i M : Nat} (hi : i < T.n) (hc : cO T X τ i M ≠ ent) : ∀ m, m < M → zU (T := T) (X := X) (τ := τ) (aO i m) (aO' i m) (fun r => ((m + 1 : Nat) : Rat) * aO i (m + 1) r) := by
 obtain ⟨o, ho⟩ : ∃ o, T.out[i]? = some o := ⟨T.out[i]'(by rw [hT.len]; exact hi), by simp⟩
 intro m hm
 cases m with
 | zero => exact dO_zero ho
 | succ m =>
  obtain ⟨M', rfl⟩ : ∃ M', M = M' + 1 := ⟨M - 1, by omega⟩
  rw [zcp hT hX hτ hi ho] at hc
  exact dO_step ho ((good_all hT hX hτ hte hXe M' o (hT.out o (List.mem_of_getElem? ho)) (UV hc)).2 m (by omega))
end
end Go.Pl

namespace Go.Pl
def pw (s : Rat) : Nat → Rat
 | 0 => 1
 | m + 1 => pw s m * s
def Xd (s : Rat) : Nat → Rat
 | 0 => 0
 | m + 1 => ((m + 1 : Nat) : Rat) * pw s m
theorem YI {s : Rat} (h : 0 ≤ s) : ∀ m, 0 ≤ pw s m
 | 0 => by show (0 : Rat) ≤ 1; grind
 | m + 1 => Rat.mul_nonneg (YI h m) h
theorem zcG {s t : Rat} (h : 0 ≤ s) (k : s ≤ t) : ∀ m, pw s m ≤ pw t m
 | 0 => Rat.le_refl
 | m + 1 => by
  show pw s m * s ≤ pw t m * t
  have h1 := Rat.mul_le_mul_of_nonneg_right (zcG h k m) h
  have h2 := Rat.mul_le_mul_of_nonneg_left k (YI (Rat.le_trans h k) m)
  exact Rat.le_trans h1 h2
theorem zdL {s S : Rat} (h : 0 ≤ s) (k : s ≤ S) (m : Nat) : Bn (pw S m) (pw s m) := by
 have h1 := YI h m
 have h2 := zcG h k m
 unfold Bn
 constructor <;> grind
theorem dpw_bn {S : Rat} (hS : 0 ≤ S) : ∀ m, ∃ W, 0 ≤ W ∧ ∀ s, 0 ≤ s → s ≤ S → Bn W (Xd s m)
 | 0 => ⟨0, by grind, fun s _ _ => Bn.zero (by grind)⟩
 | m + 1 => by
  have hp := zdh m
  exact ⟨((m + 1 : Nat) : Rat) * pw S m, Rat.mul_nonneg (Rat.le_of_lt hp) (YI hS m), fun s h k => Bn.mul (by unfold Bn; constructor <;> grind) (zdL h k m)⟩
theorem zdK {S : Rat} (hS : 0 ≤ S) : ∀ m, ∃ K, 0 ≤ K ∧ ∀ δ s, 0 ≤ δ → δ ≤ 4 → 0 ≤ s - δ → s ≤ S → Df K δ (pw s m) (pw (s - δ) m) (-(Xd s m))
 | 0 => ⟨0, by grind, fun δ s _ _ _ _ => by
   show Df 0 δ 1 1 (-0)
   unfold Df Bn
   constructor <;> grind⟩
 | m + 1 => by
  obtain ⟨K, k0, hK⟩ := zdK hS m
  obtain ⟨W1, w1, hW1⟩ := dpw_bn hS m
  have hp := YI hS m
  generalize hWe : W1 + pw S m + S + 1 = W
  have w0 : 0 ≤ W := by grind
  have n1 := Rat.mul_nonneg w0 w0
  have n2 := Rat.mul_nonneg (Rat.mul_nonneg (show (0 : Rat) ≤ 4 by grind) w0) k0
  have n4 := Rat.mul_nonneg w0 k0
  refine ⟨W * W + 4 * W * K + W * 0 + W * K, by grind, fun δ s d0 d4 h1 h2 => ?_⟩
  have s0 : 0 ≤ s := by grind
  have sW : s ≤ W := by grind
  have hs : Df 0 δ s (s - δ) (-1) := by
   have e : s - δ - s - δ * -1 = 0 := by grind
   have e2 : (0 : Rat) * (δ * δ) = 0 := by grind
   unfold Df
   rw [e, e2]
   exact Bn.zero (by grind)
  have h := Df.mul (W := W) d0 d4 (hK δ s d0 d4 h1 h2) hs ((zdL (S := S) h1 (by grind) m).mono (by grind)) (⟨by grind, sW⟩) ((hW1 s s0 h2).neg.mono (by grind)) (⟨by grind, by grind⟩)
  have e : -(Xd s m) * s + pw s m * -1 = -(Xd s (m + 1)) := by
   cases m with
   | zero =>
    show -(0 : Rat) * s + 1 * -1 = -(((0 + 1 : Nat) : Rat) * 1)
    have : ((0 + 1 : Nat) : Rat) = 1 := rfl
    rw [this]; grind
   | succ m =>
    show -(((m + 1 : Nat) : Rat) * pw s m) * s + (pw s m * s) * -1 = -(((m + 1 + 1 : Nat) : Rat) * (pw s m * s))
    rw [UU (m + 1)]
    grind
  rw [e] at h
  exact h
theorem psi_df {S W K : Rat} (hS : 0 ≤ S) (hW : 0 ≤ W) (hK : 0 ≤ K) : ∀ M, ∃ L, 0 ≤ L ∧ ∀ (δ s : Rat) (U U' : Nat → Rat), 0 ≤ δ → δ ≤ 4 → 0 ≤ s - δ → s ≤ S →
  (∀ m, m ≤ M → Bn W (U m)) → (∀ m, m ≤ M → Bn W (U' m)) → (∀ m, m < M → Df K δ (U m) (U' m) (((m + 1 : Nat) : Rat) * U (m + 1))) →
  Df L δ (sm (fun m => U m * pw s m) M) (sm (fun m => U' m * pw (s - δ) m) M) (U M * Xd s M)
 | 0 => ⟨0, by grind, fun δ s U U' _ _ _ _ _ _ _ => by
   show Df 0 δ 0 0 (U 0 * 0)
   unfold Df Bn
   constructor <;> grind⟩
 | M + 1 => by
  obtain ⟨L, l0, hL⟩ := psi_df hS hW hK M
  obtain ⟨P, p0, hP⟩ := zdK hS M
  obtain ⟨W1, w1, hW1⟩ := dpw_bn hS M
  have hp := YI hS M
  have hM := zdh M
  have hMW := Rat.mul_nonneg (Rat.le_of_lt hM) hW
  generalize hWe : W + W1 + pw S M + ((M + 1 : Nat) : Rat) * W = V
  have v0 : 0 ≤ V := by grind
  have n1 := Rat.mul_nonneg v0 v0
  have n2 := Rat.mul_nonneg (Rat.mul_nonneg (show (0 : Rat) ≤ 4 by grind) v0) hK
  have n3 := Rat.mul_nonneg v0 p0
  have n4 := Rat.mul_nonneg v0 hK
  refine ⟨L + (V * V + 4 * V * K + V * P + V * K), by grind, fun δ s U U' d0 d4 h1 h2 b b' hd => ?_⟩
  have a1 := hL δ s U U' d0 d4 h1 h2 (fun m hm => b m (by omega)) (fun m hm => b' m (by omega)) (fun m hm => hd m (by omega))
  have a2 := Df.mul (W := V) d0 d4 (hd M (by omega)) (hP δ s d0 d4 h1 h2) ((b' M (by omega)).mono (by grind)) ((zdL (s := s) (S := S) (by grind) h2 M).mono (by grind)) ((Bn.mul (K := ((M + 1 : Nat) : Rat)) (by unfold Bn; constructor <;> grind) (b (M + 1) (Nat.le_refl _))).mono (by grind)) ((hW1 s (by grind) h2).neg.mono (by grind))
  have a3 := a1.add a2
  have e : U M * Xd s M + (((M + 1 : Nat) : Rat) * U (M + 1) * pw s M + U M * -(Xd s M)) = U (M + 1) * Xd s (M + 1) := by
   show _ = U (M + 1) * (((M + 1 : Nat) : Rat) * pw s M)
   grind
  rw [e] at a3
  exact a3
theorem sum_err {A B : Nat → Rat} {c : Rat} : ∀ {N : Nat}, (∀ n, n < N → Bn c (A (n + 1) - A n - B n)) → Bn ((N : Rat) * c) (A N - A 0 - sm B N)
 | 0, _ => by
  have e : ((0 : Nat) : Rat) = 0 := rfl
  rw [e]
  show Bn (0 * c) (A 0 - A 0 - 0)
  unfold Bn
  constructor <;> grind
 | N + 1, h => by
  have h1 := (sum_err (N := N) fun n hn => h n (by omega)).add (h N (by omega))
  rw [UU]
  have e1 : (N : Rat) * c + c = ((N : Rat) + 1) * c := by grind
  have e2 : A N - A 0 - sm B N + (A (N + 1) - A N - B N) = A (N + 1) - A 0 - sm B (N + 1) := by
   show _ = A (N + 1) - A 0 - (sm B N + B N)
   grind
  rwa [e1, e2] at h1
theorem sum_conv {w v : Nat → Rat} {lo hi : Rat} : ∀ {N : Nat}, (∀ n, n < N → 0 ≤ w n ∧ lo ≤ v n ∧ v n ≤ hi) → lo * sm w N ≤ sm (fun n => w n * v n) N ∧ sm (fun n => w n * v n) N ≤ hi * sm w N
 | 0, _ => by
  show lo * 0 ≤ 0 ∧ 0 ≤ hi * 0
  constructor <;> grind
 | N + 1, h => by
  obtain ⟨h1, h2⟩ := sum_conv (N := N) fun n hn => h n (by omega)
  obtain ⟨k0, k1, k2⟩ := h N (by omega)
  have m1 := Rat.mul_le_mul_of_nonneg_left k1 k0
  have m2 := Rat.mul_le_mul_of_nonneg_left k2 k0
  show lo * (sm w N + w N) ≤ sm (fun n => w n * v n) N + w N * v N ∧ sm (fun n => w n * v n) N + w N * v N ≤ hi * (sm w N + w N)
  constructor <;> grind
theorem sum_tele (f : Nat → Rat) : ∀ N, sm (fun n => f n - f (n + 1)) N = f 0 - f N
 | 0 => by show (0 : Rat) = f 0 - f 0; grind
 | N + 1 => by
  show sm (fun n => f n - f (n + 1)) N + (f N - f (N + 1)) = _
  rw [sum_tele f N]; grind
end Go.Pl

namespace Go.Pl
theorem at0_nat (l : List I) (k : Nat) : qU l (k : Int) = zf l k := by simp [qU, zf]
theorem za2 (l : List I) (k : Int) : qU l k = zf l k.toNat := rfl
theorem zbu (x : List I) (t : I) (L : List zT) : ∀ j y, L[j]? = some y → (qy L x t)[j]? = some (jC y (qy (L.take j) x t) x t) := by
 refine zbh (P := fun L => ∀ j y, L[j]? = some y → (qy L x t)[j]? = some (jC y (qy (L.take j) x t) x t)) (fun j y h => by simp at h) (fun L z ih j y h => ?_) L
 rw [Yk]
 rcases Nat.lt_or_ge j L.length with hj | hj
 ·rw [List.getElem?_append_left hj] at h
  rw [List.getElem?_append_left (by rw [Xu]; exact hj), ih j y h, List.take_append_of_le_length (by omega)]
 ·have hj2 : j = L.length := by
   have := (gJ.1 h).1
   simp at this; omega
  subst hj2
  rw [List.getElem?_append_right (Nat.le_refl _), Nat.sub_self] at h
  simp at h
  subst h
  rw [List.getElem?_append_right (by rw [Xu]; omega), Xu, Nat.sub_self]
  simp
theorem valsV_take {x : List I} {t : I} {L : List zT} {i j : Nat} (hi : i < j) (hj : j ≤ L.length) : zf (qy (L.take j) x t) i = zf (qy L x t) i := by
 have h1 : (L.take j)[i]? = some L[i] := by rw [List.getElem?_take_of_lt hi]; exact List.getElem?_eq_getElem (by omega)
 have h2 : L[i]? = some L[i] := List.getElem?_eq_getElem (by omega)
 unfold zf
 rw [zbu x t _ i _ h1, zbu x t _ i _ h2, List.take_take, Nat.min_eq_left (by omega)]
section
variable {T : Tp} {X : List I} {τ : I} (hT : z8 T) (hX : zq X) (hτ : vB τ = true)
include hT hX hτ
theorem eval_cL : ∀ j, j < T.L.length → zf (qy T.L X τ) j = cL T X τ j 0 := by
 intro j
 induction j using Nat.strongRecOn with
 | ind j ih =>
  intro hj
  have hx : T.L[j]? = some T.L[j] := List.getElem?_eq_getElem hj
  generalize T.L[j] = y at hx
  have hv : zf (qy T.L X τ) j = jC y (qy (T.L.take j) X τ) X τ := by
   have := zbu X τ T.L j y hx
   simp [zf, this]
  have arg : ∀ k : Int, 0 ≤ k → k < j → qU (qy (T.L.take j) X τ) k = cL T X τ k.toNat 0 := fun k h0 h1 => by
   rw [za2, valsV_take (by omega) (by omega)]
   exact ih k.toNat (by omega) (by omega)
  rw [hv, zdA hT hX hτ hx]
  rcases hT.ins j y hx with ⟨ho, _⟩ | ⟨ho, h0, h1⟩ | ho | ⟨h4, h6, a0, a1, _⟩ | ⟨h7, h10, a0, a1, b0, b1⟩
  ·simp [jC, fA, ho, ja]
  ·rw [if_pos ho, zco (by omega)]
   simp [jC, ho, za2]
  ·simp [jC, fA, ho]
  ·rw [if_neg (by omega)]
   have e := arg y.a a0 a1
   have n1 : y.op ≠ 1 := by omega
   have n2 : y.op ≠ 2 := by omega
   have n3 : y.op ≠ 3 := by omega
   by_cases o4 : y.op = 4
   ·simp [jC, jT, fA, o4, ja, e]
   ·by_cases o5 : y.op = 5
    ·simp [jC, jT, fA, o5, ja, e]
    ·have o6 : y.op = 6 := by omega
     simp [jC, jT, fA, o6, ja, e]
  ·rw [if_neg (by omega)]
   have e := arg y.a a0 a1
   have e2 := arg y.b b0 b1
   by_cases o7 : y.op = 7
   ·simp [jC, jT, fA, o7, ja, e, e2]
   ·by_cases o8 : y.op = 8
    ·simp [jC, jT, fA, o8, ja, e, e2]
    ·by_cases o9 : y.op = 9
     ·simp [jC, jT, fA, o9, jP, Qz, e, e2]; simp [ja]
     ·have o10 : y.op = 10 := by omega
      simp [jC, jT, fA, o10, ja, e, e2]
theorem evalT_cL {i o : Nat} (ho : T.out[i]? = some o) : zf (Zl T X τ) i = cL T X τ o 0 := by
 have e : zf (Zl T X τ) i = qU (qy T.L X τ) (o : Int) := by simp [Zl, zf, ho]
 rw [← eval_cL hT hX hτ o (hT.out o (List.mem_of_getElem? ho)), e, at0_nat]
end
def jK (T : Tp) (p : Nat) (s δ : Rat) (y : Nat → Rat) : Nat → Nat → Rat
 | 0 => y
 | n + 1 => fun i => jK T p s δ y n i + δ * rL T p (s + (n : Rat) * δ) (jK T p s δ y n) ((T.out[i]?).getD 0) 0
theorem in_subB {a b : I} {x : Rat} (ha : a ≠ ent) (h : jr a b = true) (hx : zP a x) : zP b x := by
 rcases hx with hx | ⟨h1, h2⟩
 ·exact absurd hx ha
 ·simp only [jr, Bool.and_eq_true, decide_eq_true_eq] at h
  have r1 : (b.1 : Rat) ≤ (a.1 : Rat) := Rat.intCast_le_intCast.2 h.1
  have r2 : (a.2 : Rat) ≤ (b.2 : Rat) := Rat.intCast_le_intCast.2 h.2
  exact .inr ⟨by grind, by grind⟩
section
variable {T : Tp} {x C : List I} {t h : Int} {p N : Nat} {θ : Rat} {y : Nat → Rat}
theorem poly_in (hT : z8 T) (hC : zq C) (hCn : C.length = T.n) (hxn : x.length = T.n) (hτ : vB (mk t (t + h)) = true)
  (hne : ∀ i, i < T.n → zf (zV T x C t h) i ≠ ent) (hsub : qt (zV T x C t h) C = true) (hy : ∀ i, i < T.n → zP (zf x i) (y i))
  {s δ : Rat} (hδ : 0 ≤ δ) (hs : ∀ n : Nat, n ≤ N → zP (mk t (t + h)) (s + (n : Rat) * δ)) (hh : ∀ n : Nat, n ≤ N → zP (mk 0 h) ((n : Rat) * δ)) :
  ∀ n, n ≤ N → ∀ i, i < T.n → ∃ g, zP (zf (Zl T C (mk t (t + h))) i) g ∧ jK T p s δ y n i = y i + (n : Rat) * δ * g ∧ zP (zf (zV T x C t h) i) (jK T p s δ y n i) := by
 have put : ∀ n, n ≤ N → ∀ i, i < T.n → ∀ g v, zP (zf (Zl T C (mk t (t + h))) i) g → v = y i + (n : Rat) * δ * g → zP (zf (zV T x C t h) i) v := fun n hn i hi g v hg hv => by
  have e : zf (zV T x C t h) i = Zv h (zf x i) (zf (Zl T C (mk t (t + h))) i) := by
   have : i < x.length := by omega
   simp [zV, zf, this]
  rw [e, hv]
  exact Wi (hy i hi) (zdk (hh n hn) hg)
 intro n
 induction n with
 | zero =>
  intro h0 i hi
  have hv : vB (zf (Zl T C (mk t (t + h))) i) = true := qE (Wx hT hC hτ) i
  have e0 : ((0 : Nat) : Rat) = 0 := rfl
  have e1 : jK T p s δ y 0 i = y i + ((0 : Nat) : Rat) * δ * (((zf (Zl T C (mk t (t + h))) i).1 : Rat) / 65536) := by
   rw [e0]; show y i = _; grind
  exact ⟨_, Y0 hv, e1, put 0 h0 i hi _ _ (Y0 hv) e1⟩
 | succ n ih =>
  intro hn i hi
  obtain ⟨g, hg, he, _⟩ := ih (by omega) i hi
  obtain ⟨o, ho⟩ : ∃ o, T.out[i]? = some o := ⟨T.out[i]'(by rw [hT.len]; exact hi), by simp⟩
  have hol := hT.out o (List.mem_of_getElem? ho)
  have hin : ∀ i, i < T.n → zP (zf C i) (jK T p s δ y n i) := fun i hi => by
   obtain ⟨_, _, _, h3⟩ := ih (by omega) i hi
   refine in_subB (hne i hi) ?_ h3
   have h4 := hsub
   unfold qt at h4
   rw [List.all_eq_true] at h4
   exact h4 i (List.mem_range.2 (by rw [VE]; omega))
  have hf : zP (zf (Zl T C (mk t (t + h))) i) (rL T p (s + (n : Rat) * δ) (jK T p s δ y n) o 0) := by
   rw [evalT_cL hT hC hτ ho]
   exact (Wh hT hC hτ p hin (hs n (by omega)) 0).2 o hol
  generalize hF : rL T p (s + (n : Rat) * δ) (jK T p s δ y n) o 0 = f at hf
  have e1 : jK T p s δ y (n + 1) i = jK T p s δ y n i + δ * f := by
   show jK T p s δ y n i + δ * rL T p (s + (n : Rat) * δ) (jK T p s δ y n) ((T.out[i]?).getD 0) 0 = _
   rw [ho]
   show jK T p s δ y n i + δ * rL T p (s + (n : Rat) * δ) (jK T p s δ y n) o 0 = _
   rw [hF]
  have hp := zdh n
  have hn0 : (0 : Rat) ≤ (n : Rat) := by rw [← Rat.intCast_natCast]; exact Rat.intCast_nonneg.2 (by omega)
  have ec := UU n
  have hg2 : zP (zf (Zl T C (mk t (t + h))) i) (((n : Rat) * g + f) / ((n + 1 : Nat) : Rat)) := by
   rw [ec]
   rw [ec] at hp
   rcases (Rat.le_total : g ≤ f ∨ f ≤ g) with k | k
   ·refine inI_conv hg hf ?_ ?_
    ·exact XC hp (by grind)
    ·refine VB hp ?_
     have := Rat.mul_le_mul_of_nonneg_left k hn0
     grind
   ·refine inI_conv hf hg ?_ ?_
    ·refine XC hp ?_
     have := Rat.mul_le_mul_of_nonneg_left k hn0
     grind
    ·exact VB hp (by grind)
  have e2 : jK T p s δ y (n + 1) i = y i + ((n + 1 : Nat) : Rat) * δ * (((n : Rat) * g + f) / ((n + 1 : Nat) : Rat)) := by
   rw [e1, he]
   rw [ec] at hp ⊢
   grind
  exact ⟨_, hg2, e2, put (n + 1) hn i hi _ _ hg2 e2⟩
end
end Go.Pl

namespace Go.Pl
theorem arch (q : Rat) : ∃ N : Nat, 1 ≤ N ∧ q ≤ (N : Rat) := by
 have h1 : q < ((q.floor + 1 : Int) : Rat) := Rat.not_le.1 fun k => by
  have := Rat.le_floor_iff.2 k
  omega
 refine ⟨(max 1 (q.floor + 1)).toNat, by omega, ?_⟩
 have h2 : (((max 1 (q.floor + 1)).toNat : Nat) : Rat) = ((max 1 (q.floor + 1) : Int) : Rat) := by
  rw [← Rat.intCast_natCast]
  congr 1
  omega
 rw [h2]
 have h3 : ((q.floor + 1 : Int) : Rat) ≤ ((max 1 (q.floor + 1) : Int) : Rat) := Rat.intCast_le_intCast.2 (by omega)
 exact Rat.le_trans (Rat.le_of_lt h1) h3
section
variable {T : Tp} {X : List I} {τ : I}
theorem Dfx_all {f f' d : Nat → qk T X τ → Rat} : ∀ {M : Nat}, (∀ m, m < M → zU (f m) (f' m) (d m)) → ∃ K, 0 ≤ K ∧ ∀ m, m < M → ∀ r, Df K r.δ (f m r) (f' m r) (d m r)
 | 0, _ => ⟨0, by grind, fun m hm => by omega⟩
 | M + 1, h => by
  obtain ⟨K, k0, hK⟩ := Dfx_all (M := M) fun m hm => h m (by omega)
  obtain ⟨L, l0, hL⟩ := h M (by omega)
  refine ⟨K + L, by grind, fun m hm r => ?_⟩
  by_cases e : m = M
  ·subst e; exact (hL r).mono (by grind)
  ·exact (hK m (by omega) r).mono (by grind)
theorem Bdx_all {f f' : Nat → qk T X τ → Rat} : ∀ {M : Nat}, (∀ m, m < M → zR (f m) ∧ zR (f' m)) → ∃ W, 0 ≤ W ∧ ∀ m, m < M → ∀ r, Bn W (f m r) ∧ Bn W (f' m r)
 | 0, _ => ⟨0, by grind, fun m hm => by omega⟩
 | M + 1, h => by
  obtain ⟨K, k0, hK⟩ := Bdx_all (M := M) fun m hm => h m (by omega)
  obtain ⟨⟨L, l0, hL⟩, ⟨L', l0', hL'⟩⟩ := h M (by omega)
  refine ⟨K + L + L', by grind, fun m hm r => ?_⟩
  by_cases e : m = M
  ·subst e; exact ⟨(hL r).mono (by grind), (hL' r).mono (by grind)⟩
  ·exact ⟨(hK m (by omega) r).1.mono (by grind), (hK m (by omega) r).2.mono (by grind)⟩
theorem bdO (hT : z8 T) (hX : zq X) (hτ : vB τ = true) (hte : τ ≠ ent) (hXe : ∀ i, i < T.n → zf X i ≠ ent) {i M : Nat} (hi : i < T.n) (hc : cO T X τ i M ≠ ent) : ∀ m, m < M + 1 → zR (T := T) (X := X) (τ := τ) (aO i m) ∧ zR (T := T) (X := X) (τ := τ) (aO' i m) := by
 obtain ⟨o, ho⟩ : ∃ o, T.out[i]? = some o := ⟨T.out[i]'(by rw [hT.len]; exact hi), by simp⟩
 intro m hm
 cases m with
 | zero =>
  obtain ⟨W, w0, hW⟩ := zc8 (hXe _ hi)
  exact ⟨⟨W, w0, fun r => hW _ (r.hy _ hi)⟩, ⟨W, w0, fun r => hW _ (r.hy' _ hi)⟩⟩
 | succ m =>
  obtain ⟨M', rfl⟩ : ∃ M', M = M' + 1 := ⟨M - 1, by omega⟩
  rw [zcp hT hX hτ hi ho] at hc
  have hb := (good_all hT hX hτ hte hXe M' o (hT.out o (List.mem_of_getElem? ho)) (UV hc)).1 m (by omega)
  exact ⟨(zR.smul (1 / ((m + 1 : Nat) : Rat)) hb.1).congr fun r => by show _ = rO T r.p r.s r.y i (m + 1); rw [Vs ho]; show 1 / ((m + 1 : Nat) : Rat) * rL T r.p r.s r.y o m = _; grind,
   (zR.smul (1 / ((m + 1 : Nat) : Rat)) hb.2).congr fun r => by show _ = rO T r.p (r.s + r.δ) r.y' i (m + 1); rw [Vs ho]; show 1 / ((m + 1 : Nat) : Rat) * rL T r.p (r.s + r.δ) r.y' o m = _; grind⟩
theorem sm_pw0 (f : Nat → Rat) : ∀ M, sm (fun m => f m * pw 0 m) (M + 1) = f 0
 | 0 => by show 0 + f 0 * 1 = f 0; grind
 | M + 1 => by
  show sm (fun m => f m * pw 0 m) (M + 1) + f (M + 1) * (pw 0 M * 0) = f 0
  rw [sm_pw0 f M]; grind
theorem pw_pos {s : Rat} (h : 0 < s) : ∀ m, 0 < pw s m
 | 0 => by show (0 : Rat) < 1; grind
 | m + 1 => Rat.mul_pos (pw_pos h m) h
theorem poly_taylor (hT : z8 T) (hX : zq X) (hτ : vB τ = true) (hte : τ ≠ ent) (hXe : ∀ i, i < T.n → zf X i ≠ ent) {i M : Nat} (hi : i < T.n) (hc : cO T X τ i (M + 1) ≠ ent) {θ : Rat} (hθ : 0 < θ) :
  ∃ Q, 0 ≤ Q ∧ ∀ (N p : Nat) (δ s : Rat) (y : Nat → Rat), 0 < δ → δ ≤ 4 → (N : Rat) * δ = θ → 1 / (qp p : Rat) ≤ δ * δ →
   (∀ n, n ≤ N → (∀ i, i < T.n → zP (zf X i) (jK T p s δ y n i)) ∧ zP τ (s + (n : Rat) * δ)) →
   ∃ ρ, zP (cO T X τ i (M + 1)) ρ ∧ Bn (Q * δ) (jK T p s δ y N i - (sm (fun m => rO T p s y i m * pw θ m) (M + 1) + ρ * pw θ (M + 1))) := by
 obtain ⟨K, k0, hK⟩ := Dfx_all (goodO hT hX hτ hte hXe hi hc)
 obtain ⟨W, w0, hW⟩ := Bdx_all (bdO hT hX hτ hte hXe hi hc)
 obtain ⟨L, l0, hL⟩ := psi_df (S := θ) (Rat.le_of_lt hθ) w0 k0 (M + 1)
 obtain ⟨P, p0, hP⟩ := zdK (S := θ) (Rat.le_of_lt hθ) (M + 1)
 have wp := Rat.mul_nonneg w0 p0
 refine ⟨θ * (L + W * P), Rat.mul_nonneg (Rat.le_of_lt hθ) (by grind), fun N p δ s y d0 d4 hN hp hin => ?_⟩
 have dn : 0 ≤ δ := Rat.le_of_lt d0
 have nn : ∀ n : Nat, (0 : Rat) ≤ (n : Rat) := fun n => by rw [← Rat.intCast_natCast]; exact Rat.intCast_nonneg.2 (by omega)
 have nle : ∀ n : Nat, n ≤ N → (n : Rat) * δ ≤ θ := fun n hn => by
  rw [← hN]
  refine Rat.mul_le_mul_of_nonneg_right ?_ dn
  rw [← Rat.intCast_natCast, ← Rat.intCast_natCast]
  exact Rat.intCast_le_intCast.2 (by omega)
 have se : ∀ n : Nat, s + (n : Rat) * δ + δ = s + ((n + 1 : Nat) : Rat) * δ := fun n => by rw [UU]; grind
 have R : ∀ n, n < N → ∃ r : qk T X τ, r.p = p ∧ r.δ = δ ∧ r.s = s + (n : Rat) * δ ∧ r.y = jK T p s δ y n ∧ r.y' = jK T p s δ y (n + 1) := fun n hn =>
  ⟨⟨p, δ, s + (n : Rat) * δ, jK T p s δ y n, jK T p s δ y (n + 1), (hin n (by omega)).1, (hin (n + 1) (by omega)).1, (hin n (by omega)).2, by rw [se]; exact (hin (n + 1) (by omega)).2, d0, d4, hp, fun i o ho => by
   show jK T p s δ y n i + δ * rL T p (s + (n : Rat) * δ) (jK T p s δ y n) ((T.out[i]?).getD 0) 0 = _
   rw [ho]; rfl⟩, rfl, rfl, rfl, rfl, rfl⟩
 obtain ⟨U, hU⟩ : ∃ U : Nat → Nat → Rat, U = fun (n m : Nat) => rO T p (s + (n : Rat) * δ) (jK T p s δ y n) i m := ⟨_, rfl⟩
 have ub : ∀ n, n < N → ∀ m, m < M + 1 + 1 → Bn W (U n m) ∧ Bn W (U (n + 1) m) := fun n hn m hm => by
  obtain ⟨r, r1, r2, r3, r4, r5⟩ := R n hn
  have := hW m hm r
  unfold aO aO' at this
  rw [r1, r2, r3, r4, r5, se] at this
  subst hU
  exact this
 have ud : ∀ n, n < N → ∀ m, m < M + 1 → Df K δ (U n m) (U (n + 1) m) (((m + 1 : Nat) : Rat) * U n (m + 1)) := fun n hn m hm => by
  obtain ⟨r, r1, r2, r3, r4, r5⟩ := R n hn
  have := hK m hm r
  unfold aO aO' at this
  rw [r1, r2, r3, r4, r5, se] at this
  subst hU
  exact this
 have sig : ∀ n : Nat, θ - (n : Rat) * δ - δ = θ - ((n + 1 : Nat) : Rat) * δ := fun n => by rw [UU]; grind
 have step : ∀ n, n < N → Bn ((L + W * P) * (δ * δ)) (sm (fun m => U (n + 1) m * pw (θ - ((n + 1 : Nat) : Rat) * δ) m) (M + 1) - sm (fun m => U n m * pw (θ - (n : Rat) * δ) m) (M + 1) - (pw (θ - (n : Rat) * δ) (M + 1) - pw (θ - ((n + 1 : Nat) : Rat) * δ) (M + 1)) * U n (M + 1)) := fun n hn => by
  have s1 : 0 ≤ θ - (n : Rat) * δ - δ := by rw [sig]; have := nle (n + 1) (by omega); grind
  have s2 : θ - (n : Rat) * δ ≤ θ := by have := Rat.mul_nonneg (nn n) dn; grind
  have a1 := hL δ (θ - (n : Rat) * δ) (U n) (U (n + 1)) dn d4 s1 s2 (fun m hm => (ub n hn m (by omega)).1) (fun m hm => (ub n hn m (by omega)).2) (ud n hn)
  have a2 := Df.smul (U n (M + 1)) (ub n hn (M + 1) (by omega)).1 (hP δ (θ - (n : Rat) * δ) dn d4 s1 s2)
  have a3 := a1.add a2
  unfold Df at a3
  rw [sig] at a3
  refine Eq.mp ?_ a3
  congr 1
  grind
 have tot := sum_err (N := N) (A := fun n => sm (fun m => U n m * pw (θ - (n : Rat) * δ) m) (M + 1)) (B := fun n => (pw (θ - (n : Rat) * δ) (M + 1) - pw (θ - ((n + 1 : Nat) : Rat) * δ) (M + 1)) * U n (M + 1)) step
 have z0 : ((0 : Nat) : Rat) = 0 := rfl
 have tele := sum_tele (fun n => pw (θ - (n : Rat) * δ) (M + 1)) N
 have eN : θ - (N : Rat) * δ = 0 := by rw [hN]; grind
 have e0 : θ - ((0 : Nat) : Rat) * δ = θ := by rw [z0]; grind
 have p00 : pw 0 (M + 1) = 0 := by show pw 0 M * 0 = 0; grind
 simp only [eN, e0, p00] at tele
 have pp := pw_pos hθ (M + 1)
 have hr : ∀ n, n < N → zP (cO T X τ i (M + 1)) (U n (M + 1)) := fun n hn => by
  subst hU
  exact (Wh hT hX hτ p (hin n (by omega)).1 (hin n (by omega)).2 (M + 1)).1 i hi
 have conv := sum_conv (N := N) (w := fun n => pw (θ - (n : Rat) * δ) (M + 1) - pw (θ - ((n + 1 : Nat) : Rat) * δ) (M + 1)) (v := fun n => U n (M + 1)) (lo := ((cO T X τ i (M + 1)).1 : Rat) / 65536) (hi := ((cO T X τ i (M + 1)).2 : Rat) / 65536) (fun n hn => by
  have m1 := zcG (s := θ - ((n + 1 : Nat) : Rat) * δ) (t := θ - (n : Rat) * δ) (by have := nle (n + 1) (by omega); grind) (by rw [← sig]; grind) (M + 1)
  rcases hr n hn with h | ⟨h1, h2⟩
  ·exact absurd h hc
  ·exact ⟨by grind, by grind, by grind⟩)
 rw [tele] at conv
 simp only [eN, e0, sm_pw0] at tot
 generalize hS : sm (fun n => (pw (θ - (n : Rat) * δ) (M + 1) - pw (θ - ((n + 1 : Nat) : Rat) * δ) (M + 1)) * U n (M + 1)) N = S at tot conv
 refine ⟨S / pw θ (M + 1), .inr ⟨?_, ?_⟩, ?_⟩
 ·have : ((cO T X τ i (M + 1)).1 : Rat) / 65536 ≤ S / pw θ (M + 1) := XC pp (by grind)
  grind
 ·have : S / pw θ (M + 1) ≤ ((cO T X τ i (M + 1)).2 : Rat) / 65536 := VB pp (by grind)
  grind
 ·have e1 : S / pw θ (M + 1) * pw θ (M + 1) = S := by grind
  have e2 : U N 0 = jK T p s δ y N i := by subst hU; rfl
  have e3 : sm (fun m => U 0 m * pw θ m) (M + 1) = sm (fun m => rO T p s y i m * pw θ m) (M + 1) := by
   subst hU
   refine JV fun m hm => ?_
   show rO T p (s + ((0 : Nat) : Rat) * δ) y i m * _ = _
   rw [z0, show s + 0 * δ = s by grind]
  rw [e2, e3] at tot
  rw [e1]
  have e4 : (N : Rat) * ((L + W * P) * (δ * δ)) = θ * (L + W * P) * δ := by rw [← hN]; grind
  rw [e4] at tot
  refine Eq.mp ?_ tot
  congr 1
  grind
end
end Go.Pl

namespace Go.Pl
def Y4 : List Rat → Rat → Rat
 | [], _ => 0
 | [a], _ => a
 | a :: r, θ => Y4 r θ * θ + a
theorem horn_in {part : I} {θ : Rat} (hp : zP part θ) : ∀ {l : List I} {v : List Rat}, l.length = v.length → (∀ (i : Nat) a b, l[i]? = some a → v[i]? = some b → zP a b) → zP (ql l part) (Y4 v θ)
 | [], [], _, _ => Wj
 | [a], [b], _, h => h 0 a b rfl rfl
 | a :: c :: l, b :: d :: v, hl, h => by
  have ih := horn_in hp (l := c :: l) (v := d :: v) (by simpa using hl) (fun (i : Nat) x y h1 h2 => h (i + 1) x y (by simpa using h1) (by simpa using h2))
  exact Wi (zdk ih hp) (h 0 a b rfl rfl)
def VX : List Rat → Rat → Rat
 | [], _ => 0
 | a :: r, θ => VX r θ * θ + a
theorem hornR_snoc (a θ : Rat) : ∀ l : List Rat, Y4 (l ++ [a]) θ = VX l θ + a * pw θ l.length
 | [] => by show a = 0 + a * 1; grind
 | c :: l => by
  have ih := hornR_snoc a θ l
  have e : Y4 (c :: (l ++ [a])) θ = Y4 (l ++ [a]) θ * θ + c := by
   cases l with
   | nil => rfl
   | cons d l => rfl
  show Y4 (c :: (l ++ [a])) θ = (VX l θ * θ + c) + a * (pw θ l.length * θ)
  rw [e, ih]; grind
theorem sumH_snoc (a θ : Rat) : ∀ l : List Rat, VX (l ++ [a]) θ = VX l θ + a * pw θ l.length
 | [] => by show (0 : Rat) * θ + a = 0 + a * 1; grind
 | c :: l => by
  have ih := sumH_snoc a θ l
  show VX (l ++ [a]) θ * θ + c = (VX l θ * θ + c) + a * (pw θ l.length * θ)
  rw [ih]; grind
theorem sumH_range (u : Nat → Rat) (θ : Rat) : ∀ M, VX ((List.range M).map u) θ = sm (fun m => u m * pw θ m) M
 | 0 => rfl
 | M + 1 => by
  rw [List.range_succ, List.map_append, List.map_cons, List.map_nil, sumH_snoc, sumH_range u θ M]
  simp [sm]
theorem horn_ent (part : I) : ∀ l : List I, ql (l ++ [ent]) part = ent
 | [] => rfl
 | c :: l => by
  have ih := horn_ent part l
  have e : ql (c :: (l ++ [ent])) part = add (mul (ql (l ++ [ent]) part) part) c := by
   cases l with
   | nil => rfl
   | cons d l => rfl
  show ql (c :: (l ++ [ent])) part = ent
  rw [e, ih]
  have e1 : mul ent part = ent := by unfold mul; simp [show zI ent = true from rfl]
  rw [e1]
  unfold add; simp [show zI ent = true from rfl]
theorem inter_ent {b : I} (h : vB b = true) : jj ent b = true := by
 have := qR h
 unfold jj
 rw [decide_eq_true_eq]
 show max (-2147483648) b.1 ≤ min 2147483648 b.2
 omega
theorem inter_near {a b : I} {u v : Rat} (va : vB a = true) (vb : vB b = true) (ha : zP a u) (hb : zP b v) (h : Bn (1 / 131072) (v - u)) : jj a b = true := by
 have k1 := qR va
 have k2 := qR vb
 rcases ha with ha | ⟨a1, a2⟩
 ·subst ha; exact inter_ent vb
 rcases hb with hb | ⟨b1, b2⟩
 ·subst hb
  unfold jj
  rw [decide_eq_true_eq]
  show max a.1 (-2147483648) ≤ min a.2 2147483648
  omega
 obtain ⟨h1, h2⟩ := h
 have l1 : b.1 ≤ a.2 := by
  by_cases k : b.1 ≤ a.2
  ·exact k
  ·have : ((a.2 + 1 : Int) : Rat) ≤ (b.1 : Rat) := Rat.intCast_le_intCast.2 (by omega)
   rw [Rat.intCast_add] at this
   have e : ((1 : Int) : Rat) = 1 := rfl
   rw [e] at this
   exfalso
   grind
 have l2 : a.1 ≤ b.2 := by
  by_cases k : a.1 ≤ b.2
  ·exact k
  ·have : ((b.2 + 1 : Int) : Rat) ≤ (a.1 : Rat) := Rat.intCast_le_intCast.2 (by omega)
   rw [Rat.intCast_add] at this
   have e : ((1 : Int) : Rat) = 1 := rfl
   rw [e] at this
   exfalso
   grind
 unfold jj
 rw [decide_eq_true_eq]
 omega
section
variable {T : Tp} {x C : List I} {t h : Int}
theorem zaA (hT : z8 T) (hx : zq x) (hC : zq C) (hCn : C.length = T.n) (hxn : x.length = T.n) (hh : 0 ≤ h ∧ h ≤ 1000000000) (ht : -1000000000 ≤ t ∧ t ≤ 1000000000)
  (hb : Zn (zV T x C t h) = true) (hsub : qt (zV T x C t h) C = true) {i k : Nat} (hi : i < T.n) {e : Int} (he : 0 < e ∧ e ≤ h) {part : I} (hp : zP part ((e : Rat) / 65536))
  (hv : vB (ql ((List.range (k + 1)).map (cO T x (t, t) i) ++ [cO T (zV T x C t h) (t, t + h) i (k + 1)]) part) = true) :
  jj (ql ((List.range (k + 1)).map (cO T x (t, t) i) ++ [cO T (zV T x C t h) (t, t + h) i (k + 1)]) part) (zf (zV T x C t h) i) = true := by
 have hX : zq (zV T x C t h) := Jn hx
 have vb : vB (zf (zV T x C t h) i) = true := qE hX i
 have emk : mk t (t + h) = (t, t + h) := by unfold mk jH; rw [if_pos (by simp; omega)]
 have emk0 : mk 0 h = (0, h) := by unfold mk jH; rw [if_pos (by simp; omega)]
 have hτ : vB (t, t + h) = true := qA (by omega) (by omega) (by omega)
 have hte : (t, t + h) ≠ ent := fun e => by have := congrArg Prod.fst e; simp [ent] at this; omega
 have hXe : ∀ i, i < T.n → zf (zV T x C t h) i ≠ ent := fun i hi e => by
  unfold Zn at hb
  rw [List.all_eq_true] at hb
  have hl : i < (zV T x C t h).length := by rw [VE]; omega
  have hm : zf (zV T x C t h) i ∈ zV T x C t h := by
   unfold zf
   rw [List.getElem?_eq_getElem hl]
   exact List.getElem_mem hl
  have := hb _ hm
  rw [e] at this
  exact absurd this (by decide)
 by_cases hc : cO T (zV T x C t h) (t, t + h) i (k + 1) = ent
 ·rw [hc, horn_ent]; exact inter_ent vb
 have he0 : (0 : Rat) < (e : Rat) := Rat.intCast_pos.2 he.1
 have heh : (e : Rat) ≤ (h : Rat) := Rat.intCast_le_intCast.2 he.2
 have hθ : (0 : Rat) < (e : Rat) / 65536 := by grind
 generalize hθe : (e : Rat) / 65536 = θ at *
 have hθh : θ * 65536 ≤ (h : Rat) := by grind
 obtain ⟨Q, q0, hQ⟩ := poly_taylor hT hX hτ hte hXe hi hc hθ
 obtain ⟨N, n1, hN⟩ := arch (θ * Q * 131072 + θ)
 have npos : (0 : Rat) < (N : Rat) := by rw [← Rat.intCast_natCast]; exact Rat.intCast_pos.2 (by omega)
 have hθQ := Rat.mul_nonneg (Rat.le_of_lt hθ) q0
 obtain ⟨δ, hδ⟩ : ∃ δ, δ = θ / (N : Rat) := ⟨_, rfl⟩
 have hNδ : (N : Rat) * δ = θ := by rw [hδ]; grind
 have d0 : 0 < δ := by
  rw [hδ, Rat.div_def]
  exact Rat.mul_pos hθ (Rat.inv_pos.2 npos)
 have d1 : δ ≤ 1 := by
  rw [hδ]
  refine VB npos ?_
  grind
 have dQ : Q * δ ≤ 1 / 131072 := by
  have : Q * δ = θ * Q / (N : Rat) := by rw [hδ]; grind
  rw [this]
  refine VB npos ?_
  grind
 obtain ⟨p, p1, hp2⟩ := arch (1 / (δ * δ))
 have hdd : 0 < δ * δ := Rat.mul_pos d0 d0
 have hgrid : 1 / (qp p : Rat) ≤ δ * δ := by
  have hg := Wq p
  have hpg : (p : Rat) ≤ (qp p : Rat) := by
   rw [← Rat.intCast_natCast]
   exact Rat.intCast_le_intCast.2 (by unfold qp; omega)
  refine VB hg ?_
  have h1 : 1 / (δ * δ) ≤ (qp p : Rat) := Rat.le_trans hp2 hpg
  have h2 := Rat.mul_le_mul_of_nonneg_left h1 (Rat.le_of_lt hdd)
  have h3 : δ * δ * (1 / (δ * δ)) = 1 := by grind
  grind
 obtain ⟨y, hy⟩ : ∃ y : Nat → Rat, y = fun i => ((zf x i).1 : Rat) / 65536 := ⟨_, rfl⟩
 have hyx : ∀ i, i < T.n → zP (zf x i) (y i) := fun i hi => by rw [hy]; exact Y0 (qE hx i)
 obtain ⟨s, hs⟩ : ∃ s : Rat, s = (t : Rat) / 65536 := ⟨_, rfl⟩
 have nn : ∀ n : Nat, (0 : Rat) ≤ (n : Rat) := fun n => by rw [← Rat.intCast_natCast]; exact Rat.intCast_nonneg.2 (by omega)
 have dn : 0 ≤ δ := Rat.le_of_lt d0
 have nle : ∀ n : Nat, n ≤ N → (n : Rat) * δ ≤ θ := fun n hn => by
  rw [← hNδ]
  refine Rat.mul_le_mul_of_nonneg_right ?_ dn
  rw [← Rat.intCast_natCast, ← Rat.intCast_natCast]
  exact Rat.intCast_le_intCast.2 (by omega)
 have hst : ∀ n : Nat, n ≤ N → zP (t, t + h) (s + (n : Rat) * δ) := fun n hn => by
  have h1 := nle n hn
  have h2 := Rat.mul_nonneg (nn n) dn
  refine .inr ⟨?_, ?_⟩
  ·show (t : Rat) ≤ _
   rw [hs]; grind
  ·show _ ≤ ((t + h : Int) : Rat)
   rw [hs, Rat.intCast_add]; grind
 have hht : ∀ n : Nat, n ≤ N → zP (0, h) ((n : Rat) * δ) := fun n hn => by
  have h1 := nle n hn
  have h2 := Rat.mul_nonneg (nn n) dn
  refine .inr ⟨?_, ?_⟩
  ·show ((0 : Int) : Rat) ≤ _
   have : ((0 : Int) : Rat) = 0 := rfl
   rw [this]; grind
  ·show _ ≤ (h : Rat)
   grind
 have hin := poly_in (p := p) (N := N) (y := y) (s := s) (δ := δ) hT hC hCn hxn (by rw [emk]; exact hτ) hXe hsub hyx dn (by rw [emk]; exact hst) (by rw [emk0]; exact hht)
 obtain ⟨ρ, hρ, hbn⟩ := hQ N p δ s y d0 (by grind) hNδ hgrid (fun n hn => ⟨fun i hi => by obtain ⟨_, _, _, h3⟩ := hin n hn i hi; exact h3, hst n hn⟩)
 obtain ⟨_, _, _, hz⟩ := hin N (Nat.le_refl _) i hi
 have hcx := Wh hT hx (t := (t, t)) (qA (by omega) (by omega) (by omega)) p hyx (s := s) (by rw [hs]; exact Y0 (c := (t, t)) (qA (by omega) (by omega) (by omega)))
 have hH : zP (ql ((List.range (k + 1)).map (cO T x (t, t) i) ++ [cO T (zV T x C t h) (t, t + h) i (k + 1)]) part) (sm (fun m => rO T p s y i m * pw θ m) (k + 1) + ρ * pw θ (k + 1)) := by
  have hl := horn_in hp (l := (List.range (k + 1)).map (cO T x (t, t) i) ++ [cO T (zV T x C t h) (t, t + h) i (k + 1)]) (v := (List.range (k + 1)).map (fun m => rO T p s y i m) ++ [ρ]) (by simp) (fun j a b h1 h2 => by
   rcases Nat.lt_or_ge j (k + 1) with hj | hj
   ·rw [List.getElem?_append_left (by simpa using hj)] at h1 h2
    simp [hj] at h1 h2
    subst h1 h2
    exact (hcx j).1 i hi
   ·rw [List.getElem?_append_right (by simpa using hj)] at h1 h2
    simp at h1 h2
    have hj2 : j - (k + 1) = 0 := by
     have := (gJ.1 h1).1
     simp at this; omega
    rw [hj2] at h1 h2
    simp at h1 h2
    subst h1 h2
    exact hρ)
  rw [hornR_snoc, sumH_range] at hl
  simpa using hl
 refine inter_near hv vb hH hz (hbn.mono dQ)
end
end Go.Pl

namespace Go.Pl
theorem Sb.of {a b : I} (h : jr a b = true) : Sb a b := by
 simp only [jr, Bool.and_eq_true, decide_eq_true_eq] at h
 exact ⟨h.1, h.2⟩
theorem rootI_mono {a a' : I} (va : vB a = true) (va' : vB a' = true) (ha : Sb a a') : Sb (Zg a) (Zg a') := sqrt_mono va va' ha
theorem opI_mono (o : Int) {a b a' b' : I} (va : vB a = true) (vb : vB b = true) (va' : vB a' = true) (vb' : vB b' = true) (ha : Sb a a') (hb : Sb b b') : Sb (jT o a b) (jT o a' b') := by
 unfold jT
 split
 ·exact neg_mono ha
 split
 ·exact sq_mono va va' ha
 split
 ·exact rootI_mono va va' ha
 split
 ·exact Us va vb va' vb' ha hb
 split
 ·exact sub_mono va vb va' vb' ha hb
 split
 ·exact UW va vb va' vb' ha hb
 ·exact div_mono va vb va' vb' ha hb
theorem insV_mono {y : zT} {l l' X X' : List I} {t : I} (hy : y.op = 1 → vB y.c = true) (vl : zq l) (vl' : zq l') (hl : ∀ k : Int, Sb (qU l k) (qU l' k)) (hX : ∀ k : Int, Sb (qU X k) (qU X' k)) : Sb (jC y l X t) (jC y l' X' t) := by
 unfold jC
 split
 ·exact Sb.refl _
 split
 ·exact hX _
 split
 ·exact Sb.refl _
 ·exact opI_mono _ (Xj vl _) (Xj vl _) (Xj vl' _) (Xj vl' _) (hl _) (hl _)
theorem at0_snoc_mono {l l' : List I} {a a' : I} (hn : l.length = l'.length) (hl : ∀ k : Int, Sb (qU l k) (qU l' k)) (ha : Sb a a') (k : Int) : Sb (qU (l ++ [a]) k) (qU (l' ++ [a']) k) := by
 unfold qU at *
 rcases Nat.lt_or_ge k.toNat l.length with h | h
 ·rw [List.getElem?_append_left h, List.getElem?_append_left (by omega)]
  exact hl k
 ·rw [List.getElem?_append_right h, List.getElem?_append_right (by omega), ← hn]
  cases k.toNat - l.length with
  | zero => simpa using ha
  | succ d => simp; exact Sb.refl _
theorem valsV_mono {X X' : List I} {t : I} (hX : zq X) (hX' : zq X') (ht : vB t = true) (h : ∀ k : Int, Sb (qU X k) (qU X' k)) (L : List zT) : (∀ y ∈ L, y.op = 1 → vB y.c = true) → ∀ k : Int, Sb (qU (qy L X t) k) (qU (qy L X' t) k) := by
 refine zbh (P := fun L => (∀ y ∈ L, y.op = 1 → vB y.c = true) → ∀ k : Int, Sb (qU (qy L X t) k) (qU (qy L X' t) k)) (fun _ k => Sb.refl _) (fun L y ih hc => ?_) L
 have ih' := ih fun z hz => hc z (by simp [hz])
 rw [Yk, Yk]
 exact at0_snoc_mono (by rw [Xu, Xu]) ih' (insV_mono (hc y (by simp)) (Uz hX ht fun z hz => hc z (by simp [hz])) (Uz hX' ht fun z hz => hc z (by simp [hz])) ih' h)
theorem evalT_mono {T : Tp} (hT : z8 T) {X X' : List I} {t : I} (hX : zq X) (hX' : zq X') (ht : vB t = true) (h : ∀ k : Int, Sb (qU X k) (qU X' k)) (i : Nat) : Sb (zf (Zl T X t) i) (zf (Zl T X' t) i) := by
 unfold Zl zf
 cases ho : T.out[i]? with
 | none => simp [ho]; exact Sb.refl _
 | some o => simp [ho]; exact valsV_mono hX hX' ht h T.L hT.num o
theorem addz_l {a : I} (h : vB a = true) : add (0, 0) a = a := by
 cases he : zI a with
 | true =>
  rw [jw] at he; subst he; rfl
 | false =>
  have b := Zq h he
  unfold add
  rw [he, show zI (0, 0) = false from rfl]
  simp only [Bool.or_self, Bool.false_eq_true, if_false]
  unfold mk jH
  rw [if_pos (by simp; omega)]
  exact Prod.ext (by show 0 + a.1 = a.1; omega) (by show 0 + a.2 = a.2; omega)
theorem addz_r {a : I} (h : vB a = true) : add a (0, 0) = a := by
 have : add a (0, 0) = add (0, 0) a := by unfold add; rw [Bool.or_comm, Int.add_comm a.1, Int.add_comm a.2]
 rw [this, addz_l h]
theorem VT : vB (0, 0) = true := by decide
theorem mul_zero_in {v : I} {h : Int} (vv : vB v = true) (hh : 0 ≤ h ∧ h ≤ 1000000000) : Sb (0, 0) (mul v (0, h)) ∧ Sb (0, 0) (mul (0, h) v) := by
 have vh : vB (0, h) = true := qA (by omega) (by omega) (by omega)
 have hs : Sb (0, 0) (0, h) := ⟨Int.le_refl _, hh.1⟩
 cases he : zI v with
 | true =>
  rw [jw] at he; subst he
  have e1 : mul ent (0, h) = ent := by unfold mul; simp [show zI ent = true from rfl]
  have e2 : mul (0, h) ent = ent := by unfold mul; simp [show zI ent = true from rfl]
  rw [e1, e2]
  exact ⟨Sb.ent VT, Sb.ent VT⟩
 | false =>
  have z1 : mul v (0, 0) = (0, 0) := by
   unfold mul
   rw [he, show zI (0, 0) = false from rfl]
   simp [z9, qa, ce, fl, mk, jH]
  have z2 : mul (0, 0) v = (0, 0) := by
   unfold mul
   rw [he, show zI (0, 0) = false from rfl]
   simp [z9, qa, ce, fl, mk, jH]
  have m1 := UW vv VT vv vh (Sb.refl v) hs
  have m2 := UW VT vv vh vv hs (Sb.refl v)
  rw [z1] at m1
  rw [z2] at m2
  exact ⟨m1, m2⟩
theorem XU {part : I} (hp : vB part = true) : ∀ {l : List I}, zq l → vB (ql l part) = true
 | [], _ => VT
 | [a], h => h a (by simp)
 | a :: b :: l, h => JK jU (h a (by simp))
theorem zaX {p q : I} (hp : vB p = true) (hq : vB q = true) (h : Sb p q) : ∀ {l : List I}, zq l → Sb (ql l p) (ql l q)
 | [], _ => Sb.refl _
 | [a], _ => Sb.refl _
 | a :: b :: l, hl => by
  have hl' : zq (b :: l) := fun z hz => hl z (by simp at hz ⊢; exact .inr hz)
  have ih := zaX hp hq h hl'
  exact Us jU (hl a (by simp)) jU (hl a (by simp)) (UW (XU hp hl') hp (XU hq hl') hq ih h) (Sb.refl a)
theorem horn_start {h : Int} (hh : 0 ≤ h ∧ h ≤ 1000000000) {a : I} {l : List I} (hl : zq (a :: l)) : Sb a (ql (a :: l) (0, h)) := by
 cases l with
 | nil => exact Sb.refl _
 | cons b l =>
  have va := hl a (by simp)
  have hl' : zq (b :: l) := fun z hz => hl z (by simp at hz ⊢; exact .inr hz)
  have vh : vB (0, h) = true := qA (by omega) (by omega) (by omega)
  have m := Us VT va jU va (mul_zero_in (XU vh hl') hh).1 (Sb.refl a)
  rw [addz_l va] at m
  exact m
theorem img_start {h : Int} (hh : 0 ≤ h ∧ h ≤ 1000000000) {a q : I} (va : vB a = true) (vq : vB q = true) : Sb a (Zv h a q) := by
 have emk0 : mk 0 h = (0, h) := by unfold mk jH; rw [if_pos (by simp; omega)]
 have m := Us va VT va jU (Sb.refl a) (mul_zero_in vq hh).2
 rw [addz_r va] at m
 unfold Zv
 rw [emk0]
 exact m
theorem restr_sub (p q : I) : Sb (jA p q) q := by
 unfold jA
 split
 ·exact ⟨by show q.1 ≤ max p.1 q.1; omega, by show min p.2 q.2 ≤ q.2; omega⟩
 ·exact Sb.refl _
theorem za7 {p p' q : I} (h : Sb p p') (k : jj p q = true) (k' : jj p' q = true) : Sb (jA p q) (jA p' q) := by
 unfold jA
 rw [if_pos k, if_pos k']
 have h1 := h.1
 have h2 := h.2
 exact ⟨by show max p'.1 q.1 ≤ max p.1 q.1; omega, by show min p.2 q.2 ≤ min p'.2 q.2; omega⟩
theorem restr_in {a p q : I} (h : Sb a p) (k : Sb a q) : Sb a (jA p q) := by
 unfold jA
 split
 ·have := h.1; have := h.2; have := k.1; have := k.2
  exact ⟨by show max p.1 q.1 ≤ a.1; omega, by show a.2 ≤ min p.2 q.2; omega⟩
 ·exact k
theorem zbI {T : Tp} {x : List I} {t h : Int} (hx : zq x) : ∀ (k : Nat) (b0 b : List I), zq b0 → b0.length = x.length → VF T x t h k b0 = some b →
  ∃ C, zq C ∧ C.length = x.length ∧ b = zV T x C t h ∧ Zn (zV T x C t h) = true ∧ qt (zV T x C t h) C = true
 | 0, b0, b, _, _, he => by simp [VF] at he
 | k + 1, b0, b, hb, hl, he => by
  have h1 := zaI hb
  have h2 : (ju b0).length = x.length := by rw [zbF, hl]
  simp only [VF] at he
  split at he
  ·cases he
  split at he
  ·cases he
  split at he
  ·cases he
  rename_i hb3
  split at he
  ·rename_i hs
   cases he
   exact ⟨ju b0, h1, h2, rfl, by simpa using hb3, hs⟩
  ·exact zbI hx k _ b (V9 h1 (Jn hx)) (by rw [Q7, h2]) he
theorem row_coef {T : Tp} {x : List I} {t : I} (hT : z8 T) (hx : zq x) (ht : vB t = true) {i k : Nat} (hi : i < T.n) : zu (qw T x t k) (i : Int) = (List.range (k + 1)).map (cO T x t i) := by
 have hl : (zu (qw T x t k) (i : Int)).length = k + 1 := by
  have := (j0 hT hx ht k).2.row i hi
  simpa [qw] using this
 refine List.ext_getElem? fun m => ?_
 rcases Nat.lt_or_ge m (k + 1) with hm | hm
 ·have h1 := zdU hT hx ht (k := k) (m := m) hi (by omega)
  have h2 : (zu (qw T x t k) (i : Int))[m]? = some (zf (zu (qw T x t k) (i : Int)) m) := by
   unfold zf
   rw [List.getElem?_eq_getElem (by rw [hl]; exact hm)]; rfl
  rw [h2]
  simp [hm]
  exact h1
 ·rw [List.getElem?_eq_none (by rw [hl]; exact hm), List.getElem?_eq_none (by simpa using hm)]
theorem Qv {T : Tp} {x : List I} {t : I} (hT : z8 T) (hx : zq x) (ht : vB t = true) (k : Nat) : (qw T x t k).length = T.n := (j0 hT hx ht k).2.len
theorem Xb {T : Tp} {x b : List I} {t h : Int} {part : I} {order i : Nat} (hT : z8 T) (hx : zq x) (hb : zq b) (hh : 0 ≤ h ∧ h ≤ 1000000000) (ht : -1000000000 ≤ t ∧ t ≤ 1000000000) (hi : i < T.n) :
  zf (qM T x b t h part order) i = jA (ql ((List.range (order + 1)).map (cO T x (t, t) i) ++ [cO T b (t, t + h) i (order + 1)]) part) (zf b i) := by
 have v1 : vB (t, t) = true := qA (by omega) (by omega) (by omega)
 have v2 : vB (t, t + h) = true := qA (by omega) (by omega) (by omega)
 have l1 := Qv hT hx v1 order
 have l2 := Qv hT hb v2 (order + 1)
 have e1 : zf (j6 T b t h order) i = cO T b (t, t + h) i (order + 1) := by
  rw [← zdU hT hb v2 (k := order + 1) hi (Nat.le_refl _)]
  unfold j6
  have : (qw T b (t, t + h) (order + 1))[i]? = some (zu (qw T b (t, t + h) (order + 1)) (i : Int)) := by
   unfold zu
   rw [Int.toNat_natCast, List.getElem?_eq_getElem (by omega)]; rfl
  simp [zf, this]
  rfl
 have e2 : zu (qW (qw T x (t, t) order) (j6 T b t h order)) (i : Int) = (List.range (order + 1)).map (cO T x (t, t) i) ++ [cO T b (t, t + h) i (order + 1)] := by
  have hlt : i < (qw T x (t, t) order).length := by omega
  have : zu (qW (qw T x (t, t) order) (j6 T b t h order)) (i : Int) = zu (qw T x (t, t) order) (i : Int) ++ [zf (j6 T b t h order) i] := by
   simp [qW, zu, hlt]
  rw [this, row_coef hT hx v1 hi, e1]
 have hlw : (qW (qw T x (t, t) order) (j6 T b t h order)).length = T.n := by simp [qW, l1]
 have e3 : zf (ZE (qW (qw T x (t, t) order) (j6 T b t h order)) part) i = ql (zu (qW (qw T x (t, t) order) (j6 T b t h order)) (i : Int)) part := by
  have : (qW (qw T x (t, t) order) (j6 T b t h order))[i]? = some (zu (qW (qw T x (t, t) order) (j6 T b t h order)) (i : Int)) := by
   unfold zu
   rw [Int.toNat_natCast, List.getElem?_eq_getElem (by omega)]; rfl
  simp [ZE, zf, this]
 rw [← e2, ← e3]
 unfold qM Jk
 have hle : i < (ZE (qW (qw T x (t, t) order) (j6 T b t h order)) part).length := by simp [ZE, hlw]; omega
 simp [zf, hle]
theorem JS {a b : List I} (h : ∀ i, i < a.length → Sb (zf a i) (zf b i)) : qt a b = true := by
 unfold qt
 rw [List.all_eq_true]
 intro i hi
 exact (h i (List.mem_range.1 hi)).to
theorem istepS_sound {T : Tp} {x : List I} {t h : Int} {order : Nat} {s : Sg} (hT : z8 T) (hx : zq x) (hxn : x.length = T.n) (hh : 1 ≤ h ∧ h ≤ 1000000000) (ht : -1000000000 ≤ t ∧ t ≤ 1000000000) (hs : QG T x t h order = some s) :
  qt s.to s.tube = true ∧ qt s.tube s.pre = true ∧ qt x s.tube = true ∧ validatesB T x s.pre t h = true := by
 have hh0 : 0 ≤ h ∧ h ≤ 1000000000 := by omega
 unfold QG at hs
 cases hr : Qu T x t h with
 | none => rw [hr] at hs; cases hs
 | some b =>
  rw [hr] at hs
  obtain ⟨C, hC, hCn, rfl, hbd, hsub⟩ := zbI hx 8 _ b (V9 hx (Jn hx)) (by rw [Q7]) hr
  simp only at hs
  split at hs
  ·cases hs
   have hX : zq (zV T x C t h) := Jn hx
   have hXn : (zV T x C t h).length = T.n := by rw [VE, hxn]
   have v1 : vB (t, t) = true := qA (by omega) (by omega) (by omega)
   have v2 : vB (t, t + h) = true := qA (by omega) (by omega) (by omega)
   have vp : vB (0, h) = true := qA (by omega) (by omega) (by omega)
   have vq : vB (h, h) = true := qA (by omega) (by omega) (by omega)
   have emk : mk t (t + h) = (t, t + h) := by unfold mk jH; rw [if_pos (by simp; omega)]
   have hqp : Sb (h, h) (0, h) := ⟨hh0.1, Int.le_refl _⟩
   have len : ∀ part, (qM T x (zV T x C t h) t h part order).length = T.n := fun part => by
    simp [qM, Jk, ZE, qW, Qv hT hx v1 order]
   have rowV : ∀ i, i < T.n → zq ((List.range (order + 1)).map (cO T x (t, t) i) ++ [cO T (zV T x C t h) (t, t + h) i (order + 1)]) := fun i hi z hz => by
    rcases List.mem_append.1 hz with hz | hz
    ·obtain ⟨m, hm, rfl⟩ := List.mem_map.1 hz
     exact qE (Jj (j0 hT hx v1 m).2.val _) _
    ·simp at hz; subst hz
     exact qE (Jj (j0 hT hX v2 (order + 1)).2.val _) _
   have ip : zP (0, h) ((h : Rat) / 65536) := by
    have h0 : (0 : Rat) ≤ (h : Rat) := Rat.intCast_nonneg.2 hh0.1
    refine .inr ⟨?_, ?_⟩
    ·show ((0 : Int) : Rat) ≤ _
     have : ((0 : Int) : Rat) = 0 := rfl
     rw [this]; grind
    ·show _ ≤ (h : Rat)
     grind
   have iq : zP (h, h) ((h : Rat) / 65536) := Y0 (c := (h, h)) vq
   have mt : ∀ i, i < T.n → _ := fun i hi => zaA (k := order) hT hx hC (by omega) hxn hh0 ht hbd hsub hi (e := h) (by omega) ip (XU vp (rowV i hi))
   have mq : ∀ i, i < T.n → _ := fun i hi => zaA (k := order) hT hx hC (by omega) hxn hh0 ht hbd hsub hi (e := h) (by omega) iq (XU vq (rowV i hi))
   have hpre : ∀ i, i < T.n → Sb (zf x i) (zf (zV T x C t h) i) := fun i hi => by
    have e : zf (zV T x C t h) i = Zv h (zf x i) (zf (Zl T C (mk t (t + h))) i) := by
     have : i < x.length := by omega
     simp [zV, zf, this]
    rw [e]
    exact img_start hh0 (qE hx i) (qE (Wx hT hC (by rw [emk]; exact v2)) i)
   refine ⟨JS fun i hi => ?_, JS fun i hi => ?_, JS fun i hi => ?_, ?_⟩
   ·have hi' : i < T.n := by rw [← len (h, h)]; exact hi
    show Sb (zf (qM T x (zV T x C t h) t h (h, h) order) i) (zf (qM T x (zV T x C t h) t h (0, h) order) i)
    rw [Xb hT hx hX hh0 ht hi', Xb hT hx hX hh0 ht hi']
    exact za7 (zaX vq vp hqp (rowV i hi')) (mq i hi') (mt i hi')
   ·have hi' : i < T.n := by rw [← len (0, h)]; exact hi
    show Sb (zf (qM T x (zV T x C t h) t h (0, h) order) i) (zf (zV T x C t h) i)
    rw [Xb hT hx hX hh0 ht hi']
    exact restr_sub _ _
   ·have hi' : i < T.n := by omega
    show Sb (zf x i) (zf (qM T x (zV T x C t h) t h (0, h) order) i)
    rw [Xb hT hx hX hh0 ht hi']
    refine restr_in ?_ (hpre i hi')
    have e : (List.range (order + 1)).map (cO T x (t, t) i) ++ [cO T (zV T x C t h) (t, t + h) i (order + 1)] = zf x i :: ((List.range order).map (fun m => cO T x (t, t) i (m + 1)) ++ [cO T (zV T x C t h) (t, t + h) i (order + 1)]) := by
     rw [List.range_succ_eq_map, List.map_cons, zco hi']
     simp [Function.comp_def]
    have hv := rowV i hi'
    rw [e] at hv ⊢
    exact horn_start hh0 hv
   ·have hs0 : ∀ k : Int, Sb (qU (zV T x C t h) k) (qU C k) := fun k => by
     rw [za2, za2]
     rcases Nat.lt_or_ge k.toNat T.n with hk | hk
     ·have h4 := hsub
      unfold qt at h4
      rw [List.all_eq_true] at h4
      exact Sb.of (h4 k.toNat (List.mem_range.2 (by omega)))
     ·simp [zf, List.getElem?_eq_none (show (zV T x C t h).length ≤ k.toNat by omega), List.getElem?_eq_none (show C.length ≤ k.toNat by omega)]
      exact Sb.refl _
    have him : ∀ i, i < T.n → Sb (zf (zV T x (zV T x C t h) t h) i) (zf (zV T x C t h) i) := fun i hi => by
     have hix : i < x.length := by omega
     have e : ∀ D, zf (zV T x D t h) i = Zv h (zf x i) (zf (Zl T D (mk t (t + h))) i) := fun D => by simp [zV, zf, hix]
     rw [e (zV T x C t h), e C]
     have w := Wx hT hX (t := mk t (t + h)) (by rw [emk]; exact v2)
     have w' := Wx hT hC (t := mk t (t + h)) (by rw [emk]; exact v2)
     unfold Zv
     exact Us (qE hx i) jU (qE hx i) jU (Sb.refl _) (UW (Q2 hh0.1) (qE w i) (Q2 hh0.1) (qE w' i) (Sb.refl _) (evalT_mono hT hX hC (by rw [emk]; exact v2) hs0 i))
    unfold validatesB
    rw [Bool.and_eq_true]
    refine ⟨?_, JS fun i hi => him i (by rw [VE] at hi; omega)⟩
    unfold Zn
    rw [List.all_eq_true]
    intro p hp
    obtain ⟨i, hi⟩ := List.mem_iff_getElem?.1 hp
    have hil : i < T.n := by have := (gJ.1 hi).1; rw [VE] at this; omega
    have e1 : p = zf (zV T x (zV T x C t h) t h) i := by simp [zf, hi]
    have hb2 := hbd
    unfold Zn at hb2
    rw [List.all_eq_true] at hb2
    have hm : zf (zV T x C t h) i ∈ zV T x C t h := by
     unfold zf
     rw [List.getElem?_eq_getElem (by omega)]
     exact List.getElem_mem _
    have hne : zf (zV T x C t h) i ≠ ent := fun e => by
     have := hb2 _ hm
     rw [e] at this
     exact absurd this (by decide)
    have := (him i hil).bounded (qE hX i) hne
    rw [← e1] at this
    cases hp2 : zI p with
    | false => rfl
    | true => exact absurd (jw.1 hp2) this
  ·cases hs
end Go.Pl

namespace Go.Pl
theorem encl_mono {T : Tp} {x : List I} {t h : Int} {order : Nat} {s : Sg} (hT : z8 T) (hx : zq x) (hxn : x.length = T.n) (hh : 1 ≤ h ∧ h ≤ 1000000000) (ht : -1000000000 ≤ t ∧ t ≤ 1000000000) (hs : QG T x t h order = some s)
  {q p : I} (hq : 0 ≤ q.1 ∧ q.1 ≤ q.2 ∧ 1 ≤ q.2 ∧ q.2 ≤ h) (hp : 0 ≤ p.1 ∧ p.2 ≤ h) (hqp : Sb q p) : qt (qM T x s.pre t h q order) (qM T x s.pre t h p order) = true := by
 have hh0 : 0 ≤ h ∧ h ≤ 1000000000 := by omega
 have hqp1 := hqp.1
 have hqp2 := hqp.2
 unfold QG at hs
 cases hr : Qu T x t h with
 | none => rw [hr] at hs; cases hs
 | some b =>
  rw [hr] at hs
  obtain ⟨C, hC, hCn, rfl, hbd, hsub⟩ := zbI hx 8 _ b (V9 hx (Jn hx)) (by rw [Q7]) hr
  simp only at hs
  split at hs
  ·cases hs
   simp only
   have hX : zq (zV T x C t h) := Jn hx
   have hXn : (zV T x C t h).length = T.n := by rw [VE, hxn]
   have v1 : vB (t, t) = true := qA (by omega) (by omega) (by omega)
   have v2 : vB (t, t + h) = true := qA (by omega) (by omega) (by omega)
   have vp : vB p = true := qA (x := p.1) (y := p.2) (by omega) (by omega) (by omega)
   have vq : vB q = true := qA (x := q.1) (y := q.2) (by omega) (by omega) (by omega)
   have len : ∀ part, (qM T x (zV T x C t h) t h part order).length = T.n := fun part => by
    simp [qM, Jk, ZE, qW, Qv hT hx v1 order]
   have rowV : ∀ i, i < T.n → zq ((List.range (order + 1)).map (cO T x (t, t) i) ++ [cO T (zV T x C t h) (t, t + h) i (order + 1)]) := fun i hi z hz => by
    rcases List.mem_append.1 hz with hz | hz
    ·obtain ⟨m, hm, rfl⟩ := List.mem_map.1 hz
     exact qE (Jj (j0 hT hx v1 m).2.val _) _
    ·simp at hz; subst hz
     exact qE (Jj (j0 hT hX v2 (order + 1)).2.val _) _
   have e65 : ((q.2 : Rat) / 65536) * 65536 = (q.2 : Rat) := by grind
   have ip : zP p ((q.2 : Rat) / 65536) := .inr ⟨by rw [e65]; exact Rat.intCast_le_intCast.2 (by omega), by rw [e65]; exact Rat.intCast_le_intCast.2 hqp2⟩
   have iq : zP q ((q.2 : Rat) / 65536) := .inr ⟨by rw [e65]; exact Rat.intCast_le_intCast.2 (by omega), by rw [e65]; exact Rat.le_refl⟩
   refine JS fun i hi => ?_
   have hi' : i < T.n := by rw [← len q]; exact hi
   have mp := zaA (k := order) hT hx hC (by omega) hxn hh0 ht hbd hsub hi' (e := q.2) (by omega) ip (XU vp (rowV i hi'))
   have mq := zaA (k := order) hT hx hC (by omega) hxn hh0 ht hbd hsub hi' (e := q.2) (by omega) iq (XU vq (rowV i hi'))
   rw [Xb hT hx hX hh0 ht hi', Xb hT hx hX hh0 ht hi']
   exact za7 (zaX vq vp hqp (rowV i hi')) mq mp
  ·cases hs
structure Yd (h : Int) (l : List I) : Prop where
 inn : ∀ q ∈ l, 0 ≤ q.1 ∧ q.1 < q.2 ∧ q.2 ≤ h
 ord : l.Pairwise fun a b => a.2 < b.1
theorem YU {l : List I} (h : 0 < l.length) : l.dropLast ++ [Zj l] = l ∧ Zj l ∈ l := by
 have hne : l ≠ [] := by intro e; rw [e] at h; simp at h
 have e : Zj l = l.getLast hne := by unfold Zj; rw [List.getLast?_eq_some_getLast hne]; rfl
 rw [e]
 exact ⟨List.dropLast_concat_getLast hne, List.getLast_mem hne⟩
theorem zbi {l : List I} (h : 0 < l.length) (z : I) : l.set (l.length - 1) z = l.dropLast ++ [z] := by
 have hne : l ≠ [] := by intro e; rw [e] at h; simp at h
 obtain ⟨h1, _⟩ := YU h
 have hl : l.dropLast.length = l.length - 1 := by simp
 calc l.set (l.length - 1) z = (l.dropLast ++ [Zj l]).set (l.length - 1) z := by rw [h1]
  _ = l.dropLast ++ [z] := by rw [← hl, List.set_append_right _ _ (Nat.le_refl _)]; simp
theorem mergeC_in {h : Int} {l : List I} {p : I} (hl : Yd h l) (hp : 0 ≤ p.1 ∧ p.1 < p.2 ∧ p.2 ≤ h) (hb : ∀ q ∈ l, q.2 ≤ p.1) : Yd h (qH l p) ∧ ∀ q ∈ qH l p, q.2 ≤ p.2 := by
 unfold qH
 split
 ·rename_i hc
  obtain ⟨hpos, hlp⟩ := hc
  obtain ⟨e1, hm⟩ := YU hpos
  have hlast := hl.inn _ hm
  rw [zbi hpos]
  have hdo : (l.dropLast ++ [Zj l]).Pairwise fun a b : I => a.2 < b.1 := by rw [e1]; exact hl.ord
  obtain ⟨d1, -, d3⟩ := List.pairwise_append.1 hdo
  have hdm : ∀ q ∈ l.dropLast, q ∈ l := fun q hq => by rw [← e1]; simp [hq]
  refine ⟨⟨fun q hq => ?_, List.pairwise_append.2 ⟨d1, by simp, fun a ha b hb2 => ?_⟩⟩, fun q hq => ?_⟩
  ·rcases List.mem_append.1 hq with hq | hq
   ·exact hl.inn q (hdm q hq)
   ·simp at hq; subst hq; show 0 ≤ (Zj l).1 ∧ (Zj l).1 < p.2 ∧ p.2 ≤ h; omega
  ·simp at hb2; subst hb2; exact d3 a ha (Zj l) (by simp)
  ·rcases List.mem_append.1 hq with hq | hq
   ·have := hb q (hdm q hq); omega
   ·simp at hq; subst hq; exact Int.le_refl _
 ·rename_i hc
  refine ⟨⟨fun q hq => ?_, List.pairwise_append.2 ⟨hl.ord, by simp, fun a ha b hb2 => ?_⟩⟩, fun q hq => ?_⟩
  ·rcases List.mem_append.1 hq with hq | hq
   ·exact hl.inn q hq
   ·simp at hq; subst hq; exact hp
  ·have hb2 : b = p := by simpa using hb2
   rw [hb2]
   have hpos : 0 < l.length := List.length_pos_of_mem ha
   obtain ⟨e1, hm⟩ := YU hpos
   have h1 := hb _ hm
   have h2 : (Zj l).2 ≠ p.1 := fun e => hc ⟨hpos, e⟩
   have hdo : (l.dropLast ++ [Zj l]).Pairwise fun a b : I => a.2 < b.1 := by rw [e1]; exact hl.ord
   obtain ⟨-, -, d3⟩ := List.pairwise_append.1 hdo
   rw [← e1] at ha
   rcases List.mem_append.1 ha with ha | ha
   ·have := d3 a ha (Zj l) (by simp)
    have := hl.inn _ hm
    omega
   ·simp at ha; subst ha; omega
  ·rcases List.mem_append.1 hq with hq | hq
   ·have := hb q hq; omega
   ·simp at hq; subst hq; exact Int.le_refl _
theorem fold_in {h : Int} : ∀ (L l : List I), Yd h l → (∀ q ∈ L, 0 ≤ q.1 ∧ q.1 < q.2 ∧ q.2 ≤ h) → (L.Pairwise fun a b => a.2 ≤ b.1) → (∀ q ∈ l, ∀ p ∈ L, q.2 ≤ p.1) → Yd h (L.foldl qH l)
 | [], l, hl, _, _, _ => hl
 | p :: L, l, hl, h1, h2, h3 => by
  obtain ⟨k1, k2⟩ := List.pairwise_cons.1 h2
  obtain ⟨m1, m2⟩ := mergeC_in hl (h1 p (by simp)) (fun q hq => h3 q hq p (by simp))
  exact fold_in L (qH l p) m1 (fun q hq => h1 q (by simp [hq])) k2 (fun q hq r hr => by have := m2 q hq; have := k1 r hr; omega)
theorem zbW {P : I → Bool} {least h : Int} (hl : 1 ≤ least) (hh : 1 ≤ h) : Yd h (QY P least h) := by
 have hk := YV (P := P) hl h.toNat (0, h) (Int.le_refl 0) (by show 0 < h; omega)
 exact fold_in _ [] ⟨by simp, by simp⟩ (fun q hq => by have := hk.inn q hq; exact this) hk.ord (by simp)
theorem parts_len {P : I → Bool} {least h : Int} (hl : 1 ≤ least) (hh : 1 ≤ h) : ((QY P least h).length : Int) ≤ h := by
 have hk := zbl (P := P) hl h.toNat (0, h) (Int.le_refl 0) (by show 0 < h; omega)
 have key : ∀ (L l : List I), (L.foldl qH l).length ≤ l.length + L.length := by
  intro L
  induction L with
  | nil => intro l; simp
  | cons a r ih => intro l; have h1 := ih (qH l a); have h2 := (zbb l a).1; simp only [List.foldl_cons, List.length_cons]; omega
 have := key (jY P least h.toNat (0, h)) []
 unfold QY
 simp only [List.length_nil] at this hk
 omega
end Go.Pl

namespace Go.Pl
end Go.Pl

namespace Go.Pl
theorem r1 (m : Nat) (h : m = 0) (x : Rat) : x / ((m + 1 : Nat) : Rat) = x := by
 subst h
 have : ((0 + 1 : Nat) : Rat) = 1 := rfl
 rw [this]; grind
theorem r0 (x : Rat) : (0 : Rat) / x = 0 := by rw [Rat.div_def, Rat.zero_mul]
section
variable {v : Int} {s : Rat} {y : Nat → Rat}
end
section
variable {x : List I} {t h : Int} {order : Nat} {s : Sg} (hx : zq x) (hh : 1 ≤ h ∧ h ≤ 1000000000) (ht : -1000000000 ≤ t ∧ t ≤ 1000000000) (ho : order = 1 ∨ order = 2 ∨ order = 3)
end
end Go.Pl

namespace Go.Pl
structure Two where
 n : Nat
 xp : List I
 xq : List I
 xb : List I
 tp : I
 tq : I
 tb : I
 p : List Rat
 q : List Rat
 s : Rat
 t : Rat
 lp : xp.length = n
 lq : xq.length = n
 lb : xb.length = n
 vp : ∀ a ∈ xp, vB a = true
 vq : ∀ a ∈ xq, vB a = true
 vb : ∀ a ∈ xb, vB a = true
 vtp : vB tp = true
 vtq : vB tq = true
 vtb : vB tb = true
 hp : zdx xp p
 hq : zdx xq q
 hbp : zdx xb p
 hbq : zdx xb q
 htp : zP tp s
 htq : zP tq t
 htbp : zP tb s
 htbq : zP tb t
def Two.vr (Z : Two) (i : Nat) : Vr := if i < Z.n then .st i else .tm
section
variable {Z : Two} {a b : Ex} {u v u' v' : Rat} {s s' : Nat → Rat}
end
end Go.Pl

namespace Go.Pl
end Go.Pl

namespace Go.Pl
theorem zbO {a b : List I} (h : qt a b = true) {i : Nat} (hi : i < a.length) : Sb (zf a i) (zf b i) := by
 unfold qt at h
 rw [List.all_eq_true] at h
 exact Sb.of (h i (List.mem_range.2 hi))
theorem mergeC_sub {l : List I} {p : I} (hl : ∀ q ∈ l, q.1 ≤ q.2) (hp : p.1 ≤ p.2) : (∀ q ∈ l, ∃ r ∈ qH l p, Sb q r) ∧ ∃ r ∈ qH l p, Sb p r := by
 unfold qH
 split
 ·rename_i hc
  obtain ⟨hpos, hlp⟩ := hc
  obtain ⟨e1, hm⟩ := YU hpos
  have hlast := hl _ hm
  rw [zbi hpos]
  refine ⟨fun q hq => ?_, ((Zj l).1, p.2), by simp, by show (Zj l).1 ≤ p.1; omega, Int.le_refl _⟩
  rw [← e1] at hq
  rcases List.mem_append.1 hq with hq | hq
  ·exact ⟨q, by simp [hq], Sb.refl q⟩
  ·simp at hq; subst hq
   exact ⟨((Zj l).1, p.2), by simp, Int.le_refl _, by show (Zj l).2 ≤ p.2; omega⟩
 ·exact ⟨fun q hq => ⟨q, by simp [hq], Sb.refl q⟩, p, by simp, Sb.refl p⟩
theorem mergeC_le {l : List I} {p : I} (hl : ∀ q ∈ l, q.1 ≤ q.2) (hp : p.1 ≤ p.2) : ∀ q ∈ qH l p, q.1 ≤ q.2 := by
 unfold qH
 split
 ·rename_i hc
  obtain ⟨hpos, hlp⟩ := hc
  obtain ⟨e1, hm⟩ := YU hpos
  have hlast := hl _ hm
  rw [zbi hpos]
  intro q hq
  rcases List.mem_append.1 hq with hq | hq
  ·exact hl q (by rw [← e1]; simp [hq])
  ·simp at hq; subst hq; show (Zj l).1 ≤ p.2; omega
 ·intro q hq
  rcases List.mem_append.1 hq with hq | hq
  ·exact hl q hq
  ·simp at hq; subst hq; exact hp
theorem mfold_sub : ∀ (L l : List I), (∀ q ∈ l, q.1 ≤ q.2) → (∀ q ∈ L, q.1 ≤ q.2) → (∀ q ∈ l, ∃ r ∈ L.foldl qH l, Sb q r) ∧ (∀ q ∈ L, ∃ r ∈ L.foldl qH l, Sb q r)
 | [], l, _, _ => ⟨fun q hq => ⟨q, hq, Sb.refl q⟩, by simp⟩
 | p :: L, l, h1, h2 => by
  have hp := h2 p (by simp)
  obtain ⟨m1, m2⟩ := mergeC_sub h1 hp
  obtain ⟨k1, k2⟩ := mfold_sub L (qH l p) (mergeC_le h1 hp) (fun q hq => h2 q (by simp [hq]))
  refine ⟨fun q hq => ?_, fun q hq => ?_⟩
  ·obtain ⟨r, r1, r2⟩ := m1 q hq
   obtain ⟨u, u1, u2⟩ := k1 r r1
   exact ⟨u, u1, r2.trans u2⟩
  ·rcases List.mem_cons.1 hq with rfl | hq
   ·obtain ⟨r, r1, r2⟩ := m2
    obtain ⟨u, u1, u2⟩ := k1 r r1
    exact ⟨u, u1, r2.trans u2⟩
   ·exact k2 q hq
theorem parts_sub {P : I → Bool} {least h : Int} (hl : 1 ≤ least) (hh : 1 ≤ h) : ∀ q ∈ jY P least h.toNat (0, h), ∃ r ∈ QY P least h, Sb q r := by
 have hk := YV (P := P) hl h.toNat (0, h) (Int.le_refl 0) (by show 0 < h; omega)
 exact (mfold_sub _ [] (by simp) (fun q hq => by have := hk.inn q hq; omega)).2
theorem apart {Q : List I} (hQ : Q.Pairwise fun a b => a.2 < b.1) {a b : I} (ha : a ∈ Q) (hb : b ∈ Q) : a = b ∨ a.2 < b.1 ∨ b.2 < a.1 := by
 induction Q with
 | nil => simp at ha
 | cons c r ih =>
  obtain ⟨h1, h2⟩ := List.pairwise_cons.1 hQ
  rcases List.mem_cons.1 ha with ea | ha
  ·rcases List.mem_cons.1 hb with eb | hb
   ·exact .inl (ea.trans eb.symm)
   ·exact .inr (.inl (by rw [ea]; exact h1 b hb))
  ·rcases List.mem_cons.1 hb with eb | hb
   ·exact .inr (.inr (by rw [eb]; exact h1 a ha))
   ·exact ih h2 ha hb
theorem fold_of {Q : List I} (hQ : Q.Pairwise fun a b => a.2 < b.1) : ∀ (L l : List I), (∀ q ∈ l, q.1 ≤ q.2 ∧ ∃ r ∈ Q, Sb q r) → (∀ q ∈ L, q.1 ≤ q.2 ∧ ∃ r ∈ Q, Sb q r) → ∀ q ∈ L.foldl qH l, q.1 ≤ q.2 ∧ ∃ r ∈ Q, Sb q r
 | [], l, h1, _ => h1
 | p :: L, l, h1, h2 => by
  obtain ⟨hp, r2, hr2, hs2⟩ := h2 p (by simp)
  refine fold_of hQ L (qH l p) ?_ (fun q hq => h2 q (by simp [hq]))
  unfold qH
  split
  ·rename_i hc
   obtain ⟨hpos, hlp⟩ := hc
   obtain ⟨e1, hm⟩ := YU hpos
   obtain ⟨hlast, r1, hr1, hs1⟩ := h1 _ hm
   rw [zbi hpos]
   intro q hq
   rcases List.mem_append.1 hq with hq | hq
   ·exact h1 q (by rw [← e1]; simp [hq])
   ·simp at hq; subst hq
    have a1 := hs1.1
    have a2 := hs1.2
    have b1 := hs2.1
    have b2 := hs2.2
    rcases apart hQ hr1 hr2 with e | e | e
    ·subst e
     exact ⟨by show (Zj l).1 ≤ p.2; omega, r1, hr1, a1, b2⟩
    ·omega
    ·omega
  ·intro q hq
   rcases List.mem_append.1 hq with hq | hq
   ·exact h1 q hq
   ·simp at hq; subst hq; exact ⟨hp, r2, hr2, hs2⟩
theorem zbD {P : I → Bool} {least fine : Int} (hf : 1 ≤ fine) (h : fine ≤ least) : ∀ (n : Nat) (p : I), 0 ≤ p.1 → p.1 < p.2 → ∀ q ∈ jY P fine n p, ∃ r ∈ jY P least n p, Sb q r
 | 0, p, h0, h1, q, hq => ⟨q, hq, Sb.refl q⟩
 | n + 1, p, h0, h1, q, hq => by
  have hin := (YV (P := P) hf (n + 1) p h0 h1).inn q hq
  cases hP : P p with
  | false => rw [zbm hP] at hq; simp at hq
  | true =>
   by_cases hw : p.2 - p.1 ≤ least
   ·exact ⟨p, by rw [zai hP hw]; simp, hin.1, hin.2.2⟩
   ·rw [U8 hP (by omega)] at hq
    rw [U8 hP hw]
    obtain ⟨e, m1, m2⟩ := zdu hf h0 (show fine < p.2 - p.1 by omega)
    rw [e] at hq ⊢
    rcases List.mem_append.1 hq with hq | hq
    ·obtain ⟨r, r1, r2⟩ := zbD hf h n (p.1, (p.1 + p.2) / 2) h0 m1 q hq
     exact ⟨r, List.mem_append.2 (.inl r1), r2⟩
    ·obtain ⟨r, r1, r2⟩ := zbD hf h n ((p.1 + p.2) / 2, p.2) (by show 0 ≤ _; omega) m2 q hq
     exact ⟨r, List.mem_append.2 (.inr r1), r2⟩
theorem parts_fine {P : I → Bool} {least fine h : Int} (hf : 1 ≤ fine) (hle : fine ≤ least) (hh : 1 ≤ h) : ∀ q ∈ QY P fine h, ∃ r ∈ QY P least h, Sb q r := by
 have hk := YV (P := P) hf h.toNat (0, h) (Int.le_refl 0) (by show 0 < h; omega)
 have hf2 := zbD (P := P) hf hle h.toNat (0, h) (Int.le_refl 0) (by show 0 < h; omega)
 have hs := parts_sub (P := P) (least := least) (h := h) (by omega) hh
 intro q hq
 exact (fold_of (zbW (P := P) (least := least) (h := h) (by omega) hh).ord _ [] (by simp) (fun q hq => ⟨by have := hk.inn q hq; omega, by
  obtain ⟨r, r1, r2⟩ := hf2 q hq
  obtain ⟨u, u1, u2⟩ := hs r r1
  exact ⟨u, u1, r2.trans u2⟩⟩) q hq).2
theorem inter_sub {a p q : I} (ha : a.1 ≤ a.2) (h : Sb a p) (k : Sb a q) : jj p q = true := by
 have h1 := h.1
 have h2 := h.2
 have k1 := k.1
 have k2 := k.2
 simp only [jj, decide_eq_true_eq]
 omega
theorem encl_mono0 {T : Tp} {x : List I} {t h : Int} {order : Nat} {s : Sg} (hT : z8 T) (hx : zq x) (hxn : x.length = T.n) (hh : 1 ≤ h ∧ h ≤ 1000000000) (ht : -1000000000 ≤ t ∧ t ≤ 1000000000) (hs : QG T x t h order = some s)
  {p2 : Int} (hp : 0 ≤ p2 ∧ p2 ≤ h) : qt (qM T x s.pre t h (0, 0) order) (qM T x s.pre t h (0, p2) order) = true := by
 have hh0 : 0 ≤ h ∧ h ≤ 1000000000 := by omega
 obtain ⟨-, s2, s3, -⟩ := istepS_sound hT hx hxn hh ht hs
 have hok := istepS_ok hT hx hxn hh0 ht hs
 have v1 : vB (t, t) = true := qA (by omega) (by omega) (by omega)
 have v2 : vB (t, t + h) = true := qA (by omega) (by omega) (by omega)
 have vp : vB (0, p2) = true := qA (by omega) (by omega) (by omega)
 have len : ∀ part, (qM T x s.pre t h part order).length = T.n := fun part => by
  simp [qM, Jk, ZE, qW, Qv hT hx v1 order]
 have rowV : ∀ i, i < T.n → zq ((List.range (order + 1)).map (cO T x (t, t) i) ++ [cO T s.pre (t, t + h) i (order + 1)]) := fun i hi z hz => by
  rcases List.mem_append.1 hz with hz | hz
  ·obtain ⟨m, hm, rfl⟩ := List.mem_map.1 hz
   exact qE (Jj (j0 hT hx v1 m).2.val _) _
  ·simp at hz; subst hz
   exact qE (Jj (j0 hT hok.vpre v2 (order + 1)).2.val _) _
 refine JS fun i hi => ?_
 have hi' : i < T.n := by rw [← len (0, 0)]; exact hi
 have hpre : Sb (zf x i) (zf s.pre i) := (zbO s3 (by omega)).trans (zbO s2 (by rw [hok.ntube]; exact hi'))
 have e : (List.range (order + 1)).map (cO T x (t, t) i) ++ [cO T s.pre (t, t + h) i (order + 1)] = zf x i :: ((List.range order).map (fun m => cO T x (t, t) i (m + 1)) ++ [cO T s.pre (t, t + h) i (order + 1)]) := by
  rw [List.range_succ_eq_map, List.map_cons, zco hi']
  simp [Function.comp_def]
 have hv := rowV i hi'
 have hv2 := hv
 rw [e] at hv2
 have st : ∀ k : Int, 0 ≤ k ∧ k ≤ h → Sb (zf x i) (ql ((List.range (order + 1)).map (cO T x (t, t) i) ++ [cO T s.pre (t, t + h) i (order + 1)]) (0, k)) := fun k hk => by
  rw [e]
  exact horn_start (by omega) hv2
 have vx := (qR (qE hx i)).2.1
 rw [Xb hT hx hok.vpre hh0 ht hi', Xb hT hx hok.vpre hh0 ht hi']
 exact za7 (zaX VT vp ⟨Int.le_refl _, hp.1⟩ hv) (inter_sub vx (st 0 (by omega)) hpre) (inter_sub vx (st p2 hp) hpre)
theorem encl_monoA {T : Tp} {x : List I} {t h : Int} {order : Nat} {s : Sg} (hT : z8 T) (hx : zq x) (hxn : x.length = T.n) (hh : 1 ≤ h ∧ h ≤ 1000000000) (ht : -1000000000 ≤ t ∧ t ≤ 1000000000) (hs : QG T x t h order = some s)
  {q p : I} (hq : 0 ≤ q.1 ∧ q.1 ≤ q.2 ∧ q.2 ≤ h) (hp : 0 ≤ p.1 ∧ p.2 ≤ h) (hqp : Sb q p) : qt (qM T x s.pre t h q order) (qM T x s.pre t h p order) = true := by
 rcases Int.lt_or_le 0 q.2 with h1 | h1
 ·exact encl_mono hT hx hxn hh ht hs ⟨hq.1, hq.2.1, by omega, hq.2.2⟩ hp hqp
 ·have a1 := hqp.1
  have a2 := hqp.2
  have eq : q = (0, 0) := Prod.ext (by show q.1 = 0; omega) (by show q.2 = 0; omega)
  have ep : p = (0, p.2) := Prod.ext (by show p.1 = 0; omega) rfl
  rw [eq, ep]
  exact encl_mono0 hT hx hxn hh ht hs ⟨by omega, hp.2⟩
end Go.Pl

namespace Go.Proofs.YtkghjlgpmeibhaaGreatDoor.Arm
open Go.Arm Go.Pl
theorem sub_hull {a b c : List I} (hl : a.length = b.length) (h1 : qt a c = true) (h2 : qt b c = true) : qt (jo a b) c = true := by
 unfold qt at *
 rw [List.all_eq_true] at *
 intro i hi
 have hi' : i < a.length := by rw [← Q7 a b]; exact List.mem_range.1 hi
 have k1 := h1 i (List.mem_range.2 hi')
 have k2 := h2 i (List.mem_range.2 (by omega))
 have e : zf (jo a b) i = qK (zf a i) (zf b i) := by simp [jo, zf, hi']
 rw [e]
 simp only [jr, Bool.and_eq_true, decide_eq_true_eq] at k1 k2 ⊢
 exact ⟨by show _ ≤ min _ _; omega, by show max _ _ ≤ _; omega⟩
theorem stS_sub {T : Tp} {w : Cw} {c : List I} (hl : ∀ q, (qV T w q).length = T.n) : ∀ (r : List I) (p : I), (∀ q ∈ p :: r, qt (qV T w q) c = true) → qt (Zd T w p r) c = true := by
 have key : ∀ (r : List I) (s : List I), s.length = T.n → qt s c = true → (∀ q ∈ r, qt (qV T w q) c = true) → qt (r.foldl (fun s q => jo s (qV T w q)) s) c = true := by
  intro r
  induction r with
  | nil => intro s _ h _; exact h
  | cons a r ih =>
   intro s hs h1 h2
   exact ih _ (by rw [Q7]; exact hs) (sub_hull (by rw [hs, hl]) h1 (h2 a (by simp))) (fun q hq => h2 q (by simp [hq]))
 intro r p h
 exact key r _ (hl p) (h p (by simp)) (fun q hq => h q (by simp [hq]))
theorem step_of {T : Tp} {x : List I} {t h : Int} {order : Nat} {s : Sg} (hs : QG T x t h order = some s) : s.t = t ∧ s.h = h ∧ s.frm = x ∧ s.tube = qM T x s.pre t h (0, h) order := by
 unfold QG at hs
 cases hr : Qu T x t h with
 | none => rw [hr] at hs; cases hs
 | some b =>
  rw [hr] at hs
  simp only at hs
  split at hs
  ·cases hs; exact ⟨rfl, rfl, rfl, rfl⟩
  ·cases hs
structure PrOk (q : Iq) (s : Sg) : Prop where
 w : JP (z7 q) (qb q s)
 parts : Yd s.h (jm (z7 q) (jN q) (qb q s))
 len : ((jm (z7 q) (jN q) (qb q s)).length : Int) ≤ 131072
 sub : ∀ p : I, 0 ≤ p.1 → p.1 < p.2 → p.2 ≤ s.h → qt (qV (z7 q) (qb q s) p) s.tube = true
 hb : 1 ≤ s.h ∧ s.h ≤ 131072
 mono : ∀ p p' : I, 0 ≤ p.1 ∧ p.1 ≤ p.2 ∧ p.2 ≤ s.h → 0 ≤ p'.1 ∧ p'.2 ≤ s.h → Sb p p' → qt (qV (z7 q) (qb q s) p) (qV (z7 q) (qb q s) p') = true
theorem prOk {q : Iq} (hq : Xq q) {s : Sg} (hs : YX q = some s) : PrOk q s := by
 obtain ⟨⟨hN, hN1, hN2⟩, hO, hO1, hO2⟩ := Wc hq
 obtain ⟨hT, hTn⟩ := Wb hq
 obtain ⟨hX, hXn⟩ := iqX_ok hq
 obtain ⟨htm, hhh⟩ := zdb q.gt q.gh
 unfold YX at hs
 obtain ⟨e1, e2, e3, e4⟩ := step_of hs
 have hok := istepS_ok hT hX hXn (by omega) (by omega) hs
 have hL := zcR (least := q.least) (h := j8 q.gh) (by omega)
 have hLe : QI q = QC q.least (j8 q.gh) := rfl
 have hw : JP (z7 q) (qb q s) := ⟨by show zq s.frm; rw [e3]; exact hX, by show s.frm.length = _; rw [e3]; exact hXn, hok.vpre, hok.npre, hok.vtube, hok.ntube, hok.vto, hok.nto, by show -1000000000 ≤ s.t ∧ s.t ≤ 1000000000 ∧ 1 ≤ s.h ∧ s.h ≤ 1000000000 ∧ s.t + s.h ≤ 1000000000; omega, by show 1 ≤ Z8 q ∧ Z8 q ≤ 900; omega, by show 1 ≤ QI q ∧ QI q ≤ 2000000000; omega⟩
 refine ⟨hw, ?_, ?_, fun p p0 p1 p2 => ?_, by omega, fun p p' h1 h2 h3 => ?_⟩
 ·unfold jm
  split
  ·exact ⟨by simp, by simp⟩
  ·exact zbW (h := s.h) hw.le.1 (by omega)
 ·unfold jm
  split
  ·simp
  ·have := parts_len (P := ZU (z7 q) (jN q) (qb q s)) (h := s.h) hw.le.1 (by omega)
   show ((QY (ZU (z7 q) (jN q) (qb q s)) (qb q s).least s.h).length : Int) ≤ _
   omega
 ·have := encl_mono hT hX hXn (by omega) (by omega) hs (q := p) (p := (0, j8 q.gh)) (by omega) (by show 0 ≤ (0 : Int) ∧ j8 q.gh ≤ _; omega) ⟨p0, by show p.2 ≤ j8 q.gh; omega⟩
  rw [e4]
  show qt (qM (z7 q) s.frm s.pre s.t s.h p (Z8 q)) _ = true
  rw [e1, e2, e3]
  exact this
 ·have := encl_monoA hT hX hXn (by omega) (by omega) hs (q := p) (p := p') (by omega) (by omega) h3
  show qt (qM (z7 q) s.frm s.pre s.t s.h p (Z8 q)) (qM (z7 q) s.frm s.pre s.t s.h p' (Z8 q)) = true
  rw [e1, e2, e3]
  exact this
end Go.Proofs.YtkghjlgpmeibhaaGreatDoor.Arm

namespace Go.Pl
section
variable {a b x y t h : Int} (ha : -1048576 < a ∧ a < 1048576) (hb : -1048576 < b ∧ b < 1048576) (hx : -1048576 < x ∧ x < 1048576) (hy : -1048576 < y ∧ y < 1048576) (hh : 0 ≤ h ∧ h ≤ 131072)
include ha hh hx in
end
end Go.Pl

namespace Go.Pl
end Go.Pl

namespace Go.Proofs.YtkghjlgpmeibhaaGreatDoor.Arm
open Go.Arm Go.Pl
theorem zcw {a b c : List I} (hl : a.length = b.length) (h : qt a b = true) (k : qt b c = true) : qt a c = true :=
 JS fun i hi => (zbO h hi).trans (zbO k (by omega))
theorem subI_rf (a : List I) : qt a a = true := JS fun i _ => Sb.refl _
theorem hullB_at {a b : List I} {i : Nat} (hi : i < a.length) : zf (jo a b) i = qK (zf a i) (zf b i) := by simp [jo, zf, hi]
theorem hull_l (a b : I) : Sb a (qK a b) := ⟨by show min a.1 b.1 ≤ a.1; omega, by show a.2 ≤ max a.2 b.2; omega⟩
theorem hull_r (a b : I) : Sb b (qK a b) := ⟨by show min a.1 b.1 ≤ b.1; omega, by show b.2 ≤ max a.2 b.2; omega⟩
theorem hullB_l {a b : List I} : qt a (jo a b) = true := JS fun i hi => by rw [hullB_at hi]; exact hull_l _ _
theorem hullB_r {a b : List I} (hl : b.length = a.length) : qt b (jo a b) = true := JS fun i hi => by rw [hullB_at (by omega)]; exact hull_r _ _
theorem stS_ge {T : Tp} {w : Cw} (hl : ∀ q, (qV T w q).length = T.n) (r : List I) (p : I) : ∀ q ∈ p :: r, qt (qV T w q) (Zd T w p r) = true := by
 have key : ∀ (r : List I) (s : List I), s.length = T.n → qt s (r.foldl (fun s q => jo s (qV T w q)) s) = true ∧ ∀ q ∈ r, qt (qV T w q) (r.foldl (fun s q => jo s (qV T w q)) s) = true := by
  intro r
  induction r with
  | nil => intro s hs; exact ⟨subI_rf s, by simp⟩
  | cons a r ih =>
   intro s hs
   have hs2 : (jo s (qV T w a)).length = T.n := by rw [Q7]; exact hs
   obtain ⟨i1, i2⟩ := ih (jo s (qV T w a)) hs2
   refine ⟨zcw (by rw [Q7]) hullB_l i1, fun q hq => ?_⟩
   rcases List.mem_cons.1 hq with rfl | hq
   ·exact zcw (by rw [hs2, hl]) (hullB_r (by rw [hs, hl])) i1
   ·exact i2 q hq
 intro q hq
 obtain ⟨i1, i2⟩ := key r (qV T w p) (hl p)
 rcases List.mem_cons.1 hq with rfl | hq
 ·exact i1
 ·exact i2 q hq
theorem tm_ge {w : Cw} (r : List I) (p : I) : ∀ q ∈ p :: r, Sb (absC w q) (Zt w p r) := by
 have key : ∀ (r : List I) (s : I), Sb s (r.foldl (fun t q => qK t (absC w q)) s) ∧ ∀ q ∈ r, Sb (absC w q) (r.foldl (fun t q => qK t (absC w q)) s) := by
  intro r
  induction r with
  | nil => intro s; exact ⟨Sb.refl s, by simp⟩
  | cons a r ih =>
   intro s
   obtain ⟨i1, i2⟩ := ih (qK s (absC w a))
   refine ⟨(hull_l _ _).trans i1, fun q hq => ?_⟩
   rcases List.mem_cons.1 hq with rfl | hq
   ·exact (hull_r _ _).trans i1
   ·exact i2 q hq
 intro q hq
 obtain ⟨i1, i2⟩ := key r (absC w p)
 rcases List.mem_cons.1 hq with rfl | hq
 ·exact i1
 ·exact i2 q hq
theorem tm_le {w : Cw} {c : I} (r : List I) (p : I) (h : ∀ q ∈ p :: r, Sb (absC w q) c) : Sb (Zt w p r) c := by
 have key : ∀ (r : List I) (s : I), Sb s c → (∀ q ∈ r, Sb (absC w q) c) → Sb (r.foldl (fun t q => qK t (absC w q)) s) c := by
  intro r
  induction r with
  | nil => intro s h _; exact h
  | cons a r ih =>
   intro s h1 h2
   have ha := h2 a (by simp)
   exact ih _ ⟨by have := h1.1; have := ha.1; show c.1 ≤ min s.1 (absC w a).1; omega, by have := h1.2; have := ha.2; show max s.2 (absC w a).2 ≤ c.2; omega⟩ (fun q hq => h2 q (by simp [hq]))
 exact key r _ (h p (by simp)) (fun q hq => h q (by simp [hq]))
theorem absC_mono {w : Cw} {p q : I} (h : Sb p q) : Sb (absC w p) (absC w q) := ⟨by have := h.1; show w.s.t + q.1 ≤ w.s.t + p.1; omega, by have := h.2; show w.s.t + p.2 ≤ w.s.t + q.2; omega⟩
theorem partsOf_fine {T : Tp} {g : Gd} {w : Cw} {l : Int} (hl : 1 ≤ l ∧ l ≤ w.least) (hh : 1 ≤ w.s.h) : ∀ q ∈ jm T g { w with least := l }, ∃ r ∈ jm T g w, Sb q r := by
 unfold jm
 intro q hq
 have e : JH g ({ w with least := l } : Cw).s = JH g w.s := rfl
 rw [e] at hq
 by_cases hc : JH g w.s = 0
 ·rw [if_pos hc] at hq; simp at hq
 ·rw [if_neg hc] at hq ⊢
  exact parts_fine (P := ZU T g w) hl.1 hl.2 hh q hq
@[simp ↓ high] theorem conv_xs (H : AH) (l : List Nd) : conv H (xs l) = (xs l, H) := by simp [xs]
@[simp ↓ high] theorem conv_bx (H : AH) (l : List I) : conv H (bx l) = (bx l, H) := by simp [bx]
@[simp ↓ high] theorem conv_mx (H : AH) (l : List (List I)) : conv H (mx l) = (mx l, H) := by simp [mx]
def vX : Ex := .var 0
def k2 : Ex := jB 2
def oneI : I := pt 65536
def quo : Ex := .bin .div (jB (-1)) (.un .sqr vX)
theorem YM : vB oneI = true := by decide
end Go.Proofs.YtkghjlgpmeibhaaGreatDoor.Arm

namespace Go.Arm
theorem list_of {α : Type} {f : α → AV} {p : α → Prop} : ∀ {xs : List AV}, (∀ x ∈ xs, ∃ a, x = f a ∧ p a) → ∃ l : List α, xs = l.map f ∧ ∀ a ∈ l, p a
 | [], h => ⟨[], rfl, fun a ha => by cases ha⟩
 | x :: r, h => by
  obtain ⟨a, rfl, ha⟩ := h x (by simp)
  obtain ⟨l, rfl, hl⟩ := list_of (xs := r) (fun y hy => h y (by simp [hy]))
  exact ⟨a :: l, rfl, fun b hb => by
   rcases List.mem_cons.1 hb with rfl | hb
   ·exact ha
   ·exact hl b hb⟩
theorem Qo {ok : TypeId → AV → Prop} {f : TypeId × Nat} {fs : List (TypeId × Nat)} {vs : List AV} (h : Ye ok (f :: fs) vs) : ∃ v vs', vs = v :: vs' ∧ ok f.1 v ∧ Ye ok fs vs' := by
 cases vs with
 | nil => exact h.elim
 | cons v vs' => exact ⟨v, vs', rfl, h.1, h.2⟩
theorem zb1 {ok : TypeId → AV → Prop} {vs : List AV} (h : Ye ok [] vs) : vs = [] := by
 cases vs with
 | nil => rfl
 | cons v vs' => exact h.elim
section
variable {zp : z6}
theorem Jz {n : Nat} {t : TypeId} {i : TI} {k : IntKind} {v : AV} (hi : zp t = some i) (hd : i.d = .int k) (h : qQ zp (n + 1) t v) : ∃ x, v = .int k x ∧ (Lit.int k x).wf = true := by
 unfold qQ at h
 rw [hi] at h
 simp only [hd] at h
 exact h
theorem okSlice {n : Nat} {t e : TypeId} {i ie : TI} {v : AV} (hi : zp t = some i) (hd : i.d = .slice e) (he : zp e = some ie) (h : qQ zp (n + 1) t v) : ∃ xs, v = .slice xs false ∧ (∀ x ∈ xs, qQ zp n e x) ∧ xs.length * ie.bytes ≤ reachBytes ∧ xs.length ≤ maxLen := by
 unfold qQ at h
 rw [hi] at h
 simp only [hd] at h
 obtain ⟨xs, h1, h2, h3, h4⟩ := h
 exact ⟨xs, h1, h2, h3 ie he, h4⟩
theorem zbj {n : Nat} {t : TypeId} {i : TI} {fs : List (TypeId × Nat)} {v : AV} (hi : zp t = some i) (hd : i.d = .struct fs) (h : qQ zp (n + 1) t v) : ∃ vs : List AV, v = .agg (vs.flatMap AV.cells) ∧ Ye (qQ zp n) fs vs := by
 unfold qQ at h
 rw [hi] at h
 simp only [hd] at h
 exact h
theorem zdM {α : Type} {f : α → AV} {p : α → Prop} {n : Nat} {t e : TypeId} {i ie : TI} {v : AV} (hi : zp t = some i) (hd : i.d = .slice e) (he : zp e = some ie) (hb : 0 < ie.bytes) (hf : ∀ x, qQ zp n e x → ∃ a, x = f a ∧ p a) (h : qQ zp (n + 1) t v) :
  ∃ l : List α, v = .slice (l.map f) false ∧ (∀ a ∈ l, p a) ∧ l.length ≤ 140737488351232 := by
 obtain ⟨xs, rfl, h1, h2, h3⟩ := okSlice hi hd he h
 obtain ⟨l, rfl, hl⟩ := list_of (f := f) (p := p) (fun x hx => hf x (h1 x hx))
 refine ⟨l, rfl, hl, ?_⟩
 have e : reachBytes = 140737488351232 := rfl
 rw [e, List.length_map] at h2
 exact Nat.le_trans (Nat.le_mul_of_pos_right _ hb) h2
end
theorem okArgs2 {T : z6} {m : Nat} {a b : TypeId} {av : List AV} (h : zc7 T m [a, b] av) : ∃ x y, av = [x, y] ∧ qQ T m a x ∧ qQ T m b y := by
 match av, h with
 | [x, y], h => exact ⟨x, y, rfl, h.1, h.2.1⟩
theorem wfI {k : IntKind} {x : Int} (h : (Lit.int k x).wf = true) : k.min ≤ x ∧ x ≤ k.max := by
 simp [Lit.wf] at h
 exact h
end Go.Arm

namespace Go.Proofs.YtkghjlgpmeibhaaGreatDoor.Arm
open Go.Arm Go.Pl
theorem okIv {n : Nat} {v : AV} (h : qQ zp (n + 2) 48 v) : ∃ p : I, v = iv p ∧ True := by
 obtain ⟨vs, rfl, hv⟩ := zbj tab48 rfl h
 obtain ⟨a, vs, rfl, ha, hv⟩ := Qo hv
 obtain ⟨b, vs, rfl, hb, hv⟩ := Qo hv
 cases zb1 hv
 obtain ⟨x, rfl, hx⟩ := Jz tab2 rfl ha
 obtain ⟨y, rfl, hy⟩ := Jz tab2 rfl hb
 exact ⟨(x, y), rfl, trivial⟩
theorem okNd {n : Nat} {v : AV} (h : qQ zp (n + 3) 121 v) : ∃ p : Nd, v = nd p ∧ True := by
 obtain ⟨vs, rfl, hv⟩ := zbj tab121 rfl h
 obtain ⟨a, vs, rfl, ha, hv⟩ := Qo hv
 obtain ⟨b, vs, rfl, hb, hv⟩ := Qo hv
 obtain ⟨c, vs, rfl, hc, hv⟩ := Qo hv
 cases zb1 hv
 obtain ⟨x, rfl, hx⟩ := Jz tab3 rfl ha
 obtain ⟨y, rfl, hy⟩ := Jz tab3 rfl hb
 obtain ⟨p, rfl, -⟩ := okIv hc
 exact ⟨⟨x, y, p⟩, rfl, trivial⟩
theorem okXs {n : Nat} {v : AV} (h : qQ zp (n + 4) 26 v) : ∃ l : List Nd, v = xs l ∧ l.length ≤ 140737488351232 := by
 obtain ⟨l, rfl, _, hl⟩ := zdM (f := nd) tab26 rfl tab121 (by decide) (fun x hx => okNd hx) h
 exact ⟨l, rfl, hl⟩
theorem okBx {n : Nat} {v : AV} (h : qQ zp (n + 3) 23 v) : ∃ l : List I, v = bx l ∧ l.length ≤ 140737488351232 := by
 obtain ⟨l, rfl, _, hl⟩ := zdM (f := iv) tab23 rfl tab48 (by decide) (fun x hx => okIv hx) h
 exact ⟨l, rfl, hl⟩
theorem okXss {n : Nat} {v : AV} (h : qQ zp (n + 5) 22 v) : ∃ l : List (List Nd), v = .slice (l.map xs) false ∧ (∀ r ∈ l, r.length ≤ 140737488351232) ∧ l.length ≤ 140737488351232 := by
 obtain ⟨l, rfl, hr, hl⟩ := zdM (f := xs) tab22 rfl tab26 (by decide) (fun x hx => okXs hx) h
 exact ⟨l, rfl, hr, hl⟩
theorem wfK8 {x : Int} (h : (Lit.int IntKind.i8 x).wf = true) : -128 ≤ x ∧ x ≤ 127 := by
 have := wfI h
 simp [IntKind.min, IntKind.max, IntKind.signed, IntKind.bits] at this
 exact this
theorem wfKu8 {x : Int} (h : (Lit.int IntKind.u8 x).wf = true) : 0 ≤ x ∧ x ≤ 255 := by
 have := wfI h
 simp [IntKind.min, IntKind.max, IntKind.signed, IntKind.bits] at this
 exact this
theorem okTs {n : Nat} {v : AV} (h : qQ zp (n + 2) 25 v) : ∃ a b : Int, v = .agg [.int .i64 a, .int .i64 b] := by
 obtain ⟨vs, rfl, hv⟩ := zbj tab25 rfl h
 obtain ⟨a, vs, rfl, ha, hv⟩ := Qo hv
 obtain ⟨b, vs, rfl, hb, hv⟩ := Qo hv
 cases zb1 hv
 obtain ⟨x, rfl, hx⟩ := Jz tab2 rfl ha
 obtain ⟨y, rfl, hy⟩ := Jz tab2 rfl hb
 exact ⟨x, y, rfl⟩
theorem okIq {n : Nat} {v : AV} (h : qQ zp (n + 7) 29 v) : ∃ q, v = JE q ∧ Xq q := by
 obtain ⟨vs, rfl, hv⟩ := zbj tab29 rfl h
 obtain ⟨a, vs, rfl, ha, hv⟩ := Qo hv
 obtain ⟨b, vs, rfl, hb, hv⟩ := Qo hv
 obtain ⟨c, vs, rfl, hc, hv⟩ := Qo hv
 obtain ⟨d, vs, rfl, hd, hv⟩ := Qo hv
 obtain ⟨e, vs, rfl, he, hv⟩ := Qo hv
 obtain ⟨f, vs, rfl, hf, hv⟩ := Qo hv
 obtain ⟨g, vs, rfl, hg, hv⟩ := Qo hv
 obtain ⟨k, vs, rfl, hk, hv⟩ := Qo hv
 cases zb1 hv
 obtain ⟨F, rfl, h1, h2⟩ := okXss ha
 obtain ⟨x, rfl, h4⟩ := okBx hb
 obtain ⟨t, u, rfl⟩ := okTs hc
 obtain ⟨l, rfl, h5⟩ := okXs hd
 obtain ⟨d, rfl, h6⟩ := Jz tab27 rfl he
 obtain ⟨m, rfl, h7⟩ := Jz tab2 rfl hf
 obtain ⟨p, rfl, h8⟩ := Jz tab5 rfl hg
 obtain ⟨r, rfl, h9⟩ := Jz tab5 rfl hk
 exact ⟨⟨F, x, t, u, l, d, m, p, r⟩, rfl, ⟨fun r hr => by have := h1 r hr; omega, by show F.length ≤ _; omega, by show x.length ≤ _; omega, by show l.length ≤ _; omega, wfK8 h6, wfKu8 h8, wfKu8 h9⟩⟩
end Go.Proofs.YtkghjlgpmeibhaaGreatDoor.Arm

namespace Go.Proofs.YtkghjlgpmeibhaaGreatDoor.Arm
open Go.Arm Go.Pl Go.ChangeShapes Go.WideShapes Go.ChangeAt Go.RowKit
theorem own : ownKnob Tryz.prog.godebug = none := by kernel_rfl
theorem laidOut : laidOutB Tryz.prog = true := by kernel_rfl
def U4 : List (String × DataW Unit) := [("armillary/interval.products", Rows.laid_armillary_interval_products), ("armillary/interval.quotients", Rows.laid_armillary_interval_quotients)]
theorem door_met (os : Os) (args : Array Value) : laidMetH Tryz.prog U4 ((World.doorLaid Tryz.prog 600 os).forCall (fun _ _ => 0) ⟨#[], args, []⟩).memory :=
 laidMetH_of_parts3 (fuel := 12) (laidMet_of_run' 8 (by kernel_rfl) (by kernel_rfl)) (by kernel_rfl) (by kernel_rfl)
def Y7 : List (List UInt8 × FuncId) := [([97, 114, 109, 105, 108, 108, 97, 114, 121, 47, 105, 110, 116, 101, 114, 118, 97, 108, 46, 104, 104], 337), ([97, 114, 109, 105, 108, 108, 97, 114, 121, 47, 105, 110, 116, 101, 114, 118, 97, 108, 46, 108, 108], 338), ([97, 114, 109, 105, 108, 108, 97, 114, 121, 47, 105, 110, 116, 101, 114, 118, 97, 108, 46, 108, 104], 339), ([97, 114, 109, 105, 108, 108, 97, 114, 121, 47, 105, 110, 116, 101, 114, 118, 97, 108, 46, 104, 108], 340)]
theorem fnames_ok : ∀ p ∈ Y7, ((List.range Tryz.prog.funcs.size).filter fun f => (Tryz.prog.funcs[f]?).any (·.name.toUTF8.data.toList == p.1)) = [p.2] := by
 intro p hp
 simp only [Y7, List.mem_cons, List.not_mem_nil, or_false] at hp
 rcases hp with rfl | rfl | rfl | rfl <;> kernel_rfl
theorem fnames_ne : ∀ p ∈ Y7, p.1 ≠ [] := by
 intro p hp
 simp only [Y7, List.mem_cons, List.not_mem_nil, or_false] at hp
 rcases hp with rfl | rfl | rfl | rfl <;> exact List.cons_ne_nil _ _
theorem gProd : Tryz.prog.globalNamed "armillary/interval.products" = some 0 := by kernel_rfl
theorem gQuot : Tryz.prog.globalNamed "armillary/interval.quotients" = some 1 := by kernel_rfl
theorem glob_met {W : World} (h : laidMetH Tryz.prog U4 W) : ∀ g cs, E.Γ g = some cs → VR [] W (.eptr cs 0) (.pointer (some ⟨g, 0, none⟩)) := by
 intro g cs hg
 have hg' : glob g = some cs := hg
 unfold glob at hg'
 split at hg'
 ·cases hg'
  exact glob_of (P := Tryz.prog) (T := zp) (L := Y7) W9 h (name := "armillary/interval.products") (List.mem_cons_self ..) gProd (t := 240) (by kernel_rfl) (m := 8) (by kernel_rfl) fnames_ok fnames_ne (by kernel_rfl) (by decide)
 ·cases hg'
  exact glob_of (P := Tryz.prog) (T := zp) (L := Y7) W9 h (name := "armillary/interval.quotients") (List.mem_cons_of_mem _ (List.mem_cons_self ..)) gQuot (t := 304) (by kernel_rfl) (m := 8) (by kernel_rfl) fnames_ok fnames_ne (by kernel_rfl) (by decide)
 ·cases hg'
theorem pgMaps : mapsRowed Tryz.prog = true := by kernel_rfl
theorem pgKeys : Tryz.prog.plainKeys = false := by kernel_rfl
theorem pgHeard : Tryz.prog.stopsHeard = true := by kernel_rfl
theorem pgEnter : Tryz.prog.mayEnter = true := by kernel_rfl
theorem pgLooks : true = Tryz.prog.looks [] := by kernel_rfl
theorem pgLift : (Rows.crossingReverseRow.lifted == Tryz.prog.liftsFinal) = true := by kernel_rfl
theorem pgMake : (Tryz.prog.make == some Rows.crossingReverseRow.make) = true := by kernel_rfl
theorem jl {a b : Bool} (h : a = true) (g : b = true) : (a && b) = true := by rw [h, g]; rfl
end Go.Proofs.YtkghjlgpmeibhaaGreatDoor.Arm
