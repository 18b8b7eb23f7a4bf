/- Part of a proof: what the functions of the program do to abstract states, step by step. -/
import Derived.Test.YtkghjlgpmeibhaaGreatDoorMc4
import Derived.Test.YtkghjlgpmeibhaaGreatDoorMc3
set_option linter.unusedVariables false
set_option linter.unusedSimpArgs false
namespace Go.Proofs.YtkghjlgpmeibhaaGreatDoor.Arm
open Go.Arm Go.Pl
def zaW (T : Tp) (g : Gd) (w : Cw) : List I := if zcn g w.s = 0 then [] else zdI (zdw T g w) w.least w.s.h
def LTi (T : Tp) (g : Gd) (w : Cw) (l : List I) (H : AH) (i : Nat) (fr : AFr) (H' : AH) : Prop :=
 fr 5 = .ptr (H.length + 2) 1 0 0 ∧ fr 13 = rwN l ∧ fr 14 = .int .i64 l.length ∧ fr 15 = .int .i64 i ∧ i ≤ l.length ∧
 ∃ J, H' = H ++ (.row true 3 [tpA T] :: .row true 2 [gdA g] :: .row true 8 [cwA w] :: J) ∧ Acc (H ++ [.row true 3 [tpA T], .row true 2 [gdA g], .row true 8 [cwA w]]) J (fr 7) 2 (((l.take i).map (absC w)).map iv) .nilslice
set_option maxHeartbeats 2000000 in
theorem zlu (T : Tp) (g : Gd) (w : Cw) (hT : tpOk T) (hn : T.n ≤ 1000000) (hw : CwOk T w) (hg : GdOk T.n g) (hb : ∀ p ∈ zaW T g w, 0 ≤ p.1 ∧ p.1 ≤ p.2 ∧ p.2 ≤ w.s.h) (hl : (zaW T g w).length ≤ 1000000000) (H : AH) :
  zaf E 21 [tpA T, gdA g, cwA w] H (.ret (rwN ((zaW T g w).map (absC w)))) H := by
 refine zab zah zai Tryz.func21 rfl (by rfl) Tryz.ntmps21 (by kernel_rfl) (by simp) ?_
 have tm := hw.tm
 have hM := fun Hx => znj T g w hT hn hw hg Hx
 rw [show (if zcn g w.s = 0 then [] else zdI (zdw T g w) w.least w.s.h) = zaW T g w from rfl] at hM
 generalize zaW T g w = l at *
 simp [gdA, cwA, tpA, outA, bx]
 refine zaa (by simpa [tpA, outA, gdA, cwA, bx] using hM _) ?_
 have hlen : lenA tab [] 23 (rwN l) = some (.int .i64 l.length) := by
  unfold rwN
  split
  ·rename_i h; subst h; rfl
  ·simp [lenA, bx]
 by_cases h0 : l = []
 ·subst h0
  simp [rwN]
  refine zag (fun (i : Nat) fr H' => fr 7 = .nilslice ∧ fr 14 = .int .i64 0 ∧ fr 15 = .int .i64 0 ∧ H' = H ++ [.row true 3 [tpA T], .row true 2 [gdA g], .row true 8 [cwA w]]) (fun i => i) 0 ⟨by simp, by simp, by simp, by simp [gdA, cwA, tpA, outA, bx]⟩ ?_
  rintro i fr H' ⟨g7, g14, g15, rfl⟩
  simp [g14, g15]
  exact fin1 (rs := [.tmp 6]) (by rfl) (by simp [resA, g7]) (by simp [noF])
 ·simp [rwN, h0, bx]
  refine zag (LTi T g w l H) (fun i => l.length - i) 0 ⟨by simp, by simp [rwN, h0, bx], by simp, by simp, by omega, [], by simp [gdA, cwA, tpA, outA, bx], .inl ⟨by simp, by simp⟩⟩ ?_
  rintro i fr H' ⟨g5, g13, g14, g15, hi, J, rfl, hacc⟩
  simp [g14, g15]
  refine zak (fun hc => ?_) (fun hc => ?_)
  ·have hlt : i < l.length := by simpa using hc
   obtain ⟨p, hp⟩ := zaj hlt
   have hpE : ∀ h, l[i]'h = p := fun h => (gI.1 hp).2
   have hpb := hb p (List.mem_of_getElem? hp)
   have w2 : IntKind.i64.wrap ((i : Int) + 1) = ((i + 1 : Nat) : Int) := by rw [zae (by omega) (by omega)]; omega
   have hA := fun Hx => xAbs w p (by omega) (by omega) Hx
   simp only [cwA, bx] at hA
   simp [g5, g13, g15, rwN, h0, bx, hp, hpE, cwA]
   refine zaa (hA _) ?_
   simp
   have hnx : (l.take (i + 1)).map (absC w) = (l.take i).map (absC w) ++ [absC w p] := by rw [List.take_add_one, hp, List.map_append]; rfl
   obtain ⟨v', J', hap, hacc', _⟩ := zlL (p := absC w p) (hacc.len (L := [.row true 2 [iv p]])) rfl (by simp; omega)
   refine bind_some (by simpa [tpA, outA, gdA, cwA, bx] using hap) ?_
   simp [g15, w2]
   exact ⟨i + 1, by show l.length - (i + 1) < l.length - i; omega, by simp [g5], by simp [g13], by simp [g14], by simp, by omega, J', by simp [gdA, cwA, tpA, outA, bx], by rw [hnx]; simpa using hacc'⟩
  ·have hi2 : i = l.length := by
    have : ¬ i < l.length := by simpa using hc
    omega
   subst hi2
   rw [List.take_length] at hacc
   have h1 : l.map (absC w) ≠ [] := by simpa using h0
   simp
   have hacc2 := zpn hacc
   simp only [List.map_map] at hacc2
   exact finS (t := 6) (by rfl) (by simp) hacc2 rfl (by rw [← List.map_map]; exact zaJ _ _)
theorem ztp (T : Tp) (s : Sys) (g : Gd) (w : Cw) (hw : CwOk T w) (hn : T.n ≤ 1000000) (hf : ∀ e ∈ s.f, sz e ≤ 1000000000 ∧ wf T.n e = true) (hfl : s.f.length ≤ 1000000000) (hg : GdOk T.n g) (hgt : sz (dif .tm g.f) ≤ 1000000) (hgd : ∀ j : Nat, j < s.f.length → sz (dif (.st j) g.f) ≤ 1000000) (H : AH) :
  zaf E 23 [sys s, gdA g, cwA w] H (.ret (.bool (sgnI (zcm w.s.tube (w.s.t, w.s.t + w.s.h) g.f (s.f.map (ev w.s.tube (w.s.t, w.s.t + w.s.h))) s.f.length) != 0))) H := by
 refine zab zah zai Tryz.func23 rfl (by rfl) Tryz.ntmps23 (by kernel_rfl) (by simp) ?_
 have tm := hw.tm
 have va : vB (w.s.t, w.s.t + w.s.h) = true := zas (by omega) (by omega) (by omega)
 have hA := fun Hx => xAbs w (0, w.s.h) (by omega) (by show _ ≤ (0 : Int) ∧ (0 : Int) ≤ _ ∧ _ ≤ w.s.h ∧ w.s.h ≤ _; omega) Hx
 have ea : absC w (0, w.s.h) = (w.s.t, w.s.t + w.s.h) := by unfold absC; simp
 rw [ea] at hA
 have hL := fun Hx => zhu s g.f w.s.tube (w.s.t, w.s.t + w.s.h) hw.vt (by rw [hw.nt]; omega) va (by rw [hw.nt]; exact hf) hfl hg.sz (by rw [hw.nt]; exact hg.wf) hgt hgd Hx
 generalize zcm w.s.tube (w.s.t, w.s.t + w.s.h) g.f (s.f.map (ev w.s.tube (w.s.t, w.s.t + w.s.h))) s.f.length = z at *
 simp only [cwA, bx] at hA
 simp [gdA, cwA, bx, sys]
 refine zaa (hA _) ?_
 simp
 refine zaa (by simpa [sys, bx] using hL _) ?_
 simp
 refine zaa (zuC _ _) ?_
 simp
 exact fin1 (rs := [.tmp 6]) (by rfl) (by simp [resA]) (by simp [noF])
def stS (T : Tp) (w : Cw) (p : I) (r : List I) : List I := r.foldl (fun s q => zdM s (zbM T w q)) (zbM T w p)
def tmS2 (w : Cw) (p : I) (r : List I) : I := r.foldl (fun t q => hull t (absC w q)) (absC w p)
def locA (T : Tp) (w : Cw) : List I → AV
 | [] => .tuple [.nilslice, iv (0, 0), .bool false]
 | p :: r => .tuple [bx (stS T w p r), iv (tmS2 w p r), .bool true]
theorem zrF {T : Tp} {w : Cw} {p : I} {r : List I} (h : ∀ q, (zbM T w q).length = T.n) : (stS T w p r).length = T.n := by
 unfold stS
 have key : ∀ (r : List I) (s : List I), s.length = T.n → (r.foldl (fun s q => zdM s (zbM T w q)) s).length = T.n := by
  intro r
  induction r with
  | nil => intro s hs; exact hs
  | cons a r ih => intro s hs; exact ih _ (by rw [zbV]; exact hs)
 exact key r _ (h p)
def LLo (T : Tp) (g : Gd) (w : Cw) (p : I) (r : List I) (H : AH) (i : Nat) (fr : AFr) (H' : AH) : Prop :=
 fr 3 = .ptr H.length 1 0 0 ∧ fr 5 = .ptr (H.length + 2) 1 0 0 ∧ fr 7 = .ptr (H.length + 3) 1 0 0 ∧ fr 11 = .ptr (H.length + 4) 1 0 0 ∧ fr 10 = bx (stS T w p (r.take i)) ∧ fr 34 = bx r ∧ fr 35 = .int .i64 r.length ∧ fr 36 = .int .i64 i ∧ i ≤ r.length ∧
 ∃ J, H' = H ++ (.row true 3 [tpA T] :: .row true 2 [gdA g] :: .row true 8 [cwA w] :: .row true 2 [iv (0, 0)] :: .row true 2 [iv (tmS2 w p (r.take i))] :: J)
set_option maxHeartbeats 2000000 in
theorem znk (T : Tp) (g : Gd) (w : Cw) (hT : tpOk T) (hn : 1 ≤ T.n ∧ T.n ≤ 1000000) (hw : CwOk T w) (hg : GdOk T.n g) (hb : ∀ p ∈ zaW T g w, 0 ≤ p.1 ∧ p.1 ≤ p.2 ∧ p.2 ≤ w.s.h) (hl : (zaW T g w).length ≤ 1000000000) (H : AH) :
  zaf E 18 [tpA T, gdA g, cwA w] H (.ret (locA T w (zaW T g w))) H := by
 refine zab zah zai Tryz.func18 rfl (by rfl) Tryz.ntmps18 (by kernel_rfl) (by simp) ?_
 have tm := hw.tm
 have hM := fun Hx => znj T g w hT hn.2 hw hg Hx
 rw [show (if zcn g w.s = 0 then [] else zdI (zdw T g w) w.least w.s.h) = zaW T g w from rfl] at hM
 have hEl : ∀ q, (zbM T w q).length = T.n := fun q => (zcA (T := T) (x := w.s.frm) (b := w.s.pre) (t := w.s.t) (h := w.s.h) (part := q) (order := w.order) hT hw.vf hw.vp (by omega) (by omega)).2
 have hE := fun (q : I) (hq : 0 ≤ q.1 ∧ q.1 ≤ q.2 ∧ q.2 ≤ w.s.h) Hx => ztr T w q hT hw (zas (x := q.1) (y := q.2) (by omega) (by omega) (by omega)) Hx
 have hA := fun (q : I) (hq : 0 ≤ q.1 ∧ q.1 ≤ q.2 ∧ q.2 ≤ w.s.h) Hx => xAbs w q (by omega) (by omega) Hx
 generalize zaW T g w = l at *
 simp [gdA, cwA, tpA, outA, bx]
 refine zaa (by simpa [tpA, outA, gdA, cwA, bx] using hM _) ?_
 cases l with
 | nil =>
  simp [rwN]
  rw [show locA T w [] = .tuple [.nilslice, iv (0, 0), .bool false] from rfl]
  exact ⟨[.nilslice, iv (0, 0), .bool false], [.nilslice, iv (0, 0), .bool false], by simp [show (Tryz.f18).results.toList = [.tmp 6, .cell 7 48, .tmp 8] from rfl, resA], .drop (by simp [noFs, noF]), rfl⟩
 | cons p r =>
  have hp := hb p (by simp)
  have hne : ((r.length : Int) + 1 == 0) = false := by rw [beq_eq_false_iff_ne]; omega
  have h1 : (1 : Int) ≤ (r.length : Int) + 1 := by omega
  have e1 := hE p hp
  have a1 := hA p hp
  simp only [tpA, outA, cwA, bx] at e1 a1
  simp [rwN, bx, hne]
  refine zac (fun Hx => e1 Hx) ?_
  simp
  refine zac (fun Hx => a1 Hx) ?_
  simp
  refine endD [(11, 13)] (by rfl) (by simp [okW, note, Eff.triv, Eff.wr, Eff.none, upTo, newAt]) ?_
  simp [h1]
  refine zag (LLo T g w p r H) (fun i => r.length - i) 0 ⟨by simp, by simp, by simp, by simp, by simp [stS, bx], by simp [bx, List.take_of_length_le], by simp, by simp, by omega, [], by simp [gdA, cwA, tpA, outA, bx, tmS2]⟩ ?_
  rintro i fr H' ⟨g3, g5, g7, g11, g10, g34, g35, g36, hi, J, rfl⟩
  simp [g35, g36]
  refine zak (fun hc => ?_) (fun hc => ?_)
  ·have hlt : i < r.length := by simpa using hc
   obtain ⟨q, hq⟩ := zaj hlt
   have hqE : ∀ h, r[i]'h = q := fun h => (gI.1 hq).2
   have hqb := hb q (by simp [List.mem_of_getElem? hq])
   have w2 : IntKind.i64.wrap ((i : Int) + 1) = ((i + 1 : Nat) : Int) := by rw [zae (by simp at hl; omega) (by simp at hl; omega)]; omega
   have e2 := hE q hqb
   have a2 := hA q hqb
   have hln := zrF (p := p) (r := r.take i) hEl
   have hH := fun Hx => bHull (stS T w p (r.take i)) (zbM T w q) (by rw [hln, hEl]; exact Nat.le_refl _) (by omega) (by omega) Hx
   have hI := fun Hx => zsw (tmS2 w p (r.take i)) (absC w q) Hx
   have hs1 : stS T w p (r.take (i + 1)) = zdM (stS T w p (r.take i)) (zbM T w q) := by unfold stS; rw [List.take_add_one, hq, List.foldl_append]; rfl
   have hs2 : tmS2 w p (r.take (i + 1)) = hull (tmS2 w p (r.take i)) (absC w q) := by unfold tmS2; rw [List.take_add_one, hq, List.foldl_append]; rfl
   simp only [tpA, outA, cwA, bx] at e2 a2 hH
   simp [g3, g5, g10, g11, g34, g36, bx, hq, hqE, cwA, tpA, outA]
   refine zaa (e2 _) ?_
   simp
   refine zaa (hH _) ?_
   simp [g5, g11]
   refine zac (fun Hx => a2 Hx) ?_
   simp [g11]
   refine zac (fun Hx => hI Hx) ?_
   simp [g11]
   refine endD [(0, 5)] (by rfl) (by simp [okW, note, Eff.triv, Eff.wr, Eff.none, upTo, newAt]) ?_
   simp [g36, w2]
   exact ⟨i + 1, by show r.length - (i + 1) < r.length - i; omega, by simp [g3], by simp [g5], by simp [g7], by simp [g11], by simp [hs1, bx], by simp [g34, bx], by simp [g35], by simp, by omega, J ++ [.row true 2 [iv q]], by simp [gdA, cwA, tpA, outA, bx, hs2]⟩
  ·have hi2 : i = r.length := by
    have : ¬ i < r.length := by simpa using hc
    omega
   subst hi2
   rw [List.take_length] at g10
   simp [g7, g10, g11]
   refine endD [(1, 3)] (by rfl) (by simp [okW, note, Eff.triv, Eff.wr, Eff.none, upTo, newAt]) ?_
   simp
   rw [show locA T w (p :: r) = .tuple [bx (stS T w p r), iv (tmS2 w p r), .bool true] from rfl]
   exact finC (rs := [.tmp 6, .cell 7 48, .tmp 8]) (vs := [bx (stS T w p r), iv (tmS2 w p r), .bool true]) (vs' := [bx (stS T w p r), iv (tmS2 w p r), .bool true]) (by rfl) (by simp [resA, g7]) (by simp [bx]; rfl) (by simp [noF, noFs, bx, zaJ]) rfl
theorem zs2 {H : AH} {p : I} {f : Bool} : zar tab H 23 (.slice [] true) (.slice [iv p] f) = some (.ref H.length 1, H ++ [.row true 2 [iv p]]) := by
 simp only [zar, tab23, tab48, els, zaF, AV.cells, zb7]
 simp [okc, zbz]
def LEv (a : Ex) (xv : List I) (t : I) (H : AH) (i : Nat) (fr : AFr) (H' : AH) : Prop :=
 fr 0 = xs (ser a) ∧ fr 1 = bx xv ∧ fr 5 = .ptr H.length 1 0 0 ∧ fr 6 = .ptr (H.length + 1) 1 0 0 ∧ fr 7 = .slice ((kids a).map fun k => xs (ser k)) false ∧ fr 9 = .int .i64 i ∧ i ≤ (kids a).length ∧ ∃ J, H' = H ++ [.row true 2 [iv t], .row true 2 [iv (0, 0)]] ++ J ∧ Acc (H ++ [.row true 2 [iv t], .row true 2 [iv (0, 0)]]) J (fr 8) 2 (((kids a).take i).map fun k => iv (ev xv t k)) (.slice [] true)
theorem zqT (xv : List I) (t : I) (hxv : ∀ p ∈ xv, vB p = true) (hxl : xv.length ≤ 1000000000) (htv : vB t = true) : ∀ (n : Nat) (a : Ex), sz a ≤ n → sz a ≤ 1000000000 → wf xv.length a = true → ∀ H,
  zaf E 119 [xs (ser a), bx xv, iv t] H (.ret (iv (ev xv t a))) H
 | 0, a, hn, hs, hw, H => by have := zcE a; omega
 | n + 1, a, hn, hs, hw, H => by
  refine zab zah zai Tryz.func119 rfl (by rfl) Tryz.ntmps119 (by kernel_rfl) (by simp) ?_
  have ih : ∀ (k : Ex) (i : Nat), (kids a)[i]? = some k → ∀ H, zaf E 119 [xs (ser k), bx xv, iv t] H (.ret (iv (ev xv t k))) H := fun k i hi H =>
   zqT xv t hxv hxl htv n k (by have := zf6 hi; omega) (by have := zf6 hi; omega) (zlW hi hw) H
  have hkv : ∀ (k : Ex) (i : Nat), (kids a)[i]? = some k → vB (ev xv t k) = true := fun k i hi => zaT hxv htv k (zlW hi hw)
  have hk2 := zd5 a
  have hget : (ser a)[0]? = some (zan a) := by rw [zcl]; rfl
  have hmap : ((ser a).map nd)[0]? = some (nd (zan a)) := by rw [List.getElem?_map, hget]; rfl
  have hmapE : ∀ h, ((ser a).map nd)[0]'h = nd (zan a) := fun h => (gI.1 hmap).2
  simp
  refine zaa (zmK a (by omega) _) ?_
  simp
  refine zag (LEv a xv t H) (fun i => (kids a).length - i) 0 ⟨by simp, by simp [bx], by simp, by simp, by simp, by simp, by omega, [], by simp [iv], .inl ⟨by simp, by simp⟩⟩ ?_
  rintro i fr H' ⟨g0, g1, g5, g6, g7, g9, hi, J, rfl, hacc⟩
  have hq5 : (H ++ [.row true 2 [iv t], .row true 2 [iv (0, 0)]] ++ J)[H.length]? = some (.row true 2 [iv t]) := by simp
  have hq6 : (H ++ [.row true 2 [iv t], .row true 2 [iv (0, 0)]] ++ J)[H.length + 1]? = some (.row true 2 [iv (0, 0)]) := by simp
  generalize hB : H ++ [.row true 2 [iv t], .row true 2 [iv (0, 0)]] = B at *
  have hlB : H.length + 2 = B.length := by rw [← hB]; simp
  simp [g7, g9]
  refine zak (fun hc => ?_) (fun hc => ?_)
  ·have hlt : i < (kids a).length := by simpa using hc
   obtain ⟨k, hki⟩ := zaj hlt
   have hkiE : ∀ h, (kids a)[i]'h = k := fun h => (gI.1 hki).2
   have hft : (kids a).take (i + 1) = (kids a).take i ++ [k] := by rw [List.take_add_one, hki]; rfl
   have w2 : IntKind.i64.wrap ((i : Int) + 1) = ((i + 1 : Nat) : Int) := by rw [zae (by omega) (by omega)]; omega
   simp [g1, g5, g7, g9, hki, hkiE, xs, bx, hq5]
   refine zac (fun Hx => ih k i hki Hx) ?_
   rcases hacc with ⟨h0, h1⟩ | ⟨kk, h1, h2⟩
   ·have ha := zs2 (H := B ++ J) (p := ev xv t k) (f := true)
    have hz : (kids a).take i = [] := by simpa using h0
    simp [h1]
    simp only [iv] at ha
    refine bind_some ha ?_
    simp
    refine endD [] (by rfl) (by simp [okW, note, Eff.triv, Eff.wr, Eff.none, upTo, newAt]; omega) ?_
    simp [g9, w2]
    subst hB
    exact ⟨i + 1, by show (kids a).length - (i + 1) < (kids a).length - i; omega, by simp [g0], by simp [g1, bx], by simp [g5], by simp [g6], by simp [g7, xs], by simp, by omega, J ++ [.row true 2 [iv (ev xv t k)]], by simp [iv], .inr ⟨J.length, by rw [hft, hz]; simp, by rw [hft, hz]; simp⟩⟩
   ·have ha := zs1 (H := B ++ J) (p := ev xv t k) (f := true) (n := i) (l := ((kids a).take i).map fun k => iv (ev xv t k)) (wr := true) (b := B.length + kk) (by omega) (by rw [List.length_map, List.length_take]; omega) (by simpa using h2)
    rw [List.length_map, List.length_take, Nat.min_eq_left hi] at h1
    simp [h1, h2]
    simp only [iv] at ha
    refine bind_some ha ?_
    simp
    refine endD [] (by rfl) (by simp [okW, note, Eff.triv, Eff.wr, Eff.none, upTo, newAt]; omega) ?_
    simp [g9, w2]
    subst hB
    exact ⟨i + 1, by show (kids a).length - (i + 1) < (kids a).length - i; omega, by simp [g0], by simp [g1, bx], by simp [g5], by simp [g6], by simp [g7, xs], by simp, by omega, J.set kk (.row true 2 (((kids a).take (i + 1)).map fun k => iv (ev xv t k))), by rw [hft]; simp [iv], .inr ⟨kk, by simp; omega, by rw [List.getElem?_set_self (gI.1 h2).1]⟩⟩
  ·have hi' : i = (kids a).length := by have : ¬ i < (kids a).length := by simpa using hc
                                        omega
   subst hi'
   rw [List.take_length] at hacc
   subst hB
   rw [zdn] at g0
   clear ih
   cases a with
   | num c =>
    simp [g0, g1, g5, g6, hmap, hmapE, zan, zap]
    exact fin1 (rs := [.cell 6 48]) (by rfl) (by simp [resA, g6, ev]) (by simp [noF, noFs])
   | var k =>
    simp only [wf, decide_eq_true_eq] at hw
    obtain ⟨q, hq⟩ := zaj hw
    have hqE : ∀ h, xv[k]'h = q := fun h => (gI.1 hq).2
    simp [g0, g1, g5, g6, hmap, hmapE, zan, zap, bx, hq, hqE]
    exact fin1 (rs := [.cell 6 48]) (by rfl) (by simp [resA, g6, ev, hq]) (by simp [noF, noFs])
   | time =>
    simp [g0, g1, g5, g6, hmap, hmapE, zan, zap]
    exact fin1 (rs := [.cell 6 48]) (by rfl) (by simp [resA, g6, ev]) (by simp [noF, noFs])
   | un o a =>
    have hv := hkv a 0 rfl
    have hacc1 : ∃ k, fr 8 = .ref (H.length + 2 + k) 1 ∧ J[k]? = some (.row true 2 [iv (ev xv t a)]) := by
     rcases hacc with ⟨h, _⟩ | ⟨k, h1, h2⟩
     ·simp [kids] at h
     ·exact ⟨k, by simpa [kids] using h1, by simpa [kids] using h2⟩
    obtain ⟨k, h8, hJ⟩ := hacc1
    rw [Nat.add_assoc] at h8
    have hJ2 : ∀ x y : ABlk, (x :: y :: J)[2 + k]? = some (.row true 2 [iv (ev xv t a)]) := fun x y => by
     rw [show 2 + k = k + 1 + 1 by omega]; simpa using hJ
    cases o with
    | neg =>
     simp [g0, g1, g5, g6, hmap, hmapE, zan, zap, U.code, h8, hJ2]
     refine zaa (rNeg _ hv _) ?_
     simp [g6]
     exact fin1 (rs := [.cell 6 48]) (by rfl) (by simp [resA, g6, ev, unV]) (by simp [noF, noFs])
    | sqr =>
     simp [g0, g1, g5, g6, hmap, hmapE, zan, zap, U.code, h8, hJ2]
     refine zaa (zk1 _ hv _) ?_
     simp [g6]
     exact fin1 (rs := [.cell 6 48]) (by rfl) (by simp [resA, g6, ev, unV]) (by simp [noF, noFs])
    | sqrt =>
     by_cases hlo : (ev xv t a).1 < 0
     ·simp [g0, g1, g5, g6, hmap, hmapE, zan, zap, U.code, h8, hJ2, hlo]
      refine zaa (zb3 _) ?_
      simp [g6]
      exact fin1 (rs := [.cell 6 48]) (by rfl) (by simp [resA, g6, ev, unV, hlo]) (by simp [noF, noFs])
     ·simp [g0, g1, g5, g6, hmap, hmapE, zan, zap, U.code, h8, hJ2, hlo]
      refine zaa (zrT _ hv (by have := zao hv; omega) _) ?_
      simp [g6]
      exact fin1 (rs := [.cell 6 48]) (by rfl) (by simp [resA, g6, ev, unV, hlo]) (by simp [noF, noFs])
   | bin o a b =>
    have hva := hkv a 0 rfl
    have hvb := hkv b 1 rfl
    have hacc1 : ∃ k, fr 8 = .ref (H.length + 2 + k) 2 ∧ J[k]? = some (.row true 2 [iv (ev xv t a), iv (ev xv t b)]) := by
     rcases hacc with ⟨h, _⟩ | ⟨k, h1, h2⟩
     ·simp [kids] at h
     ·exact ⟨k, by simpa [kids] using h1, by simpa [kids] using h2⟩
    obtain ⟨k, h8, hJ⟩ := hacc1
    rw [Nat.add_assoc] at h8
    have hJ2 : ∀ x y : ABlk, (x :: y :: J)[2 + k]? = some (.row true 2 [iv (ev xv t a), iv (ev xv t b)]) := fun x y => by
     rw [show 2 + k = k + 1 + 1 by omega]; simpa using hJ
    cases o with
    | add =>
     simp [g0, g1, g5, g6, hmap, hmapE, zan, zap, B.code, h8, hJ2]
     refine zac (fun Hx => rAdd _ _ hva hvb Hx) ?_
     simp [g6]
     refine endD [] (by rfl) (by simp [okW, note, Eff.triv, Eff.wr, Eff.none, upTo, newAt]; omega) ?_
     simp
     exact fin1 (rs := [.cell 6 48]) (by rfl) (by simp [resA, g6, ev, binV]) (by simp [noF, noFs])
    | sub =>
     simp [g0, g1, g5, g6, hmap, hmapE, zan, zap, B.code, h8, hJ2]
     refine zac (fun Hx => rSub _ _ hva hvb Hx) ?_
     simp [g6]
     refine endD [] (by rfl) (by simp [okW, note, Eff.triv, Eff.wr, Eff.none, upTo, newAt]; omega) ?_
     simp
     exact fin1 (rs := [.cell 6 48]) (by rfl) (by simp [resA, g6, ev, binV]) (by simp [noF, noFs])
    | mul =>
     simp [g0, g1, g5, g6, hmap, hmapE, zan, zap, B.code, h8, hJ2]
     refine zac (fun Hx => rMul _ _ hva hvb Hx) ?_
     simp [g6]
     refine endD [] (by rfl) (by simp [okW, note, Eff.triv, Eff.wr, Eff.none, upTo, newAt]; omega) ?_
     simp
     exact fin1 (rs := [.cell 6 48]) (by rfl) (by simp [resA, g6, ev, binV]) (by simp [noF, noFs])
    | div =>
     simp [g0, g1, g5, g6, hmap, hmapE, zan, zap, B.code, h8, hJ2]
     refine zac (fun Hx => rDiv _ _ hva hvb Hx) ?_
     simp [g6]
     refine endD [] (by rfl) (by simp [okW, note, Eff.triv, Eff.wr, Eff.none, upTo, newAt]; omega) ?_
     simp
     exact fin1 (rs := [.cell 6 48]) (by rfl) (by simp [resA, g6, ev, binV]) (by simp [noF, noFs])
def bst (l : List Nd) (n : Nat) : ABlk := .row true 2 [.agg [xs l, .int .i64 n]]
theorem zpy {o : Int} (h : 4 ≤ o) (k : o ≤ 6) : (uOf o).code = o := by
 unfold uOf
 split
 ·simp [U.code, *]
 ·split
  ·simp [U.code, *]
  ·simp only [U.code]; omega
theorem zqE {o : Int} (h : 7 ≤ o) (k : o ≤ 10) : (bOf o).code = o := by
 unfold bOf
 split
 ·simp [B.code, *]
 ·split
  ·simp [B.code, *]
  ·split
   ·simp [B.code, *]
   ·simp only [B.code]; omega
theorem ztJ (n : Nat) (hn : 0 < n ∧ n ≤ 1000000) : ∀ (d : Nat) (l : List Nd) (b : Nat) (H : AH), d ≤ 20 → l.length ≤ 1000000000 → H[b]? = some (bst l n) →
  zaf E 130 [.ptr b 1 0 0, .int .i64 ((d : Int) + 1)] H (.ret (xs (ser (bld n d l).1))) (H.set b (bst (bld n d l).2 n)) := by
 intro d
 induction d using Nat.strongRecOn with
 | _ d ih =>
 intro l b H hd hl hb
 refine zab zah zai Tryz.func130 rfl (by rfl) Tryz.ntmps130 (by kernel_rfl) (by simp) ?_
 have hbl : b < H.length := (gI.1 hb).1
 have w1 : IntKind.i64.wrap ((d : Int) + 1 - 1) = (d : Int) := by rw [zae (by omega) (by omega)]; omega
 cases l with
 | nil =>
  simp [hb, bst, xs]
  refine zaa (zeH _ _) ?_
  simp
  refine zaa (zfH _ _) ?_
  simp [bld]
  have hset : H.set b (.row true 2 [.agg [.slice [] false, .int .i64 n]]) = H := by
   apply List.ext_getElem?
   intro c
   by_cases hc : b = c
   ·subst hc; rw [List.getElem?_set_self hbl, hb]; rfl
   ·rw [List.getElem?_set_ne hc]
  have e1 : (bld n d []).1 = zbm 1 := by cases d <;> rfl
  have e2 : (bld n d []).2 = [] := by cases d <;> rfl
  have e3 : ∀ v, zbN E Tryz.f130 H v H .ret = zbN E Tryz.f130 H v (H.set b (.row true 2 [.agg [.slice [] false, .int .i64 n]])) .ret := by intro v; rw [hset]
  try rw [e1]
  try rw [e2]
  try simp only [bst, xs, List.map_nil]
  rw [hset]
  exact fin0 (rs := [.tmp 4]) (by rfl) (by simp [resA, zbm, xs])
 | cons x r =>
  have hne : ((r.length : Int) + 1 == 0) = false := by rw [beq_eq_false_iff_ne]; omega
  have hb' := hb
  unfold bst at hb'
  have hop := znd x
  have hwop : IntKind.i64.wrap (1 + (andA .i64 x.op 255).tmod 10) = bOp x := by
   obtain ⟨l1, l2⟩ := zek x.op (m := 255) (by decide)
   rw [zpk, Int.tmod_eq_emod_of_nonneg l1]
   unfold bOp at hop ⊢
   exact zae (by omega) (by omega)
  have hwn : IntKind.i64.wrap (1 + IntKind.i64.wrap (andA .i64 x.n 255 * andA .i64 x.n 1)) = 1 + low x.n 255 * low x.n 1 := by
   have hw := bW x
   rw [zpk, and1']
   rw [zae (n := low x.n 255 * low x.n 1) (by omega) (by omega), zae (by omega) (by omega)]
  obtain ⟨v1, v2⟩ := zlb x.n hn.1
  have hvn : (andA .i64 x.n 255).tmod n = low x.n 255 % n := by
   obtain ⟨l1, l2⟩ := zek x.n (m := 255) (by decide)
   rw [zpk, Int.tmod_eq_emod_of_nonneg l1]
  have htk : List.take r.length (List.map nd r) = List.map nd r := List.take_of_length_le (by simp)
  simp [hb', xs, hne, old hb', olds hb']
  refine zaY (by omega) ?_
  rw [htk]
  have hb1 : (H.set b (bst r n))[b]? = some (bst r n) := List.getElem?_set_self hbl
  have hset : ∀ l, (H.set b (bst r n)).set b (bst l n) = H.set b (bst l n) := fun l => List.set_set ..
  simp [old hb', olds hb', hwop]
  have hfold : H.set b (.row true 2 [.agg [.slice (List.map nd r) false, .int .i64 n]]) = H.set b (bst r n) := rfl
  have fin : ∀ (fr : AFr) (e : Ex) (q : List Nd) (J : AH) (x : zcj), fr 4 = xs (ser e) → (x = .ret ∨ x = .normal) →
    zbN E Tryz.f130 H (.ret (xs (ser e))) (H.set b (bst q n)) x fr (H.set b (bst q n) ++ J) := by
   intro fr e q J x h4 hx
   exact finU (rs := [.tmp 4]) (by rfl) (by simp [resA, h4]) (by simp) (zfE (by simp [bst, noFB, noF, noFs, zaZ])) (zaZ _ _) hx
  have fin2 : ∀ (fr : AFr) (e : Ex) (q : List Nd) (J : AH) (x : zcj), fr 4 = .slice ((ser e).map nd) true → (x = .ret ∨ x = .normal) →
    zbN E Tryz.f130 H (.ret (xs (ser e))) (H.set b (bst q n)) x fr (H.set b (bst q n) ++ J) := by
   intro fr e q J x h4 hx
   exact finG (rs := [.tmp 4]) (vs := [.slice ((ser e).map nd) true]) (vs' := [xs (ser e)]) (J' := J) (by rfl) (by simp [resA, h4]) (by simp [xs]) (by simp) (zfE (by simp [bst, noFB, noF, noFs, zaZ])) (by simp only [noFs, Bool.and_true]; exact zaZ _ _) (by simp [one]) hx
  try rw [hfold]
  obtain ⟨H1, hH1⟩ : ∃ H1, H1 = H.set b (bst r n) := ⟨_, rfl⟩
  have hl1 : H1.length = H.length := by rw [hH1]; simp
  rw [← hH1, ← hl1]
  rw [← hH1] at hb1
  have hb1' := hb1
  unfold bst at hb1'
  by_cases h1 : bOp x = 1
  ·have e1 : bld n d (x :: r) = (bNum x, r) := by cases d <;> simp [bld, h1]
   rw [e1]
   simp [h1]
   refine zaa (zpS _ _ (by rw [hwn]; exact bW x) _) ?_
   rw [hwn]
   simp
   refine zaa (zfH _ _) ?_
   simp
   rw [hH1]
   exact fin _ _ _ _ _ (by simp [bNum, nearI', zdK]) (by simp)
  have h1' : (bOp x == 1) = false := by simp [h1]
  by_cases h2 : bOp x = 2
  ·have e1 : bld n d (x :: r) = (.var (low x.n 255 % n).toNat, r) := by cases d <;> simp [bld, h2]
   rw [e1]
   simp [h2]
   refine zaa (zdY _ _) ?_
   simp [zbq, h2, old hb1']
   refine zev (by omega) ?_
   simp [hvn]
   refine endD [] (by rfl) (by simp [okW, note, Eff.triv, Eff.wr, Eff.none, upTo, newAt]) ?_
   simp
   rw [hH1]
   exact fin2 _ _ _ _ _ (by simp [ser, zap]; omega) (by simp)
  have h2' : (bOp x == 2) = false := by simp [h2]
  by_cases h3 : bOp x = 3
  ·have e1 : bld n d (x :: r) = (.time, r) := by cases d <;> simp [bld, h3]
   rw [e1]
   simp [h3]
   refine zaa (zdY _ _) ?_
   simp [zbq, h3, old hb1']
   rw [hH1]
   exact fin2 _ _ _ _ _ (by simp [ser, zap]) (by simp)
  have h3' : (bOp x == 3) = false := by simp [h3]
  have har : zbq (bOp x) = if bOp x ≤ 6 then 1 else 2 := by
   unfold zbq
   rw [if_neg (by omega)]
   by_cases h6 : bOp x ≤ 6
   ·rw [if_pos (by omega), if_pos h6]
   ·rw [if_neg (by omega), if_pos (by omega), if_neg h6]
  have hpos : 0 < zbq (bOp x) := by rw [har]; split <;> omega
  cases d with
  | zero =>
   have e1 : bld n 0 (x :: r) = (bNum x, r) := by simp [bld, h2, h3]
   rw [e1]
   simp [h1']
   refine zaa (zdY _ _) ?_
   simp [hpos]
   refine zaa (zpS _ _ (by rw [hwn]; exact bW x) _) ?_
   rw [hwn]
   simp
   refine zaa (zfH _ _) ?_
   simp
   rw [hH1]
   exact fin _ _ _ _ _ (by simp [bNum, nearI', zdK]) (by simp)
  | succ d =>
   have hd2 : ¬ ((d + 1 : Nat) : Int) + 1 < 2 := by omega
   have hd2' : decide ((d : Int) + 1 + 1 < 2) = false := by simp; omega
   simp [h1']
   refine zaa (zdY _ _) ?_
   simp [hpos, h2', h3', hd2']
   refine zaa (zdY _ _) ?_
   rw [har]
   have hs1 := zkq n d r
   have hs2 := zkq n d (bld n d r).2
   have hp2 : 2 ^ (d + 1) ≤ 2 ^ 21 := Nat.pow_le_pow_right (by decide) (by omega)
   have hq1 := zlm n d r
   have w1' : IntKind.i64.wrap ((d : Int) + 1) = (d : Int) + 1 := zae (by omega) (by omega)
   have hne1 : ∀ e : Ex, ser e ≠ [] := fun e h => by have := zcE e; rw [sz, h] at this; simp at this
   have hsz : ∀ e : Ex, (ser e).length = sz e := fun _ => rfl
   have rec1 : ∀ (l : List Nd) (J : AH), l.length ≤ 1000000000 → zaf E 130 [.ptr b 1 0 0, .int .i64 ((d : Int) + 1)] (H.set b (bst l n) ++ J) (.ret (xs (ser (bld n d l).1))) (H.set b (bst (bld n d l).2 n) ++ J) := by
    intro l J hl
    have h := ih d (by omega) l b (H.set b (bst l n) ++ J) (by omega) hl (zad (List.getElem?_set_self hbl))
    rwa [zb2 hbl] at h
   by_cases h6 : bOp x ≤ 6
   ·have e1 : bld n (d + 1) (x :: r) = (.un (uOf (bOp x)) (bld n d r).1, (bld n d r).2) := by simp [bld, h1, h2, h3, h6]
    rw [e1]
    simp [h6, w1']
    rw [hH1]
    refine zaa (rec1 r _ (by simp at hl; omega)) ?_
    simp
    refine zaa (zrX _ _ (hne1 _) (by rw [hsz]; omega) _) ?_
    simp
    exact fin _ _ _ _ _ (by simp [ser, zpy (show 4 ≤ bOp x by omega) h6]) (by simp)
   ·have e1 : bld n (d + 1) (x :: r) = (.bin (bOf (bOp x)) (bld n d r).1 (bld n d (bld n d r).2).1, (bld n d (bld n d r).2).2) := by simp [bld, h1, h2, h3, h6]
    rw [e1]
    simp [h6, w1']
    rw [hH1]
    refine zaa (rec1 r _ (by simp at hl; omega)) ?_
    simp [w1']
    refine zaa (rec1 (bld n d r).2 _ (by simp at hl; omega)) ?_
    simp
    refine zaa (ziw _ _ _ (hne1 _) (hne1 _) (by rw [hsz, hsz]; omega) _) ?_
    simp
    exact fin _ _ _ _ _ (by simp [ser, zqE (show 7 ≤ bOp x by omega) hop.2]) (by simp)
theorem zjz (l : List Nd) (most n : Nat) (hn : 0 < n ∧ n ≤ 1000000) (hl : l.length ≤ 200000000000000) (hm : most ≤ 1000000000) (H : AH) : zaf E 78 [xs l, .int .i64 most, .int .i64 n] H (.ret (xs (ser (mde n l most)))) H := by
 refine zab zah zai Tryz.func78 rfl (by rfl) Tryz.ntmps78 (by kernel_rfl) (by simp) ?_
 have hmin : (if (most : Int) < (l.length : Int) then (most : Int) else (l.length : Int)) = ((min most l.length : Nat) : Int) := by split <;> omega
 have hmin2 : (if most < l.length then (most : Int) else (l.length : Int)) = ((min most l.length : Nat) : Int) := by split <;> omega
 simp [xs]
 refine zaY (zcU fun _ => rfl) ?_
 rw [hmin2]
 refine zaY (by omega) ?_
 have htk : List.take ((min most l.length : Nat) : Int).toNat (l.map nd) = (l.take most).map nd := by
  rw [Int.toNat_natCast, List.map_take]
  by_cases h : most ≤ l.length
  ·rw [Nat.min_eq_left h]
  ·rw [Nat.min_eq_right (by omega), List.take_of_length_le (by simp), List.take_of_length_le (by simp; omega)]
 rw [htk]
 simp
 have h := ztJ n hn 4 (l.take most) H.length (H ++ [bst (l.take most) n]) (by decide) (by rw [List.length_take]; omega) (by simp)
 simp only [bst, xs] at h
 simp at h
 refine zaa h ?_
 simp
 exact fin1 (rs := [.tmp 6]) (by rfl) (by simp [resA, xs, mde]) (zaZ _ _)
def ix (l : List Int) : AV := .slice (l.map (.int .i64)) false
theorem zfx {H : AH} {t e : TypeId} {i ie : TI} {x : AV} {f : Bool} (hi : tab t = some i) (hd : i.d = .slice e) (he : tab e = some ie) (h1 : ie.size = 1) (hx : ([x].all fun y => y.cells.length == 1 && y.cells.all okc) = true) (hz : (zaF ie.zero).map List.length = some 1) (hb : ie.bytes ≤ 1000) :
  zar tab H t .nilslice (.slice [x] f) = some (.ref H.length 1, H ++ [.row true 1 [x]]) := by
 obtain ⟨v', J', hap, hacc', _⟩ := Acc.push (T := tab) (t := t) (e := e) (H := H) (J := []) (v := .nilslice) (v0 := .nilslice) (x := .slice [x] f) (ys := [x]) (xs := []) (.inl ⟨rfl, rfl⟩) hi hd he rfl rfl (by rw [h1]; exact hx) ⟨by omega, by rw [h1]; exact hz⟩ (by simp; omega) (by simp)
 rw [List.append_nil] at hap
 have h2 : zar tab H t .nilslice (.slice [x] f) = zb7 ie H .nilslice [x] := by
  simp only [zar, hi, hd, he, els]
  rw [if_neg (by simp), if_pos ⟨by omega, by rw [h1]; exact hz, by rw [h1]; exact hx⟩]
 have h3 : zb7 ie H .nilslice [x] = (zbz ie .nilslice [x]).map fun zs => (.ref H.length zs.length, H ++ [.row true ie.size zs]) := rfl
 rw [h2, h3, zbz]
 rw [if_pos (by simp; omega)]
 simp [h1]
theorem zeZ {H : AH} {t e : TypeId} {i ie : TI} {x : AV} {l : List AV} {b n : Nat} {f : Bool} (hi : tab t = some i) (hd : i.d = .slice e) (he : tab e = some ie) (h1 : ie.size = 1) (hx : ([x].all fun y => y.cells.length == 1 && y.cells.all okc) = true) (hz : (zaF ie.zero).map List.length = some 1) (hb : ie.bytes ≤ 1000) (hn : l.length = n) (hnb : n ≤ 1000000000) (hH : H[b]? = some (.row true 1 l)) :
  zar tab H t (.ref b n) (.slice [x] f) = some (.ref b (n + 1), H.set b (.row true 1 (l ++ [x]))) := by
 subst hn
 have h2 : zar tab H t (.ref b l.length) (.slice [x] f) = zb7 ie H (.ref b l.length) [x] := by
  simp only [zar, hi, hd, he, els]
  rw [if_neg (by simp), if_pos ⟨by omega, by rw [h1]; exact hz, by rw [h1]; exact hx⟩]
 have hk : (l.length + 1) * ie.bytes ≤ 1000000001 * 1000 := Nat.mul_le_mul (by omega) hb
 rw [h2]
 simp only [zb7, hH]
 rw [if_pos (by simp [h1]; omega)]
 simp [h1]
def nms : List ByteArray := [⟨#[120]⟩, ⟨#[121]⟩, ⟨#[118, 120]⟩, ⟨#[118, 121]⟩, ⟨#[97, 49]⟩, ⟨#[122, 122]⟩]
def mds (l : List (List Nd)) (most n i : Nat) : List Ex := (List.range i).map fun k => mde n ((l[k]?).getD []) most
theorem zgk (l : List (List Nd)) (most n i : Nat) : mds l most n (i + 1) = mds l most n i ++ [mde n ((l[i]?).getD []) most] := by simp [mds, List.range_succ]
theorem zfM (l : List (List Nd)) (most n i : Nat) : (mds l most n i).length = i := by simp [mds]
def LMs (l : List (List Nd)) (most n : Nat) (H : AH) (i : Nat) (fr : AFr) (H' : AH) : Prop :=
 fr 0 = .slice (l.map xs) false ∧ fr 1 = .int .i64 most ∧ fr 2 = .int .i64 n ∧ fr 6 = .ptr H.length 1 0 0 ∧ fr 7 = .ptr (H.length + 1) 1 0 0 ∧ fr 8 = .slice (nms.map .str) true ∧ fr 9 = .int .i64 i ∧ i ≤ n ∧
 ((i = 0 ∧ H' = H ++ [.row true 2 [.agg [.nilslice, .nilslice]], .row true 2 [.agg [.nilslice, .nilslice]]]) ∨
  ∃ J a b, a ≠ b ∧ J[a]? = some (.row true 1 ((nms.take i).map .str)) ∧ J[b]? = some (.row true 1 ((mds l most n i).map fun e => xs (ser e))) ∧ 0 < i ∧
    H' = H ++ .row true 2 [.agg [.nilslice, .nilslice]] :: .row true 2 [.agg [.ref (H.length + (a + 2)) i, .ref (H.length + (b + 2)) i]] :: J)
theorem zjy (l : List (List Nd)) (most n : Nat) (hn : 0 < n ∧ n ≤ 6) (hm : most ≤ 1000000000) (hl : ∀ r ∈ l, r.length ≤ 200000000000000) (hl2 : l.length ≤ 200000000000000) (H : AH) : zaf E 56 [.slice (l.map xs) false, .int .i64 most, .int .i64 n] H (.ret (sys ⟨nms.take n, mds l most n n⟩)) H := by
 refine zab zah zai Tryz.func56 rfl (by rfl) Tryz.ntmps56 (by kernel_rfl) (by simp) ?_
 simp
 refine zag (LMs l most n H) (fun i => n - i) 0 ⟨by simp, by simp, by simp, by simp, by simp, by simp [nms], by simp, by omega, .inl ⟨rfl, by simp⟩⟩ ?_
 rintro i fr H' ⟨g0, g1, g2, g6, g7, g8, g9, hi, hmem⟩
 have hnl : nms.length = 6 := rfl
 simp [g2, g9]
 refine zak (fun hc => ?_) (fun hc => ?_)
 ·have hlt : i < n := by simpa using hc
  have w2 : IntKind.i64.wrap ((i : Int) + 1) = ((i + 1 : Nat) : Int) := by rw [zae (by omega) (by omega)]; omega
  obtain ⟨s, hs⟩ := zaj (l := nms) (i := i) (by omega)
  have hsE : ∀ h, nms[i]'h = s := fun h => (gI.1 hs).2
  have hst : nms.take (i + 1) = nms.take i ++ [s] := by rw [List.take_add_one, hs]; rfl
  have main : ∀ r : List Nd, r = (l[i]?).getD [] → r.length ≤ 200000000000000 → True := fun _ _ _ => trivial
  simp [g0, g9]
  refine zak (fun hc2 => ?_) (fun hc2 => ?_)
  ·have hlt2 : i < l.length := by simpa using hc2
   obtain ⟨r, hr⟩ := zaj hlt2
   have hrE : ∀ h, l[i]'h = r := fun h => (gI.1 hr).2
   rcases hmem with ⟨rfl, rfl⟩ | ⟨J, a, b, hab, ha, hb, hpos, rfl⟩
   ·simp [hr, hrE, xs, g0, g7, g8, g9, hs, hsE]
    refine bind_some (zfx (x := .str s) tab31 rfl tab9 rfl (by simp [okc]) rfl (by decide)) ?_
    simp [g7]
    refine endD [(1, 9)] (by rfl) (by simp [okW, note, Eff.triv, Eff.wr, Eff.none, upTo, newAt]) ?_
    simp [g1, g2, g7]
    refine zac (fun Hx => zjz r most n ⟨hn.1, by omega⟩ (hl r (List.mem_of_getElem? hr)) hm Hx) ?_
    simp [g7, xs]
    refine bind_some (zfx (x := xs (ser (mde n (r) most))) tab22 rfl tab26 rfl (by simp [okc, xs]) rfl (by decide)) ?_
    simp [g7]
    refine endD [(1, 9)] (by rfl) (by simp [okW, note, Eff.triv, Eff.wr, Eff.none, upTo, newAt]) ?_
    have w3 : IntKind.i64.wrap 1 = 1 := zae (by decide) (by decide)
    simp [g9, w3]
    refine ⟨1, by show n - 1 < n - 0; omega, by simp [g0], by simp [g1], by simp [g2], by simp [g6], by simp [g7], by simp [g8], by simp, by omega, .inr ⟨[.row true 1 [.str s], .row true 1 [xs (ser (mde n (r) most))]], 0, 1, by decide, ?_, ?_, by decide, ?_⟩⟩
    ·rw [hst]; simp
    ·rw [zgk]; simp [mds, hr, hrE, xs, xs]
    ·simp
   ·simp [hr, hrE, xs, g0, g7, g8, g9, hs, hsE]
    refine bind_some (zeZ (x := .str s) (l := (nms.take i).map .str) tab31 rfl tab9 rfl (by simp [okc]) rfl (by decide) (by simp; omega) (by omega) (by simp [ha])) ?_
    simp [g7]
    refine endD [(1, 9)] (by rfl) (by simp [okW, note, Eff.triv, Eff.wr, Eff.none, upTo, newAt]) ?_
    simp [g1, g2, g7]
    refine zac (fun Hx => zjz r most n ⟨hn.1, by omega⟩ (hl r (List.mem_of_getElem? hr)) hm Hx) ?_
    simp [g7, xs]
    refine bind_some (zeZ (n := i) (x := xs (ser (mde n (r) most))) (l := (mds l most n i).map fun e => xs (ser e)) tab22 rfl tab26 rfl (by simp [okc, xs]) rfl (by decide) (by simp [zfM]) (by omega) (by simp [hb, List.getElem?_set_ne hab])) ?_
    simp [g7]
    refine endD [(1, 9)] (by rfl) (by simp [okW, note, Eff.triv, Eff.wr, Eff.none, upTo, newAt]) ?_
    simp [g9, w2]
    refine ⟨i + 1, by show n - (i + 1) < n - i; omega, by simp [g0], by simp [g1], by simp [g2], by simp [g6], by simp [g7], by simp [g8], by simp, by omega, .inr ⟨(J.set a (.row true 1 ((nms.take i).map .str ++ [.str s]))).set b (.row true 1 (((mds l most n i).map fun e => xs (ser e)) ++ [xs (ser (mde n (r) most))])), a, b, hab, ?_, ?_, by omega, ?_⟩⟩
    ·rw [hst, List.getElem?_set_ne (Ne.symm hab), List.getElem?_set_self (gI.1 ha).1]; simp
    ·rw [zgk, List.getElem?_set_self (by rw [List.length_set]; exact (gI.1 hb).1)]; simp [hr, hrE, xs, xs]
    ·simp
  ·have hr : l[i]? = none := by
    have : ¬ i < l.length := by simpa using hc2
    rw [List.getElem?_eq_none_iff]; omega
   rcases hmem with ⟨rfl, rfl⟩ | ⟨J, a, b, hab, ha, hb, hpos, rfl⟩
   ·simp [hr, g0, g7, g8, g9, hs, hsE]
    refine bind_some (zfx (x := .str s) tab31 rfl tab9 rfl (by simp [okc]) rfl (by decide)) ?_
    simp [g7]
    refine endD [(1, 9)] (by rfl) (by simp [okW, note, Eff.triv, Eff.wr, Eff.none, upTo, newAt]) ?_
    simp [g1, g2, g7]
    refine zau (args' := [xs [], .int .i64 most, .int .i64 n]) (fun Hx => zjz [] most n ⟨hn.1, by omega⟩ (by simp) hm Hx) (by simp [xs]) ?_
    simp [g7, xs]
    refine bind_some (zfx (x := xs (ser (mde n ([]) most))) tab22 rfl tab26 rfl (by simp [okc, xs]) rfl (by decide)) ?_
    simp [g7]
    refine endD [(1, 9)] (by rfl) (by simp [okW, note, Eff.triv, Eff.wr, Eff.none, upTo, newAt]) ?_
    have w3 : IntKind.i64.wrap 1 = 1 := zae (by decide) (by decide)
    simp [g9, w3]
    refine ⟨1, by show n - 1 < n - 0; omega, by simp [g0], by simp [g1], by simp [g2], by simp [g6], by simp [g7], by simp [g8], by simp, by omega, .inr ⟨[.row true 1 [.str s], .row true 1 [xs (ser (mde n ([]) most))]], 0, 1, by decide, ?_, ?_, by decide, ?_⟩⟩
    ·rw [hst]; simp
    ·rw [zgk]; simp [mds, hr, xs]
    ·simp
   ·simp [hr, g0, g7, g8, g9, hs, hsE]
    refine bind_some (zeZ (x := .str s) (l := (nms.take i).map .str) tab31 rfl tab9 rfl (by simp [okc]) rfl (by decide) (by simp; omega) (by omega) (by simp [ha])) ?_
    simp [g7]
    refine endD [(1, 9)] (by rfl) (by simp [okW, note, Eff.triv, Eff.wr, Eff.none, upTo, newAt]) ?_
    simp [g1, g2, g7]
    refine zau (args' := [xs [], .int .i64 most, .int .i64 n]) (fun Hx => zjz [] most n ⟨hn.1, by omega⟩ (by simp) hm Hx) (by simp [xs]) ?_
    simp [g7, xs]
    refine bind_some (zeZ (n := i) (x := xs (ser (mde n ([]) most))) (l := (mds l most n i).map fun e => xs (ser e)) tab22 rfl tab26 rfl (by simp [okc, xs]) rfl (by decide) (by simp [zfM]) (by omega) (by simp [hb, List.getElem?_set_ne hab])) ?_
    simp [g7]
    refine endD [(1, 9)] (by rfl) (by simp [okW, note, Eff.triv, Eff.wr, Eff.none, upTo, newAt]) ?_
    simp [g9, w2]
    refine ⟨i + 1, by show n - (i + 1) < n - i; omega, by simp [g0], by simp [g1], by simp [g2], by simp [g6], by simp [g7], by simp [g8], by simp, by omega, .inr ⟨(J.set a (.row true 1 ((nms.take i).map .str ++ [.str s]))).set b (.row true 1 (((mds l most n i).map fun e => xs (ser e)) ++ [xs (ser (mde n ([]) most))])), a, b, hab, ?_, ?_, by omega, ?_⟩⟩
    ·rw [hst, List.getElem?_set_ne (Ne.symm hab), List.getElem?_set_self (gI.1 ha).1]; simp
    ·rw [zgk, List.getElem?_set_self (by rw [List.length_set]; exact (gI.1 hb).1)]; simp [hr, xs]
    ·simp
 ·have hge : n ≤ i := by simpa using hc
  have hi' : i = n := by omega
  subst hi'
  rcases hmem with ⟨rfl, rfl⟩ | ⟨J, a, b, hab, ha, hb, hpos, rfl⟩
  ·omega
  ·simp [g6, g7]
   exact finC (rs := [.cell 6 33]) (vs := [.agg [.ref (H.length + (a + 2)) i, .ref (H.length + (b + 2)) i]]) (vs' := [sys ⟨nms.take i, mds l most i i⟩]) (J' := .row true 2 [.agg [.ref (H.length + (a + 2)) i, .ref (H.length + (b + 2)) i]] :: .row true 2 [.agg [.ref (H.length + (a + 2)) i, .ref (H.length + (b + 2)) i]] :: (J.set a (.row false 1 ((nms.take i).map .str))).set b (.row false 1 ((mds l most i i).map fun e => xs (ser e)))) (by rfl) (by simp [resA, g6]) (by simp [ha, hb, List.getElem?_set_ne hab, sys, show min i nms.length = i by omega, zfM]) (by simp only [noFs, sys, noF, Bool.and_true, Bool.and_eq_true]; exact ⟨zaE.2 fun x hx => by obtain ⟨y, _, rfl⟩ := List.mem_map.1 hx; rfl, zaE.2 fun x hx => by obtain ⟨y, _, rfl⟩ := List.mem_map.1 hx; exact zaZ _ _⟩) rfl
def tm12 (t : Int) : Int := t.tmod 1048576
def hh12 (h : Int) : Int := magn h 131072 + 1
theorem zr2 (t h : Int) (H : AH) : zaf E 57 [.agg [.int .i64 t, .int .i64 h]] H (.ret (.agg [.int .i64 (tm12 t), .int .i64 (hh12 h)])) H := by
 refine zab zah zai Tryz.func57 rfl (by rfl) Tryz.ntmps57 (by kernel_rfl) (by simp) ?_
 have hb := zgY h (n := 131072) (by decide)
 have hmd : magn h 131072 = max (h.tmod 131072) (-(h.tmod 131072)) := rfl
 have w1 : IntKind.i64.wrap (magn h 131072 + 1) = magn h 131072 + 1 := zae (by omega) (by omega)
 obtain ⟨t1, t2⟩ := zay h (b := 131072) (by decide)
 have hr : -131072 < h.tmod 131072 ∧ h.tmod 131072 < 131072 := by
  by_cases hh : 0 ≤ h
  ·have := t1 hh; omega
  ·have := t2 (by omega); omega
 by_cases h0 : h.tmod 131072 < 0
 ·have e : magn h 131072 = -(h.tmod 131072) := by omega
  have w2 : IntKind.i64.wrap (-(h.tmod 131072)) = -(h.tmod 131072) := zae (by omega) (by omega)
  rw [e] at w1
  simp [h0, w2, w1]
  exact fin1 (rs := [.cell 2 25]) (by rfl) (by simp [resA, tm12, hh12, e]) (by simp [noF, noFs])
 ·have e : magn h 131072 = h.tmod 131072 := by omega
  rw [e] at w1
  simp [h0, w1]
  exact fin1 (rs := [.cell 2 25]) (by rfl) (by simp [resA, tm12, hh12, e]) (by simp [noF, noFs])
def resS (least h : Int) : Int := 1 + h.tdiv 16 + (least.tmod h + h).tmod h
theorem zqQ {least h : Int} (hh : 1 ≤ h ∧ h ≤ 1000000000) : 1 ≤ resS least h ∧ resS least h ≤ 2000000000 := by
 have h1 := Int.tmod_nonneg h (a := least.tmod h + h) (by
  obtain ⟨a, b⟩ := zay least (b := h) (by omega)
  by_cases k : 0 ≤ least
  ·have := a k; omega
  ·have := b (by omega); omega)
 have h2 := Int.tmod_lt_of_pos (least.tmod h + h) (b := h) (by omega)
 have h3 : h.tdiv 16 = h / 16 := Int.tdiv_eq_ediv_of_nonneg (by omega)
 unfold resS
 omega
theorem zlc (least h : Int) (hh : 1 ≤ h ∧ h ≤ 1000000000) (H : AH) : zaf E 26 [.int .i64 least, .int .i64 h] H (.ret (.int .i64 (resS least h))) H := by
 refine zab zah zai Tryz.func26 rfl (by rfl) Tryz.ntmps26 (by kernel_rfl) (by simp) ?_
 have hb := zqQ (least := least) hh
 obtain ⟨t1, t2⟩ := zay least (b := h) (by omega)
 have hr : -h < least.tmod h ∧ least.tmod h < h := by
  by_cases k : 0 ≤ least
  ·have := t1 k; omega
  ·have := t2 (by omega); omega
 have h3 : h.tdiv 16 = h / 16 := Int.tdiv_eq_ediv_of_nonneg (by omega)
 have hne : ¬ h = 0 := by omega
 have w0 : IntKind.i64.wrap (h.tdiv 16) = h.tdiv 16 := zae (by omega) (by omega)
 have w1 : IntKind.i64.wrap (1 + h.tdiv 16) = 1 + h.tdiv 16 := zae (by omega) (by omega)
 have w2 : IntKind.i64.wrap (least.tmod h) = least.tmod h := zae (by omega) (by omega)
 have w3 : IntKind.i64.wrap (least.tmod h + h) = least.tmod h + h := zae (by omega) (by omega)
 have h1 := Int.tmod_nonneg h (a := least.tmod h + h) (by omega)
 have h2 := Int.tmod_lt_of_pos (least.tmod h + h) (b := h) (by omega)
 have w4 : IntKind.i64.wrap ((least.tmod h + h).tmod h) = (least.tmod h + h).tmod h := zae (by omega) (by omega)
 have w5 : IntKind.i64.wrap (1 + h.tdiv 16 + (least.tmod h + h).tmod h) = resS least h := by unfold resS; exact zae (by unfold resS at hb; omega) (by unfold resS at hb; omega)
 simp [hne, w0, w1, w2, w3, w4, w5]
 exact fin0 (rs := [.tmp 4]) (by rfl) (by simp [resA])
def zlS (l : List Nd) (dir : Int) (n : Nat) : Gd := ⟨mde n l 8, dir.tmod 2⟩
theorem zr0 (l : List Nd) (dir : Int) (n : Nat) (hn : 0 < n ∧ n ≤ 1000) (hl : l.length ≤ 200000000000000) (hd : -128 ≤ dir ∧ dir ≤ 127) (H : AH) : zaf E 39 [xs l, .int .i8 dir, .int .i64 n] H (.ret (gdA (zlS l dir n))) H := by
 refine zab zah zai Tryz.func39 rfl (by rfl) Tryz.ntmps39 (by kernel_rfl) (by simp) ?_
 have hM := fun Hx => zjz l 8 n ⟨hn.1, by omega⟩ hl (by decide) Hx
 obtain ⟨t1, t2⟩ := zay dir (b := 2) (by decide)
 have hr : -2 < dir.tmod 2 ∧ dir.tmod 2 < 2 := by
  by_cases k : 0 ≤ dir
  ·have := t1 k; omega
  ·have := t2 (by omega); omega
 have w0 : IntKind.i8.wrap (dir.tmod 2) = dir.tmod 2 := by
  have : dir.tmod 2 = -1 ∨ dir.tmod 2 = 0 ∨ dir.tmod 2 = 1 := by omega
  rcases this with h | h | h <;> rw [h] <;> rfl
 have w1 : IntKind.i64.wrap (dir.tmod 2) = dir.tmod 2 := zae (by omega) (by omega)
 simp only [xs] at hM
 simp [xs]
 refine zaa (hM _) ?_
 simp [w0, w1]
 exact fin1 (rs := [.cell 6 35]) (by rfl) (by simp [resA, gdA, zlS, xs]) (by simp [gdA, xs, noF, noFs, zfK])
structure MemY (T : Tp) (t : I) (B : Nat) (J : AH) (tag : Nat → Nat) (co cl : List AV) (out l : List (List I)) : Prop where
 h0 : J[0]? = some (.row true 3 [tpA T])
 h1 : J[1]? = some (.row true 2 [iv t])
 h2 : J[2]? = some (.row true 1 co)
 h3 : J[3]? = some (.row true 1 cl)
 ho : Fam (.slice [] true) tag B J 0 co out
 hl : Fam (.slice [] true) tag B J 1 cl l
section
variable {T : Tp} {t : I} {B i b : Nat} {J : AH} {tag : Nat → Nat} {co cl : List AV} {out l : List (List I)} {q : List I} {p : I}
theorem MemY.len (h : MemY T t B J tag co cl out l) : 4 ≤ J.length := (gI.1 h.h3).1
theorem MemY.app (h : MemY T t B J tag co cl out l) (K : AH) : MemY T t B (J ++ K) tag co cl out l :=
 ⟨zad h.h0, zad h.h1, zad h.h2, zad h.h3, h.ho.app K, h.hl.app K⟩
theorem MemY.lN (h : MemY T t B J tag co cl out l) (hJ : 5 ≤ J.length) :
  MemY T t B ((J ++ [rowB (q ++ [p])]).set 3 (.row true 1 (cl.set i (.ref (B + J.length) (q.length + 1))))) (updT tag J.length (2 * i + 1)) co (cl.set i (.ref (B + J.length) (q.length + 1))) out (l.set i (q ++ [p])) := by
 refine ⟨?_, ?_, ?_, ?_, ?_, ?_⟩
 ·rw [List.getElem?_set_ne (by omega)]; exact zad h.h0
 ·rw [List.getElem?_set_ne (by omega)]; exact zad h.h1
 ·rw [List.getElem?_set_ne (by omega)]; exact zad h.h2
 ·rw [List.getElem?_set_self (by simp; omega)]
 ·exact h.ho.otherN.set (by omega)
 ·exact (h.hl.pushN (by omega)).set (by omega)
theorem MemY.lR (h : MemY T t B J tag co cl out l) (hb : J[b]? = some (rowB q)) (h5 : 5 ≤ b) (ht : tag b = 2 * i + 1) :
  MemY T t B ((J.set b (rowB (q ++ [p]))).set 3 (.row true 1 (cl.set i (.ref (B + b) (q.length + 1))))) tag co (cl.set i (.ref (B + b) (q.length + 1))) out (l.set i (q ++ [p])) := by
 have hJ := h.len
 refine ⟨?_, ?_, ?_, ?_, ?_, ?_⟩
 ·rw [List.getElem?_set_ne (by omega), List.getElem?_set_ne (by omega)]; exact h.h0
 ·rw [List.getElem?_set_ne (by omega), List.getElem?_set_ne (by omega)]; exact h.h1
 ·rw [List.getElem?_set_ne (by omega), List.getElem?_set_ne (by omega)]; exact h.h2
 ·rw [List.getElem?_set_self (by simp; omega)]
 ·exact (h.ho.otherR ht (fun j => by omega)).set (by omega)
 ·exact (h.hl.pushR hb h5 ht).set (by omega)
theorem MemY.oN (h : MemY T t B J tag co cl out l) (hJ : 5 ≤ J.length) :
  MemY T t B ((J ++ [rowB (q ++ [p])]).set 2 (.row true 1 (co.set i (.ref (B + J.length) (q.length + 1))))) (updT tag J.length (2 * i + 0)) (co.set i (.ref (B + J.length) (q.length + 1))) cl (out.set i (q ++ [p])) l := by
 refine ⟨?_, ?_, ?_, ?_, ?_, ?_⟩
 ·rw [List.getElem?_set_ne (by omega)]; exact zad h.h0
 ·rw [List.getElem?_set_ne (by omega)]; exact zad h.h1
 ·rw [List.getElem?_set_self (by simp; omega)]
 ·rw [List.getElem?_set_ne (by omega)]; exact zad h.h3
 ·exact (h.ho.pushN (by omega)).set (by omega)
 ·exact h.hl.otherN.set (by omega)
theorem MemY.oR (h : MemY T t B J tag co cl out l) (hb : J[b]? = some (rowB q)) (h5 : 5 ≤ b) (ht : tag b = 2 * i + 0) :
  MemY T t B ((J.set b (rowB (q ++ [p]))).set 2 (.row true 1 (co.set i (.ref (B + b) (q.length + 1))))) tag (co.set i (.ref (B + b) (q.length + 1))) cl (out.set i (q ++ [p])) l := by
 have hJ := h.len
 refine ⟨?_, ?_, ?_, ?_, ?_, ?_⟩
 ·rw [List.getElem?_set_ne (by omega), List.getElem?_set_ne (by omega)]; exact h.h0
 ·rw [List.getElem?_set_ne (by omega), List.getElem?_set_ne (by omega)]; exact h.h1
 ·rw [List.getElem?_set_self (by simp; omega)]
 ·rw [List.getElem?_set_ne (by omega), List.getElem?_set_ne (by omega)]; exact h.h3
 ·exact (h.ho.pushR hb h5 ht).set (by omega)
 ·exact (h.hl.otherR ht (fun j => by omega)).set (by omega)
end
def inR (x : List I) (i : Nat) : List AV := (List.range i).map fun j => .slice [iv (atN x j)] true
theorem zqe (x : List I) (i : Nat) : inR x (i + 1) = inR x i ++ [.slice [iv (atN x i)] true] := by simp [inR, List.range_succ]
theorem zss (x : List I) (i : Nat) : (inR x i).length = i := by simp [inR]
theorem zst (x : List I) (n : Nat) : inR x n = inC x n n := by
 unfold inR inC
 apply List.map_congr_left
 intro j hj
 rw [if_pos (List.mem_range.1 hj)]
def gK (H : AH) (n m order k : Nat) (fr : AFr) : Prop := fr 3 = .int .i64 order ∧ fr 4 = .ptr H.length 1 0 0 ∧ fr 6 = .ptr (H.length + 1) 1 0 0 ∧ fr 9 = .ref (H.length + 2) n ∧ fr 11 = .ref (H.length + 3) m ∧ fr 13 = .int .i64 k ∧ k ≤ order
def SyI (T : Tp) (x : List I) (t : I) (order : Nat) (H : AH) (i : Nat) (fr : AFr) (H' : AH) : Prop :=
 fr 1 = bx x ∧ fr 3 = .int .i64 order ∧ fr 4 = .ptr H.length 1 0 0 ∧ fr 6 = .ptr (H.length + 1) 1 0 0 ∧ fr 10 = .int .i64 i ∧ i ≤ T.n ∧
 ((i = 0 ∧ fr 9 = .slice [] true ∧ H' = H ++ [.row true 3 [tpA T], .row true 2 [iv t]]) ∨ (1 ≤ i ∧ fr 9 = .ref (H.length + 2) i ∧ H' = H ++ [.row true 3 [tpA T], .row true 2 [iv t], .row true 1 (inR x i)]))
def SyJ (T : Tp) (x : List I) (t : I) (order : Nat) (H : AH) (i : Nat) (fr : AFr) (H' : AH) : Prop :=
 fr 3 = .int .i64 order ∧ fr 4 = .ptr H.length 1 0 0 ∧ fr 6 = .ptr (H.length + 1) 1 0 0 ∧ fr 9 = .ref (H.length + 2) T.n ∧ fr 12 = .int .i64 i ∧ i ≤ T.L.length ∧
 ((i = 0 ∧ fr 11 = .slice [] true ∧ H' = H ++ [.row true 3 [tpA T], .row true 2 [iv t], .row true 1 (inC x T.n T.n)]) ∨ (1 ≤ i ∧ fr 11 = .ref (H.length + 3) i ∧ H' = H ++ [.row true 3 [tpA T], .row true 2 [iv t], .row true 1 (inC x T.n T.n), .row true 1 (List.replicate i (.slice [] true))]))
def SyK (T : Tp) (x : List I) (t : I) (order : Nat) (H : AH) (k : Nat) (fr : AFr) (H' : AH) : Prop :=
 gK H T.n T.L.length order k fr ∧ ∃ J tag co cl, H' = H ++ J ∧ MemY T t H.length J tag co cl (expS T x t k).2 (expS T x t k).1
def SyL (T : Tp) (x : List I) (t : I) (order : Nat) (H : AH) (k i : Nat) (fr : AFr) (H' : AH) : Prop :=
 gK H T.n T.L.length order k fr ∧ fr 14 = .int .i64 i ∧ i ≤ T.L.length ∧
 ∃ J tag co cl, H' = H ++ J ∧ (i = 0 ∨ 5 ≤ J.length) ∧ MemY T t H.length J tag co cl (expS T x t k).2 (zcb T.L (expS T x t k).2 t k (expS T x t k).1 i)
def SyO (T : Tp) (x : List I) (t : I) (order : Nat) (H : AH) (k i : Nat) (fr : AFr) (H' : AH) : Prop :=
 gK H T.n T.L.length order k fr ∧ fr 16 = .int .i64 i ∧ i ≤ T.out.length ∧
 ∃ J tag co cl, H' = H ++ J ∧ 5 ≤ J.length ∧ MemY T t H.length J tag co cl (zcG T (expS T x t (k + 1)).1 k (expS T x t k).2 i) (expS T x t (k + 1)).1
theorem zpe {H : AH} {q : I} {f g : Bool} {v : AV} (h : v = .nilslice ∨ v = .slice [] true) : zar tab H 183 v (.slice [.slice [iv q] g] f) = some (.ref H.length 1, H ++ [.row true 1 [.slice [iv q] g]]) := by
 rcases h with rfl | rfl <;> simp [zar, els, zb7, zbz, okc]
theorem znf {H : AH} {f : Bool} : zar tab H 183 (.slice [] true) (.slice [.slice [] true] f) = some (.ref H.length 1, H ++ [.row true 1 [.slice [] true]]) := by
 simp [zar, els, zb7, zbz, okc]
theorem zqF {H : AH} {q : I} {l : List AV} {b n : Nat} {f g : Bool} (hn : l.length = n) (hnb : n ≤ 1000000000) (hH : H[b]? = some (.row true 1 l)) : zar tab H 183 (.ref b n) (.slice [.slice [iv q] g] f) = some (.ref b (n + 1), H.set b (.row true 1 (l ++ [.slice [iv q] g]))) :=
 zeZ tab183 rfl tab23 rfl (by simp [okc]) rfl (by decide) hn hnb hH
theorem zpd {H : AH} {l : List AV} {b n : Nat} {f : Bool} (hn : l.length = n) (hnb : n ≤ 1000000000) (hH : H[b]? = some (.row true 1 l)) : zar tab H 183 (.ref b n) (.slice [.slice [] true] f) = some (.ref b (n + 1), H.set b (.row true 1 (l ++ [.slice [] true]))) :=
 zeZ tab183 rfl tab23 rfl (by simp [okc]) rfl (by decide) hn hnb hH
set_option maxHeartbeats 4000000 in
theorem ztM (T : Tp) (x : List I) (t : I) (order : Nat) (hT : tpOk T) (hx : allV x) (hxn : x.length = T.n) (hn : 1 ≤ T.n) (ht : vB t = true) (ho : 1 ≤ order ∧ order ≤ 1000) (H H' : AH) (p : Nat)
  (hd : ∀ j, j ≤ T.n → H[p + j]? = some .dead) (hlen : H'.length = H.length) (g1 : H'[p]? = some (.row true 1 (zbi p (za6 T x t order)))) (g2 : ∀ (j : Nat) q, (za6 T x t order)[j]? = some q → H'[p + 1 + j]? = some (rowB q)) (g3 : ∀ c, c < H.length → (c < p ∨ p + T.n < c) → H'[c]? = H[c]?) :
  zaf E 126 [tpA T, bx x, iv t, .int .i64 order] H (.ret (.ref p T.n)) H' := by
 refine ze4 zah zai Tryz.func126 rfl (by rfl) Tryz.ntmps126 (by kernel_rfl) (by simp) ?_
 have hsm := hT.small
 have hL1 : 1 ≤ T.L.length := by
  have h1 : 0 < T.out.length := by rw [hT.len]; omega
  have := hT.out _ (List.getElem_mem h1)
  omega
 simp [tpA]
 refine zag (SyI T x t order H) (fun i => T.n - i) 0 ⟨by simp, by simp, by simp, by simp, by simp, by omega, .inl ⟨rfl, by simp, by simp [tpA]⟩⟩ ?_
 rintro i fr H1 ⟨f1, f3, f4, f6, f10, hi, hst⟩
 have hj0 : ∃ J0, H1 = H ++ (.row true 3 [tpA T] :: J0) := by
  rcases hst with ⟨_, _, h⟩ | ⟨_, _, h⟩ <;> exact ⟨_, h⟩
 obtain ⟨J0, hJ0⟩ := hj0
 subst hJ0
 simp [f4, f10, tpA]
 refine zak (fun hc => ?_) (fun hc => ?_)
 ·have hlt : i < T.n := by simpa using hc
  obtain ⟨q, hq⟩ := zaj (l := x) (i := i) (by omega)
  have hqE : ∀ h, x[i]'h = q := fun h => (gI.1 hq).2
  have hqa : atN x i = q := by simp [atN, hq]
  have w2 : IntKind.i64.wrap ((i : Int) + 1) = ((i + 1 : Nat) : Int) := by rw [zae (by omega) (by omega)]; omega
  have hs := zqe x i
  rw [hqa] at hs
  simp only [zlf] at hs
  rcases hst with ⟨rfl, f9, he⟩ | ⟨h1, f9, he⟩
  ·have he := List.cons.inj (List.append_cancel_left he)
   rw [he.2]
   have w1 : IntKind.i64.wrap 1 = 1 := zae (by omega) (by omega)
   simp [f1, f9, f10, bx, hq, hqE]
   refine bind_some (zpe (.inr rfl)) ?_
   simp [f10, w1]
   refine ⟨1, by show T.n - 1 < T.n - 0; omega, by simp [f1, bx], by simp [f3], by simp [f4], by simp [f6], by simp, by omega, .inr ⟨by omega, by simp, by simp [hqa, tpA, inR]⟩⟩
  ·have he := List.cons.inj (List.append_cancel_left he)
   rw [he.2]
   simp [f1, f9, f10, bx, hq, hqE]
   refine bind_some (zqF (l := inR x i) (zss x i) (by omega) (by simp)) ?_
   simp [f10, w2]
   refine ⟨i + 1, by show T.n - (i + 1) < T.n - i; omega, by simp [f1, bx], by simp [f3], by simp [f4], by simp [f6], by simp, by omega, .inr ⟨by omega, by simp, by simp [hs, tpA]⟩⟩
 ·have hin : i = T.n := by have : ¬ i < T.n := by simpa using hc
                           omega
  subst hin
  rcases hst with ⟨h0, _, _⟩ | ⟨h1, f9, he⟩
  ·omega
  have he := List.cons.inj (List.append_cancel_left he)
  rw [he.2, zst]
  simp
  refine zag (SyJ T x t order H) (fun i => T.L.length - i) 0 ⟨by simp [f3], by simp [f4], by simp [f6], by simp [f9], by simp, by omega, .inl ⟨rfl, by simp, by simp [tpA]⟩⟩ ?_
  clear f1 f3 f4 f6 f9 f10 hi hc h1
  rintro i fr H1 ⟨f3, f4, f6, f9, f12, hi, hst⟩
  have hj0 : ∃ J0, H1 = H ++ (.row true 3 [tpA T] :: J0) := by
   rcases hst with ⟨_, _, h⟩ | ⟨_, _, h⟩ <;> exact ⟨_, h⟩
  obtain ⟨J0, hJ0⟩ := hj0
  subst hJ0
  simp [f4, f12, tpA]
  refine zak (fun hc => ?_) (fun hc => ?_)
  ·have hlt : i < T.L.length := by simpa using hc
   have w2 : IntKind.i64.wrap ((i : Int) + 1) = ((i + 1 : Nat) : Int) := by rw [zae (by omega) (by omega)]; omega
   rcases hst with ⟨rfl, f11, he⟩ | ⟨h1, f11, he⟩
   ·have he := List.cons.inj (List.append_cancel_left he)
    rw [he.2]
    have w1 : IntKind.i64.wrap 1 = 1 := zae (by omega) (by omega)
    simp [f11, f12]
    refine bind_some (znf) ?_
    simp [f12, w1]
    refine ⟨1, by show T.L.length - 1 < T.L.length - 0; omega, by simp [f3], by simp [f4], by simp [f6], by simp [f9], by simp, by omega, .inr ⟨by omega, by simp, by simp [tpA]⟩⟩
   ·have he := List.cons.inj (List.append_cancel_left he)
    rw [he.2]
    simp [f11, f12]
    refine bind_some (zpd (l := List.replicate i (.slice [] true)) (by simp) (by omega) (by simp)) ?_
    simp [f12, w2]
    refine ⟨i + 1, by show T.L.length - (i + 1) < T.L.length - i; omega, by simp [f3], by simp [f4], by simp [f6], by simp [f9], by simp, by omega, .inr ⟨by omega, by simp, by simp [tpA, List.replicate_succ']⟩⟩
  ·have hin : i = T.L.length := by have : ¬ i < T.L.length := by simpa using hc
                                   omega
   subst hin
   rcases hst with ⟨h0, _, _⟩ | ⟨h1, f11, he⟩
   ·omega
   have he := List.cons.inj (List.append_cancel_left he)
   rw [he.2]
   simp
   refine zag (SyK T x t order H) (fun k => order - k) 0 ⟨⟨by simp [f3], by simp [f4], by simp [f6], by simp [f9], by simp [f11], by simp, by omega⟩, _, fun _ => 0, _, _, rfl, ⟨by simp [tpA], rfl, rfl, rfl, zl8 x T.n, zrg _⟩⟩ ?_
   clear f3 f4 f6 f9 f11 f12 hi hc h1
   rintro k fr H1 ⟨⟨f3, f4, f6, f9, f11, f13, hk⟩, J, tag, co, cl, rfl, hM⟩
   simp [f3, f13]
   refine zak (fun hc => ?_) (fun hc => ?_)
   ·have hklt : k < order := by simpa using hc
    simp
    have wk : IntKind.i64.wrap ((k : Int) + 1) = ((k + 1 : Nat) : Int) := by rw [zae (by omega) (by omega)]; omega
    refine zag (SyL T x t order H k) (fun i => T.L.length - i) 0 ⟨⟨by simp [f3], by simp [f4], by simp [f6], by simp [f9], by simp [f11], by simp [f13], by omega⟩, by simp, by omega, J, tag, co, cl, rfl, .inl rfl, hM⟩ ?_
    clear f3 f4 f6 f9 f11 f13 hM
    clear J tag co cl
    rintro i fr H1 ⟨⟨f3, f4, f6, f9, f11, f13, _⟩, f14, hi, J, tag, co, cl, rfl, hJ5, hM⟩
    have h0' := hM.h0
    simp only [tpA] at h0'
    simp [f4, f14, h0']
    obtain ⟨e1, e2⟩ := zaX hT hx ht k
    have hrl := zee hT ht e1 e2.val i hi
    refine zak (fun hc => ?_) (fun hc => ?_)
    ·have hlt : i < T.L.length := by simpa using hc
     obtain ⟨y, hy⟩ := zaj hlt
     have hyE : ∀ h, T.L[i]'h = y := fun h => (gI.1 hy).2
     have hins := hT.ins i y hy
     have w2 : IntKind.i64.wrap ((i : Int) + 1) = ((i + 1 : Nat) : Int) := by rw [zae (by omega) (by omega)]; omega
     have hnext := zcy (out := (expS T x t k).2) (l := (expS T x t k).1) (t := t) (k := k) hy
     have hfin : ∀ (J' : AH) (tag' : Nat → Nat) (co' cl' : List AV), 5 ≤ J'.length → MemY T t H.length J' tag' co' cl' (expS T x t k).2 (zcb T.L (expS T x t k).2 t k (expS T x t k).1 (i + 1)) → ∀ fr' : AFr, gK H T.n T.L.length order k fr' → fr' 14 = .int .i64 (i + 1 : Nat) → zkG (SyL T x t order H k) (fun i => T.L.length - i) i fr' (H ++ J') :=
      fun J' tag' co' cl' h5 hM' fr' g1 g2 => ⟨i + 1, by show T.L.length - (i + 1) < T.L.length - i; omega, g1, g2, by omega, J', tag', co', cl', rfl, .inr h5, hM'⟩
     generalize hL : zcb T.L (expS T x t k).2 t k (expS T x t k).1 i = l at *
     generalize hO : (expS T x t k).2 = out at *
     rw [hnext] at hfin
     have hil : i < l.length := by rw [hrl.len]; exact hlt
     obtain ⟨q, hq⟩ := zaj hil
     have hqr : rowN l (i : Int) = q := zbc hq
     have hqk : q.length = k := by have := hrl.row i hlt; rw [hqr, if_neg (by omega)] at this; exact this
     obtain ⟨v, hv⟩ := zaj (l := cl) (i := i) (by rw [hM.hl.1]; exact hil)
     have hvE : ∀ h, cl[i]'h = v := fun h => (gI.1 hv).2
     have hcll : cl.length = T.L.length := by rw [hM.hl.1, hrl.len]
     have hMl := hM.len
     obtain ⟨o, a, b, c⟩ := y
     have hM2 : ∀ z : I, MemY T t H.length (J ++ [.row true 2 [iv z]]) tag co cl out l := fun z => hM.app _
     have hlF := fun z : I => hM.hl.2 i v q hv hq
     have hJl : ∀ z : I, (J ++ [ABlk.row true 2 [iv z]]).length = J.length + 1 := fun z => by simp
     have m3 := hM.h3
     have h1' := hM.h1
     simp only [zlf] at h1'
     have h1b := hM.h1
     simp [f4, f14, h0', ↓old h0', hy, hyE, insA]
     refine zak (fun ho2 => ?_) (fun ho2 => ?_)
     ·have ho2 : o = 2 := by simpa using ho2
      subst ho2
      have hins : 0 ≤ a ∧ a < T.n := by rcases hins with h | h | h | h | h <;> simp only at h <;> omega
      obtain ⟨ka, rfl⟩ : ∃ ka : Nat, a = ka := ⟨a.toNat, by omega⟩
      obtain ⟨r, hr⟩ := zaj (l := out) (i := ka) (by rw [e2.len]; omega)
      have hrr : rowN out (ka : Int) = r := zbc hr
      have hrk : r.length = k + 1 := by have := e2.row ka (by omega); rw [hrr, if_neg (by omega)] at this; exact this
      obtain ⟨u, hu⟩ := zaj (l := co) (i := ka) (by rw [hM.ho.1, e2.len]; omega)
      have huE : ∀ h, co[ka]'h = u := fun h => (gI.1 hu).2
      have hcol : co.length = T.n := by rw [hM.ho.1, e2.len]
      obtain ⟨z, hz⟩ := zaj (l := r) (i := k) (by omega)
      have hzE : ∀ h, r[k]'h = z := fun h => (gI.1 hz).2
      have hcv : zfr ⟨2, ka, b, c⟩ out l t k i = z := by simp [zfr, hrr, atN, hz]
      rw [hcv, hqr] at hfin
      have hka : ka < T.n := by omega
      have hkk : (k : Int) < (k : Int) + 1 := by omega
      have hkn : k < k + 1 := by omega
      have hoF := hM.ho.2 ka u r hu hr
      have m2 := hM.h2
      rcases hoF with (⟨h0, _⟩ | ⟨_, z', h0, hu'⟩) | ⟨bo, hu', g2o, g5o, gto⟩
      ·rw [h0] at hrk; simp at hrk
      ·have hk0 : k = 0 := by rw [h0] at hrk; simpa using hrk.symm
       subst hk0
       have hzz : z' = z := by rw [h0] at hz; simpa using hz
       subst hzz
       subst hu'
       have hlF := hlF z'
       have hM2 := hM2 z'
       have hJl := hJl z'
       simp [f4, f9, f13, f14, h0', ↓old h0', hy, hyE, insA, m2, ↓old m2, hu, huE, hcol, hka]
       simp only [zlf] at hlF hM2 hJl
       generalize hJ2 : J ++ [ABlk.row true 2 [.agg [.int .i64 z'.1, .int .i64 z'.2]]] = J2 at *
       have h16 : J2[J.length]? = some (.row true 2 [.agg [.int .i64 z'.1, .int .i64 z'.2]]) := by rw [← hJ2]; simp
       have n3 := hM2.h3
       have hJ2n : J2 ≠ [] := by rintro rfl; simp at hJl
       rcases hlF with (hn | ⟨hn, _⟩) | ⟨bl, rfl, g2l0, g5l, gtl⟩
       ·obtain ⟨h0q, rfl⟩ := hn
        subst h0q
        simp [f11, f14, hcll, hlt, hv, hvE, n3, h16]
        refine bind_some (zex (.inr rfl)) ?_
        simp [f11, f14, hcll, hlt, hv, hvE, n3, zad n3]
        refine endD [(4, 10), (5, 10), (9, 10)] (by rfl) (by simp [okW, note, Eff.triv, Eff.wr, Eff.none, upTo, newAt]; omega) ?_
        simp [f14, w2]
        exact hfin _ _ _ _ (by simp; omega) (hM2.lN (i := i) (q := []) (p := z') (by omega)) _ ⟨by simp [f3], by simp [f4], by simp [f6], by simp [f9], by simp [f11], by simp [f13], by omega⟩ (by simp)
       ·cases hn
       ·have hbl := (gI.1 g2l0).1
        have g2l : J2[bl]? = some (rowB q) := by rw [← hJ2]; exact zad g2l0
        have m4b : (J2.set bl (rowB (q ++ [z'])))[3]? = some (.row true 1 cl) := by rw [List.getElem?_set_ne (by omega)]; exact n3
        simp [f11, f14, hcll, hlt, hv, hvE, n3, h16]
        refine bind_some (zca (by omega) (by simpa using g2l)) ?_
        simp [f11, f14, hcll, hlt, hv, hvE, m4b]
        refine endD [(4, 10), (5, 10), (9, 10)] (by rfl) (by simp [okW, note, Eff.triv, Eff.wr, Eff.none, upTo, newAt]; omega) ?_
        simp [f14, w2]
        exact hfin _ _ _ _ (by simp; omega) (hM2.lR (i := i) (q := q) (p := z') g2l g5l gtl) _ ⟨by simp [f3], by simp [f4], by simp [f6], by simp [f9], by simp [f11], by simp [f13], by omega⟩ (by simp)
      ·subst hu'
       have g2o' := g2o
       simp only [rowB] at g2o'
       have hlF := hlF z
       have hM2 := hM2 z
       have hJl := hJl z
       simp [f4, f9, f13, f14, h0', ↓old h0', hy, hyE, insA, m2, ↓old m2, hu, huE, hcol, hka, g2o', ↓old g2o', hz, hzE, hrk, hkk, hkn]
       simp only [zlf] at hlF hM2 hJl
       generalize hJ2 : J ++ [ABlk.row true 2 [.agg [.int .i64 z.1, .int .i64 z.2]]] = J2 at *
       have h16 : J2[J.length]? = some (.row true 2 [.agg [.int .i64 z.1, .int .i64 z.2]]) := by rw [← hJ2]; simp
       have n3 := hM2.h3
       have hJ2n : J2 ≠ [] := by rintro rfl; simp at hJl
       rcases hlF with (hn | ⟨hn, _⟩) | ⟨bl, rfl, g2l0, g5l, gtl⟩
       ·obtain ⟨h0q, rfl⟩ := hn
        subst h0q
        simp [f11, f14, hcll, hlt, hv, hvE, n3, h16]
        refine bind_some (zex (.inr rfl)) ?_
        simp [f11, f14, hcll, hlt, hv, hvE, n3, zad n3]
        refine endD [(4, 10), (5, 10), (9, 10)] (by rfl) (by simp [okW, note, Eff.triv, Eff.wr, Eff.none, upTo, newAt]; omega) ?_
        simp [f14, w2]
        exact hfin _ _ _ _ (by simp; omega) (hM2.lN (i := i) (q := []) (p := z) (by omega)) _ ⟨by simp [f3], by simp [f4], by simp [f6], by simp [f9], by simp [f11], by simp [f13], by omega⟩ (by simp)
       ·cases hn
       ·have hbl := (gI.1 g2l0).1
        have g2l : J2[bl]? = some (rowB q) := by rw [← hJ2]; exact zad g2l0
        have m4b : (J2.set bl (rowB (q ++ [z])))[3]? = some (.row true 1 cl) := by rw [List.getElem?_set_ne (by omega)]; exact n3
        simp [f11, f14, hcll, hlt, hv, hvE, n3, h16]
        refine bind_some (zca (by omega) (by simpa using g2l)) ?_
        simp [f11, f14, hcll, hlt, hv, hvE, m4b]
        refine endD [(4, 10), (5, 10), (9, 10)] (by rfl) (by simp [okW, note, Eff.triv, Eff.wr, Eff.none, upTo, newAt]; omega) ?_
        simp [f14, w2]
        exact hfin _ _ _ _ (by simp; omega) (hM2.lR (i := i) (q := q) (p := z) g2l g5l gtl) _ ⟨by simp [f3], by simp [f4], by simp [f6], by simp [f9], by simp [f11], by simp [f13], by omega⟩ (by simp)
     ·have ho2 : o ≠ 2 := by simpa using ho2
      have hnx : zlR ⟨o, a, b, c⟩ l q.length := by
       have hrow : ∀ z : Int, 0 ≤ z → z < i → (rowN l z).length = q.length + 1 := by
        intro z h1 h2
        obtain ⟨kz, rfl⟩ : ∃ kz : Nat, z = kz := ⟨z.toNat, by omega⟩
        have := hrl.row kz (by omega)
        rw [if_pos (by omega)] at this
        rw [this, hqk]
       rcases hins with h | h | h | h | h <;> simp only at h
       ·exact .inl h
       ·exact absurd h.1 ho2
       ·exact .inr (.inl h)
       ·exact .inr (.inr (.inl ⟨h.1, h.2.1, h.2.2.1, hrow _ h.2.2.1 h.2.2.2.1⟩))
       ·exact .inr (.inr (.inr ⟨h.1, h.2.1, h.2.2.1, h.2.2.2.2.1, hrow _ h.2.2.1 h.2.2.2.1, hrow _ h.2.2.2.2.1 h.2.2.2.2.2⟩))
      have hcv : zfr ⟨o, a, b, c⟩ out l t k i = za1 ⟨o, a, b, c⟩ l q t := by simp [zfr, ho2, hqr]
      rw [hcv, hqr] at hfin
      have hqv : allV q := hrl.val q (List.mem_of_getElem? hq)
      have hS := fun X : AH => ztK ⟨o, a, b, c⟩ (H.length + 3) cl l q v t hnx hrl.val hqv ht (by omega) (H ++ (J ++ X)) ((hM.app X).hl.rows (by rw [zce]; exact zad m3) (.inr rfl)) ((hM.app X).hl.own hv hq (.inr rfl))
      rw [hrl.len] at hS
      have hvc : v.cells = [v] := by
       rcases hM.hl.2 i v q hv hq with (⟨_, rfl⟩ | ⟨_, _, _, rfl⟩) | ⟨_, rfl, _⟩ <;> rfl
      simp only [AV.cells] at hvc
      have hJn : J ≠ [] := by rintro rfl; simp at hMl
      simp [f4, f6, f11, f14, h0', h1', ↓old h0', ↓old h1', hy, hyE, insA, m3, ↓old m3, hv, hvE, hcll, hlt, hvc]
      refine zdj (fun X => by
       have := hS ([.row true 2 [iv (0, 0)]] ++ X)
       simp [insA] at this ⊢
       exact this) ?_
      generalize za1 ⟨o, a, b, c⟩ l q t = z at *
      simp
      refine endD [(4, 12), (8, 12), (9, 12), (10, 12), (11, 12)] (by rfl) (by simp [okW, note, Eff.triv, Eff.wr, Eff.none, upTo, newAt, hJn]) ?_
      have hlF := hlF z
      have hM2 := hM2 z
      have hJl := hJl z
      simp
      simp only [zlf] at hlF hM2 hJl
      generalize hJ2 : J ++ [ABlk.row true 2 [.agg [.int .i64 z.1, .int .i64 z.2]]] = J2 at *
      have h16 : J2[J.length]? = some (.row true 2 [.agg [.int .i64 z.1, .int .i64 z.2]]) := by rw [← hJ2]; simp
      have n3 := hM2.h3
      have hJ2n : J2 ≠ [] := by rintro rfl; simp at hJl
      rcases hlF with (hn | ⟨hn, _⟩) | ⟨bl, rfl, g2l0, g5l, gtl⟩
      ·obtain ⟨h0q, rfl⟩ := hn
       subst h0q
       simp [f11, f14, hcll, hlt, hv, hvE, n3, h16]
       refine bind_some (zex (.inr rfl)) ?_
       simp [f11, f14, hcll, hlt, hv, hvE, n3, zad n3]
       refine endD [(4, 10), (5, 10), (9, 10)] (by rfl) (by simp [okW, note, Eff.triv, Eff.wr, Eff.none, upTo, newAt]; omega) ?_
       simp [f14, w2]
       exact hfin _ _ _ _ (by simp; omega) (hM2.lN (i := i) (q := []) (p := z) (by omega)) _ ⟨by simp [f3], by simp [f4], by simp [f6], by simp [f9], by simp [f11], by simp [f13], by omega⟩ (by simp)
      ·cases hn
      ·have hbl := (gI.1 g2l0).1
       have g2l : J2[bl]? = some (rowB q) := by rw [← hJ2]; exact zad g2l0
       have m4b : (J2.set bl (rowB (q ++ [z])))[3]? = some (.row true 1 cl) := by rw [List.getElem?_set_ne (by omega)]; exact n3
       simp [f11, f14, hcll, hlt, hv, hvE, n3, h16]
       refine bind_some (zca (by omega) (by simpa using g2l)) ?_
       simp [f11, f14, hcll, hlt, hv, hvE, m4b]
       refine endD [(4, 10), (5, 10), (9, 10)] (by rfl) (by simp [okW, note, Eff.triv, Eff.wr, Eff.none, upTo, newAt]; omega) ?_
       simp [f14, w2]
       exact hfin _ _ _ _ (by simp; omega) (hM2.lR (i := i) (q := q) (p := z) g2l g5l gtl) _ ⟨by simp [f3], by simp [f4], by simp [f6], by simp [f9], by simp [f11], by simp [f13], by omega⟩ (by simp)
    ·have hin : i = T.L.length := by have : ¬ i < T.L.length := by simpa using hc
                                     omega
     subst hin
     have hJ5' : 5 ≤ J.length := by rcases hJ5 with h | h <;> omega
     simp
     refine zag (SyO T x t order H k) (fun i => T.out.length - i) 0 ⟨⟨by simp [f3], by simp [f4], by simp [f6], by simp [f9], by simp [f11], by simp [f13], by omega⟩, by simp, by omega, J, tag, co, cl, rfl, hJ5', hM⟩ ?_
     clear f3 f4 f6 f9 f11 f13 f14 hM hJ5 hJ5' h0' hrl
     clear J tag co cl
     rintro i fr H1 ⟨⟨f3, f4, f6, f9, f11, f13, _⟩, f16, hi, J, tag, co, cl, rfl, hJ5, hM⟩
     have h0' := hM.h0
     simp only [tpA] at h0'
     simp [f4, f16, h0']
     obtain ⟨e3, e4⟩ := zaX hT hx ht (k + 1)
     have hro := ze2 hT e3.val e2 i (by rw [← hT.len]; exact hi)
     refine zak (fun hc => ?_) (fun hc => ?_)
     ·have hltn : i < T.n := by simpa using hc
      have hlt : i < T.out.length := by rw [hT.len]; exact hltn
      obtain ⟨y, hy⟩ := zaj hlt
      have hyE : ∀ h, T.out[i]'h = y := fun h => (gI.1 hy).2
      have hyl := hT.out y (List.mem_of_getElem? hy)
      have w2 : IntKind.i64.wrap ((i : Int) + 1) = ((i + 1 : Nat) : Int) := by rw [zae (by omega) (by omega)]; omega
      have hnext := zcx (l := (expS T x t (k + 1)).1) (out := (expS T x t k).2) (k := k) hy
      have hfin : ∀ (J' : AH) (tag' : Nat → Nat) (co' cl' : List AV), 5 ≤ J'.length → MemY T t H.length J' tag' co' cl' (zcG T (expS T x t (k + 1)).1 k (expS T x t k).2 (i + 1)) (expS T x t (k + 1)).1 → ∀ fr' : AFr, gK H T.n T.L.length order k fr' → fr' 16 = .int .i64 (i + 1 : Nat) → zkG (SyO T x t order H k) (fun i => T.out.length - i) i fr' (H ++ J') :=
       fun J' tag' co' cl' h5 hM' fr' g1 g2 => ⟨i + 1, by show T.out.length - (i + 1) < T.out.length - i; omega, g1, g2, by omega, J', tag', co', cl', rfl, h5, hM'⟩
      generalize hL : (expS T x t (k + 1)).1 = l at *
      generalize hO : zcG T l k (expS T x t k).2 i = out at *
      rw [hnext] at hfin
      have hil : i < out.length := by rw [hro.len]; exact hltn
      obtain ⟨q, hq⟩ := zaj hil
      have hqr : rowN out (i : Int) = q := zbc hq
      have hqk : q.length = k + 1 := by have := hro.row i hltn; rw [hqr, if_neg (by omega)] at this; exact this
      obtain ⟨v, hv⟩ := zaj (l := co) (i := i) (by rw [hM.ho.1]; exact hil)
      have hvE : ∀ h, co[i]'h = v := fun h => (gI.1 hv).2
      have hcol : co.length = T.n := by rw [hM.ho.1, hro.len]
      obtain ⟨r, hr⟩ := zaj (l := l) (i := y) (by rw [e3.len]; exact hyl)
      have hrr : rowN l (y : Int) = r := zbc hr
      have hrk : r.length = k + 1 := by have := e3.row y hyl; rw [hrr, if_neg (by omega)] at this; exact this
      obtain ⟨u, hu⟩ := zaj (l := cl) (i := y) (by rw [hM.hl.1, e3.len]; exact hyl)
      have huE : ∀ h, cl[y]'h = u := fun h => (gI.1 hu).2
      have hcll : cl.length = T.L.length := by rw [hM.hl.1, e3.len]
      obtain ⟨z, hz⟩ := zaj (l := r) (i := k) (by omega)
      have hzE : ∀ h, r[k]'h = z := fun h => (gI.1 hz).2
      have hzv : vB z = true := e3.val r (List.mem_of_getElem? hr) z (List.mem_of_getElem? hz)
      have hkk : (k : Int) < (k : Int) + 1 := by omega
      have hkn : k < k + 1 := by omega
      have hJn : J ≠ [] := by rintro rfl; simp at hJ5
      rw [hrr, hqr, show atN r k = z by simp [atN, hz]] at hfin
      have hoF := hM.ho.2 i v q hv hq
      have hlF := hM.hl.2 y u r hu hr
      have m2 := hM.h2
      have m3 := hM.h3
      rcases hlF with (⟨h0, _⟩ | ⟨h0, _⟩) | ⟨bl, hu', g2l, g5l, gtl⟩
      ·rw [h0] at hrk; simp at hrk
      ·cases h0
      subst hu'
      have g2l' := g2l
      have hbl := (gI.1 g2l).1
      simp only [rowB] at g2l'
      rcases hoF with (⟨h0, _⟩ | ⟨_, a, h0, hv'⟩) | ⟨bo, hv', g2o, g5o, gto⟩
      ·rw [h0] at hqk; simp at hqk
      ·subst hv'
       subst h0
       simp [f4, f9, f11, f13, f16, h0', hy, hyE, outA, m2, m3, hv, hvE, hu, huE, hcll, hcol, hltn, hyl, g2l', hz, hzE, hrk, hkk, hkn, wk]
       refine zac (fun Hx => by simpa using zgK z 1 ((k + 1 : Nat) : Int) hzv (by omega) (by omega) Hx) ?_
       generalize mulr z 1 (k + 1) = d at *
       simp
       refine bind_some zmm ?_
       simp [f9, f13, f16, hcol, hltn, hv, hvE, m2, zad m2]
       refine endD [(4, 23), (5, 23), (22, 23)] (by rfl) (by simp [okW, note, Eff.triv, Eff.wr, Eff.none, upTo, newAt, hJn]; omega) ?_
       simp [f16, w2]
       exact hfin _ _ _ _ (by simp; omega) (hM.oN (i := i) (q := [a]) (p := d) hJ5) _ ⟨by simp [f3], by simp [f4], by simp [f6], by simp [f9], by simp [f11], by simp [f13], by omega⟩ (by simp)
      ·subst hv'
       have hne2 : bo ≠ bl := by rintro rfl; omega
       simp [f4, f9, f11, f13, f16, h0', hy, hyE, outA, m2, m3, hv, hvE, hu, huE, hcll, hcol, hltn, hyl, g2l', hz, hzE, hrk, hkk, hkn, wk]
       refine zac (fun Hx => by simpa using zgK z 1 ((k + 1 : Nat) : Int) hzv (by omega) (by omega) Hx) ?_
       generalize mulr z 1 (k + 1) = d at *
       simp
       refine bind_some (zca (by omega) (by simpa using g2o)) ?_
       have m2b : (J.set bo (rowB (q ++ [d])))[2]? = some (.row true 1 co) := by rw [List.getElem?_set_ne (by omega)]; exact m2
       simp [f9, f13, f16, hcol, hltn, hv, hvE, m2b]
       refine endD [(4, 23), (5, 23), (22, 23)] (by rfl) (by simp [okW, note, Eff.triv, Eff.wr, Eff.none, upTo, newAt, hJn]; omega) ?_
       simp [f16, w2]
       exact hfin _ _ _ _ (by simp; omega) (hM.oR (i := i) (q := q) (p := d) g2o g5o gto) _ ⟨by simp [f3], by simp [f4], by simp [f6], by simp [f9], by simp [f11], by simp [f13], by omega⟩ (by simp)
     ·have hin : i = T.out.length := by have : ¬ i < T.n := by simpa using hc
                                        rw [hT.len] at hi ⊢; omega
      subst hin
      simp [f13, wk]
      exact ⟨k + 1, by show order - (k + 1) < order - k; omega, ⟨by simp [f3], by simp [f4], by simp [f6], by simp [f9], by simp [f11], by simp, by omega⟩, J, tag, co, cl, rfl, hM⟩
   ·have hkn : k = order := by have : ¬ k < order := by simpa using hc
                               omega
    subst hkn
    obtain ⟨_, e4⟩ := zaX hT hx ht k
    have hcf : za6 T x t k = (expS T x t k).2 := rfl
    rw [hcf] at g1 g2
    have hlen2 : ∀ q ∈ (expS T x t k).2, 2 ≤ q.length := fun q hq => by
     obtain ⟨j, hj⟩ := List.mem_iff_getElem?.1 hq
     have := e4.row j (by rw [← e4.len]; exact (gI.1 hj).1)
     rw [zbc hj, if_neg (by omega)] at this
     omega
    obtain ⟨σ, hσ⟩ := zka hM.ho hM.h2 (by omega) hlen2 (by rw [e4.len]; exact hd) hlen g1 g2 (by rw [e4.len]; exact g3)
    rw [e4.len] at hσ
    simp [f9]
    exact ⟨_, _, σ, hσ, finK (rs := [.tmp 8]) (vs := [.ref (H.length + 2) T.n]) (by rfl) (by simp [resA]) rfl⟩
theorem r9Coef' (T : Tp) (x : List I) (t : I) (order : Nat) (hT : tpOk T) (hx : allV x) (hxn : x.length = T.n) (hn : 1 ≤ T.n) (ht : vB t = true) (ho : 1 ≤ order ∧ order ≤ 1000) (H0 X : AH) :
  zaf E 126 [tpA T, bx x, iv t, .int .i64 order] (H0 ++ (zeD T.n ++ X)) (.ret (.ref H0.length T.n)) (H0 ++ (outJ H0.length (za6 T x t order) ++ X)) := by
 have hl := za4 (order := order) hT hx ht
 have ha := zeO H0 X (za6 T x t order)
 rw [hl] at ha
 refine ztM T x t order hT hx hxn hn ht ho _ _ H0.length (fun j hj => zoZ j hj) ha.1 (by simp [outJ]) (fun j q hq => zfb hq) (fun c hc h => ?_)
 rcases Nat.lt_or_ge c H0.length with h3 | h3
 ·exact zg7 h3
 ·exact zij (by rw [zaI, zaK, hl]) (by rw [zaI, hl]; omega)
def LRm (l : List (List I)) (order : Nat) (H : AH) (i : Nat) (fr : AFr) (H' : AH) : Prop :=
 fr 3 = .int .i64 order ∧ fr 9 = .ref H.length l.length ∧ fr 11 = .int .i64 i ∧ i ≤ l.length ∧
 ∃ J, H' = H ++ J ∧ J[0]? = some (.row true 1 (zbi H.length l)) ∧ (∀ (j : Nat) q, l[j]? = some q → J[1 + j]? = some (rowB q)) ∧ Acc H J (fr 10) 2 (((l.take i).map fun s => atN s (order + 1)).map iv) (.slice [] true) ∧ ∀ c n, c ≤ l.length → fr 10 ≠ .ref (H.length + c) n
theorem zjB (T : Tp) (b : List I) (t h : Int) (order : Nat) (hT : tpOk T) (hb : allV b) (hbn : b.length = T.n) (hn : 1 ≤ T.n) (hh : 0 ≤ h ∧ h ≤ 1000000000) (ht : -1000000000 ≤ t ∧ t ≤ 1000000000) (ho : order ≤ 900) (H : AH) :
  zaf E 127 [tpA T, bx b, .agg [.int .i64 t, .int .i64 h], .int .i64 order] H (.ret (bx (remS T b t h order))) H := by
 refine za8 (T.n + 1) zah zai Tryz.func127 rfl (by rfl) Tryz.ntmps127 (by kernel_rfl) (by simp) ?_
 rw [show List.replicate (T.n + 1) ABlk.dead = zeD T.n from rfl]
 have hsm := hT.small
 have htv : vB (t, t + h) = true := zas (by omega) (by omega) (by omega)
 have hS := r9Coef' T b (t, t + h) (order + 1) hT hb hbn hn htv (by omega)
 have hl := za4 (order := order + 1) hT hb htv
 have hrow := zdi (order := order + 1) hT hb htv
 unfold remS
 generalize hc : za6 T b (t, t + h) (order + 1) = l at *
 have w1 : IntKind.i64.wrap ((order : Int) + 1) = ((order + 1 : Nat) : Int) := by rw [zae (by omega) (by omega)]; omega
 have w2 : IntKind.i64.wrap (t + h) = t + h := zae (by omega) (by omega)
 simp [tpA, w1, w2]
 refine zaa (by
  have := hS H [.row true 3 [tpA T], .row true 2 [.agg [.int .i64 t, .int .i64 h]]]
  simp [tpA] at this ⊢
  exact this) ?_
 simp
 refine zag (LRm l order H) (fun i => l.length - i) 0 ⟨by simp, by simp [hl], by simp, by omega, _, rfl, by simp [outJ], fun j q hq => ?_, .inl ⟨by simp, by simp⟩, by simp⟩ ?_
 ·have := zfb (H0 := H) (X := [.row true 3 [.agg [.int .i64 T.n, .slice (T.L.map insA) false, outA T.out]], .row true 2 [.agg [.int .i64 t, .int .i64 h]]]) hq
  rw [Nat.add_assoc, zce] at this
  exact this
 rintro i fr H' ⟨g3, g9, g11, hi, J, rfl, hJ0, hJr, hacc, hne⟩
 have hJl := (gI.1 hJ0).1
 simp [g9, g11, hJ0, zbw]
 refine zak (fun hc => ?_) (fun hc => ?_)
 ·have hlt : i < l.length := by simpa using hc
  obtain ⟨q, hq⟩ := zaj hlt
  have hql := (hrow q (List.mem_of_getElem? hq)).1
  obtain ⟨z, hz⟩ := zaj (l := q) (i := order + 1) (by omega)
  have hzE : ∀ h, q[order + 1]'h = z := fun h => (gI.1 hz).2
  have hrf := zdd (p := H.length) hq
  have hrE : ∀ h, (zbi H.length l)[i]'h = .ref (H.length + 1 + i) q.length := fun h => (gI.1 hrf).2
  have hrow1 := hJr i q hq
  simp only [rowB] at hrow1
  have hrowH : (H ++ J)[H.length + 1 + i]? = some (.row true 2 (q.map iv)) := by rw [Nat.add_assoc, zce]; exact hrow1
  have w3 : IntKind.i64.wrap ((i : Int) + 1) = ((i + 1 : Nat) : Int) := by rw [zae (by omega) (by omega)]; omega
  have hft : (l.take (i + 1)).map (fun s => atN s (order + 1)) = (l.take i).map (fun s => atN s (order + 1)) ++ [z] := by rw [List.take_add_one, hq]; simp [atN, hz]
  have hlt2 : order + 1 < q.length := by omega
  have hltI : (order : Int) + 1 < q.length := by omega
  have h0o : (0 : Int) ≤ (order : Int) + 1 := by omega
  obtain ⟨v', J2, hap, hacc', hk', hle, hnew⟩ := Acc.push (T := tab) (t := 23) (e := 48) (x := .slice [iv z] true) (ys := [iv z]) hacc tab23 rfl tab48 rfl rfl (by simp [okc]) ⟨by decide, by simp⟩ (by simp; omega) (by simp; omega)
  simp [g3, g9, g11, hJ0, zbw, hlt, hrf, hrE, hrowH, hz, hzE, w1, hlt2, hltI, h0o]
  refine bind_some (by simpa using hap) ?_
  simp [g11, w3]
  refine ⟨i + 1, by show l.length - (i + 1) < l.length - i; omega, by simp [g3], by simp [g9], by simp, by omega, J2, rfl, hk' 0 _ hJ0 (fun n => hne 0 n (by omega)), fun j q hq => hk' (1 + j) _ (hJr j q hq) (fun n => hne (1 + j) n (by have := (gI.1 hq).1; omega)), by rw [hft]; simpa using hacc', ?_⟩
  intro c n hcl hv
  rcases hnew c n (by simpa using hv) with ⟨m, hm⟩ | hm
  ·exact hne c m hcl hm
  ·have : l.length < J.length := by
    cases hln : l.length with
    | zero => omega
    | succ k =>
     obtain ⟨q2, hq2⟩ := zaj (l := l) (i := k) (by omega)
     have := (gI.1 (hJr k q2 hq2)).1
     omega
   omega
 ·have hi' : i = l.length := by have : ¬ i < l.length := by simpa using hc
                                omega
  subst hi'
  rw [List.take_length] at hacc
  simp
  exact finS (t := 8) (by rfl) (by simp) hacc rfl (zaJ _ _)
end Go.Proofs.YtkghjlgpmeibhaaGreatDoor.Arm

namespace Go.Arm
open Go.RowKit
theorem zaf.deep0 {E : Env} {f : FuncId} {rest : List AV} {H H2 H' : AH} {e : AEnd} {c : Nat} {wr : Bool} {xs xs' : List AV} (hc : H[c]? = some (.row wr 1 xs)) (hk : (zbW H xs).2[c]? = some (.row wr 1 xs)) (hx : ∀ x ∈ xs, x.cells = [x]) (hx' : ∀ x ∈ (zbW H xs).1, x.cells = [x])
  (he : (zbW H xs).1 = xs') (hH : (zbW H xs).2.set c (.row false 1 xs') = H2) (h : zaf E f (.slice xs' false :: rest) H2 e H') : zaf E f (.ref c xs.length :: rest) H e H' := by
 refine ⟨h.1, fun F n hF G w vs hI hv => ?_⟩
 obtain ⟨G1, e1, i1⟩ := zoY hI hc hk hx hx'
 rw [he] at i1
 have hlt : c < (zbW H xs).2.length := (gI.1 hk).1
 obtain ⟨vs', hvs⟩ : ∃ l, vs.toList = l := ⟨_, rfl⟩
 rw [hvs] at hv
 cases vs' with
 | nil => have := hv.1; simp at this
 | cons v0 r0 =>
  obtain ⟨h1, h2⟩ := hv.uncons
  have hlen : xs'.length = xs.length := by rw [← he]; exact zcY xs H
  obtain ⟨G2, e2, i2, r2⟩ := zgr i1 (h1.mono e1)
  have hc1 : zc9 ((zbW H xs).2.set c (.row wr 1 xs')) (.ref c xs.length) = (.slice xs' false, H2) := by
   simp only [zc9]
   rw [List.getElem?_set_self hlt]
   simp only
   rw [if_pos hlen, List.set_set, hH]
  rw [hc1] at i2 r2
  have e12 : Ext G w G2 w := hI.trans e1 e2
  refine (h.2 F n hF G2 w vs i2 (by rw [hvs]; exact .cons r2 (h2.mono e12))).mono ?_
  rintro z w' ⟨G', e3, i3, hz⟩
  exact ⟨G', hI.trans e12 e3, i3, hz⟩
end Go.Arm

namespace Go.Proofs.YtkghjlgpmeibhaaGreatDoor.Arm
open Go.Arm Go.Pl
theorem zkZ (p : Nat) (l : List (List I)) : zbi p l = zdp (p + 1) l := by
 apply List.ext_getElem?
 intro j
 by_cases h : j < l.length
 ·rw [zdd (List.getElem?_eq_getElem h), zdW (List.getElem?_eq_getElem h)]
 ·rw [List.getElem?_eq_none (by rw [zbw]; omega), List.getElem?_eq_none (by rw [zdV]; omega)]
theorem znM (l : List (List I)) (h : I) (hl : ∀ s ∈ l, allV s ∧ s ≠ [] ∧ s.length ≤ 100000) (hn : l.length ≤ 1000) (hh : vB h = true) (H X : AH) :
  zaf E 129 [.ref H.length l.length, iv h] (H ++ (outJ H.length l ++ X)) (.ret (bx (zdA l h))) (H ++ (.row false 1 (l.map bx) :: (l.map rowF ++ X))) := by
 have e0 : H ++ (outJ H.length l ++ X) = (H ++ [.row true 1 (zdp (H.length + 1) l)]) ++ (l.map rowB ++ X) := by unfold outJ; rw [zkZ]; simp
 have hA : (H ++ [ABlk.row true 1 (zdp (H.length + 1) l)]).length = H.length + 1 := by simp
 have hcv := zfT l (H ++ [.row true 1 (zdp (H.length + 1) l)]) X
 rw [hA] at hcv
 rw [e0]
 have hln : l.length = (zdp (H.length + 1) l).length := (zdV l (H.length + 1)).symm
 have hg : ∀ Y : AH, (H ++ [ABlk.row true 1 (zdp (H.length + 1) l)] ++ Y)[H.length]? = some (.row true 1 (zdp (H.length + 1) l)) := fun Y => by simp
 have := (ztL l h hl hn hh (H ++ (.row false 1 (l.map bx) :: (l.map rowF ++ X))))
 rw [hln]
 refine zaf.deep0 (hg _) (by rw [hcv]; exact hg _) (fun x hx => ?_) (fun x hx => ?_) (by rw [hcv]) ?_ this
 ·obtain ⟨j, hj⟩ := List.mem_iff_getElem?.1 hx
  have hjl : j < l.length := by rw [hln]; exact (gI.1 hj).1
  have := zdW (p := H.length + 1) (List.getElem?_eq_getElem hjl)
  rw [hj] at this; cases this; rfl
 ·rw [hcv] at hx
  obtain ⟨q, _, rfl⟩ := List.mem_map.1 hx; rfl
 ·rw [hcv]
  have := zho (H := H) (J := .row true 1 (zdp (H.length + 1) l) :: (l.map rowF ++ X)) (b := 0) (y := .row false 1 (l.map bx))
  simp at this ⊢
def extR (p : Nat) (l : List (List I)) (i : Nat) : List AV := (List.range l.length).map fun j : Nat => .ref (p + 1 + j) (if j < i then (rowN l (j : Int)).length + 1 else (rowN l (j : Int)).length)
theorem zen (p : Nat) (l : List (List I)) (i : Nat) : (extR p l i).length = l.length := by simp [extR]
theorem zeo {p : Nat} {l : List (List I)} {i j : Nat} (h : j < l.length) : (extR p l i)[j]? = some (.ref (p + 1 + j) (if j < i then (rowN l (j : Int)).length + 1 else (rowN l (j : Int)).length)) := by
 unfold extR; rw [List.getElem?_map, List.getElem?_range h]; rfl
theorem zqr {p : Nat} {l : List (List I)} {i : Nat} (h : i < l.length) : (extR p l i).set i (.ref (p + 1 + i) ((rowN l (i : Int)).length + 1)) = extR p l (i + 1) := by
 apply List.ext_getElem?
 intro j
 by_cases hj : j < l.length
 ·by_cases hij : i = j
  ·subst hij; rw [List.getElem?_set_self (by rw [zen]; exact h), zeo h, if_pos (by omega)]
  ·rw [List.getElem?_set_ne hij, zeo hj, zeo hj]
   by_cases h1 : j < i
   ·rw [if_pos h1, if_pos (by omega)]
   ·rw [if_neg h1, if_neg (by omega)]
 ·rw [List.getElem?_eq_none (by rw [List.length_set, zen]; omega), List.getElem?_eq_none (by rw [zen]; omega)]
theorem zoM (p : Nat) (l : List (List I)) : extR p l 0 = zbi p l := by
 apply List.ext_getElem?
 intro j
 by_cases h : j < l.length
 ·rw [zeo h, if_neg (by omega), zdd (List.getElem?_eq_getElem h), zbc (List.getElem?_eq_getElem h)]
 ·rw [List.getElem?_eq_none (by rw [zen]; omega), List.getElem?_eq_none (by rw [zbw]; omega)]
theorem zqs (p : Nat) (l : List (List I)) (r : List I) : extR p l l.length = zbi p (zaB l r) := by
 apply List.ext_getElem?
 intro j
 by_cases h : j < l.length
 ·rw [zeo h, if_pos h, zdd (zeJ h)]; simp
 ·rw [List.getElem?_eq_none (by rw [zen]; omega), List.getElem?_eq_none (by rw [zbw, zbu]; omega)]
def mR (H X : AH) (l : List (List I)) (r : List I) (i k : Nat) : AH := H ++ (.row true 1 (extR H.length l k) :: (extB l r i ++ X))
section
variable {H X : AH} {l : List (List I)} {r : List I} {i k : Nat}
theorem zq8 : (mR H X l r i k)[H.length]? = some (.row true 1 (extR H.length l k)) := by
 have := zce (H := H) (J := .row true 1 (extR H.length l k) :: (extB l r i ++ X)) (b := 0)
 exact this
theorem zud {j : Nat} (h : j < l.length) : (mR H X l r i k)[H.length + 1 + j]? = (extB l r i)[j]? := by
 unfold mR
 rw [Nat.add_assoc, zce, Nat.add_comm 1 j, List.getElem?_cons_succ, List.getElem?_append_left (by rw [zbp]; exact h)]
theorem zuc (h : i < l.length) : (mR H X l r i k).set (H.length + 1 + i) (rowB (rowN l (i : Int) ++ [atN r i])) = mR H X l r (i + 1) k := by
 unfold mR
 rw [Nat.add_assoc, zho, Nat.add_comm 1 i, List.set_cons_succ, List.set_append_left _ _ (by rw [zbp]; exact h), zmc h]
theorem zsk (h : k < l.length) : (mR H X l r i k).set H.length (.row true 1 ((extR H.length l k).set k (.ref (H.length + 1 + k) ((rowN l (k : Int)).length + 1)))) = mR H X l r i (k + 1) := by
 unfold mR
 have := zho (H := H) (J := .row true 1 (extR H.length l k) :: (extB l r i ++ X)) (b := 0) (y := .row true 1 ((extR H.length l k).set k (.ref (H.length + 1 + k) ((rowN l (k : Int)).length + 1))))
 rw [Nat.add_zero] at this
 rw [this, zqr h]; rfl
theorem zp9 : mR H X l r 0 0 = H ++ (outJ H.length l ++ X) := by unfold mR outJ; rw [zkc, zoM]; rfl
theorem zue : mR H X l r l.length l.length = H ++ (outJ H.length (zaB l r) ++ X) := by unfold mR outJ; rw [zmd, zqs _ _ r]; rfl
end
def LEn (H X : AH) (b : List I) (part : AV) (l : List (List I)) (r : List I) (i : Nat) (fr : AFr) (H' : AH) : Prop :=
 fr 2 = bx b ∧ fr 7 = .ptr (H.length + (l.length + 1 + 1)) 1 0 0 ∧ fr 9 = .ref H.length l.length ∧ fr 10 = bx r ∧ fr 11 = .int .i64 i ∧ i ≤ l.length ∧ H' = mR H X l r i i
theorem zc2 (T : Tp) (x b : List I) (t h : Int) (part : I) (order : Nat) (hT : tpOk T) (hx : allV x) (hxn : x.length = T.n) (hn : 1 ≤ T.n) (hb : allV b) (hbn : b.length = T.n) (hh : 0 ≤ h ∧ h ≤ 1000000000) (ht : -1000000000 ≤ t ∧ t ≤ 1000000000) (hp : vB part = true) (ho : 1 ≤ order ∧ order ≤ 900) (H : AH) :
  zaf E 77 [tpA T, bx x, bx b, .agg [.int .i64 t, .int .i64 h, .int .i64 part.1, .int .i64 part.2, .int .i64 order]] H (.ret (bx (zaH T x b t h part order))) H := by
 refine za8 (T.n + 1) zah zai Tryz.func77 rfl (by rfl) Tryz.ntmps77 (by kernel_rfl) (by simp) ?_
 rw [show List.replicate (T.n + 1) ABlk.dead = zeD T.n from rfl]
 have hsm := hT.small
 have htv : vB (t, t + h) = true := zas (by omega) (by omega) (by omega)
 have htp : pt t = (t, t) := zhV (by omega)
 have htv2 : vB (t, t) = true := zas (by omega) (by omega) (by omega)
 have hR := zjB T b t h order hT hb hbn hn hh ht (by omega)
 have hC := r9Coef' T x (t, t) order hT hx hxn hn htv2 (by omega)
 have hl := za4 (order := order) hT hx htv2
 have hrows := zdi (order := order) hT hx htv2
 have hrv := zfG (order := order) hT hb htv
 have hrl := zlI (order := order) hT hb htv
 unfold zaH
 generalize za6 T x (t, t) order = l at *
 generalize remS T b t h order = r at *
 simp [tpA]
 refine zac (fun Hx => zeH t Hx) ?_
 rw [htp]
 simp
 refine zfu (r := .ref H.length T.n) (K := H ++ (outJ H.length l ++ [.row true 3 [tpA T], .row true 5 [.agg [.int .i64 t, .int .i64 h, .int .i64 part.1, .int .i64 part.2, .int .i64 order]]])) (by simp [zaI, zaK, hl]) (fun Y => by
  have := hC H ([.row true 3 [tpA T], .row true 5 [.agg [.int .i64 t, .int .i64 h, .int .i64 part.1, .int .i64 part.2, .int .i64 order]]] ++ Y)
  simp [tpA] at this ⊢
  exact this) ?_
 simp
 refine endD [(0, 7), (3, 7), (6, 7)] (by rfl) (by simp [okW, note, Eff.triv, Eff.wr, Eff.none, upTo, newAt, zaK, zaI, hl]) ?_
 simp [zaK, zaI, hl, tpA]
 refine zaa (by simpa [tpA] using hR _) ?_
 simp
 obtain ⟨X, hX⟩ : ∃ X : AH, X = [.row true 3 [.agg [.int .i64 T.n, .slice (T.L.map insA) false, outA T.out]], .row true 5 [.agg [.int .i64 t, .int .i64 h, .int .i64 part.1, .int .i64 part.2, .int .i64 order]]] := ⟨_, rfl⟩
 have hX1 : X[1]? = some (.row true 5 [.agg [.int .i64 t, .int .i64 h, .int .i64 part.1, .int .i64 part.2, .int .i64 order]]) := by rw [hX]; rfl
 rw [← hX]
 refine zag (LEn H X b (iv part) l r) (fun i => l.length - i) 0 ⟨by simp, by simp [hl], by simp [hl], by simp, by simp, by omega, by rw [zp9]⟩ ?_
 rintro i fr H1 ⟨g2, g7, g9, g10, g11, hi, rfl⟩
 have a0 := zq8 (H := H) (X := X) (l := l) (r := r) (i := i) (k := i)
 have hll := zen H.length l i
 simp [g9, g11, a0, hll]
 refine zak (fun hc => ?_) (fun hc => ?_)
 ·have hlt : i < l.length := by simpa using hc
  obtain ⟨q, hqi⟩ := zaj hlt
  obtain ⟨z, hz⟩ := zaj (l := r) (i := i) (by omega)
  have hzE : ∀ h, r[i]'h = z := fun h => (gI.1 hz).2
  have hrow : rowN l (i : Int) = q := zbc hqi
  have hza : atN r i = z := by simp [atN, hz]
  have hrg := zeo (p := H.length) (i := i) hlt
  rw [if_neg (by omega), hrow] at hrg
  have hrE : ∀ h, (extR H.length l i)[i]'h = .ref (H.length + 1 + i) q.length := fun h => (gI.1 hrg).2
  have w2 : IntKind.i64.wrap ((i : Int) + 1) = ((i + 1 : Nat) : Int) := by rw [zae (by omega) (by omega)]; omega
  have a1 := zud (H := H) (X := X) (l := l) (r := r) (i := i) (k := i) hlt
  rw [zdz hlt, if_neg (by omega), hrow] at a1
  have a3 := zuc (H := H) (X := X) (l := l) (r := r) (i := i) (k := i) hlt
  rw [hrow, hza] at a3
  have a4 := zq8 (H := H) (X := X) (l := l) (r := r) (i := i + 1) (k := i)
  have a5 := zsk (H := H) (X := X) (l := l) (r := r) (i := i + 1) (k := i) hlt
  rw [hrow] at a5
  have hfin : ∀ fr' : AFr, fr' 2 = bx b → fr' 7 = .ptr (H.length + (l.length + 1 + 1)) 1 0 0 → fr' 9 = .ref H.length l.length → fr' 10 = bx r → fr' 11 = .int .i64 (i + 1 : Nat) → zkG (LEn H X b (iv part) l r) (fun i => l.length - i) i fr' (mR H X l r (i + 1) (i + 1)) :=
   fun fr' h1 h2 h3 h4 h5 => ⟨i + 1, by show l.length - (i + 1) < l.length - i; omega, h1, h2, h3, h4, h5, by omega, rfl⟩
  rw [← a5] at hfin
  have hql := (hrows q (List.mem_of_getElem? hqi)).1
  have hirl : i < r.length := by omega
  generalize mR H X l r (i + 1) i = M1 at *
  generalize mR H X l r i i = M2 at *
  generalize extR H.length l i = C at *
  simp [g9, g10, g11, a0, hll, hlt, hrg, hrE, bx, hz, hzE, hirl]
  refine bind_some (zca (by omega) a1) ?_
  rw [a3]
  simp [g9, g11, a4, hll, hlt, hrg, hrE]
  refine endD [(4, 13), (5, 13), (12, 13)] (by rfl) (by simp [okW, note, Eff.triv, Eff.wr, Eff.none, upTo, newAt]; omega) ?_
  simp [g11, w2]
  exact hfin _ (by simp [g2]) (by simp [g7]) (by simp [g9]) (by simp [g10, bx]) (by simp)
 ·have hi' : i = l.length := by have : ¬ i < l.length := by simpa using hc
                                omega
  subst hi'
  rw [zue] at a0 ⊢
  have hw1 := zdP hrows hrv
  have hw2 := zbu l r
  generalize hw : zaB l r = l' at *
  have hE := znM l' part (fun q hq => ⟨(hw1 q hq).2, by intro h; have := (hw1 q hq).1; rw [h] at this; simp at this, by rw [(hw1 q hq).1]; omega⟩) (by omega) hp H X
  have hel := zha l' part
  rw [hw2] at hE
  generalize zdA l' part = e at *
  have hXg : (H ++ (outJ H.length l' ++ X))[H.length + (l.length + 1 + 1)]? = some (.row true 5 [.agg [.int .i64 t, .int .i64 h, .int .i64 part.1, .int .i64 part.2, .int .i64 order]]) := by
   rw [zce, List.getElem?_append_right (by rw [zaI]; omega), zaI, hw2, Nat.add_sub_cancel_left]; exact hX1
  generalize H ++ (outJ H.length l' ++ X) = M3 at *
  simp [g2, g7, g9, hXg]
  refine zaa (by simpa using hE) ?_
  simp [g2]
  refine zaa (by simpa using ziy e b (by omega) (by omega) _) ?_
  simp
  exact fin1 (rs := [.tmp 8]) (by rfl) (by simp [resA]) (by simp only [bx, noF, zaJ])
theorem zdZ (T : Tp) (x : List I) (t h : Int) (order : Nat) (hT : tpOk T) (hx : allV x) (hxn : x.length = T.n) (hn : 1 ≤ T.n) (hh : 0 ≤ h ∧ h ≤ 1000000000) (ht : -1000000000 ≤ t ∧ t ≤ 1000000000) (ho : 1 ≤ order ∧ order ≤ 900) (H : AH) :
  zaf E 55 [tpA T, bx x, .agg [.int .i64 t, .int .i64 h], .int .i64 order] H (.ret (sgO (zcW T x t h order))) H := by
 refine zab zah zai Tryz.func55 rfl (by rfl) Tryz.ntmps55 (by kernel_rfl) (by simp) ?_
 have hsm := hT.small
 have hE := zmM T x t h hT hx hxn hh ht
 unfold zcW
 cases hr : zeU T x t h with
 | none =>
  rw [hr] at hE
  simp [tpA]
  refine zaa (by simpa [tpA] using hE _) ?_
  simp [encA]
  exact ⟨[zsA, .bool false], [zsA, .bool false], by simp [show (Tryz.f55).results.toList = [.cell 8 37, .tmp 9] from rfl, resA, zsA], .drop (by simp [noFs, noF, zsA]), rfl⟩
 | some b =>
  rw [hr] at hE
  obtain ⟨hbv, hbl⟩ := zqx hx hr
  have hp1 : vB (0, h) = true := zas (by omega) (by omega) (by omega)
  have hp2 : vB (h, h) = true := zas (by omega) (by omega) (by omega)
  have hph : pt h = (h, h) := zhV (by omega)
  have k1 := zke (order := order) hT hx hbv hh ht hp1
  have k2 := zke (order := order) hT hx hbv hh ht hp2
  have hA := zc2 T x b t h (0, h) order hT hx hxn hn hbv (by omega) hh ht hp1 ho
  have hB := zc2 T x b t h (h, h) order hT hx hxn hn hbv (by omega) hh ht hp2 ho
  simp only
  generalize zaH T x b t h (0, h) order = A at *
  generalize zaH T x b t h (h, h) order = B at *
  simp [tpA]
  refine zaa (by simpa [tpA] using hE _) ?_
  simp [encA]
  refine zaa (by simpa [tpA] using hA _) ?_
  simp
  refine zac (fun Hx => zeH h Hx) ?_
  rw [hph]
  simp
  refine zac (fun Hx => by simpa [tpA] using hB Hx) ?_
  simp
  refine endD [] (by rfl) (by simp [okW, note, Eff.triv, Eff.wr, Eff.none, upTo, newAt]) ?_
  simp
  refine zaa (by simpa using zf4 A (by omega) _) ?_
  simp
  cases m1 : zaP A with
  | false =>
   simp
   exact ⟨[zsA, .bool false], [zsA, .bool false], by simp [show (Tryz.f55).results.toList = [.cell 8 37, .tmp 9] from rfl, resA, zsA], .drop (by simp [noFs, noF, zsA]), rfl⟩
  | true =>
   simp
   refine zaa (by simpa using zf4 B (by omega) _) ?_
   simp
   cases m2 : zaP B with
   | false =>
    simp
    exact ⟨[zsA, .bool false], [zsA, .bool false], by simp [show (Tryz.f55).results.toList = [.cell 8 37, .tmp 9] from rfl, resA, zsA], .drop (by simp [noFs, noF, zsA]), rfl⟩
   | true =>
    simp [bx]
    exact ⟨[sgA ⟨t, h, x, b, A, B⟩, .bool true], [sgA ⟨t, h, x, b, A, B⟩, .bool true], by simp [show (Tryz.f55).results.toList = [.cell 8 37, .tmp 9] from rfl, resA, sgA, bx], .drop (by simp only [noFs, noF, sgA, bx, zaJ, Bool.and_self]), rfl⟩
def mx (A : List (List I)) : AV := .slice (A.map bx) false
def at2 (ks : List Nat) : AV := .agg [.int .i64 ((ks[0]?).getD 0 : Nat), .int .i64 ((ks[1]?).getD 0 : Nat)]
def LCm (a : Ex) (r : List Nd) (l : List Ins) (H : AH) (i : Nat) (fr : AFr) (H' : AH) : Prop :=
 fr 0 = xs (serL ((kids a).drop i) ++ r) ∧ fr 1 = lA (cmpK ((kids a).take i) l).1 ∧ fr 7 = .ptr H.length 1 0 0 ∧ fr 8 = .ptr (H.length + 1) 1 0 0 ∧ fr 9 = .ptr (H.length + 2) 1 0 0 ∧ fr 10 = .int .i64 i ∧ i ≤ (kids a).length ∧
 H' = H ++ [.row true 4 [nd (zan a)], .row true 5 [insA ⟨(zan a).op, 0, 0, (0, 0)⟩], .row true 2 [at2 (cmpK ((kids a).take i) l).2]]
theorem zgO : ∀ (n : Nat) (a : Ex) (r : List Nd) (l : List Ins), sz a ≤ n → sz a + r.length ≤ 1000000 → l.length + sz a ≤ 100000 → ∀ H, zaf E 59 [xs (ser a ++ r), lA l] H (.ret (.tuple [lA (cmpS a l).1, .int .i64 (cmpS a l).2, xs r])) H
 | 0, a, r, l, hn, hl, hll, H => by have := zcE a; omega
 | n + 1, a, r, l, hn, hl, hll, H => by
  refine zab zah zai Tryz.func59 rfl (by rfl) Tryz.ntmps59 (by kernel_rfl) (by simp) ?_
  have hp := zcE a
  have hget : (ser a ++ r)[0]? = some (zan a) := by rw [zcl]; rfl
  have hmap : ((ser a ++ r).map nd)[0]? = some (nd (zan a)) := by rw [List.getElem?_map, hget]; rfl
  have hmapE : ∀ h, ((ser a ++ r).map nd)[0]'h = nd (zan a) := fun h => (gI.1 hmap).2
  have hlen : (ser a ++ r).length = sz a + r.length := by simp [sz]
  have hk := zd5 a
  have har := zdk a
  have hsk := zik a
  have hd1 : (ser a ++ r).drop 1 = serL (kids a) ++ r := by rw [zcl]; simp
  have ih : ∀ (k : Ex) (i : Nat) (r' : List Nd) (l' : List Ins), (kids a)[i]? = some k → sz k + r'.length ≤ 1000000 → l'.length + sz k ≤ 100000 → ∀ H, zaf E 59 [xs (ser k ++ r'), lA l'] H (.ret (.tuple [lA (cmpS k l').1, .int .i64 (cmpS k l').2, xs r'])) H := fun k i r' l' hi hb hb2 H =>
   zgO n k r' l' (by have := zf6 hi; omega) hb hb2 H
  unfold xs
  generalize hL : ser a ++ r = L at *
  simp [hmap, hmapE]
  refine endD [(9, 12), (10, 13), (11, 14)] (by rfl) (by simp [okW, note, Eff.triv, Eff.wr, Eff.none, upTo, newAt]) ?_
  simp
  refine zaY (zcU fun _ => rfl) ?_
  refine zaY (by omega) ?_
  have htail : (List.take L.length (L.map nd)).tail = (serL (kids a) ++ r).map nd := by rw [List.take_of_length_le (by simp), ← List.drop_one, ← List.map_drop, hd1]
  rw [htail]
  simp
  refine zag (LCm a r l H) (fun i => (kids a).length - i) 0 ⟨by simp [xs], by simp [cmpK], by simp, by simp, by simp, by simp, by omega, by simp [insA, at2, cmpK, nd]⟩ ?_
  rintro i fr H' ⟨g0, g1, g7, g8, g9, g10, hi, rfl⟩
  simp [g7, g10, nd]
  refine zaa (zrW _ _) ?_
  rw [har]
  simp [g10]
  refine zak (fun hc => ?_) (fun hc => ?_)
  ·have hlt : i < (kids a).length := by simpa using hc
   obtain ⟨k, hki⟩ := zaj hlt
   have hd := ze5 hki
   have htk : (kids a).take (i + 1) = (kids a).take i ++ [k] := by rw [List.take_add_one, hki]; rfl
   have w2 : IntKind.i64.wrap ((i : Int) + 1) = ((i + 1 : Nat) : Int) := by rw [zae (by omega) (by omega)]; omega
   have hcl := zi8 ((kids a).take i) l
   have hsl : (serL ((kids a).take i)).length + (ser k).length + (serL ((kids a).drop (i + 1))).length ≤ sz a := by
    have h1 := congrArg List.length (zdb (kids a) i)
    rw [hd] at h1
    simp only [List.length_append] at h1
    omega
   have hszk : sz k = (ser k).length := rfl
   simp [g0, g1, g10]
   have hS := ih k i (serL ((kids a).drop (i + 1)) ++ r) (cmpK ((kids a).take i) l).1 hki (by simp only [List.length_append]; omega) (by omega)
   rw [← List.append_assoc, ← hd] at hS
   have hsn := zkl ((kids a).take i) k l
   have hql : (cmpK ((kids a).take i) l).2.length = i := by rw [hcl.2]; simp; omega
   rw [← htk] at hsn
   refine zaa (hS _) ?_
   have wr1 : IntKind.i64.wrap 1 = 1 := zae (by decide) (by decide)
   have wr2 : IntKind.i64.wrap 2 = 2 := zae (by decide) (by decide)
   have hi01 : i = 0 ∨ i = 1 := by omega
   rcases hi01 with rfl | rfl
   ·simp only [List.take_zero] at hsn hql ⊢
    simp [g9, g10, at2, cmpK, wr1]
    refine ⟨1, by show (kids a).length - 1 < (kids a).length - 0; omega, by simp [xs], by simp [hsn, cmpK], by simp [g7], by simp [g8], by simp [g9], by simp, by omega, ?_⟩
    simp [hsn, cmpK, at2]
   ·generalize cmpK ((kids a).take 1) l = q at *
    obtain ⟨q1, q2⟩ := q
    simp only at hql hsn ⊢
    obtain ⟨k0, rfl⟩ : ∃ k0, q2 = [k0] := by
     match q2, hql with
     | [k0], _ => exact ⟨k0, rfl⟩
    simp [g9, g10, at2, wr2]
    refine ⟨2, by show (kids a).length - 2 < (kids a).length - 1; omega, by simp [xs], by simp [hsn], by simp [g7], by simp [g8], by simp [g9], by simp, by omega, ?_⟩
    simp [hsn, at2]
  ·have hi' : i = (kids a).length := by have : ¬ i < (kids a).length := by simpa using hc
                                        omega
   subst hi'
   rw [List.take_length] at g1
   rw [List.drop_length] at g0
   have hce := zll a l
   have hcl := zi8 (kids a) l
   simp only [List.take_length]
   generalize cmpK (kids a) l = q at *
   obtain ⟨q1, q2⟩ := q
   simp only at hce hcl g1 ⊢
   have hq1 : q1.length ≤ 100000 := by omega
   have hfin : ∀ (fr : AFr) (J : AH), fr 0 = xs r → fr 4 = lA (zbr q1 (zeB a q2)).1 → fr 5 = .int .i64 (zbr q1 (zeB a q2)).2 → fr 6 = xs r →
     zbN E Tryz.f59 H (.ret (.tuple [lA (cmpS a l).1, .int .i64 (cmpS a l).2, xs r])) H .ret fr (H ++ J) := by
    intro fr J h0 h4 h5 h6
    rw [hce]
    have hsl : lA (zbr q1 (zeB a q2)).1 = .slice ((zbr q1 (zeB a q2)).1.map insA) false := by unfold lA; rw [if_neg (zi3 _ _)]
    rw [hsl] at h4 ⊢
    exact finC (J := J) (J' := J) (rs := [.tmp 4, .tmp 5, .tmp 6]) (vs := [.slice ((zbr q1 (zeB a q2)).1.map insA) false, .int .i64 (zbr q1 (zeB a q2)).2, xs r]) (vs' := [.slice ((zbr q1 (zeB a q2)).1.map insA) false, .int .i64 (zbr q1 (zeB a q2)).2, xs r]) (by rfl) (by simp [resA, h4, h5, h6]) (by simp [xs]) (by simp [noFs, noF, zgm, xs, zaE, nd]) rfl
   have hE : ∀ v, v = insA (zeB a q2) → ∀ H, zaf E 105 ([lA q1, v] ++ []) H (.ret (.tuple [lA (zbr q1 (zeB a q2)).1, .int .i64 (zbr q1 (zeB a q2)).2])) H := fun v hv H => by subst hv; exact ztP q1 (zeB a q2) hq1 H
   by_cases o1 : (zan a).op = 1
   ·simp [g1, g7, g8, g9, at2, insA, o1]
    refine zaa (hE _ ?_ _) ?_
    ·simp [insA, zeB, o1]
    simp [g0]
    exact hfin _ _ (by simp [g0, serL, xs]) (by simp) (by simp) (by simp [g0, serL, xs])
   ·by_cases o2 : (zan a).op = 2
    ·simp [g1, g7, g8, g9, at2, insA, o1, o2]
     refine zaa (hE _ ?_ _) ?_
     ·simp [insA, zeB, o1, o2]
     simp [g0]
     exact hfin _ _ (by simp [g0, serL, xs]) (by simp) (by simp) (by simp [g0, serL, xs])
    ·have o1' : ((zan a).op == 1) = false := by simp [o1]
     have o2' : ((zan a).op == 2) = false := by simp [o2]
     simp [g1, g7, g8, g9, at2, insA, o1', o2']
     refine zaa (hE _ ?_ _) ?_
     ·simp [insA, zeB, o1, o2]
     simp [g0]
     exact hfin _ _ (by simp [g0, serL, xs]) (by simp) (by simp) (by simp [g0, serL, xs])
theorem zeX : ∀ (F : List Ex) (e : Ex) (s : List Ins × List Nat), za0 (F ++ [e]) s = ((cmpS e (za0 F s).1).1, (za0 F s).2 ++ [(cmpS e (za0 F s).1).2])
 | [], e, s => rfl
 | a :: F, e, s => by simp only [List.cons_append, za0, zeX F e]
theorem zif : ∀ (F : List Ex) (s : List Ins × List Nat), (za0 F s).1.length ≤ s.1.length + (F.map sz).sum ∧ (za0 F s).2.length = s.2.length + F.length
 | [], s => by simp [za0]
 | e :: r, s => by
  have h1 := zfs e s.1
  have h2 := zif r ((cmpS e s.1).1, s.2 ++ [(cmpS e s.1).2])
  simp only [za0, List.map_cons, List.sum_cons, List.length_append, List.length_cons, List.length_nil] at h2 ⊢
  omega
theorem zsM (e : Ex) (l : List Ins) : (cmpS e l).1 ≠ [] := by rw [zll]; exact zi3 _ _
theorem zlV (e : Ex) (l : List Ins) : lA (cmpS e l).1 = .slice ((cmpS e l).1.map insA) false := by unfold lA; rw [if_neg (zsM _ _)]
def cSt (s : Sys) (q : List Ins × List Nat) (o : AV) : AV := .agg [.int .i64 s.f.length, lA q.1, o]
def LCp (s : Sys) (H : AH) (i : Nat) (fr : AFr) (H' : AH) : Prop :=
 fr 1 = .ptr H.length 1 0 0 ∧ fr 2 = .ptr (H.length + 1) 1 0 0 ∧ fr 3 = .ptr (H.length + 2) 1 0 0 ∧ fr 4 = .int .i64 i ∧ i ≤ s.f.length ∧
 ((i = 0 ∧ H' = H ++ [.row true 2 [sys s], .row true 3 [.agg [.int .i64 0, .nilslice, .nilslice]], .row true 3 [cSt s ([], []) .nilslice]]) ∨
  (0 < i ∧ H' = H ++ [.row true 2 [sys s], .row true 3 [.agg [.int .i64 0, .nilslice, .nilslice]], .row true 3 [cSt s (za0 (s.f.take i) ([], [])) (.ref (H.length + 3) i)], .row true 1 ((za0 (s.f.take i) ([], [])).2.map fun k : Nat => .int .i64 (k : Int))]))
theorem zgP (s : Sys) (hn : 0 < s.f.length ∧ s.f.length ≤ 6) (hf : ∀ e ∈ s.f, sz e ≤ 31) (H : AH) : zaf E 17 [sys s] H (.ret (tpA (cmpT s.f))) H := by
 refine zab zah zai Tryz.func17 rfl (by rfl) Tryz.ntmps17 (by kernel_rfl) (by simp) ?_
 simp [sys]
 refine zag (LCp s H) (fun i => s.f.length - i) 0 ⟨by simp, by simp, by simp, by simp, by omega, .inl ⟨rfl, by simp [sys, cSt, lA]⟩⟩ ?_
 rintro i fr H' ⟨g1, g2, g3, g4, hi, hmem⟩
 have hsum : ∀ j, ((s.f.take j).map sz).sum ≤ 31 * j := by
  intro j
  have : ∀ (l : List Ex), (∀ e ∈ l, sz e ≤ 31) → (l.map sz).sum ≤ 31 * l.length := by
   intro l
   induction l with
   | nil => intro _; simp
   | cons a r ih => intro h; have := ih fun e he => h e (by simp [he]); have := h a (by simp); simp; omega
  have h1 := this (s.f.take j) fun e he => hf e (List.mem_of_mem_take he)
  have h2 : (s.f.take j).length ≤ j := by simp; omega
  omega
 have hcl := zif (s.f.take i) ([], [])
 have hsi := hsum i
 simp only [List.length_nil, Nat.zero_add] at hcl
 rcases hmem with ⟨rfl, rfl⟩ | ⟨hpos, rfl⟩
 ·obtain ⟨e, he⟩ := zaj (l := s.f) (i := 0) hn.1
  have heE : ∀ h, s.f[0]'h = e := fun h => (gI.1 he).2
  have hft : s.f.take 1 = [e] := by rw [List.take_add_one, he]; rfl
  have hc0 : (decide ((0 : Int) < (s.f.length : Int))) = true := by simp; omega
  have hS := zgO (sz e) e [] [] (Nat.le_refl _) (by have := hf e (List.mem_of_getElem? he); simp; omega) (by have := hf e (List.mem_of_getElem? he); simp; omega)
  rw [List.append_nil, zlV] at hS
  have hcf : za0 [e] ([], []) = ((cmpS e []).1, [(cmpS e []).2]) := rfl
  have wr1 : IntKind.i64.wrap 1 = 1 := zae (by decide) (by decide)
  simp [g1, g3, g4, sys, hn.1, he, heE, cSt, lA, xs]
  refine zac (fun Hx => by simpa [xs, show lA [] = AV.nilslice from rfl] using hS Hx) ?_
  simp
  refine endD [] (by rfl) (by simp [okW, note, Eff.triv, Eff.wr, Eff.none, upTo, newAt]) ?_
  simp [g3]
  refine bind_some (zfx (x := .int .i64 (cmpS e []).2) tab43 rfl tab3 rfl (by simp [okc]) rfl (by decide)) ?_
  simp [g3, g4, wr1]
  refine ⟨1, by show s.f.length - 1 < s.f.length - 0; omega, by simp [g1], by simp [g2], by simp [g3], by simp, by omega, .inr ⟨by decide, ?_⟩⟩
  rw [hft, hcf]
  simp [sys, cSt, zlV, xs]
 ·simp [g1, g3, g4, sys, cSt]
  refine zak (fun hc => ?_) (fun hc => ?_)
  ·have hlt : i < s.f.length := by simpa using hc
   obtain ⟨e, he⟩ := zaj hlt
   have heE : ∀ h, s.f[i]'h = e := fun h => (gI.1 he).2
   have hft : s.f.take (i + 1) = s.f.take i ++ [e] := by rw [List.take_add_one, he]; rfl
   have hsz := hf e (List.mem_of_getElem? he)
   have w2 : IntKind.i64.wrap ((i : Int) + 1) = ((i + 1 : Nat) : Int) := by rw [zae (by omega) (by omega)]; omega
   have hsn := zeX (s.f.take i) e ([], [])
   rw [← hft] at hsn
   have hq2 : (za0 (s.f.take i) ([], [])).2.length = i := by rw [hcl.2]; simp; omega
   generalize za0 (s.f.take i) ([], []) = q at *
   have hS := zgO (sz e) e [] q.1 (Nat.le_refl _) (by simp; omega) (by omega)
   rw [List.append_nil, zlV] at hS
   simp [g1, g3, g4, sys, he, heE, cSt, xs]
   refine zac (fun Hx => by simpa [xs] using hS Hx) ?_
   simp
   refine endD [] (by rfl) (by simp [okW, note, Eff.triv, Eff.wr, Eff.none, upTo, newAt]) ?_
   simp [g3]
   refine bind_some (zeZ (n := i) (x := .int .i64 (cmpS e q.1).2) (l := q.2.map fun k : Nat => .int .i64 (k : Int)) tab43 rfl tab3 rfl (by simp [okc]) rfl (by decide) (by simp [hq2]) (by omega) (by simp)) ?_
   simp [g3, g4, w2]
   refine ⟨i + 1, by show s.f.length - (i + 1) < s.f.length - i; omega, by simp [g1], by simp [g2], by simp [g3], by simp, by omega, .inr ⟨by omega, ?_⟩⟩
   rw [hsn]
   simp [sys, cSt, zlV, xs]
  ·have hi' : i = s.f.length := by have : ¬ i < s.f.length := by simpa using hc
                                   omega
   subst hi'
   rw [List.take_length] at hcl hsi ⊢
   have hq2 := hcl.2
   have hct : cmpT s.f = ⟨s.f.length, (za0 s.f ([], [])).1, (za0 s.f ([], [])).2⟩ := rfl
   rw [hct]
   have hql : (za0 s.f ([], [])).1.length ≤ 400 := by omega
   have hqe : (za0 s.f ([], [])).1 ≠ [] := by
    intro h0
    obtain ⟨F, e, hFe⟩ : ∃ F e, s.f = F ++ [e] := ⟨s.f.dropLast, s.f.getLast (by intro h; rw [h] at hn; simp at hn), (List.dropLast_concat_getLast _).symm⟩
    rw [hFe, zeX] at h0
    simp only [zll] at h0
    exact zi3 _ _ h0
   generalize za0 s.f ([], []) = q at *
   have hlq : lA q.1 = .slice (q.1.map insA) false := by unfold lA; rw [if_neg hqe]
   have hgt : ¬ (400 : Int) < (q.1.length : Int) := by omega
   simp [g2, g3, hlq, hgt]
   exact finC (rs := [.cell 2 45]) (vs := [.agg [.int .i64 s.f.length, .slice (q.1.map insA) false, .ref (H.length + 3) s.f.length]]) (vs' := [tpA ⟨s.f.length, q.1, q.2⟩]) (by rfl) (by simp [resA, g2]) (by simp [tpA, outA, hq2]; rfl) (by simp [tpA, outA, noFs, noF, zgm, zaE]) rfl
structure Iq where
 F : List (List Nd)
 X : List I
 gt : Int
 gh : Int
 gu : List Nd
 dir : Int
 least : Int
 n : Int
 k : Int
structure IqOk (q : Iq) : Prop where
 hF : ∀ r ∈ q.F, r.length ≤ 200000000000000
 hF2 : q.F.length ≤ 200000000000000
 hX : q.X.length ≤ 200000000000000
 hg : q.gu.length ≤ 200000000000000
 hd : -128 ≤ q.dir ∧ q.dir ≤ 127
 hn : 0 ≤ q.n ∧ q.n ≤ 255
 hk : 0 ≤ q.k ∧ q.k ≤ 255
def iqA (q : Iq) : AV := .agg [.slice (q.F.map xs) false, bx q.X, .int .i64 q.gt, .int .i64 q.gh, xs q.gu, .int .i8 q.dir, .int .i64 q.least, .int .u8 q.n, .int .u8 q.k]
def iqN (q : Iq) : Nat := (1 + q.n.tmod 2).toNat
def iqO (q : Iq) : Nat := (1 + q.k.tmod 3).toNat
def iqS (q : Iq) : Sys := ⟨nms.take (iqN q), mds q.F 5 (iqN q) (iqN q)⟩
def iqT (q : Iq) : Tp := cmpT (mds q.F 5 (iqN q) (iqN q))
def iqX (q : Iq) : List I := nrb q.X 4096 (iqN q)
def iqG (q : Iq) : Gd := zlS q.gu q.dir (iqN q)
def zh3 (q : Iq) : Option Sg := zcW (iqT q) (iqX q) (tm12 q.gt) (hh12 q.gh) (iqO q)
def iqL (q : Iq) : Int := resS q.least (hh12 q.gh)
theorem zjX {q : Iq} (h : IqOk q) : ((iqN q : Int) = 1 + q.n.tmod 2 ∧ 1 ≤ iqN q ∧ iqN q ≤ 2) ∧ ((iqO q : Int) = 1 + q.k.tmod 3 ∧ 1 ≤ iqO q ∧ iqO q ≤ 3) := by
 have h1 := Int.tmod_nonneg 2 h.hn.1
 have h2 := Int.tmod_lt_of_pos q.n (b := 2) (by decide)
 have h3 := Int.tmod_nonneg 3 h.hk.1
 have h4 := Int.tmod_lt_of_pos q.k (b := 3) (by decide)
 unfold iqN iqO
 omega
theorem zmi {F : List Ex} (h : F.length ≤ 1000) (hw : ∀ e ∈ F, wf F.length e = true) (hz : (F.map sz).sum ≤ 100000) : tpOk (cmpT F) := by
 obtain ⟨h1, h2, h3, h4⟩ := zkm (F := F) (s := ([], [])) hw (fun i x hx => by simp at hx) (fun k hk => by simp at hk)
 exact ⟨h1, by simpa [cmpT] using h3, h2, h, by simp at h4; show (za0 F ([], [])).1.length ≤ 100000; omega⟩
theorem zrD {l : List Nat} {c : Nat} (h : ∀ x ∈ l, x ≤ c) : l.sum ≤ l.length * c := by
 induction l with
 | nil => simp
 | cons a l ih =>
  have h1 := ih fun x hx => h x (by simp [hx])
  have h2 := h a (by simp)
  simp only [List.sum_cons, List.length_cons]
  rw [Nat.add_mul]; omega
theorem ziI {l : List (List Nd)} {most N i : Nat} (hN : 0 < N) : ∀ e ∈ mds l most N i, sz e ≤ 31 ∧ wf N e = true := fun e he => by
 obtain ⟨k, _, rfl⟩ := List.mem_map.1 he
 exact ⟨zoa N _ most, zq7 hN _ _⟩
theorem zh2 {q : Iq} (h : IqOk q) : tpOk (iqT q) ∧ (iqT q).n = iqN q := by
 obtain ⟨⟨h1, h2, h3⟩, -⟩ := zjX h
 have hl := zfM q.F 5 (iqN q) (iqN q)
 have ha := ziI (l := q.F) (most := 5) (i := iqN q) (N := iqN q) (by omega)
 have hs := zrD (l := (mds q.F 5 (iqN q) (iqN q)).map sz) (c := 31) (fun x hx => by obtain ⟨e, he, rfl⟩ := List.mem_map.1 hx; exact (ha e he).1)
 rw [List.length_map, hl] at hs
 refine ⟨zmi (by rw [hl]; omega) (fun e he => by rw [hl]; exact (ha e he).2) (by omega), hl⟩
theorem zra {q : Iq} (h : IqOk q) : allV (iqX q) ∧ (iqX q).length = (iqT q).n := ⟨zn2 _ (by omega) _, by rw [(zh2 h).2]; exact zk5 _ _ _⟩
theorem zrb {q : Iq} (h : IqOk q) : GdOk (iqT q).n (iqG q) := by
 rw [(zh2 h).2]
 obtain ⟨⟨h1, h2, h3⟩, -⟩ := zjX h
 exact ⟨by have := zoa (iqN q) q.gu 8; show sz (mde (iqN q) q.gu 8) ≤ _; omega, zq7 (by omega) _ _⟩
theorem zqH (t h : Int) : (-1048576 < tm12 t ∧ tm12 t < 1048576) ∧ (1 ≤ hh12 h ∧ hh12 h ≤ 131072) := by
 obtain ⟨a, b⟩ := zay t (b := 1048576) (by decide)
 have hm := zgY h (n := 131072) (by decide)
 unfold tm12 hh12
 by_cases k : 0 ≤ t
 ·have := a k; omega
 ·have := b (by omega); omega
def iqW (q : Iq) (s : Sg) : Cw := ⟨s, iqO q, iqL q⟩
def zwA (q : Iq) : AV := .agg [.int .i64 0, .int .i64 0, .nilslice, .nilslice, .nilslice, .nilslice, .int .i64 (iqO q), .int .i64 (iqL q)]
def prA (q : Iq) : AV := match zh3 q with
 | some s => .tuple [sys (iqS q), gdA (iqG q), cwA (iqW q s), .bool true]
 | none => .tuple [sys (iqS q), gdA (iqG q), zwA q, .bool false]
set_option maxHeartbeats 2000000 in
theorem zmT (q : Iq) (hq : IqOk q) (H : AH) : zaf E 16 [iqA q] H (.ret (prA q)) H := by
 refine zab zah zai Tryz.func16 rfl (by rfl) Tryz.ntmps16 (by kernel_rfl) (by simp) ?_
 obtain ⟨⟨hN, hN1, hN2⟩, hO, hO1, hO2⟩ := zjX hq
 obtain ⟨hT, hTn⟩ := zh2 hq
 obtain ⟨hX, hXn⟩ := zra hq
 obtain ⟨htm, hhh⟩ := zqH q.gt q.gh
 have ha := ziI (l := q.F) (most := 5) (i := iqN q) (N := iqN q) (by omega)
 have hl := zfM q.F 5 (iqN q) (iqN q)
 have hMs := fun Hx => zjy q.F 5 (iqN q) ⟨by omega, by omega⟩ (by decide) hq.hF hq.hF2 Hx
 have hGu := fun Hx => zr0 q.gu q.dir (iqN q) ⟨by omega, by omega⟩ hq.hg hq.hd Hx
 have hSt := fun Hx => zr2 q.gt q.gh Hx
 have hCo : ∀ Hx, zaf E 17 [sys (iqS q)] Hx (.ret (tpA (iqT q))) Hx := zgP (iqS q) (by show 0 < (mds q.F 5 (iqN q) (iqN q)).length ∧ (mds q.F 5 (iqN q) (iqN q)).length ≤ 6; rw [hl]; omega) (fun e he => (ha e he).1)
 have hBx : ∀ Hx, zaf E 58 [bx q.X, .int .i64 (iqN q), .int .i64 4096] Hx (.ret (bx (iqX q))) Hx := fun Hx => zrV q.X (iqN q) 4096 (by omega) (by decide) hq.hX Hx
 have hIs : ∀ Hx, zaf E 55 [tpA (iqT q), bx (iqX q), .agg [.int .i64 (tm12 q.gt), .int .i64 (hh12 q.gh)], .int .i64 (iqO q)] Hx (.ret (sgO (zh3 q))) Hx := fun Hx => zdZ (iqT q) (iqX q) (tm12 q.gt) (hh12 q.gh) (iqO q) hT hX hXn (by omega) (by omega) (by omega) ⟨hO1, by omega⟩ Hx
 have hRe : ∀ Hx, zaf E 26 [.int .i64 q.least, .int .i64 (hh12 q.gh)] Hx (.ret (.int .i64 (iqL q))) Hx := fun Hx => zlc q.least (hh12 q.gh) (by omega) Hx
 rw [show (⟨nms.take (iqN q), mds q.F 5 (iqN q) (iqN q)⟩ : Sys) = iqS q from rfl] at hMs
 rw [show zlS q.gu q.dir (iqN q) = iqG q from rfl] at hGu
 have wn : IntKind.i64.wrap q.n = q.n := zae (by have := hq.hn; omega) (by have := hq.hn; omega)
 have wk : IntKind.i64.wrap q.k = q.k := zae (by have := hq.hk; omega) (by have := hq.hk; omega)
 have w0 : IntKind.i64.wrap (q.n.tmod 2) = q.n.tmod 2 := zae (by omega) (by omega)
 have w1 : IntKind.i64.wrap (1 + q.n.tmod 2) = (iqN q : Int) := by rw [← hN]; exact zae (by omega) (by omega)
 have w2 : IntKind.i64.wrap (q.k.tmod 3) = q.k.tmod 3 := zae (by omega) (by omega)
 have w3 : IntKind.i64.wrap (1 + q.k.tmod 3) = (iqO q : Int) := by rw [← hO]; exact zae (by omega) (by omega)
 unfold prA zwA iqW
 generalize iqS q = S at *
 generalize iqG q = G at *
 generalize iqT q = T at *
 generalize iqX q = X at *
 generalize tm12 q.gt = t at *
 generalize hh12 q.gh = h at *
 generalize iqL q = L at *
 generalize zh3 q = st at *
 generalize iqN q = N at *
 generalize iqO q = O at *
 simp [iqA, bx, wn, wk, w0, w1, w2, w3]
 refine zac (fun Hx => hMs Hx) ?_
 simp [xs]
 refine zac (fun Hx => by simpa [xs] using hGu Hx) ?_
 simp [xs]
 refine zac (fun Hx => hSt Hx) ?_
 simp [sys, gdA, xs]
 refine endD [(13, 16), (14, 17), (15, 18), (16, 17), (17, 18)] (by rfl) (by simp [okW, note, Eff.triv, Eff.wr, Eff.none, upTo, newAt]) ?_
 simp [wk, w2, w3]
 refine zac (fun Hx => by simpa [sys, xs] using hCo Hx) ?_
 simp [bx]
 refine zac (fun Hx => by simpa [bx] using hBx Hx) ?_
 simp
 refine zac (fun Hx => by simpa [bx] using hIs Hx) ?_
 cases st with
 | none =>
  simp [sgO, zsA]
  refine endD [(12, 13)] (by rfl) (by simp [okW, note, Eff.triv, Eff.wr, Eff.none, upTo, newAt]) ?_
  simp
  refine zac (fun Hx => hRe Hx) ?_
  simp
  refine endD [] (by rfl) (by simp [okW, note, Eff.triv, Eff.wr, Eff.none, upTo, newAt]) ?_
  simp
  exact ⟨[sys S, gdA G, .agg [.int .i64 0, .int .i64 0, .nilslice, .nilslice, .nilslice, .nilslice, .int .i64 O, .int .i64 L], .bool false], [sys S, gdA G, .agg [.int .i64 0, .int .i64 0, .nilslice, .nilslice, .nilslice, .nilslice, .int .i64 O, .int .i64 L], .bool false], by simp [show (Tryz.f16).results.toList = [.cell 2 33, .cell 3 35, .cell 4 39, .tmp 5] from rfl, resA, sys, gdA, xs], .drop (by simp [noFs, noF, sys, gdA, xs, zaE, nd]), rfl⟩
 | some s =>
  simp [sgO, sgA, bx]
  refine endD [(12, 13)] (by rfl) (by simp [okW, note, Eff.triv, Eff.wr, Eff.none, upTo, newAt]) ?_
  simp
  refine zac (fun Hx => hRe Hx) ?_
  simp
  refine endD [] (by rfl) (by simp [okW, note, Eff.triv, Eff.wr, Eff.none, upTo, newAt]) ?_
  simp
  exact ⟨[sys S, gdA G, cwA ⟨s, O, L⟩, .bool true], [sys S, gdA G, cwA ⟨s, O, L⟩, .bool true], by simp [show (Tryz.f16).results.toList = [.cell 2 33, .cell 3 35, .cell 4 39, .tmp 5] from rfl, resA, sys, gdA, cwA, bx, xs], .drop (by simp [noFs, noF, sys, gdA, cwA, bx, xs, zaJ, zaE, nd]), rfl⟩
def minE (time : Bool) (level : Int) : Ex := .bin .sub (if time then .time else .var 0) (.num (pt level))
theorem zoh (time : Bool) (level : Int) (H : AH) : zaf E 27 [.bool time, .int .i64 level] H (.ret (xs (ser (minE time level)))) H := by
 refine zab zah zai Tryz.func27 rfl (by rfl) Tryz.ntmps27 (by kernel_rfl) (by simp) ?_
 have hP := fun Hx => zeH level Hx
 have hC := fun Hx => zfH (pt level) Hx
 cases time with
 | false =>
  have hB := fun Hx => ziw 8 (ser (.var 0)) (ser (.num (pt level))) (by simp [ser]) (by simp [ser]) (by simp [ser]) Hx
  rw [show zap 8 0 :: (ser (.var 0) ++ ser (.num (pt level))) = ser (minE false level) from rfl] at hB
  generalize pt level = c at *
  simp
  refine zaa (hP _) ?_
  simp
  refine zaa (hC _) ?_
  simp
  refine zba (args' := [.int .i64 8, xs (ser (.var 0)), xs (ser (.num c))]) (hB _) (by simp [xs, ser, nd, zap]; rfl) ?_
  simp
  exact fin0 (rs := [.tmp 4]) (by rfl) (by simp [resA])
 | true =>
  have hB := fun Hx => ziw 8 (ser .time) (ser (.num (pt level))) (by simp [ser]) (by simp [ser]) (by simp [ser]) Hx
  rw [show zap 8 0 :: (ser .time ++ ser (.num (pt level))) = ser (minE true level) from rfl] at hB
  generalize pt level = c at *
  simp
  refine zaa (hP _) ?_
  simp
  refine zaa (hC _) ?_
  simp
  refine zba (args' := [.int .i64 8, xs (ser .time), xs (ser (.num c))]) (hB _) (by simp [xs, ser, nd, zap]; rfl) ?_
  simp
  exact fin0 (rs := [.tmp 4]) (by rfl) (by simp [resA])
def LCo (l : List I) (t : Int) (H : AH) (i : Nat) (fr : AFr) (H' : AH) : Prop :=
 fr 0 = bx l ∧ fr 1 = .int .i64 t ∧ fr 5 = .int .i64 i ∧ i ≤ l.length ∧ l.any (fun p => conB p t) = (l.drop i).any (fun p => conB p t) ∧ ∃ J, H' = H ++ J
theorem zlU (l : List I) (t : Int) (hl : l.length ≤ 1000000000) (H : AH) : zaf E 29 [bx l, .int .i64 t] H (.ret (.bool (l.any fun p => conB p t))) H := by
 refine zab zah zai Tryz.func29 rfl (by rfl) Tryz.ntmps29 (by kernel_rfl) (by simp) ?_
 simp [bx]
 refine zag (LCo l t H) (fun i => l.length - i) 0 ⟨by simp [bx], by simp, by simp, by omega, by simp, [], by simp⟩ ?_
 rintro i fr H' ⟨g0, g1, g5, hi, ha, J, rfl⟩
 simp [g0, g5, bx]
 refine zak (fun hc => ?_) (fun hc => ?_)
 ·have hlt : i < l.length := by simpa using hc
  obtain ⟨p, hp⟩ := zaj hlt
  have hpE : ∀ h, l[i]'h = p := fun h => (gI.1 hp).2
  have w2 : IntKind.i64.wrap ((i : Int) + 1) = ((i + 1 : Nat) : Int) := by rw [zae (by omega) (by omega)]; omega
  have hd : l.drop i = p :: l.drop (i + 1) := by
   obtain ⟨h1, h2⟩ := gI.1 hp
   rw [List.drop_eq_getElem_cons h1, h2]
  rw [hd, List.any_cons] at ha
  simp [g0, g1, g5, bx, hp, hpE]
  refine zaa (znK p t _) ?_
  cases hct : conB p t with
  | true =>
   rw [hct] at ha
   simp only [Bool.true_or] at ha
   rw [ha]
   simp
   exact fin1 (rs := [.tmp 4]) (by rfl) (by simp [resA]) (by simp [noF])
  | false =>
   rw [hct] at ha
   simp only [Bool.false_or] at ha
   simp [g5, w2]
   exact ⟨i + 1, by show l.length - (i + 1) < l.length - i; omega, by simp [g0, bx], by simp [g1], by simp, by omega, ha, J, rfl⟩
 ·have hi2 : i = l.length := by
   have : ¬ i < l.length := by simpa using hc
   omega
  subst hi2
  rw [ha]
  simp
  exact fin1 (rs := [.tmp 4]) (by rfl) (by simp [resA]) (by simp [noF])
def syX : Sys := ⟨[⟨#[120]⟩], [.num (65536, 65536)]⟩
def tpX : Tp := cmpT syX.f
def sgX : Sg := ⟨0, 65536, [(0, 0)], [(0, 65536)], [(0, 65536)], [(65536, 65536)]⟩
theorem stepX : zcW tpX [(0, 0)] 0 65536 2 = some sgX := by kernel_rfl
def cwX : Cw := ⟨sgX, 2, 16384⟩
def gdX (level dir : Int) : Gd := ⟨minE false level, dir⟩
theorem prt1 : zaW tpX (gdX 32768 1) cwX = [(16384, 49152)] := by kernel_rfl
theorem prt2 : zaW tpX (gdX 65536 1) cwX = [(49152, 65536)] := by kernel_rfl
theorem prt3 : zaW tpX (gdX 131072 0) cwX = [] := by kernel_rfl
theorem loc1 : locA tpX cwX [(16384, 49152)] = .tuple [bx [(16384, 49152)], iv (16384, 49152), .bool true] := by kernel_rfl
theorem tm1 : [((16384, 49152) : I)].map (absC cwX) = [(16384, 49152)] := by kernel_rfl
theorem tm2 : [((49152, 65536) : I)].map (absC cwX) = [(49152, 65536)] := by kernel_rfl
theorem zhA : tpOk tpX := zmi (by decide) (by decide) (by decide)
theorem zhf : CwOk tpX cwX := by
 have v : ∀ p : I, p = (0, 0) ∨ p = (0, 65536) ∨ p = (65536, 65536) → vB p = true := fun p h => by rcases h with rfl | rfl | rfl <;> decide
 refine ⟨fun p hp => v p ?_, rfl, fun p hp => v p ?_, rfl, fun p hp => v p ?_, rfl, fun p hp => v p ?_, rfl, by decide, by decide, by decide⟩ <;> (simp [cwX, sgX] at hp; subst hp; simp)
theorem zh7 (level dir : Int) (h : wf 1 (minE false level) = true) : GdOk tpX.n (gdX level dir) := ⟨by show sz (minE false level) ≤ _; simp [minE, sz, ser], h⟩
def gdZ : Gd := ⟨.num (0, 0), 0⟩
theorem zuF : GdOk tpX.n gdZ := ⟨by decide, rfl⟩
theorem once1 : (sgnI (zcm cwX.s.tube (cwX.s.t, cwX.s.t + cwX.s.h) (gdX 32768 1).f (syX.f.map (ev cwX.s.tube (cwX.s.t, cwX.s.t + cwX.s.h))) syX.f.length) != 0) = true := by kernel_rfl
theorem once2 : (sgnI (zcm cwX.s.tube (cwX.s.t, cwX.s.t + cwX.s.h) gdZ.f (syX.f.map (ev cwX.s.tube (cwX.s.t, cwX.s.t + cwX.s.h))) syX.f.length) != 0) = false := by kernel_rfl
set_option maxRecDepth 100000 in
set_option maxHeartbeats 4000000 in
theorem zjP (H : AH) : zaf E 15 [] H (.ret (.bool true)) H := by
 refine zab zah zai Tryz.func15 rfl (by rfl) Tryz.ntmps15 (by kernel_rfl) (by simp) ?_
 have pb : ∀ l : List I, (∀ p ∈ l, p = (16384, 49152) ∨ p = (49152, 65536)) → ∀ p ∈ l, 0 ≤ p.1 ∧ p.1 ≤ p.2 ∧ p.2 ≤ cwX.s.h := fun l h p hp => by
  rcases h p hp with rfl | rfl <;> decide
 have L1 := fun Hx => znk tpX (gdX 32768 1) cwX zhA (by decide) zhf (zh7 _ _ (by kernel_rfl)) (by rw [prt1]; exact pb _ (by simp)) (by rw [prt1]; decide) Hx
 have L3 := fun Hx => znk tpX (gdX 131072 0) cwX zhA (by decide) zhf (zh7 _ _ (by kernel_rfl)) (by rw [prt3]; exact pb _ (by simp)) (by rw [prt3]; decide) Hx
 have T1 := fun Hx => zlu tpX (gdX 32768 1) cwX zhA (by decide) zhf (zh7 _ _ (by kernel_rfl)) (by rw [prt1]; exact pb _ (by simp)) (by rw [prt1]; decide) Hx
 have T2 := fun Hx => zlu tpX (gdX 65536 1) cwX zhA (by decide) zhf (zh7 _ _ (by kernel_rfl)) (by rw [prt2]; exact pb _ (by simp)) (by rw [prt2]; decide) Hx
 have T3 := fun Hx => zlu tpX (gdX 131072 0) cwX zhA (by decide) zhf (zh7 _ _ (by kernel_rfl)) (by rw [prt3]; exact pb _ (by simp)) (by rw [prt3]; decide) Hx
 rw [prt1] at L1 T1
 rw [prt2] at T2
 rw [prt3] at L3 T3
 rw [loc1] at L1
 rw [tm1] at T1
 rw [tm2] at T2
 have A1 := fun Hx => ztp tpX syX (gdX 32768 1) cwX zhf (by decide) (by decide) (by decide) (zh7 _ _ (by kernel_rfl)) (by decide) (by decide) Hx
 have A2 := fun Hx => ztp tpX syX gdZ cwX zhf (by decide) (by decide) (by decide) zuF (by decide) (by decide) Hx
 rw [once1] at A1
 rw [once2] at A2
 have C1 : ∀ Hx, zaf E 17 [sys syX] Hx (.ret (tpA tpX)) Hx := zgP syX (by decide) (by decide)
 have S1 := fun Hx => zdZ tpX [(0, 0)] 0 65536 2 zhA (fun p hp => by simp at hp; subst hp; decide) rfl (by decide) (by decide) (by decide) (by decide) Hx
 rw [stepX] at S1
 have m1 := zoh false 32768
 have m2 := zoh false 65536
 have m3 := zoh false 131072
 have p1 := zeH 65536
 have p0 := zeH 0
 rw [zhV (by omega)] at p1 p0
 have c1 := zfH (65536, 65536)
 have c0 := zfH (0, 0)
 have q1 := zqU [(16384, 49152)] [(16384, 49152)] (by decide) (by decide)
 have q2 := zqU [(49152, 65536)] [(49152, 65536)] (by decide) (by decide)
 simp only [decide_true] at q1 q2
 simp
 refine zaa (p1 _) ?_
 simp
 refine zaa (c1 _) ?_
 simp [xs, ser, nd]
 refine zba (args' := [sys syX]) (C1 _) (by simp [sys, syX, xs, ser, nd]; rfl) ?_
 generalize hTp : tpX = T at *
 simp [tpA, outA]
 refine zba (args' := [tpA T, bx [(0, 0)], .agg [.int .i64 0, .int .i64 65536], .int .i64 2]) (S1 _) (by simp [tpA, outA, bx]; rfl) ?_
 simp [sgO, sgX, sgA, bx]
 refine zaa (m1 _) ?_
 simp
 refine zaa (m2 _) ?_
 simp
 refine zaa (m3 _) ?_
 simp [xs]
 have l3 : locA T cwX [] = .tuple [.nilslice, iv (0, 0), .bool false] := rfl
 rw [l3] at L3
 have r3 : rwN (([] : List I).map (absC cwX)) = .nilslice := rfl
 rw [r3] at T3
 have r1 : rwN [((16384, 49152) : I)] = bx [(16384, 49152)] := rfl
 have r2 : rwN [((49152, 65536) : I)] = bx [(49152, 65536)] := rfl
 rw [r1] at T1
 rw [r2] at T2
 simp only [gdA, gdX, cwA, cwX, sgX, tpA, outA, bx, xs, List.map_cons, List.map_nil] at L1 L3 T1 T2 T3
 refine zaa (by simpa using L1 _) ?_
 simp
 refine zaa (by simpa using L3 _) ?_
 simp
 refine zaa (p0 _) ?_
 simp
 refine zaa (c0 _) ?_
 simp [xs]
 refine zac (fun Hx => by simpa using T1 Hx) ?_
 simp
 refine zau (args' := [bx [(16384, 49152)], bx [(16384, 49152)]]) (fun Hx => q1 Hx) (fun Hx => by simp [bx]) ?_
 simp
 refine zac (fun Hx => by simpa using T2 Hx) ?_
 simp
 refine zau (args' := [bx [(49152, 65536)], bx [(49152, 65536)]]) (fun Hx => q2 Hx) (fun Hx => by simp [bx]) ?_
 simp
 refine zac (fun Hx => by simpa using T3 Hx) ?_
 simp
 refine zau (args' := [bx [(16384, 49152)], bx [(16384, 49152)]]) (fun Hx => q1 Hx) (fun Hx => by simp [bx]) ?_
 simp
 refine zau (args' := [sys syX, gdA (gdX 32768 1), cwA cwX]) (fun Hx => A1 Hx) (fun Hx => by simp [sys, syX, gdA, gdX, cwA, cwX, sgX, bx, xs, ser, nd]) ?_
 simp
 refine zau (args' := [sys syX, gdA gdZ, cwA cwX]) (fun Hx => A2 Hx) (fun Hx => by simp [sys, syX, gdA, gdZ, cwA, cwX, sgX, bx, xs, ser, nd]) ?_
 simp
 refine endD [] (by rfl) (by simp [okW, note, Eff.triv, Eff.wr, Eff.none, upTo, newAt]) ?_
 simp
 exact fin1 (rs := [.tmp 0]) (by rfl) (by simp [resA]) (by simp [noF])
end Go.Proofs.YtkghjlgpmeibhaaGreatDoor.Arm

namespace Go.Pl
def Bn (K x : Rat) : Prop := -K ≤ x ∧ x ≤ K
theorem Bn.nn {K x : Rat} (h : Bn K x) : 0 ≤ K := by unfold Bn at h; grind
theorem Bn.mono {K L x : Rat} (h : Bn K x) (k : K ≤ L) : Bn L x := by unfold Bn at *; grind
theorem Bn.add {K L x y : Rat} (h : Bn K x) (k : Bn L y) : Bn (K + L) (x + y) := by unfold Bn at *; grind
theorem Bn.sub {K L x y : Rat} (h : Bn K x) (k : Bn L y) : Bn (K + L) (x - y) := by unfold Bn at *; grind
theorem Bn.neg {K x : Rat} (h : Bn K x) : Bn K (-x) := by unfold Bn at *; grind
theorem Bn.zero {K : Rat} (h : 0 ≤ K) : Bn K 0 := by unfold Bn; grind
theorem Bn.mul {K L x y : Rat} (h : Bn K x) (k : Bn L y) : Bn (K * L) (x * y) := by
 unfold Bn at *
 have h1 : 0 ≤ (K - x) * (L + y) := Rat.mul_nonneg (by grind) (by grind)
 have h2 : 0 ≤ (K + x) * (L - y) := Rat.mul_nonneg (by grind) (by grind)
 have h3 : 0 ≤ (K + x) * (L + y) := Rat.mul_nonneg (by grind) (by grind)
 have h4 : 0 ≤ (K - x) * (L - y) := Rat.mul_nonneg (by grind) (by grind)
 grind
def Far (β b : Rat) : Prop := β ≤ b ∨ b ≤ -β
theorem Bn.cancel {K β b x : Rat} (hβ : 0 < β) (hb : Far β b) (h : Bn K (b * x)) : Bn (K / β) x := by
 have key : ∀ b x : Rat, β ≤ b → Bn K (b * x) → Bn (K / β) x := by
  intro b x hb h
  have hK : 0 ≤ K := h.nn
  have e : K / β * β = K := by grind
  have hq : 0 ≤ K / β := by
   rw [Rat.div_def]; exact Rat.mul_nonneg hK (Rat.le_of_lt (Rat.inv_pos.2 hβ))
  have hm : K ≤ K / β * b := by
   have := Rat.mul_le_mul_of_nonneg_left hb hq
   grind
  unfold Bn at *
  refine ⟨Rat.not_lt.1 fun hx => ?_, Rat.not_lt.1 fun hx => ?_⟩
  ·have hbp : 0 < b := by grind
   have := Rat.mul_lt_mul_of_pos_left hx hbp
   grind
  ·have hbp : 0 < b := by grind
   have := Rat.mul_lt_mul_of_pos_left hx hbp
   grind
 rcases hb with hb | hb
 ·exact key b x hb h
 ·have := key (-b) (-x) (by grind) (by have e : -b * -x = b * x := by grind
                                       rw [e]; exact h)
  have := this.neg
  have e : - -x = x := by grind
  rwa [e] at this
theorem zsi {K δ : Rat} (hp : 0 < δ) (h : 0 ≤ K * (δ * δ)) : 0 ≤ K := by
 have h2 : 0 < δ * δ := Rat.mul_pos hp hp
 refine Rat.not_lt.1 fun hk => ?_
 have := Rat.mul_pos (show (0 : Rat) < -K by grind) h2
 grind
section
variable {δ D W : Rat}
def Df (K δ u u' d : Rat) : Prop := Bn (K * (δ * δ)) (u' - u - δ * d)
theorem Df.add {K L u u' d v v' e : Rat} (h : Df K δ u u' d) (k : Df L δ v v' e) : Df (K + L) δ (u + v) (u' + v') (d + e) := by
 have := Bn.add h k
 unfold Df
 have e1 : K * (δ * δ) + L * (δ * δ) = (K + L) * (δ * δ) := by grind
 have e2 : u' - u - δ * d + (v' - v - δ * e) = u' + v' - (u + v) - δ * (d + e) := by grind
 rwa [e1, e2] at this
theorem Df.neg {K u u' d : Rat} (h : Df K δ u u' d) : Df K δ (-u) (-u') (-d) := by
 have := Bn.neg h
 unfold Df
 have e2 : -(u' - u - δ * d) = -u' - -u - δ * -d := by grind
 rwa [e2] at this
theorem Df.sub {K L u u' d v v' e : Rat} (h : Df K δ u u' d) (k : Df L δ v v' e) : Df (K + L) δ (u - v) (u' - v') (d - e) := by
 have := h.add k.neg
 have e1 : u + -v = u - v := by grind
 have e2 : u' + -v' = u' - v' := by grind
 have e3 : d + -e = d - e := by grind
 rwa [e1, e2, e3] at this
theorem Df.smul {K u u' d : Rat} (c : Rat) {C : Rat} (hc : Bn C c) (h : Df K δ u u' d) : Df (C * K) δ (c * u) (c * u') (c * d) := by
 have := Bn.mul hc h
 unfold Df
 have e1 : C * (K * (δ * δ)) = C * K * (δ * δ) := by grind
 have e2 : c * (u' - u - δ * d) = c * u' - c * u - δ * (c * d) := by grind
 rwa [e1, e2] at this
theorem Df.mono {K L u u' d : Rat} (h : Df K δ u u' d) (k : K ≤ L) : Df L δ u u' d := Bn.mono h (Rat.mul_le_mul_of_nonneg_right k (ze3 δ))
theorem Df.const (u : Rat) : Df 0 δ u u 0 := by
 unfold Df
 have e : u - u - δ * 0 = 0 := by grind
 rw [e]; exact Bn.zero (by grind)
theorem Df.mul {K L u u' d v v' e : Rat} (hδ : 0 ≤ δ) (hD : δ ≤ D) (h : Df K δ u u' d) (k : Df L δ v v' e) (hu' : Bn W u') (hv : Bn W v) (hd : Bn W d) (he : Bn W e) :
  Df (W * W + D * W * K + W * L + W * K) δ (u * v) (u' * v') (d * v + u * e) := by
 unfold Df at *
 have hW : 0 ≤ W := hv.nn
 have b1 : Bn ((δ * δ) * (W * W)) ((δ * δ) * (e * d)) := Bn.mul (by unfold Bn; have := ze3 δ; grind) (Bn.mul he hd)
 have b2 : Bn ((δ * W) * (K * (δ * δ))) ((δ * e) * (u' - u - δ * d)) := Bn.mul (Bn.mul (by unfold Bn; grind) he) h
 have b3 : Bn (W * (L * (δ * δ))) (u' * (v' - v - δ * e)) := Bn.mul hu' k
 have b4 : Bn (W * (K * (δ * δ))) (v * (u' - u - δ * d)) := Bn.mul hv h
 have hK : 0 ≤ K * (δ * δ) := h.nn
 have m2 : (δ * W) * (K * (δ * δ)) ≤ (D * W) * (K * (δ * δ)) := Rat.mul_le_mul_of_nonneg_right (Rat.mul_le_mul_of_nonneg_right hD hW) hK
 have := ((b1.add (b2.mono m2)).add b3).add b4
 have e1 : (δ * δ) * (W * W) + (D * W) * (K * (δ * δ)) + W * (L * (δ * δ)) + W * (K * (δ * δ)) = (W * W + D * W * K + W * L + W * K) * (δ * δ) := by grind
 have e2 : (δ * δ) * (e * d) + (δ * e) * (u' - u - δ * d) + u' * (v' - v - δ * e) + v * (u' - u - δ * d) = u' * v' - u * v - δ * (d * v + u * e) := by grind
 rwa [e1, e2] at this
theorem Df.cancel {K L β b b' db q q' dq : Rat} (hδ : 0 ≤ δ) (hD : δ ≤ D) (hβ : 0 < β) (hb : Far β b) (hb' : Far β b') (hP : Df K δ (b * q) (b' * q') (db * q + b * dq)) (hB : Df L δ b b' db) (wb : Bn W b) (wq : Bn W q) (wdb : Bn W db) (wdq : Bn W dq) :
  Df ((K + W * L + (W * W + D * K + D * W * L) / β * (W + D * L)) / β) δ q q' dq := by
 have hW : 0 ≤ W := wb.nn
 have hdd := ze3 δ
 unfold Df at hP hB
 have hK : 0 ≤ K * (δ * δ) := hP.nn
 have hL : 0 ≤ L * (δ * δ) := hB.nn
 have a1 : Bn (δ * (W * W)) (δ * (b * dq)) := Bn.mul (by unfold Bn; grind) (Bn.mul wb wdq)
 have a2 : Bn (W * (L * (δ * δ))) (q * (b' - b - δ * db)) := Bn.mul wq hB
 have a3 := (a1.add hP).sub a2
 have e3 : δ * (b * dq) + (b' * q' - b * q - δ * (db * q + b * dq)) - q * (b' - b - δ * db) = b' * (q' - q) := by grind
 rw [e3] at a3
 by_cases h0 : δ = 0
 ·subst h0
  have a4 : Bn 0 (b' * (q' - q)) := by
   have e : (0 : Rat) * (W * W) + K * (0 * 0) + W * (L * (0 * 0)) = 0 := by grind
   rwa [e] at a3
  have a5 := Bn.cancel hβ hb' a4
  have e0 : (0 : Rat) / β = 0 := by grind
  rw [e0] at a5
  unfold Df
  have e1 : ∀ X : Rat, X * (0 * 0) = 0 := by intro X; grind
  rw [e1]
  have e2 : q' - q - 0 * dq = q' - q := by grind
  rw [e2]; exact a5
 ·have hp : 0 < δ := by grind
  have m1 : K * (δ * δ) ≤ D * K * δ := by
   have hK' : 0 ≤ K := zsi hp hK
   have := Rat.mul_le_mul_of_nonneg_left (Rat.mul_le_mul_of_nonneg_right hD hδ) hK'
   grind
  have m2 : W * (L * (δ * δ)) ≤ D * W * L * δ := by
   have hL' : 0 ≤ L := zsi hp hL
   have := Rat.mul_le_mul_of_nonneg_left (Rat.mul_le_mul_of_nonneg_right hD hδ) (Rat.mul_nonneg hW hL')
   grind
  have a4 : Bn ((W * W + D * K + D * W * L) * δ) (b' * (q' - q)) := a3.mono (by grind)
  have a5 := Bn.cancel hβ hb' a4
  have e5 : (W * W + D * K + D * W * L) * δ / β = (W * W + D * K + D * W * L) / β * δ := by grind
  rw [e5] at a5
  generalize (W * W + D * K + D * W * L) / β = C at *
  have b1 : Bn (W * δ) (db * δ) := Bn.mul wdb (by unfold Bn; grind)
  have hBL : Bn ((W + D * L) * δ) (b' - b) := by
   have := b1.add hB
   have e : db * δ + (b' - b - δ * db) = b' - b := by grind
   rw [e] at this
   refine this.mono ?_
   have hL' : 0 ≤ L := zsi hp hL
   have := Rat.mul_le_mul_of_nonneg_left (Rat.mul_le_mul_of_nonneg_right hD hδ) hL'
   grind
  have b2 := Bn.mul a5 hBL
  have b3 := (hP.sub a2).sub b2
  have e6 : b' * q' - b * q - δ * (db * q + b * dq) - q * (b' - b - δ * db) - (q' - q) * (b' - b) = b * (q' - q - δ * dq) := by grind
  rw [e6] at b3
  have e7 : K * (δ * δ) + W * (L * (δ * δ)) + C * δ * ((W + D * L) * δ) = (K + W * L + C * (W + D * L)) * (δ * δ) := by grind
  rw [e7] at b3
  have b4 := Bn.cancel hβ hb b3
  unfold Df
  have e8 : (K + W * L + C * (W + D * L)) * (δ * δ) / β = (K + W * L + C * (W + D * L)) / β * (δ * δ) := by grind
  rwa [e8] at b4
theorem Df.root {K β q q' dq : Rat} (hδ : 0 ≤ δ) (hβ : 0 < β) (hD : δ ≤ D) (hb : β ≤ q) (hb' : β ≤ q') (hP : Df K δ (q * q) (q' * q') (2 * q * dq)) (hK : 0 ≤ K) (wq : Bn W q) (wdq : Bn W dq) :
  Df ((K + (2 * W * W + D * K) / (2 * β) * ((2 * W * W + D * K) / (2 * β))) / (2 * β)) δ q q' dq := by
 have hW : 0 ≤ W := wq.nn
 unfold Df at hP
 have h2 : Bn 2 (2 : Rat) := by unfold Bn; grind
 have a1 : Bn (δ * (2 * (W * W))) (δ * (2 * (q * dq))) := Bn.mul (by unfold Bn; grind) (Bn.mul h2 (Bn.mul wq wdq))
 have a2 := a1.add hP
 have e2 : δ * (2 * (q * dq)) + (q' * q' - q * q - δ * (2 * q * dq)) = (q' + q) * (q' - q) := by grind
 rw [e2] at a2
 have m1 : δ * (2 * (W * W)) + K * (δ * δ) ≤ (2 * W * W + D * K) * δ := by
  have := Rat.mul_le_mul_of_nonneg_left (Rat.mul_le_mul_of_nonneg_right hD hδ) hK
  grind
 have a3 := Bn.cancel (β := 2 * β) (by grind) (.inl (by grind)) (a2.mono m1)
 have e3 : (2 * W * W + D * K) * δ / (2 * β) = (2 * W * W + D * K) / (2 * β) * δ := by grind
 rw [e3] at a3
 generalize (2 * W * W + D * K) / (2 * β) = C at *
 have b1 := hP.sub (Bn.mul a3 a3)
 have e4 : q' * q' - q * q - δ * (2 * q * dq) - (q' - q) * (q' - q) = (2 * q) * (q' - q - δ * dq) := by grind
 have e5 : K * (δ * δ) + C * δ * (C * δ) = (K + C * C) * (δ * δ) := by grind
 rw [e4, e5] at b1
 have b2 := Bn.cancel (β := 2 * β) (by grind) (.inl (by grind)) b1
 unfold Df
 have e6 : (K + C * C) * (δ * δ) / (2 * β) = (K + C * C) / (2 * β) * (δ * δ) := by grind
 rwa [e6] at b2
end
end Go.Pl

namespace Go.Pl
section
variable {x : List I} {t : I}
end
end Go.Pl

namespace Go.Pl
def unR : U → Rat → Rat
 | .neg, v => -v
 | .sqr, v => v * v
 | .sqrt, v => rt 0 v
def binR : B → Rat → Rat → Rat
 | .add, v, w => v + w
 | .sub, v, w => v - w
 | .mul, v, w => v * w
 | .div, v, w => v / w
def val (x : List Rat) (t : Rat) : Ex → Rat
 | .num c => (c.1 : Rat) / 65536
 | .var i => (x[i]?).getD 0
 | .time => t
 | .un o a => unR o (val x t a)
 | .bin o a b => binR o (val x t a) (val x t b)
def zqg (b : List I) (x : List Rat) : Prop := ∀ i, i < b.length → InI ((b[i]?).getD (0, 0)) ((x[i]?).getD 0)
theorem zfR {c : I} (h : vB c = true) : InI c ((c.1 : Rat) / 65536) := by
 have h1 := zao h
 refine .inr ⟨?_, ?_⟩
 ·grind
 ·have : (c.1 : Rat) ≤ (c.2 : Rat) := Rat.intCast_le_intCast.2 h1.2.1
  grind
def Like (x : List Rat) (t : Rat) (a b : Ex) : Prop := val x t a = val x t b ∧ ∀ v, val x t (dif v a) = val x t (dif v b)
section
variable {x : List Rat} {t : Rat}
theorem Like.refl (a : Ex) : Like x t a a := ⟨rfl, fun _ => rfl⟩
theorem Like.symm {a b : Ex} (h : Like x t a b) : Like x t b a := ⟨h.1.symm, fun v => (h.2 v).symm⟩
theorem Like.trans {a b c : Ex} (h : Like x t a b) (k : Like x t b c) : Like x t a c := ⟨h.1.trans k.1, fun v => (h.2 v).trans (k.2 v)⟩
theorem Like.un {a b : Ex} (o : U) (h : Like x t a b) : Like x t (.un o a) (.un o b) := by
 refine ⟨by simp only [val, h.1], fun v => ?_⟩
 have := h.2 v
 cases o <;> simp only [dif, val, this, h.1, unR, binR]
theorem Like.bin {a b c d : Ex} (o : B) (h : Like x t a b) (k : Like x t c d) : Like x t (.bin o a c) (.bin o b d) := by
 refine ⟨by simp only [val, h.1, k.1], fun v => ?_⟩
 have h2 := h.2 v
 have k2 := k.2 v
 cases o <;> simp only [dif, val, h2, k2, h.1, k.1, binR, unR]
end
end Go.Pl

namespace Go.Pl
def f0 : Nat → Nat
 | 0 => 0
 | k + 1 => 1 + 2 * f0 k
def f1 : Nat → Nat
 | 0 => 0
 | k + 1 => 5 + 2 * f1 k + 3 * f0 k
def f2 : Nat → Nat
 | 0 => 0
 | k + 1 => 21 + 2 * f2 k + 7 * f0 k + 7 * f1 k
end Go.Pl

namespace Go.Pl
def occ (v : Vr) : Ex → Bool
 | .un _ a => occ v a
 | .bin _ a b => occ v a || occ v b
 | e => isV v e
def Lv (a b : Ex) : Prop := ∀ v, occ v a = true → occ v b = true
theorem Lv.refl (a : Ex) : Lv a a := fun _ h => h
theorem Lv.trans {a b c : Ex} (h : Lv a b) (k : Lv b c) : Lv a c := fun v hv => k v (h v hv)
end Go.Pl

namespace Go.Pl
theorem zlY {V : I} {x y m : Rat} (h : InI V x) (k : InI V y) (h1 : x ≤ m) (h2 : m ≤ y) : InI V m := by
 rcases h with rfl | ⟨a, b⟩
 ·exact .inl rfl
 ·rcases k with rfl | ⟨c, d⟩
  ·exact .inl rfl
  ·exact .inr ⟨by grind, by grind⟩
theorem zj2 : InI (0, 0) 0 := .inr ⟨by decide +kernel, by decide +kernel⟩
theorem zuz : InI (65536, 65536) 1 := .inr ⟨by decide +kernel, by decide +kernel⟩
section
variable {x : List I} {t : I}
end
theorem small (δ : Rat) (h : 0 < δ) : ∃ k, 1 / (grid k : Rat) ≤ δ := by
 refine ⟨(1 / δ).ceil.toNat, ?_⟩
 have hN := zd7 (1 / δ).ceil.toNat
 have h1 : 1 / δ ≤ ((1 / δ).ceil : Rat) := Rat.le_ceil
 have h2 : ((1 / δ).ceil : Rat) ≤ (grid (1 / δ).ceil.toNat : Rat) := ic.2 (by unfold grid; omega)
 have h3 : 1 / δ ≤ (grid (1 / δ).ceil.toNat : Rat) := Rat.le_trans h1 h2
 generalize (grid (1 / δ).ceil.toNat : Rat) = N at *
 refine zdu hN ?_
 have h4 := zgI (Rat.le_of_lt h) h3
 have h5 : δ * (1 / δ) = 1 := by grind
 rw [h5] at h4; exact h4
end Go.Pl

namespace Go.Pl
structure Alg (α : Type) where
 zero : α
 one : α
 num : I → α
 neg : α → α
 add : α → α → α
 sub : α → α → α
 mul : α → α → α
 sq : α → α
 div : α → α → α
 root : α → α
 dbl : α → α
section
variable {α : Type} (G : Alg α)
def sumA (f : Nat → α) : Nat → α
 | 0 => G.zero
 | 1 => f 0
 | m + 2 => G.add (sumA f (m + 1)) (f (m + 1))
def zci (f g : Nat → α) (frm m k : Nat) : α := sumA G (fun i => G.mul (f (frm + i)) (g (k - (frm + i)))) m
def fA (x : Ins) (A : Nat → Nat → α) (q : Nat → α) (t : α) (m : Nat) : α :=
 if x.op = 4 then G.neg (A x.a.toNat m)
 else if x.op = 7 then G.add (A x.a.toNat m) (A x.b.toNat m)
 else if x.op = 8 then G.sub (A x.a.toNat m) (A x.b.toNat m)
 else if x.op = 9 then zci G (A x.a.toNat) (A x.b.toNat) 0 (m + 1) m
 else if x.op = 5 then (if m = 0 then G.sq (A x.a.toNat 0) else zci G (A x.a.toNat) (A x.a.toNat) 0 (m + 1) m)
 else if x.op = 10 then (if m = 0 then G.div (A x.a.toNat 0) (A x.b.toNat 0) else G.div (G.sub (A x.a.toNat m) (zci G (A x.b.toNat) q 1 m m)) (A x.b.toNat 0))
 else if x.op = 6 then (if m = 0 then G.root (A x.a.toNat 0) else G.div (G.sub (A x.a.toNat m) (zci G q q 1 (m - 1) m)) (G.dbl (q 0)))
 else if x.op = 1 then (if m = 0 then G.num x.c else G.zero)
 else if x.op = 3 then (if m = 0 then t else if m = 1 then G.one else G.zero)
 else G.zero
variable {G}
theorem zhF {f g : Nat → α} : ∀ {m : Nat}, (∀ i, i < m → f i = g i) → sumA G f m = sumA G g m
 | 0, _ => rfl
 | 1, h => h 0 (by omega)
 | m + 2, h => by simp only [sumA]; rw [zhF (m := m + 1) (fun i hi => h i (by omega)), h (m + 1) (by omega)]
theorem zdB {f g f' g' : Nat → α} {frm m k : Nat} (hf : ∀ i, frm ≤ i → i < frm + m → f i = f' i) (hg : ∀ i, frm ≤ i → i < frm + m → g (k - i) = g' (k - i)) : zci G f g frm m k = zci G f' g' frm m k :=
 zhF fun i hi => by rw [hf (frm + i) (by omega) (by omega), hg (frm + i) (by omega) (by omega)]
theorem zma {x : Ins} {n j : Nat} (hx : zop n j x) {A A' : Nat → Nat → α} {q q' : Nat → α} {t : α} {m : Nat} (hA : ∀ j' i, j' < j → i ≤ m → A j' i = A' j' i) (hq : ∀ i, i < m → q i = q' i) : fA G x A q t m = fA G x A' q' t m := by
 have h2 : 4 ≤ x.op → x.a.toNat < j := fun h => by rcases hx with h1 | h1 | h1 | h1 | h1 <;> omega
 have h3 : 7 ≤ x.op → x.b.toNat < j := fun h => by rcases hx with h1 | h1 | h1 | h1 | h1 <;> omega
 unfold fA
 by_cases o4 : x.op = 4
 ·rw [if_pos o4, if_pos o4, hA _ _ (h2 (by omega)) (Nat.le_refl _)]
 rw [if_neg o4, if_neg o4]
 by_cases o7 : x.op = 7
 ·rw [if_pos o7, if_pos o7, hA _ _ (h2 (by omega)) (Nat.le_refl _), hA _ _ (h3 (by omega)) (Nat.le_refl _)]
 rw [if_neg o7, if_neg o7]
 by_cases o8 : x.op = 8
 ·rw [if_pos o8, if_pos o8, hA _ _ (h2 (by omega)) (Nat.le_refl _), hA _ _ (h3 (by omega)) (Nat.le_refl _)]
 rw [if_neg o8, if_neg o8]
 by_cases o9 : x.op = 9
 ·rw [if_pos o9, if_pos o9]
  exact zdB (fun i _ h => hA _ _ (h2 (by omega)) (by omega)) (fun i _ h => hA _ _ (h3 (by omega)) (by omega))
 rw [if_neg o9, if_neg o9]
 by_cases o5 : x.op = 5
 ·rw [if_pos o5, if_pos o5]
  by_cases m0 : m = 0
  ·rw [if_pos m0, if_pos m0, hA _ _ (h2 (by omega)) (by omega)]
  ·rw [if_neg m0, if_neg m0]
   exact zdB (fun i _ h => hA _ _ (h2 (by omega)) (by omega)) (fun i _ h => hA _ _ (h2 (by omega)) (by omega))
 rw [if_neg o5, if_neg o5]
 by_cases o10 : x.op = 10
 ·rw [if_pos o10, if_pos o10]
  by_cases m0 : m = 0
  ·rw [if_pos m0, if_pos m0, hA _ _ (h2 (by omega)) (by omega), hA _ _ (h3 (by omega)) (by omega)]
  ·rw [if_neg m0, if_neg m0, hA _ _ (h2 (by omega)) (Nat.le_refl _), hA _ 0 (h3 (by omega)) (by omega)]
   rw [zdB (f' := A' x.b.toNat) (g' := q') (fun i _ h => hA _ _ (h3 (by omega)) (by omega)) (fun i _ h => hq _ (by omega))]
 rw [if_neg o10, if_neg o10]
 by_cases o6 : x.op = 6
 ·rw [if_pos o6, if_pos o6]
  by_cases m0 : m = 0
  ·rw [if_pos m0, if_pos m0, hA _ _ (h2 (by omega)) (by omega)]
  ·rw [if_neg m0, if_neg m0, hA _ _ (h2 (by omega)) (Nat.le_refl _), hq 0 (by omega)]
   rw [zdB (f' := q') (g' := q') (fun i _ h => hq _ (by omega)) (fun i _ h => hq _ (by omega))]
 rw [if_neg o6, if_neg o6]
end
def algI : Alg I := ⟨(0, 0), (65536, 65536), fun c => c, neg, add, sub, mul, sq, div, zcQ, fun q => mulr q 2 1⟩
theorem zqJ (f : Nat → I) : ∀ m, sumA algI f m = sumF f m
 | 0 => rfl
 | 1 => rfl
 | m + 2 => by simp only [sumA, sumF]; rw [zqJ f (m + 1)]; rfl
theorem zsL (a b : List I) (frm m k : Nat) : zci algI (atN a) (atN b) frm m k = zbh a b frm m k := zqJ _ _
theorem zhS (l : List (List I)) (k : Int) : rowN l (k.toNat : Int) = rowN l k := by unfold rowN; rw [Int.toNat_natCast]
theorem zp6 (x : Ins) (l : List (List I)) (own : List I) (t : I) : za1 x l own t = fA algI x (fun j i => atN (rowN l (j : Int)) i) (atN own) t own.length := by
 unfold za1 fA zdf zc4
 simp only [zhS, zsL]
 rfl
section
variable {T : Tp} {x : List I} {t : I} (hT : tpOk T) (hx : allV x) (ht : vB t = true)
def pre1 (a b : List I) : Prop := ∃ r, b = a ++ r
theorem pre1.refl (a : List I) : pre1 a a := ⟨[], by simp⟩
theorem pre1.trans {a b c : List I} (h : pre1 a b) (k : pre1 b c) : pre1 a c := by
 obtain ⟨r, rfl⟩ := h; obtain ⟨s, rfl⟩ := k; exact ⟨r ++ s, by simp⟩
theorem pre1.at {a b : List I} (h : pre1 a b) {i : Nat} (hi : i < a.length) : atN b i = atN a i := by
 obtain ⟨r, rfl⟩ := h
 unfold atN; rw [List.getElem?_append_left hi]
def preL (l l' : List (List I)) : Prop := ∀ j : Nat, pre1 (rowN l (j : Int)) (rowN l' (j : Int))
theorem preL.refl (l : List (List I)) : preL l l := fun _ => .refl _
theorem preL.trans {l l' l'' : List (List I)} (h : preL l l') (k : preL l' l'') : preL l l'' := fun j => (h j).trans (k j)
theorem preL.push (l : List (List I)) (i : Nat) (p : I) : preL l (l.set i (rowN l (i : Int) ++ [p])) := fun j => by
 by_cases h : i = j
 ·subst h
  by_cases hi : i < l.length
  ·rw [zcp hi]; exact ⟨[p], rfl⟩
  ·rw [List.set_eq_of_length_le (by omega)]; exact .refl _
 ·rw [zgF h]; exact .refl _
theorem zgw (L : List Ins) (out : List (List I)) (t : I) (k : Nat) (l : List (List I)) : ∀ i, preL l (zcb L out t k l i)
 | 0 => .refl _
 | i + 1 => by
  cases hy : L[i]? with
  | none => simp only [zcb, hy]; exact zgw L out t k l i
  | some y => rw [zcy hy]; exact (zgw L out t k l i).trans (.push _ _ _)
theorem zfD (L : List Ins) (out : List (List I)) (t : I) (k : Nat) (l : List (List I)) (i : Nat) : ∀ d, preL (zcb L out t k l i) (zcb L out t k l (i + d))
 | 0 => .refl _
 | d + 1 => by
  refine (zfD L out t k l i d).trans ?_
  rw [show i + (d + 1) = (i + d) + 1 by omega]
  cases hy : L[i + d]? with
  | none => simp only [zcb, hy]; exact .refl _
  | some y => rw [zcy hy]; exact .push _ _ _
theorem zgv (T : Tp) (l out : List (List I)) (k : Nat) : ∀ i, preL out (zcG T l k out i)
 | 0 => .refl _
 | i + 1 => by
  cases hy : T.out[i]? with
  | none => simp only [zcG, hy]; exact zgv T l out k i
  | some y => rw [zcx hy]; exact (zgv T l out k i).trans (.push _ _ _)
theorem zhJ (T : Tp) (l out : List (List I)) (k i : Nat) : ∀ d, preL (zcG T l k out i) (zcG T l k out (i + d))
 | 0 => .refl _
 | d + 1 => by
  refine (zhJ T l out k i d).trans ?_
  rw [show i + (d + 1) = (i + d) + 1 by omega]
  cases hy : T.out[i + d]? with
  | none => simp only [zcG, hy]; exact .refl _
  | some y => rw [zcx hy]; exact .push _ _ _
theorem zgo (T : Tp) (x : List I) (t : I) (k : Nat) : ∀ d, preL (expS T x t k).1 (expS T x t (k + d)).1 ∧ preL (expS T x t k).2 (expS T x t (k + d)).2
 | 0 => ⟨.refl _, .refl _⟩
 | d + 1 => ⟨(zgo T x t k d).1.trans (zgw _ _ _ _ _ _), (zgo T x t k d).2.trans (zgv _ _ _ _ _)⟩
def cL (T : Tp) (x : List I) (t : I) (j m : Nat) : I := atN (rowN (expS T x t (m + 1)).1 (j : Int)) m
def cO (T : Tp) (x : List I) (t : I) (i m : Nat) : I := atN (rowN (expS T x t m).2 (i : Int)) m
include hT hx ht in
theorem zuM {k j m : Nat} (hj : j < T.L.length) (hm : m < k) : atN (rowN (expS T x t k).1 (j : Int)) m = cL T x t j m := by
 have h := (zgo T x t (m + 1) (k - (m + 1))).1 j
 rw [show m + 1 + (k - (m + 1)) = k by omega] at h
 exact h.at (by rw [(zaX hT hx ht (m + 1)).1.row j hj, if_neg (by omega)]; omega)
include hT hx ht in
theorem zsQ {k i m : Nat} (hi : i < T.n) (hm : m ≤ k) : atN (rowN (expS T x t k).2 (i : Int)) m = cO T x t i m := by
 have h := (zgo T x t m (k - m)).2 i
 rw [show m + (k - m) = k by omega] at h
 exact h.at (by rw [(zaX hT hx ht m).2.row i hi, if_neg (by omega)]; omega)
theorem zjb {i : Nat} (hi : i < T.n) : cO T x t i 0 = atN x i := by
 simp [cO, expS, rowN, hi, atN]
include hT hx ht in
theorem zjc {i m o : Nat} (hi : i < T.n) (ho : T.out[i]? = some o) : cO T x t i (m + 1) = mulr (cL T x t o m) 1 (m + 1) := by
 obtain ⟨e1, e2⟩ := zaX hT hx ht m
 have hl := zee hT ht e1 e2.val T.L.length (Nat.le_refl _)
 have hs := ze2 hT hl.val e2 i (by omega)
 have hp := zhJ T (expS T x t (m + 1)).1 (expS T x t m).2 m (i + 1) (T.out.length - (i + 1)) i
 have hil : i < T.out.length := (gJ.1 ho).1
 rw [show i + 1 + (T.out.length - (i + 1)) = T.out.length by omega] at hp
 have hrow := hs.row i hi
 rw [if_neg (by omega)] at hrow
 have hsl : i < (zcG T (expS T x t (m + 1)).1 m (expS T x t m).2 i).length := by rw [show (expS T x t (m + 1)).1 = zcb T.L (expS T x t m).2 t m (expS T x t m).1 T.L.length from rfl, hs.len]; exact hi
 have e : rowN (zcG T (expS T x t (m + 1)).1 m (expS T x t m).2 (i + 1)) (i : Int) = rowN (zcG T (expS T x t (m + 1)).1 m (expS T x t m).2 i) (i : Int) ++ [mulr (atN (rowN (expS T x t (m + 1)).1 (o : Int)) m) 1 (m + 1)] := by
  rw [zcx ho, zcp hsl]
 have hrow' : (rowN (zcG T (expS T x t (m + 1)).1 m (expS T x t m).2 i) (i : Int)).length = m + 1 := hrow
 show atN (rowN (zcG T (expS T x t (m + 1)).1 m (expS T x t m).2 T.out.length) (i : Int)) (m + 1) = _
 rw [hp.at (by rw [e]; simp [hrow']), e]
 unfold atN
 rw [List.getElem?_append_right (by omega), hrow', Nat.sub_self]
 rfl
include hT hx ht in
theorem zqC {j m : Nat} {y : Ins} (hy : T.L[j]? = some y) : cL T x t j m = if y.op = 2 then cO T x t y.a.toNat m else fA algI y (cL T x t) (cL T x t j) t m := by
 have hj := (gJ.1 hy).1
 obtain ⟨e1, e2⟩ := zaX hT hx ht m
 have hl := zee hT ht e1 e2.val j (by omega)
 have hp := zfD T.L (expS T x t m).2 t m (expS T x t m).1 (j + 1) (T.L.length - (j + 1)) j
 rw [show j + 1 + (T.L.length - (j + 1)) = T.L.length by omega] at hp
 have hp0 := zfD T.L (expS T x t m).2 t m (expS T x t m).1 j (T.L.length - j)
 rw [show j + (T.L.length - j) = T.L.length by omega] at hp0
 have hrow := hl.row j hj
 rw [if_neg (by omega)] at hrow
 have hsl : j < (zcb T.L (expS T x t m).2 t m (expS T x t m).1 j).length := by rw [hl.len]; exact hj
 have e := zcy (out := (expS T x t m).2) (l := (expS T x t m).1) (t := t) (k := m) hy
 have er : rowN (zcb T.L (expS T x t m).2 t m (expS T x t m).1 (j + 1)) (j : Int) = rowN (zcb T.L (expS T x t m).2 t m (expS T x t m).1 j) (j : Int) ++ [zfr y (expS T x t m).2 (zcb T.L (expS T x t m).2 t m (expS T x t m).1 j) t m j] := by
  rw [e, zcp hsl]
 have h1 : cL T x t j m = zfr y (expS T x t m).2 (zcb T.L (expS T x t m).2 t m (expS T x t m).1 j) t m j := by
  show atN (rowN (zcb T.L (expS T x t m).2 t m (expS T x t m).1 T.L.length) (j : Int)) m = _
  rw [hp.at (by rw [er]; simp [hrow]), er]
  unfold atN
  rw [List.getElem?_append_right (by omega), hrow, Nat.sub_self]
  rfl
 rw [h1]
 have hins := hT.ins j y hy
 unfold zfr
 by_cases o2 : y.op = 2
 ·rw [if_pos o2, if_pos o2]
  have hn : y.a.toNat < T.n := by rcases hins with h | h | h | h | h <;> omega
  rw [← zhS]
  exact zsQ hT hx ht hn (Nat.le_refl _)
 ·rw [if_neg o2, if_neg o2, zp6, hrow]
  refine zma hins (fun j' i hj' hi => ?_) (fun i hi => ?_)
  ·have hr := hl.row j' (by omega)
   rw [if_pos hj'] at hr
   rw [← (hp0 j').at (by omega)]
   exact zuM (k := m + 1) hT hx ht (by omega) (by omega)
  ·rw [← (hp0 j).at (by omega)]
   exact zuM (k := m + 1) hT hx ht hj (by omega)
end
end Go.Pl

namespace Go.Pl
def algR (p : Nat) : Alg Rat := ⟨0, 1, fun c => (c.1 : Rat) / 65536, fun x => -x, fun x y => x + y, fun x y => x - y, fun x y => x * y, fun x => x * x, fun x y => x / y, rt p, fun x => 2 * x⟩
def colR (T : Tp) (p : Nat) (s : Rat) (A : Nat → Nat → Rat) (o : Nat → Rat) (m : Nat) : Nat → Nat → Rat
 | 0 => fun _ => 0
 | i + 1 => fun j => if j = i then (match T.L[i]? with
   | some x => if x.op = 2 then o x.a.toNat else fA (algR p) x (fun j' i' => if i' = m then colR T p s A o m i j' else A j' i') (A i) s m
   | none => 0) else colR T p s A o m i j
def runR (T : Tp) (p : Nat) (s : Rat) (y : Nat → Rat) : Nat → (Nat → Nat → Rat) × (Nat → Rat)
 | 0 => (fun _ _ => 0, y)
 | m + 1 => (fun j i => if i = m then colR T p s (runR T p s y m).1 (runR T p s y m).2 m T.L.length j else (runR T p s y m).1 j i,
   fun i => colR T p s (runR T p s y m).1 (runR T p s y m).2 m T.L.length ((T.out[i]?).getD 0) / ((m + 1 : Nat) : Rat))
def rL (T : Tp) (p : Nat) (s : Rat) (y : Nat → Rat) (j m : Nat) : Rat := (runR T p s y (m + 1)).1 j m
def rO (T : Tp) (p : Nat) (s : Rat) (y : Nat → Rat) (i m : Nat) : Rat := (runR T p s y m).2 i
section
variable {T : Tp} {p : Nat} {s : Rat} {y : Nat → Rat}
theorem zkS {m : Nat} : ∀ {k : Nat}, m < k → ∀ j, (runR T p s y k).1 j m = rL T p s y j m
 | 0, h, j => by omega
 | k + 1, h, j => by
  by_cases e : m = k
  ·subst e; rfl
  ·show (if m = k then _ else (runR T p s y k).1 j m) = _
   rw [if_neg e]; exact zkS (by omega) j
theorem zlk {A : Nat → Nat → Rat} {o : Nat → Rat} {m i j : Nat} (hj : j < i) : ∀ {k : Nat}, i ≤ k → colR T p s A o m k j = colR T p s A o m i j
 | k, h => by
  induction k with
  | zero => rw [show i = 0 by omega]
  | succ k ih =>
   by_cases e : i = k + 1
   ·rw [e]
   ·show (if j = k then _ else colR T p s A o m k j) = _
    rw [if_neg (by omega)]; exact ih (by omega)
theorem zrU (i : Nat) : rO T p s y i 0 = y i := rfl
theorem znJ (j m : Nat) : rL T p s y j m = colR T p s (runR T p s y m).1 (runR T p s y m).2 m T.L.length j := by
 show (if m = m then _ else _) = _
 rw [if_pos rfl]
theorem zdq {i m o : Nat} (ho : T.out[i]? = some o) : rO T p s y i (m + 1) = rL T p s y o m / ((m + 1 : Nat) : Rat) := by
 rw [znJ]
 show colR T p s (runR T p s y m).1 (runR T p s y m).2 m T.L.length ((T.out[i]?).getD 0) / ((m + 1 : Nat) : Rat) = _
 rw [ho]; rfl
theorem zgL (hT : tpOk T) {j m : Nat} {x : Ins} (hx : T.L[j]? = some x) : rL T p s y j m = if x.op = 2 then rO T p s y x.a.toNat m else fA (algR p) x (rL T p s y) (rL T p s y j) s m := by
 have hj := (gJ.1 hx).1
 rw [znJ, zlk (i := j + 1) (by omega) (by omega)]
 show (if j = j then (match T.L[j]? with
   | some x => if x.op = 2 then (runR T p s y m).2 x.a.toNat else fA (algR p) x (fun j' i' => if i' = m then colR T p s (runR T p s y m).1 (runR T p s y m).2 m j j' else (runR T p s y m).1 j' i') ((runR T p s y m).1 j) s m
   | none => 0) else _) = _
 rw [if_pos rfl, hx]
 simp only
 by_cases o2 : x.op = 2
 ·rw [if_pos o2, if_pos o2]; rfl
 ·rw [if_neg o2, if_neg o2]
  refine zma (hT.ins j x hx) (fun j' i hj' hi => ?_) (fun i hi => zkS hi j)
  by_cases e : i = m
  ·subst e
   rw [if_pos rfl, znJ, zlk (i := j' + 1) (k := T.L.length) (by omega) (by omega), zlk (i := j' + 1) (k := j) (by omega) (by omega)]
  ·rw [if_neg e]; exact zkS (by omega) j'
end
theorem zos {a : I} {x : Rat} {n d : Int} (hn : 0 ≤ n) (hd : 0 < d) (h : InI a x) : InI (mulr a n d) (x * n / d) := by
 unfold mulr
 rcases h with rfl | ⟨h1, h2⟩
 ·rw [if_pos (by decide)]; exact .inl rfl
 ·split
  ·rename_i he; rw [zaA] at he; exact .inl he
  ·have hdR : (0 : Rat) < (d : Rat) := Rat.intCast_pos.2 hd
   have hnR : (0 : Rat) ≤ (n : Rat) := Rat.intCast_nonneg.2 hn
   have f1 := (zhw (x := a.1 * n) (b := d) (by omega)).1
   have f2 := (ziL (x := a.2 * n) (b := d) (by omega)).1
   have m1 := Rat.mul_le_mul_of_nonneg_right h1 hnR
   have m2 := Rat.mul_le_mul_of_nonneg_right h2 hnR
   have c1 : ((a.1 * n : Int) : Rat) = (a.1 : Rat) * (n : Rat) := Rat.intCast_mul _ _
   have c2 : ((a.2 * n : Int) : Rat) = (a.2 : Rat) * (n : Rat) := Rat.intCast_mul _ _
   rw [c1] at f1
   rw [c2] at f2
   have e : x * n / d * 65536 = (x * 65536 * n) / d := by grind
   refine zmY ?_ ?_
   ·rw [e]
    refine Rat.le_trans f1 ?_
    exact zeM hdR (by have : (a.1 : Rat) * n / d * d = a.1 * n := by grind
                      rw [this]; exact m1)
   ·rw [e]
    refine Rat.le_trans ?_ f2
    exact zdu hdR (by have : (a.2 : Rat) * n / d * d = a.2 * n := by grind
                      rw [this]; exact m2)
theorem zoq {p : Nat} {f : Nat → I} {g : Nat → Rat} : ∀ {m : Nat}, (∀ i, i < m → InI (f i) (g i)) → InI (sumA algI f m) (sumA (algR p) g m)
 | 0, _ => zj2
 | 1, h => h 0 (by omega)
 | m + 2, h => zj1 (zoq fun i hi => h i (by omega)) (h (m + 1) (by omega))
theorem zgn {p : Nat} {f g : Nat → I} {f' g' : Nat → Rat} {frm m k : Nat} (hf : ∀ i, frm ≤ i → i < frm + m → InI (f i) (f' i)) (hg : ∀ i, frm ≤ i → i < frm + m → InI (g (k - i)) (g' (k - i))) : InI (zci algI f g frm m k) (zci (algR p) f' g' frm m k) :=
 zoq fun i hi => zot (hf (frm + i) (by omega) (by omega)) (hg (frm + i) (by omega) (by omega))
theorem zsr {p : Nat} {a : I} {x : Rat} (h : InI a x) : InI (zcQ a) (rt p x) := in_rt p h
theorem zov {a : I} {x : Rat} (h : InI a x) : InI (mulr a 2 1) (2 * x) := by
 have := zos (n := 2) (d := 1) (by decide) (by decide) h
 have e : x * ((2 : Int) : Rat) / ((1 : Int) : Rat) = 2 * x := by
  have e1 : ((2 : Int) : Rat) = 2 := rfl
  have e2 : ((1 : Int) : Rat) = 1 := rfl
  rw [e1, e2]; grind
 rwa [e] at this
theorem in_fA {x : Ins} {n j : Nat} (hx : zop n j x) (o2 : x.op ≠ 2) {p : Nat} {A : Nat → Nat → I} {A' : Nat → Nat → Rat} {q : Nat → I} {q' : Nat → Rat} {t : I} {s : Rat} {m : Nat} (hA : ∀ j' i, j' < j → i ≤ m → InI (A j' i) (A' j' i)) (hq : ∀ i, i < m → InI (q i) (q' i)) (ht : InI t s) :
  InI (fA algI x A q t m) (fA (algR p) x A' q' s m) := by
 have h2 : 4 ≤ x.op → x.a.toNat < j := fun h => by rcases hx with h1 | h1 | h1 | h1 | h1 <;> omega
 have h3 : 7 ≤ x.op → x.b.toNat < j := fun h => by rcases hx with h1 | h1 | h1 | h1 | h1 <;> omega
 unfold fA
 by_cases o4 : x.op = 4
 ·rw [if_pos o4, if_pos o4]; exact zrc (hA _ _ (h2 (by omega)) (Nat.le_refl _))
 rw [if_neg o4, if_neg o4]
 by_cases o7 : x.op = 7
 ·rw [if_pos o7, if_pos o7]; exact zj1 (hA _ _ (h2 (by omega)) (Nat.le_refl _)) (hA _ _ (h3 (by omega)) (Nat.le_refl _))
 rw [if_neg o7, if_neg o7]
 by_cases o8 : x.op = 8
 ·rw [if_pos o8, if_pos o8]; exact zor (hA _ _ (h2 (by omega)) (Nat.le_refl _)) (hA _ _ (h3 (by omega)) (Nat.le_refl _))
 rw [if_neg o8, if_neg o8]
 by_cases o9 : x.op = 9
 ·rw [if_pos o9, if_pos o9]
  exact zgn (fun i _ h => hA _ _ (h2 (by omega)) (by omega)) (fun i _ h => hA _ _ (h3 (by omega)) (by omega))
 rw [if_neg o9, if_neg o9]
 by_cases o5 : x.op = 5
 ·rw [if_pos o5, if_pos o5]
  by_cases m0 : m = 0
  ·rw [if_pos m0, if_pos m0]; exact in_sq (hA _ _ (h2 (by omega)) (by omega))
  ·rw [if_neg m0, if_neg m0]
   exact zgn (fun i _ h => hA _ _ (h2 (by omega)) (by omega)) (fun i _ h => hA _ _ (h2 (by omega)) (by omega))
 rw [if_neg o5, if_neg o5]
 by_cases o10 : x.op = 10
 ·rw [if_pos o10, if_pos o10]
  by_cases m0 : m = 0
  ·rw [if_pos m0, if_pos m0]; exact zou (hA _ _ (h2 (by omega)) (by omega)) (fun _ => hA _ _ (h3 (by omega)) (by omega))
  ·rw [if_neg m0, if_neg m0]
   exact zou (zor (hA _ _ (h2 (by omega)) (Nat.le_refl _)) (zgn (fun i _ h => hA _ _ (h3 (by omega)) (by omega)) (fun i _ h => hq _ (by omega)))) (fun _ => hA _ _ (h3 (by omega)) (by omega))
 rw [if_neg o10, if_neg o10]
 by_cases o6 : x.op = 6
 ·rw [if_pos o6, if_pos o6]
  by_cases m0 : m = 0
  ·rw [if_pos m0, if_pos m0]; exact zsr (hA _ _ (h2 (by omega)) (by omega))
  ·rw [if_neg m0, if_neg m0]
   exact zou (zor (hA _ _ (h2 (by omega)) (Nat.le_refl _)) (zgn (fun i _ h => hq _ (by omega)) (fun i _ h => hq _ (by omega)))) (fun _ => zov (hq 0 (by omega)))
 rw [if_neg o6, if_neg o6]
 by_cases o1 : x.op = 1
 ·rw [if_pos o1, if_pos o1]
  by_cases m0 : m = 0
  ·rw [if_pos m0, if_pos m0]
   have hv : vB x.c = true := by rcases hx with h1 | h1 | h1 | h1 | h1 <;> first | exact h1.2 | omega
   exact zfR hv
  ·rw [if_neg m0, if_neg m0]; exact zj2
 rw [if_neg o1, if_neg o1]
 by_cases o3 : x.op = 3
 ·rw [if_pos o3, if_pos o3]
  by_cases m0 : m = 0
  ·rw [if_pos m0, if_pos m0]; exact ht
  ·rw [if_neg m0, if_neg m0]
   by_cases m1 : m = 1
   ·rw [if_pos m1, if_pos m1]; exact zuz
   ·rw [if_neg m1, if_neg m1]; exact zj2
 rw [if_neg o3, if_neg o3]; exact zj2
theorem zg5 {T : Tp} {x : List I} {t : I} (hT : tpOk T) (hx : allV x) (ht : vB t = true) (p : Nat) {s : Rat} {y : Nat → Rat} (hy : ∀ i, i < T.n → InI (atN x i) (y i)) (hs : InI t s) :
  ∀ m, (∀ i, i < T.n → InI (cO T x t i m) (rO T p s y i m)) ∧ (∀ j, j < T.L.length → InI (cL T x t j m) (rL T p s y j m)) := by
 intro m
 induction m using Nat.strongRecOn with
 | ind m ih =>
  have hO : ∀ i, i < T.n → InI (cO T x t i m) (rO T p s y i m) := by
   intro i hi
   cases m with
   | zero => rw [zjb hi, zrU]; exact hy i hi
   | succ m =>
    obtain ⟨o, ho⟩ : ∃ o, T.out[i]? = some o := ⟨T.out[i]'(by rw [hT.len]; exact hi), by simp⟩
    rw [zjc hT hx ht hi ho, zdq ho]
    have := zos (n := 1) (d := (m : Int) + 1) (by decide) (by omega) ((ih m (by omega)).2 o (hT.out o (List.mem_of_getElem? ho)))
    have e : rL T p s y o m * ((1 : Int) : Rat) / (((m : Int) + 1 : Int) : Rat) = rL T p s y o m / ((m + 1 : Nat) : Rat) := by
     have e1 : ((1 : Int) : Rat) = 1 := rfl
     have e2 : (((m : Int) + 1 : Int) : Rat) = ((m + 1 : Nat) : Rat) := by
      have : ((m : Int) + 1) = ((m + 1 : Nat) : Int) := by omega
      rw [this]; exact Rat.intCast_natCast _
     rw [e1, e2]; grind
    rwa [e] at this
  refine ⟨hO, fun j => ?_⟩
  induction j using Nat.strongRecOn with
  | ind j ihj =>
   intro hj
   obtain ⟨x', hx'⟩ : ∃ x', T.L[j]? = some x' := ⟨T.L[j], by simp [hj]⟩
   rw [zqC hT hx ht hx', zgL hT hx']
   by_cases o2 : x'.op = 2
   ·rw [if_pos o2, if_pos o2]
    refine hO _ ?_
    have := hT.ins j x' hx'
    rcases this with h | h | h | h | h <;> omega
   ·rw [if_neg o2, if_neg o2]
    refine in_fA (hT.ins j x' hx') o2 (fun j' i hj' hi => ?_) (fun i hi => (ih i hi).2 j hj) hs
    rcases Nat.lt_or_eq_of_le hi with h | h
    ·exact (ih i h).2 j' (by omega)
    ·rw [h]; exact ihj j' hj' (by omega)
end Go.Pl

namespace Go.Pl
def sm (f : Nat → Rat) : Nat → Rat
 | 0 => 0
 | m + 1 => sm f m + f m
theorem zkI (p : Nat) (f : Nat → Rat) : ∀ m, sumA (algR p) f m = sm f m
 | 0 => rfl
 | 1 => by show f 0 = 0 + f 0; grind
 | m + 2 => by
  show sumA (algR p) f (m + 1) + f (m + 1) = sm f (m + 1) + f (m + 1)
  rw [zkI p f (m + 1)]
theorem zb8 {f g : Nat → Rat} : ∀ {m : Nat}, (∀ i, i < m → f i = g i) → sm f m = sm g m
 | 0, _ => rfl
 | m + 1, h => by simp only [sm]; rw [zb8 fun i hi => h i (by omega), h m (by omega)]
theorem znr (f g : Nat → Rat) : ∀ m, sm (fun i => f i + g i) m = sm f m + sm g m
 | 0 => by simp only [sm]; grind
 | m + 1 => by simp only [sm]; rw [znr f g m]; grind
theorem zqM (c : Rat) (f : Nat → Rat) : ∀ m, sm (fun i => c * f i) m = c * sm f m
 | 0 => by simp only [sm]; grind
 | m + 1 => by simp only [sm]; rw [zqM c f m]; grind
theorem zef (f : Nat → Rat) : ∀ m, sm f (m + 1) = f 0 + sm (fun i => f (i + 1)) m
 | 0 => by simp only [sm]; grind
 | m + 1 => by
  have := zef f m
  simp only [sm] at this ⊢
  grind
def cv (a b : Nat → Rat) (m : Nat) : Rat := sm (fun i => a i * b (m - i)) (m + 1)
theorem zcd (i : Nat) : ((i + 1 : Nat) : Rat) = (i : Rat) + 1 := by
 have : ((i + 1 : Nat) : Rat) = ((((i : Int) + 1 : Int)) : Rat) := (Rat.intCast_natCast (i + 1)).symm
 rw [this, Rat.intCast_add]
 rfl
theorem zi6 (a b : Nat → Rat) (m : Nat) : sm (fun i => ((i + 1 : Nat) : Rat) * a (i + 1) * b (m - i) + a i * (((m - i + 1 : Nat) : Rat) * b (m - i + 1))) (m + 1) = ((m + 1 : Nat) : Rat) * cv a b (m + 1) := by
 rw [znr]
 have h1 : sm (fun i => ((i + 1 : Nat) : Rat) * a (i + 1) * b (m - i)) (m + 1) = sm (fun i => (i : Rat) * (a i * b (m + 1 - i))) (m + 2) := by
  rw [zef (fun i => (i : Rat) * (a i * b (m + 1 - i))) (m + 1)]
  have e0 : ((0 : Nat) : Rat) * (a 0 * b (m + 1 - 0)) = 0 := by
   have : ((0 : Nat) : Rat) = 0 := rfl
   rw [this]; grind
  rw [e0]
  have : ∀ x : Rat, 0 + x = x := by intro x; grind
  rw [this]
  refine zb8 fun i hi => ?_
  rw [show m + 1 - (i + 1) = m - i by omega]
  grind
 have h2 : sm (fun i => a i * (((m - i + 1 : Nat) : Rat) * b (m - i + 1))) (m + 1) = sm (fun i => ((m + 1 - i : Nat) : Rat) * (a i * b (m + 1 - i))) (m + 2) := by
  show _ = sm (fun i => ((m + 1 - i : Nat) : Rat) * (a i * b (m + 1 - i))) (m + 1) + ((m + 1 - (m + 1) : Nat) : Rat) * (a (m + 1) * b (m + 1 - (m + 1)))
  have e0 : ((m + 1 - (m + 1) : Nat) : Rat) * (a (m + 1) * b (m + 1 - (m + 1))) = 0 := by
   have : ((m + 1 - (m + 1) : Nat) : Rat) = 0 := by rw [Nat.sub_self]; rfl
   rw [this]; grind
  rw [e0]
  have : ∀ x : Rat, x + 0 = x := by intro x; grind
  rw [this]
  refine zb8 fun i hi => ?_
  rw [show m + 1 - i = m - i + 1 by omega]
  grind
 rw [h1, h2, ← znr, cv, ← zqM]
 refine zb8 fun i hi => ?_
 have e : ((m + 1 - i : Nat) : Rat) = ((m + 1 : Nat) : Rat) - (i : Rat) := by
  have h3 : ((m + 1 - i : Nat) : Int) = ((m + 1 : Nat) : Int) - (i : Int) := by omega
  have h4 : ((m + 1 - i : Nat) : Rat) = (((m + 1 - i : Nat) : Int) : Rat) := (Rat.intCast_natCast _).symm
  rw [h4, h3, Rat.intCast_sub, Rat.intCast_natCast, Rat.intCast_natCast]
 rw [e]; grind
structure StR (T : Tp) (X : List I) (τ : I) where
 p : Nat
 δ : Rat
 s : Rat
 y : Nat → Rat
 y' : Nat → Rat
 hy : ∀ i, i < T.n → InI (atN X i) (y i)
 hy' : ∀ i, i < T.n → InI (atN X i) (y' i)
 hs : InI τ s
 hs' : InI τ (s + δ)
 pos : 0 < δ
 small : δ ≤ 4
 fine : 1 / (grid p : Rat) ≤ δ * δ
 euler : ∀ i o, T.out[i]? = some o → y' i = y i + δ * rL T p s y o 0
section
variable {T : Tp} {X : List I} {τ : I}
def Dfx (u u' d : StR T X τ → Rat) : Prop := ∃ K, 0 ≤ K ∧ ∀ r, Df K r.δ (u r) (u' r) (d r)
def Bdx (u : StR T X τ → Rat) : Prop := ∃ W, 0 ≤ W ∧ ∀ r, Bn W (u r)
variable {u u' d v v' e : StR T X τ → Rat}
theorem Bdx.add (h : Bdx u) (k : Bdx v) : Bdx fun r => u r + v r := by
 obtain ⟨K, k0, hK⟩ := h; obtain ⟨L, l0, hL⟩ := k
 exact ⟨K + L, by grind, fun r => (hK r).add (hL r)⟩
theorem Bdx.mul (h : Bdx u) (k : Bdx v) : Bdx fun r => u r * v r := by
 obtain ⟨K, k0, hK⟩ := h; obtain ⟨L, l0, hL⟩ := k
 exact ⟨K * L, Rat.mul_nonneg k0 l0, fun r => (hK r).mul (hL r)⟩
theorem Bdx.smul (c : Rat) (h : Bdx u) : Bdx fun r => c * u r := by
 obtain ⟨K, k0, hK⟩ := h
 have hc : ∃ C, 0 ≤ C ∧ Bn C c := by
  by_cases h : 0 ≤ c
  ·exact ⟨c, h, by unfold Bn; grind⟩
  ·exact ⟨-c, by grind, by unfold Bn; grind⟩
 obtain ⟨C, c0, hC⟩ := hc
 exact ⟨C * K, Rat.mul_nonneg c0 k0, fun r => Bn.mul hC (hK r)⟩
theorem Dfx.add (h : Dfx u u' d) (k : Dfx v v' e) : Dfx (fun r => u r + v r) (fun r => u' r + v' r) (fun r => d r + e r) := by
 obtain ⟨K, k0, hK⟩ := h; obtain ⟨L, l0, hL⟩ := k
 exact ⟨K + L, by grind, fun r => (hK r).add (hL r)⟩
theorem Dfx.sub (h : Dfx u u' d) (k : Dfx v v' e) : Dfx (fun r => u r - v r) (fun r => u' r - v' r) (fun r => d r - e r) := by
 obtain ⟨K, k0, hK⟩ := h; obtain ⟨L, l0, hL⟩ := k
 exact ⟨K + L, by grind, fun r => (hK r).sub (hL r)⟩
theorem Dfx.neg (h : Dfx u u' d) : Dfx (fun r => - u r) (fun r => - u' r) (fun r => - d r) := by
 obtain ⟨K, k0, hK⟩ := h
 exact ⟨K, k0, fun r => (hK r).neg⟩
theorem Dfx.const (c : Rat) : Dfx (fun _ : StR T X τ => c) (fun _ => c) (fun _ => 0) := ⟨0, by grind, fun r => Df.const c⟩
theorem Dfx.congr (h : Dfx u u' d) (h1 : ∀ r, u r = v r) (h2 : ∀ r, u' r = v' r) (h3 : ∀ r, d r = e r) : Dfx v v' e := by
 obtain ⟨K, k0, hK⟩ := h
 exact ⟨K, k0, fun r => by rw [← h1, ← h2, ← h3]; exact hK r⟩
theorem Dfx.smul (c : Rat) (h : Dfx u u' d) : Dfx (fun r => c * u r) (fun r => c * u' r) (fun r => c * d r) := by
 obtain ⟨K, k0, hK⟩ := h
 have hc : ∃ C, 0 ≤ C ∧ Bn C c := by
  by_cases h : 0 ≤ c
  ·exact ⟨c, h, by unfold Bn; grind⟩
  ·exact ⟨-c, by grind, by unfold Bn; grind⟩
 obtain ⟨C, c0, hC⟩ := hc
 exact ⟨C * K, Rat.mul_nonneg c0 k0, fun r => (hK r).smul c hC⟩
theorem Dfx.mul (h : Dfx u u' d) (k : Dfx v v' e) (bu' : Bdx u') (bv : Bdx v) (bd : Bdx d) (be : Bdx e) : Dfx (fun r => u r * v r) (fun r => u' r * v' r) (fun r => d r * v r + u r * e r) := by
 obtain ⟨K, k0, hK⟩ := h; obtain ⟨L, l0, hL⟩ := k
 obtain ⟨W1, w1, h1⟩ := bu'; obtain ⟨W2, w2, h2⟩ := bv; obtain ⟨W3, w3, h3⟩ := bd; obtain ⟨W4, w4, h4⟩ := be
 generalize hW : W1 + W2 + W3 + W4 = W
 have w0 : 0 ≤ W := by grind
 have n1 := Rat.mul_nonneg w0 w0
 have n2 := Rat.mul_nonneg (Rat.mul_nonneg (show (0 : Rat) ≤ 4 by grind) w0) k0
 have n3 := Rat.mul_nonneg w0 l0
 have n4 := Rat.mul_nonneg w0 k0
 exact ⟨W * W + 4 * W * K + W * L + W * K, by grind, fun r => (hK r).mul (Rat.le_of_lt r.pos) r.small (hL r) ((h1 r).mono (by grind)) ((h2 r).mono (by grind)) ((h3 r).mono (by grind)) ((h4 r).mono (by grind))⟩
theorem Dfx.sum {f f' g : Nat → StR T X τ → Rat} : ∀ {m : Nat}, (∀ i, i < m → Dfx (f i) (f' i) (g i)) → Dfx (fun r => sm (fun i => f i r) m) (fun r => sm (fun i => f' i r) m) (fun r => sm (fun i => g i r) m)
 | 0, _ => Dfx.const 0
 | m + 1, h => Dfx.add (Dfx.sum fun i hi => h i (by omega)) (h m (by omega))
theorem Bdx.sum {f : Nat → StR T X τ → Rat} : ∀ {m : Nat}, (∀ i, i < m → Bdx (f i)) → Bdx (fun r => sm (fun i => f i r) m)
 | 0, _ => ⟨0, by grind, fun r => Bn.zero (by grind)⟩
 | m + 1, h => Bdx.add (Bdx.sum fun i hi => h i (by omega)) (h m (by omega))
theorem zn4 {a b : Rat} (ha : 0 ≤ a) (hb : 0 < b) : 0 ≤ a / b := by
 rw [Rat.div_def]; exact Rat.mul_nonneg ha (Rat.le_of_lt (Rat.inv_pos.2 hb))
theorem Dfx.cancel {b b' db q q' dq : StR T X τ → Rat} {β : Rat} (hβ : 0 < β) (hb : ∀ r, Far β (b r)) (hb' : ∀ r, Far β (b' r)) (hP : Dfx (fun r => b r * q r) (fun r => b' r * q' r) (fun r => db r * q r + b r * dq r)) (hB : Dfx b b' db)
  (wb : Bdx b) (wq : Bdx q) (wdb : Bdx db) (wdq : Bdx dq) : Dfx q q' dq := by
 obtain ⟨K, k0, hK⟩ := hP; obtain ⟨L, l0, hL⟩ := hB
 obtain ⟨W1, w1, h1⟩ := wb; obtain ⟨W2, w2, h2⟩ := wq; obtain ⟨W3, w3, h3⟩ := wdb; obtain ⟨W4, w4, h4⟩ := wdq
 generalize hW : W1 + W2 + W3 + W4 = W
 have w0 : 0 ≤ W := by grind
 have n1 := Rat.mul_nonneg w0 w0
 have n2 := Rat.mul_nonneg (show (0 : Rat) ≤ 4 by grind) k0
 have n3 := Rat.mul_nonneg (Rat.mul_nonneg (show (0 : Rat) ≤ 4 by grind) w0) l0
 have n4 := Rat.mul_nonneg (show (0 : Rat) ≤ 4 by grind) l0
 have n5 := Rat.mul_nonneg w0 l0
 have n6 : 0 ≤ (W * W + 4 * K + 4 * W * L) / β := zn4 (by grind) hβ
 have n7 : 0 ≤ (W * W + 4 * K + 4 * W * L) / β * (W + 4 * L) := Rat.mul_nonneg n6 (by grind)
 exact ⟨(K + W * L + (W * W + 4 * K + 4 * W * L) / β * (W + 4 * L)) / β, zn4 (by grind) hβ, fun r => Df.cancel (Rat.le_of_lt r.pos) r.small hβ (hb r) (hb' r) (hK r) (hL r) ((h1 r).mono (by grind)) ((h2 r).mono (by grind)) ((h3 r).mono (by grind)) ((h4 r).mono (by grind))⟩
theorem Dfx.root {q q' dq : StR T X τ → Rat} {β : Rat} (hβ : 0 < β) (hb : ∀ r, β ≤ q r) (hb' : ∀ r, β ≤ q' r) (hP : Dfx (fun r => q r * q r) (fun r => q' r * q' r) (fun r => 2 * q r * dq r)) (wq : Bdx q) (wdq : Bdx dq) : Dfx q q' dq := by
 obtain ⟨K, k0, hK⟩ := hP
 obtain ⟨W1, w1, h1⟩ := wq; obtain ⟨W2, w2, h2⟩ := wdq
 generalize hW : W1 + W2 = W
 have w0 : 0 ≤ W := by grind
 have n1 := Rat.mul_nonneg w0 w0
 have n2 : 0 ≤ (2 * W * W + 4 * K) / (2 * β) := zn4 (by grind) (by grind)
 have n3 := Rat.mul_nonneg n2 n2
 exact ⟨(K + (2 * W * W + 4 * K) / (2 * β) * ((2 * W * W + 4 * K) / (2 * β))) / (2 * β), zn4 (by grind) (by grind), fun r => Df.root (Rat.le_of_lt r.pos) hβ r.small (hb r) (hb' r) (hK r) k0 ((h1 r).mono (by grind)) ((h2 r).mono (by grind))⟩
theorem Dfx.near (h : Dfx u u' d) {C : Rat} (hC : 0 ≤ C) (h1 : ∀ r, Bn (C * (r.δ * r.δ)) (v r - u r)) (h2 : ∀ r, Bn (C * (r.δ * r.δ)) (v' r - u' r)) : Dfx v v' d := by
 obtain ⟨K, k0, hK⟩ := h
 refine ⟨K + 2 * C, by grind, fun r => ?_⟩
 have h0 : Bn (K * (r.δ * r.δ)) (u' r - u r - r.δ * d r) := hK r
 have := (Bn.add h0 (h2 r)).sub (h1 r)
 unfold Df
 have e1 : K * (r.δ * r.δ) + C * (r.δ * r.δ) + C * (r.δ * r.δ) = (K + 2 * C) * (r.δ * r.δ) := by grind
 have e2 : u' r - u r - r.δ * d r + (v' r - u' r) - (v r - u r) = v' r - v r - r.δ * d r := by grind
 rwa [e1, e2] at this
end
end Go.Pl

namespace Go.Pl
theorem zkA {a b : I} (h : add a b ≠ ent) : a ≠ ent ∧ b ≠ ent := by
 refine ⟨fun e => h ?_, fun e => h ?_⟩ <;> subst e <;> unfold add <;> simp [show entB ent = true from rfl]
theorem zq5 {a : I} (h : neg a ≠ ent) : a ≠ ent := fun e => h (by subst e; rfl)
theorem zhG {a b : I} (h : sub a b ≠ ent) : a ≠ ent ∧ b ≠ ent := by
 unfold sub at h
 exact ⟨(zkA h).1, zq5 (zkA h).2⟩
theorem zub {a b : I} (h : mul a b ≠ ent) : a ≠ ent ∧ b ≠ ent := by
 refine ⟨fun e => h ?_, fun e => h ?_⟩ <;> subst e <;> unfold mul <;> simp [show entB ent = true from rfl]
theorem zkh {a b : I} (h : div a b ≠ ent) : a ≠ ent ∧ b ≠ ent ∧ (0 < b.1 ∨ b.2 < 0) := by
 refine ⟨fun e => h ?_, fun e => h ?_, ?_⟩
 ·subst e; unfold div; simp [show entB ent = true from rfl]
 ·subst e; unfold div; simp [show entB ent = true from rfl]
 ·by_cases k : 0 < b.1 ∨ b.2 < 0
  ·exact k
  ·exfalso
   apply h
   unfold div
   rw [if_pos]
   simp
   omega
theorem zgV {a : I} {n d : Int} (h : mulr a n d ≠ ent) : a ≠ ent := fun e => h (by subst e; rfl)
theorem znp {f : Nat → I} : ∀ {m : Nat}, sumA algI f m ≠ ent → ∀ i, i < m → f i ≠ ent
 | 0, _, i, hi => by omega
 | 1, h, i, hi => by rw [show i = 0 by omega]; exact h
 | m + 2, h, i, hi => by
  have h' : add (sumA algI f (m + 1)) (f (m + 1)) ≠ ent := h
  obtain ⟨h1, h2⟩ := zkA h'
  by_cases e : i = m + 1
  ·rw [e]; exact h2
  ·exact znp h1 i (by omega)
theorem zcZ {f g : Nat → I} {frm m k : Nat} (h : zci algI f g frm m k ≠ ent) : ∀ i, frm ≤ i → i < frm + m → f i ≠ ent ∧ g (k - i) ≠ ent := fun i h1 h2 => by
 have := znp h (i - frm) (by omega)
 rw [show frm + (i - frm) = i by omega] at this
 exact zub this
theorem zil : zcQ ent = ent := by
 unfold zcQ
 rw [if_pos (by decide)]
theorem zpN {a : I} (h : zcQ a ≠ ent) : a ≠ ent ∧ 0 ≤ a.1 := by
 refine ⟨fun e => h (by subst e; exact zil), ?_⟩
 unfold zcQ at h
 split at h
 ·exact absurd rfl h
 ·omega
section
variable {T : Tp} {X : List I} {τ : I}
def aL (j m : Nat) (r : StR T X τ) : Rat := rL T r.p r.s r.y j m
def aL' (j m : Nat) (r : StR T X τ) : Rat := rL T r.p (r.s + r.δ) r.y' j m
def aO (i m : Nat) (r : StR T X τ) : Rat := rO T r.p r.s r.y i m
def aO' (i m : Nat) (r : StR T X τ) : Rat := rO T r.p (r.s + r.δ) r.y' i m
variable (hT : tpOk T) (hX : allV X) (hτ : vB τ = true)
include hT hX hτ in
theorem zkB (j m : Nat) (hj : j < T.L.length) (r : StR T X τ) : InI (cL T X τ j m) (aL j m r) ∧ InI (cL T X τ j m) (aL' j m r) :=
 ⟨(zg5 hT hX hτ r.p r.hy r.hs m).2 j hj, (zg5 hT hX hτ r.p r.hy' r.hs' m).2 j hj⟩
theorem zmo {c : I} (hc : c ≠ ent) : ∃ W, 0 ≤ W ∧ ∀ x, InI c x → Bn W x := by
 have w0 : (0 : Int) ≤ max (max c.1 (-c.1)) (max c.2 (-c.2)) := by omega
 have w1 : -(max (max c.1 (-c.1)) (max c.2 (-c.2))) ≤ c.1 := by omega
 have w2 : c.2 ≤ max (max c.1 (-c.1)) (max c.2 (-c.2)) := by omega
 generalize max (max c.1 (-c.1)) (max c.2 (-c.2)) = W at *
 have r0 : (0 : Rat) ≤ (W : Rat) := Rat.intCast_nonneg.2 w0
 have r1 : -(W : Rat) ≤ (c.1 : Rat) := by
  have := Rat.intCast_le_intCast.2 w1
  rwa [Rat.intCast_neg] at this
 have r2 : (c.2 : Rat) ≤ (W : Rat) := Rat.intCast_le_intCast.2 w2
 refine ⟨(W : Rat), r0, fun x hx => ?_⟩
 rcases hx with hx | ⟨h1, h2⟩
 ·exact absurd hx hc
 ·unfold Bn
  constructor <;> grind
include hT hX hτ in
theorem zdl (j m : Nat) (hj : j < T.L.length) (hc : cL T X τ j m ≠ ent) : Bdx (T := T) (X := X) (τ := τ) (aL j m) ∧ Bdx (T := T) (X := X) (τ := τ) (aL' j m) := by
 obtain ⟨W, w0, hW⟩ := zmo hc
 exact ⟨⟨W, w0, fun r => hW _ (zkB hT hX hτ j m hj r).1⟩, ⟨W, w0, fun r => hW _ (zkB hT hX hτ j m hj r).2⟩⟩
theorem zo1 {i o m : Nat} (ho : T.out[i]? = some o) (h : Dfx (T := T) (X := X) (τ := τ) (aL o m) (aL' o m) (fun r => ((m + 1 : Nat) : Rat) * aL o (m + 1) r)) :
  Dfx (T := T) (X := X) (τ := τ) (aO i (m + 1)) (aO' i (m + 1)) (fun r => ((m + 1 + 1 : Nat) : Rat) * aO i (m + 1 + 1) r) := by
 have m1 : ((m + 1 : Nat) : Rat) ≠ 0 := by
  have : (0 : Rat) < ((m + 1 : Nat) : Rat) := by rw [← Rat.intCast_natCast]; exact Rat.intCast_pos.2 (by omega)
  grind
 have m2 : ((m + 1 + 1 : Nat) : Rat) ≠ 0 := by
  have : (0 : Rat) < ((m + 1 + 1 : Nat) : Rat) := by rw [← Rat.intCast_natCast]; exact Rat.intCast_pos.2 (by omega)
  grind
 refine (Dfx.smul (1 / ((m + 1 : Nat) : Rat)) h).congr (fun r => ?_) (fun r => ?_) (fun r => ?_)
 ·show _ = rO T r.p r.s r.y i (m + 1)
  rw [zdq ho]
  show 1 / ((m + 1 : Nat) : Rat) * rL T r.p r.s r.y o m = _
  grind
 ·show _ = rO T r.p (r.s + r.δ) r.y' i (m + 1)
  rw [zdq ho]
  show 1 / ((m + 1 : Nat) : Rat) * rL T r.p (r.s + r.δ) r.y' o m = _
  grind
 ·show _ = ((m + 1 + 1 : Nat) : Rat) * rO T r.p r.s r.y i (m + 1 + 1)
  rw [zdq ho]
  show 1 / ((m + 1 : Nat) : Rat) * (((m + 1 : Nat) : Rat) * rL T r.p r.s r.y o (m + 1)) = _
  grind
theorem zo0 {i o : Nat} (ho : T.out[i]? = some o) : Dfx (T := T) (X := X) (τ := τ) (aO i 0) (aO' i 0) (fun r => ((0 + 1 : Nat) : Rat) * aO i (0 + 1) r) := by
 refine ⟨0, by grind, fun r => ?_⟩
 show Df 0 r.δ (r.y i) (r.y' i) (((0 + 1 : Nat) : Rat) * rO T r.p r.s r.y i (0 + 1))
 rw [zdq ho, r.euler i o ho]
 have e4 : ((0 + 1 : Nat) : Rat) = 1 := rfl
 rw [e4]
 unfold Df Bn
 constructor <;> grind
theorem zet (p : Nat) (a b : Nat → Rat) (m : Nat) : zci (algR p) a b 0 (m + 1) m = cv a b m := by
 unfold zci
 rw [zkI]
 refine zb8 fun i hi => ?_
 rw [Nat.zero_add]
 rfl
theorem Dfx.conv {f f' g g' : Nat → StR T X τ → Rat} {m : Nat} (hf : ∀ i, i ≤ m → Dfx (f i) (f' i) (fun r => ((i + 1 : Nat) : Rat) * f (i + 1) r)) (hg : ∀ i, i ≤ m → Dfx (g i) (g' i) (fun r => ((i + 1 : Nat) : Rat) * g (i + 1) r))
  (bf : ∀ i, i ≤ m + 1 → Bdx (f i)) (bf' : ∀ i, i ≤ m → Bdx (f' i)) (bg : ∀ i, i ≤ m + 1 → Bdx (g i)) :
  Dfx (fun r => cv (fun i => f i r) (fun i => g i r) m) (fun r => cv (fun i => f' i r) (fun i => g' i r) m) (fun r => ((m + 1 : Nat) : Rat) * cv (fun i => f i r) (fun i => g i r) (m + 1)) := by
 have h := Dfx.sum (m := m + 1) (fun i (hi : i < m + 1) => Dfx.mul (hf i (by omega)) (hg (m - i) (by omega)) (bf' i (by omega)) (bg (m - i) (by omega)) (Bdx.smul _ (bf (i + 1) (by omega))) (Bdx.smul _ (bg (m - i + 1) (by omega))))
 refine h.congr (fun r => rfl) (fun r => rfl) (fun r => ?_)
 rw [← zi6]
theorem Dfx.tail {f f' g g' : Nat → StR T X τ → Rat} {m : Nat} (hf : ∀ i, 1 ≤ i → i ≤ m → Dfx (f i) (f' i) (fun r => ((i + 1 : Nat) : Rat) * f (i + 1) r)) (hg : ∀ i, i < m → Dfx (g i) (g' i) (fun r => ((i + 1 : Nat) : Rat) * g (i + 1) r))
  (bf : ∀ i, 1 ≤ i → i ≤ m + 1 → Bdx (f i)) (bf' : ∀ i, 1 ≤ i → i ≤ m → Bdx (f' i)) (bg : ∀ i, i ≤ m → Bdx (g i)) :
  Dfx (fun r => sm (fun i => f (1 + i) r * g (m - (1 + i)) r) m) (fun r => sm (fun i => f' (1 + i) r * g' (m - (1 + i)) r) m)
   (fun r => ((m + 1 : Nat) : Rat) * cv (fun i => f i r) (fun i => g i r) (m + 1) - (((0 + 1 : Nat) : Rat) * f (0 + 1) r * g m r + f 0 r * (((m + 1 : Nat) : Rat) * g (m + 1) r))) := by
 have h := Dfx.sum (m := m) (fun i (hi : i < m) => Dfx.mul (hf (1 + i) (by omega) (by omega)) (hg (m - (1 + i)) (by omega)) (bf' (1 + i) (by omega) (by omega)) (bg (m - (1 + i)) (by omega)) (Bdx.smul _ (bf (1 + i + 1) (by omega) (by omega))) (Bdx.smul _ (bg (m - (1 + i) + 1) (by omega))))
 refine h.congr (fun r => rfl) (fun r => rfl) (fun r => ?_)
 rw [← zi6, zef]
 have e : ∀ a b c : Rat, a = b → a = c + b - c := by intro a b c h; grind
 refine e _ _ _ (zb8 fun i hi => ?_)
 rw [show 1 + i = i + 1 by omega]
end
end Go.Pl

namespace Go.Pl
section
variable {T : Tp} {X : List I} {τ : I}
def DL (T : Tp) (X : List I) (τ : I) (j m : Nat) : Prop := Dfx (T := T) (X := X) (τ := τ) (aL j m) (aL' j m) (fun r => ((m + 1 : Nat) : Rat) * aL j (m + 1) r)
theorem zn6 (m : Nat) : (0 : Rat) < ((m + 1 : Nat) : Rat) := by rw [← Rat.intCast_natCast]; exact Rat.intCast_pos.2 (by omega)
theorem zuK {j m : Nat} {x : Ins} (hT : tpOk T) (hx : T.L[j]? = some x) (ho : x.op = 1) : DL T X τ j m := by
 have eA : ∀ k (r : StR T X τ), aL j k r = if k = 0 then (x.c.1 : Rat) / 65536 else 0 := fun k r => by
  show rL T r.p r.s r.y j k = _
  rw [zgL hT hx]; simp [fA, ho, algR]
 have eA' : ∀ k (r : StR T X τ), aL' j k r = if k = 0 then (x.c.1 : Rat) / 65536 else 0 := fun k r => by
  show rL T r.p (r.s + r.δ) r.y' j k = _
  rw [zgL hT hx]; simp [fA, ho, algR]
 refine (Dfx.const (if m = 0 then (x.c.1 : Rat) / 65536 else 0)).congr (fun r => (eA m r).symm) (fun r => (eA' m r).symm) (fun r => ?_)
 rw [eA (m + 1) r, if_neg (by omega)]
 grind
theorem zsJ {j m : Nat} {x : Ins} (hT : tpOk T) (hx : T.L[j]? = some x) (ho : x.op = 3) : DL T X τ j m := by
 have eA : ∀ k (r : StR T X τ), aL j k r = if k = 0 then r.s else if k = 1 then 1 else 0 := fun k r => by
  show rL T r.p r.s r.y j k = _
  rw [zgL hT hx]; simp [fA, ho, algR]
 have eA' : ∀ k (r : StR T X τ), aL' j k r = if k = 0 then r.s + r.δ else if k = 1 then 1 else 0 := fun k r => by
  show rL T r.p (r.s + r.δ) r.y' j k = _
  rw [zgL hT hx]; simp [fA, ho, algR]
 cases m with
 | zero =>
  refine ⟨0, by grind, fun r => ?_⟩
  rw [eA, eA']
  show Df 0 r.δ _ _ (((0 + 1 : Nat) : Rat) * aL j (0 + 1) r)
  rw [eA]
  have e4 : ((0 + 1 : Nat) : Rat) = 1 := rfl
  rw [e4]
  simp only [if_true]
  unfold Df Bn
  constructor <;> grind
 | succ m =>
  refine (Dfx.const (if m = 0 then 1 else 0)).congr (fun r => ?_) (fun r => ?_) (fun r => ?_)
  ·rw [eA]; simp
  ·rw [eA']; simp
  ·rw [eA]; simp
variable (hT : tpOk T) (hX : allV X) (hτ : vB τ = true)
include hT hX hτ
theorem zjd {j m : Nat} {x : Ins} (hx : T.L[j]? = some x) (h2 : x.op ≠ 2) : cL T X τ j m = fA algI x (cL T X τ) (cL T X τ j) τ m := by
 rw [zqC hT hX hτ hx, if_neg h2]
omit hX hτ in
theorem zec {j m : Nat} {x : Ins} (hx : T.L[j]? = some x) (h2 : x.op ≠ 2) (r : StR T X τ) : aL j m r = fA (algR r.p) x (fun a k => aL a k r) (fun k => aL j k r) r.s m := by
 show rL T r.p r.s r.y j m = _
 rw [zgL hT hx, if_neg h2]; rfl
omit hX hτ in
theorem aL'_fA {j m : Nat} {x : Ins} (hx : T.L[j]? = some x) (h2 : x.op ≠ 2) (r : StR T X τ) : aL' j m r = fA (algR r.p) x (fun a k => aL' a k r) (fun k => aL' j k r) (r.s + r.δ) m := by
 show rL T r.p (r.s + r.δ) r.y' j m = _
 rw [zgL hT hx, if_neg h2]; rfl
omit hX hτ in
theorem zuJ {j m : Nat} {x : Ins} (hx : T.L[j]? = some x) (ho : x.op = 2) (ha : x.a.toNat < T.n) (ih : ∀ m' o, m = m' + 1 → T.out[x.a.toNat]? = some o → DL T X τ o m') : DL T X τ j m := by
 obtain ⟨o, hoo⟩ : ∃ o, T.out[x.a.toNat]? = some o := ⟨T.out[x.a.toNat]'(by rw [hT.len]; exact ha), by simp⟩
 have eA : ∀ k (r : StR T X τ), aO x.a.toNat k r = aL j k r := fun k r => by
  show _ = rL T r.p r.s r.y j k
  rw [zgL hT hx, if_pos ho]; rfl
 have eA' : ∀ k (r : StR T X τ), aO' x.a.toNat k r = aL' j k r := fun k r => by
  show _ = rL T r.p (r.s + r.δ) r.y' j k
  rw [zgL hT hx, if_pos ho]; rfl
 have hd : Dfx (T := T) (X := X) (τ := τ) (aO x.a.toNat m) (aO' x.a.toNat m) (fun r => ((m + 1 : Nat) : Rat) * aO x.a.toNat (m + 1) r) := by
  cases m with
  | zero => exact zo0 hoo
  | succ m => exact zo1 hoo (ih m o rfl hoo)
 exact hd.congr (eA m) (eA' m) (fun r => by rw [eA])
omit hX hτ in
theorem zrl {j m : Nat} {x : Ins} (hx : T.L[j]? = some x) (ho : x.op = 4 ∨ x.op = 7 ∨ x.op = 8)
  (iha : DL T X τ x.a.toNat m) (ihb : x.op ≠ 4 → DL T X τ x.b.toNat m) : DL T X τ j m := by
 have h2 : x.op ≠ 2 := by omega
 rcases ho with ho | ho | ho
 ·refine iha.neg.congr (fun r => ?_) (fun r => ?_) (fun r => ?_)
  ·rw [zec hT hx h2]; simp [fA, ho, algR]
  ·rw [aL'_fA hT hx h2]; simp [fA, ho, algR]
  ·rw [zec hT (m := m + 1) hx h2]; simp [fA, ho, algR]; grind
 ·refine (iha.add (ihb (by omega))).congr (fun r => ?_) (fun r => ?_) (fun r => ?_)
  ·rw [zec hT hx h2]; simp [fA, ho, algR]
  ·rw [aL'_fA hT hx h2]; simp [fA, ho, algR]
  ·rw [zec hT (m := m + 1) hx h2]; simp [fA, ho, algR]; grind
 ·refine (iha.sub (ihb (by omega))).congr (fun r => ?_) (fun r => ?_) (fun r => ?_)
  ·rw [zec hT hx h2]; simp [fA, ho, algR]
  ·rw [aL'_fA hT hx h2]; simp [fA, ho, algR]
  ·rw [zec hT (m := m + 1) hx h2]; simp [fA, ho, algR]; grind
omit hX hτ in
theorem zrk {j m : Nat} {x : Ins} {b : Nat} (hx : T.L[j]? = some x) (ho : (x.op = 9 ∧ b = x.b.toNat) ∨ (x.op = 5 ∧ b = x.a.toNat)) (ba : ∀ i, i ≤ m + 1 → Bdx (T := T) (X := X) (τ := τ) (aL x.a.toNat i) ∧ Bdx (T := T) (X := X) (τ := τ) (aL' x.a.toNat i)) (bb : ∀ i, i ≤ m + 1 → Bdx (T := T) (X := X) (τ := τ) (aL b i) ∧ Bdx (T := T) (X := X) (τ := τ) (aL' b i))
  (iha : ∀ i, i ≤ m → DL T X τ x.a.toNat i) (ihb : ∀ i, i ≤ m → DL T X τ b i) : DL T X τ j m := by
 have h2 : x.op ≠ 2 := by omega
 have e : ∀ k (r : StR T X τ), cv (fun i => aL x.a.toNat i r) (fun i => aL b i r) k = aL j k r := fun k r => by
  rw [zec hT hx h2]
  rcases ho with ⟨ho, rfl⟩ | ⟨ho, rfl⟩
  ·simp [fA, ho, zet]
  ·cases k with
   | zero => simp [fA, ho, cv, sm, algR]; grind
   | succ k => simp [fA, ho, zet]
 have e' : ∀ k (r : StR T X τ), cv (fun i => aL' x.a.toNat i r) (fun i => aL' b i r) k = aL' j k r := fun k r => by
  rw [aL'_fA hT hx h2]
  rcases ho with ⟨ho, rfl⟩ | ⟨ho, rfl⟩
  ·simp [fA, ho, zet]
  ·cases k with
   | zero => simp [fA, ho, cv, sm, algR]; grind
   | succ k => simp [fA, ho, zet]
 have h := Dfx.conv (m := m) (f := fun i => aL x.a.toNat i) (f' := fun i => aL' x.a.toNat i) (g := fun i => aL b i) (g' := fun i => aL' b i)
  iha ihb (fun i hi => (ba i hi).1) (fun i hi => (ba i (by omega)).2) (fun i hi => (bb i hi).1)
 exact h.congr (e m) (e' m) (fun r => by rw [e (m + 1) r])
omit hT hX hτ in
theorem zl6 {c : I} (hc : c ≠ ent) (h : 0 < c.1 ∨ c.2 < 0) {x : Rat} (hx : InI c x) : Far (1 / 65536) x := by
 rcases hx with hx | ⟨h1, h2⟩
 ·exact absurd hx hc
 ·rcases h with h | h
  ·have : (1 : Rat) ≤ (c.1 : Rat) := Rat.intCast_le_intCast.2 (show (1 : Int) ≤ c.1 by omega)
   exact .inl (by grind)
  ·have : (c.2 : Rat) ≤ (-1 : Rat) := Rat.intCast_le_intCast.2 (show c.2 ≤ (-1 : Int) by omega)
   exact .inr (by grind)
omit hT hX hτ in
theorem zl7 {x : Rat} (h : Far (1 / 65536) x) : x ≠ 0 := by
 rcases h with h | h <;> grind
omit hT hX hτ in
theorem zes (p : Nat) (a b : Nat → Rat) (m k : Nat) : zci (algR p) a b 1 m k = sm (fun i => a (1 + i) * b (k - (1 + i))) m := by
 unfold zci
 rw [zkI]
 rfl
theorem zuL {j m : Nat} {x : Ins} (hj : j < T.L.length) (hx : T.L[j]? = some x) (ho : x.op = 10) (la : x.a.toNat < T.L.length) (lb : x.b.toNat < T.L.length) (hc : cL T X τ j (m + 1) ≠ ent)
  (iha : ∀ i, i ≤ m → cL T X τ x.a.toNat (i + 1) ≠ ent → DL T X τ x.a.toNat i) (ihb : ∀ i, i ≤ m → cL T X τ x.b.toNat (i + 1) ≠ ent → DL T X τ x.b.toNat i) (ihj : ∀ i, i < m → cL T X τ j (i + 1) ≠ ent → DL T X τ j i) : DL T X τ j m := by
 have h2 : x.op ≠ 2 := by omega
 have hc0 := hc
 rw [zjd hT hX hτ hx h2] at hc
 have hc' : div (sub (cL T X τ x.a.toNat (m + 1)) (zci algI (cL T X τ x.b.toNat) (cL T X τ j) 1 (m + 1) (m + 1))) (cL T X τ x.b.toNat 0) ≠ ent := by simpa [fA, ho, algI] using hc
 obtain ⟨d1, d2, d3⟩ := zkh hc'
 obtain ⟨d4, d5⟩ := zhG d1
 have nb : ∀ i, i ≤ m + 1 → cL T X τ x.b.toNat i ≠ ent := fun i hi => by
  by_cases h0 : i = 0
  ·subst h0; exact d2
  ·exact (zcZ d5 i (by omega) (by omega)).1
 have nj : ∀ i, i ≤ m → cL T X τ j i ≠ ent := fun i hi => by
  have := (zcZ d5 (m + 1 - i) (by omega) (by omega)).2
  rwa [show m + 1 - (m + 1 - i) = i by omega] at this
 have hB0 : ∀ r : StR T X τ, Far (1 / 65536) (aL x.b.toNat 0 r) := fun r => zl6 d2 d3 (zkB hT hX hτ _ 0 lb r).1
 have hB0' : ∀ r : StR T X τ, Far (1 / 65536) (aL' x.b.toNat 0 r) := fun r => zl6 d2 d3 (zkB hT hX hτ _ 0 lb r).2
 have e : ∀ k (r : StR T X τ), aL x.b.toNat 0 r * aL j k r = aL x.a.toNat k r - sm (fun i => aL x.b.toNat (1 + i) r * aL j (k - (1 + i)) r) k := fun k r => by
  have hn := zl7 (hB0 r)
  rw [zec hT (j := j) (m := k) hx h2]
  cases k with
  | zero => simp [fA, ho, algR, sm]; grind
  | succ k =>
   have : fA (algR r.p) x (fun a k => aL a k r) (fun k => aL j k r) r.s (k + 1) = (aL x.a.toNat (k + 1) r - zci (algR r.p) (fun k => aL x.b.toNat k r) (fun k => aL j k r) 1 (k + 1) (k + 1)) / aL x.b.toNat 0 r := by simp [fA, ho, algR]
   rw [this, zes]
   grind
 have e' : ∀ k (r : StR T X τ), aL' x.b.toNat 0 r * aL' j k r = aL' x.a.toNat k r - sm (fun i => aL' x.b.toNat (1 + i) r * aL' j (k - (1 + i)) r) k := fun k r => by
  have hn := zl7 (hB0' r)
  rw [aL'_fA hT (j := j) (m := k) hx h2]
  cases k with
  | zero => simp [fA, ho, algR, sm]; grind
  | succ k =>
   have : fA (algR r.p) x (fun a k => aL' a k r) (fun k => aL' j k r) (r.s + r.δ) (k + 1) = (aL' x.a.toNat (k + 1) r - zci (algR r.p) (fun k => aL' x.b.toNat k r) (fun k => aL' j k r) 1 (k + 1) (k + 1)) / aL' x.b.toNat 0 r := by simp [fA, ho, algR]
   rw [this, zes]
   grind
 have ecv : ∀ r : StR T X τ, cv (fun i => aL x.b.toNat i r) (fun i => aL j i r) (m + 1) = aL x.a.toNat (m + 1) r := fun r => by
  have h1 := e (m + 1) r
  unfold cv
  rw [zef]
  have h3 : sm (fun i => aL x.b.toNat (i + 1) r * aL j (m + 1 - (i + 1)) r) (m + 1) = sm (fun i => aL x.b.toNat (1 + i) r * aL j (m + 1 - (1 + i)) r) (m + 1) := zb8 fun i hi => by rw [show i + 1 = 1 + i by omega]
  rw [h3]
  show aL x.b.toNat 0 r * aL j (m + 1) r + _ = _
  grind
 have ht := Dfx.tail (m := m) (f := fun i => aL x.b.toNat i) (f' := fun i => aL' x.b.toNat i) (g := fun i => aL j i) (g' := fun i => aL' j i)
  (fun i h1 hi => ihb i hi (nb (i + 1) (by omega))) (fun i hi => ihj i hi (nj (i + 1) (by omega)))
  (fun i h1 hi => (zdl hT hX hτ _ i lb (nb i hi)).1) (fun i h1 hi => (zdl hT hX hτ _ i lb (nb i (by omega))).2) (fun i hi => (zdl hT hX hτ _ i hj (nj i hi)).1)
 have hA : DL T X τ x.a.toNat m := iha m (Nat.le_refl _) d4
 have hP : Dfx (T := T) (X := X) (τ := τ) (fun r => aL x.b.toNat 0 r * aL j m r) (fun r => aL' x.b.toNat 0 r * aL' j m r) (fun r => (((0 + 1 : Nat) : Rat) * aL x.b.toNat (0 + 1) r) * aL j m r + aL x.b.toNat 0 r * (((m + 1 : Nat) : Rat) * aL j (m + 1) r)) := by
  refine (Dfx.sub hA ht).congr (fun r => (e m r).symm) (fun r => (e' m r).symm) (fun r => ?_)
  rw [ecv r]
  grind
 exact Dfx.cancel (by grind) hB0 hB0' hP (ihb 0 (by omega) (nb 1 (by omega))) (zdl hT hX hτ _ 0 lb d2).1 (zdl hT hX hτ _ m hj (nj m (Nat.le_refl _))).1 (Bdx.smul _ (zdl hT hX hτ _ 1 lb (nb 1 (by omega))).1) (Bdx.smul _ (zdl hT hX hτ _ (m + 1) hj hc0).1)
end
end Go.Pl

namespace Go.Pl
section
variable {T : Tp} {X : List I} {τ : I}
theorem Dfx.mid {q q' : Nat → StR T X τ → Rat} {n : Nat} (hq : ∀ i, 1 ≤ i → i ≤ n → Dfx (q i) (q' i) (fun r => ((i + 1 : Nat) : Rat) * q (i + 1) r))
  (bq : ∀ i, 1 ≤ i → i ≤ n + 1 → Bdx (q i)) (bq' : ∀ i, 1 ≤ i → i ≤ n → Bdx (q' i)) :
  Dfx (fun r => sm (fun i => q (1 + i) r * q (n + 1 - (1 + i)) r) n) (fun r => sm (fun i => q' (1 + i) r * q' (n + 1 - (1 + i)) r) n)
   (fun r => ((n + 1 + 1 : Nat) : Rat) * cv (fun i => q i r) (fun i => q i r) (n + 1 + 1) - 2 * (((0 + 1 : Nat) : Rat) * q (0 + 1) r * q (n + 1) r + q 0 r * (((n + 1 + 1 : Nat) : Rat) * q (n + 1 + 1) r))) := by
 have h := Dfx.sum (m := n) (fun i (hi : i < n) => Dfx.mul (hq (1 + i) (by omega) (by omega)) (hq (n + 1 - (1 + i)) (by omega) (by omega)) (bq' (1 + i) (by omega) (by omega)) (bq (n + 1 - (1 + i)) (by omega) (by omega)) (Bdx.smul _ (bq (1 + i + 1) (by omega) (by omega))) (Bdx.smul _ (bq (n + 1 - (1 + i) + 1) (by omega) (by omega))))
 refine h.congr (fun r => rfl) (fun r => rfl) (fun r => ?_)
 rw [← zi6, zef]
 have hs : ∀ f : Nat → Rat, sm f (n + 1) = sm f n + f n := fun f => rfl
 rw [hs]
 have e0 : n + 1 - (n + 1) = 0 := by omega
 rw [e0]
 have e1 : sm (fun i => ((1 + i + 1 : Nat) : Rat) * q (1 + i + 1) r * q (n + 1 - (1 + i)) r + q (1 + i) r * (((n + 1 - (1 + i) + 1 : Nat) : Rat) * q (n + 1 - (1 + i) + 1) r)) n = sm (fun i => ((i + 1 + 1 : Nat) : Rat) * q (i + 1 + 1) r * q (n + 1 - (i + 1)) r + q (i + 1) r * (((n + 1 - (i + 1) + 1 : Nat) : Rat) * q (n + 1 - (i + 1) + 1) r)) n := zb8 fun i hi => by rw [show 1 + i = i + 1 by omega]
 refine e1.trans ?_
 generalize sm (fun i => ((i + 1 + 1 : Nat) : Rat) * q (i + 1 + 1) r * q (n + 1 - (i + 1)) r + q (i + 1) r * (((n + 1 - (i + 1) + 1 : Nat) : Rat) * q (n + 1 - (i + 1) + 1) r)) n = S
 show S = ((0 + 1 : Nat) : Rat) * q (0 + 1) r * q (n + 1 - 0) r + q 0 r * (((n + 1 - 0 + 1 : Nat) : Rat) * q (n + 1 - 0 + 1) r) + (S + (((n + 1 + 1 : Nat) : Rat) * q (n + 1 + 1) r * q 0 r + q (n + 1) r * (((0 + 1 : Nat) : Rat) * q (0 + 1) r))) - _
 rw [Nat.sub_zero]
 grind
variable (hT : tpOk T) (hX : allV X) (hτ : vB τ = true)
include hT hX hτ
theorem zsK {j m : Nat} {x : Ins} (hj : j < T.L.length) (hx : T.L[j]? = some x) (ho : x.op = 6) (la : x.a.toNat < T.L.length) (hc : cL T X τ j (m + 1) ≠ ent)
  (iha : ∀ i, i ≤ m → cL T X τ x.a.toNat (i + 1) ≠ ent → DL T X τ x.a.toNat i) (ihj : ∀ i, i < m → cL T X τ j (i + 1) ≠ ent → DL T X τ j i) : DL T X τ j m := by
 have h2 : x.op ≠ 2 := by omega
 have hc0 := hc
 rw [zjd hT hX hτ hx h2] at hc
 have hc' : div (sub (cL T X τ x.a.toNat (m + 1)) (zci algI (cL T X τ j) (cL T X τ j) 1 m (m + 1))) (mulr (cL T X τ j 0) 2 1) ≠ ent := by simpa [fA, ho, algI] using hc
 obtain ⟨d1, d2, d3⟩ := zkh hc'
 obtain ⟨d4, d5⟩ := zhG d1
 have n0 := zgV d2
 have c0 : cL T X τ j 0 = zcQ (cL T X τ x.a.toNat 0) := by rw [zjd hT hX hτ hx h2]; simp [fA, ho, algI]
 obtain ⟨na0, nn0⟩ := zpN (c0 ▸ n0)
 have nj : ∀ i, i ≤ m → cL T X τ j i ≠ ent := fun i hi => by
  by_cases h0 : i = 0
  ·subst h0; exact n0
  ·exact (zcZ d5 i (by omega) (by omega)).1
 have a0 : ∀ v : Rat, InI (cL T X τ x.a.toNat 0) v → 0 ≤ v := fun v hv => by
  rcases hv with hv | ⟨h1, _⟩
  ·exact absurd hv na0
  ·have : (0 : Rat) ≤ ((cL T X τ x.a.toNat 0).1 : Rat) := Rat.intCast_nonneg.2 nn0
   grind
 have q0 : ∀ r : StR T X τ, aL j 0 r = rt r.p (aL x.a.toNat 0 r) := fun r => by rw [zec hT hx h2]; simp [fA, ho, algR]
 have q0' : ∀ r : StR T X τ, aL' j 0 r = rt r.p (aL' x.a.toNat 0 r) := fun r => by rw [aL'_fA hT hx h2]; simp [fA, ho, algR]
 have sp := fun r : StR T X τ => zkT r.p (a0 _ (zkB hT hX hτ _ 0 la r).1)
 have sp' := fun r : StR T X τ => zkT r.p (a0 _ (zkB hT hX hτ _ 0 la r).2)
 have hF : ∀ r : StR T X τ, Far (1 / 65536) (2 * aL j 0 r) := fun r => zl6 d2 d3 (zov (zkB hT hX hτ j 0 hj r).1)
 have hF' : ∀ r : StR T X τ, Far (1 / 65536) (2 * aL' j 0 r) := fun r => zl6 d2 d3 (zov (zkB hT hX hτ j 0 hj r).2)
 have e : ∀ k (r : StR T X τ), 2 * aL j 0 r * aL j (k + 1) r = aL x.a.toNat (k + 1) r - sm (fun i => aL j (1 + i) r * aL j (k + 1 - (1 + i)) r) k := fun k r => by
  have hn := zl7 (hF r)
  rw [zec hT (j := j) (m := k + 1) hx h2]
  have : fA (algR r.p) x (fun a k => aL a k r) (fun k => aL j k r) r.s (k + 1) = (aL x.a.toNat (k + 1) r - zci (algR r.p) (fun k => aL j k r) (fun k => aL j k r) 1 k (k + 1)) / (2 * aL j 0 r) := by simp [fA, ho, algR]
  rw [this, zes]
  grind
 have e' : ∀ k (r : StR T X τ), 2 * aL' j 0 r * aL' j (k + 1) r = aL' x.a.toNat (k + 1) r - sm (fun i => aL' j (1 + i) r * aL' j (k + 1 - (1 + i)) r) k := fun k r => by
  have hn := zl7 (hF' r)
  rw [aL'_fA hT (j := j) (m := k + 1) hx h2]
  have : fA (algR r.p) x (fun a k => aL' a k r) (fun k => aL' j k r) (r.s + r.δ) (k + 1) = (aL' x.a.toNat (k + 1) r - zci (algR r.p) (fun k => aL' j k r) (fun k => aL' j k r) 1 k (k + 1)) / (2 * aL' j 0 r) := by simp [fA, ho, algR]
  rw [this, zes]
  grind
 have hA : DL T X τ x.a.toNat m := iha m (Nat.le_refl _) d4
 obtain ⟨⟨W1, w1, hW1⟩, ⟨W2, w2, hW2⟩⟩ := zdl hT hX hτ j 0 hj n0
 have D0 : m = 0 → DL T X τ j 0 := fun hm => by
  subst hm
  have hP : Dfx (T := T) (X := X) (τ := τ) (fun r => aL j 0 r * aL j 0 r) (fun r => aL' j 0 r * aL' j 0 r) (fun r => 2 * aL j 0 r * (((0 + 1 : Nat) : Rat) * aL j (0 + 1) r)) := by
   have e4 : ((0 + 1 : Nat) : Rat) = 1 := rfl
   have hA2 : Dfx (T := T) (X := X) (τ := τ) (aL x.a.toNat 0) (aL' x.a.toNat 0) (fun r => 2 * aL j 0 r * (((0 + 1 : Nat) : Rat) * aL j (0 + 1) r)) := hA.congr (fun r => rfl) (fun r => rfl) (fun r => by
    have := e 0 r
    have z : sm (fun i => aL j (1 + i) r * aL j (0 + 1 - (1 + i)) r) 0 = 0 := rfl
    rw [z] at this
    rw [e4]
    grind)
   have near : ∀ (r : StR T X τ) (W v w : Rat), 0 ≤ v → Bn W v → v * v ≤ w → w < (v + 1 / (grid r.p : Rat)) * (v + 1 / (grid r.p : Rat)) → Bn ((2 * W + 1) * (r.δ * r.δ)) (v * v - w) := fun r W v w h0 hb h1 h3 => by
    have hg := zd7 r.p
    have hfine := r.fine
    have g1 : 1 / (grid r.p : Rat) ≤ 1 := by
     have : (1 : Rat) ≤ (grid r.p : Rat) := Rat.intCast_le_intCast.2 (show (1 : Int) ≤ grid r.p by have := zl2 r.p; omega)
     exact Rat.not_lt.1 fun k => by
      have h5 := Rat.mul_lt_mul_of_pos_right k hg
      have h6 : 1 / (grid r.p : Rat) * (grid r.p : Rat) = 1 := by grind
      grind
    have g0 : 0 ≤ 1 / (grid r.p : Rat) := zn4 (by grind) hg
    generalize 1 / (grid r.p : Rat) = γ at *
    have hv : v ≤ W := hb.2
    have m1 := Rat.mul_le_mul_of_nonneg_right hv g0
    have m2 := Rat.mul_le_mul_of_nonneg_left g1 g0
    have m3 := Rat.mul_le_mul_of_nonneg_left hfine (show (0 : Rat) ≤ 2 * W + 1 by grind)
    unfold Bn
    constructor <;> grind
   refine Dfx.near hA2 (C := 2 * (W1 + W2) + 1) (by grind) (fun r => ?_) (fun r => ?_)
   ·have := sp r
    rw [← q0] at this
    exact near r (W1 + W2) _ _ this.1 ((hW1 r).mono (by grind)) this.2.1 this.2.2
   ·have := sp' r
    rw [← q0'] at this
    exact near r (W1 + W2) _ _ this.1 ((hW2 r).mono (by grind)) this.2.1 this.2.2
  have b0 : ∀ r : StR T X τ, 1 / 131072 ≤ aL j 0 r := fun r => by
   have h1 := (sp r).1
   rw [← q0] at h1
   rcases hF r with h | h <;> grind
  have b0' : ∀ r : StR T X τ, 1 / 131072 ≤ aL' j 0 r := fun r => by
   have h1 := (sp' r).1
   rw [← q0'] at h1
   rcases hF' r with h | h <;> grind
  exact Dfx.root (by grind) b0 b0' hP ⟨W1, w1, hW1⟩ (Bdx.smul _ (zdl hT hX hτ _ (0 + 1) hj hc0).1)
 cases m with
 | zero => exact D0 rfl
 | succ n =>
  have ecv : ∀ r : StR T X τ, cv (fun i => aL j i r) (fun i => aL j i r) (n + 1 + 1) = aL x.a.toNat (n + 1 + 1) r := fun r => by
   have h1 := e (n + 1) r
   unfold cv
   rw [zef]
   have hs : ∀ f : Nat → Rat, sm f (n + 1 + 1) = sm f (n + 1) + f (n + 1) := fun f => rfl
   rw [hs]
   have h3 : sm (fun i => aL j (i + 1) r * aL j (n + 1 + 1 - (i + 1)) r) (n + 1) = sm (fun i => aL j (1 + i) r * aL j (n + 1 + 1 - (1 + i)) r) (n + 1) := zb8 fun i hi => by rw [show i + 1 = 1 + i by omega]
   rw [h3, show n + 1 + 1 - (n + 1 + 1) = 0 by omega]
   show aL j 0 r * aL j (n + 1 + 1) r + (_ + aL j (n + 1 + 1) r * aL j 0 r) = _
   grind
  have ht := Dfx.mid (n := n) (q := fun i => aL j i) (q' := fun i => aL' j i) (fun i h1 hi => ihj i (by omega) (nj (i + 1) (by omega)))
   (fun i h1 hi => (zdl hT hX hτ _ i hj (nj i hi)).1) (fun i h1 hi => (zdl hT hX hτ _ i hj (nj i (by omega))).2)
  have D00 : DL T X τ j 0 := ihj 0 (by omega) (nj 1 (by omega))
  have hB : Dfx (T := T) (X := X) (τ := τ) (fun r => 2 * aL j 0 r) (fun r => 2 * aL' j 0 r) (fun r => 2 * (((0 + 1 : Nat) : Rat) * aL j (0 + 1) r)) := Dfx.smul 2 D00
  have hP : Dfx (T := T) (X := X) (τ := τ) (fun r => 2 * aL j 0 r * aL j (n + 1) r) (fun r => 2 * aL' j 0 r * aL' j (n + 1) r) (fun r => (2 * (((0 + 1 : Nat) : Rat) * aL j (0 + 1) r)) * aL j (n + 1) r + 2 * aL j 0 r * (((n + 1 + 1 : Nat) : Rat) * aL j (n + 1 + 1) r)) := by
   refine (Dfx.sub hA ht).congr (fun r => (e n r).symm) (fun r => (e' n r).symm) (fun r => ?_)
   rw [ecv r]
   grind
  exact Dfx.cancel (by grind) hF hF' hP hB (Bdx.smul 2 ⟨W1, w1, hW1⟩) (zdl hT hX hτ _ (n + 1) hj (nj (n + 1) (Nat.le_refl _))).1 (Bdx.smul _ (Bdx.smul _ (zdl hT hX hτ _ (0 + 1) hj (nj (0 + 1) (by omega))).1)) (Bdx.smul _ (zdl hT hX hτ _ (n + 1 + 1) hj hc0).1)
theorem zt9 {j m : Nat} {x : Ins} (hx : T.L[j]? = some x) (ho : x.op = 10) (hc : cL T X τ j (m + 1) ≠ ent) : ∀ i, i ≤ m → cL T X τ j i ≠ ent := fun i hi => by
 rw [zjd hT hX hτ hx (by omega)] at hc
 have hc' : div (sub (cL T X τ x.a.toNat (m + 1)) (zci algI (cL T X τ x.b.toNat) (cL T X τ j) 1 (m + 1) (m + 1))) (cL T X τ x.b.toNat 0) ≠ ent := by simpa [fA, ho, algI] using hc
 have := (zcZ (zhG (zkh hc').1).2 (m + 1 - i) (by omega) (by omega)).2
 rwa [show m + 1 - (m + 1 - i) = i by omega] at this
theorem zsj {j m : Nat} {x : Ins} (hx : T.L[j]? = some x) (ho : x.op = 6) (hc : cL T X τ j (m + 1) ≠ ent) : ∀ i, i ≤ m → cL T X τ j i ≠ ent := fun i hi => by
 rw [zjd hT hX hτ hx (by omega)] at hc
 have hc' : div (sub (cL T X τ x.a.toNat (m + 1)) (zci algI (cL T X τ j) (cL T X τ j) 1 m (m + 1))) (mulr (cL T X τ j 0) 2 1) ≠ ent := by simpa [fA, ho, algI] using hc
 by_cases h0 : i = 0
 ·subst h0; exact zgV (zkh hc').2.1
 ·exact (zcZ (zhG (zkh hc').1).2 i (by omega) (by omega)).1
omit hX hτ in
theorem zq6 {j : Nat} {x : Ins} {b : Nat} (hx : T.L[j]? = some x) (ho : (x.op = 9 ∧ b = x.b.toNat) ∨ (x.op = 5 ∧ b = x.a.toNat)) (k : Nat) (r : StR T X τ) :
  aL j k r = cv (fun i => aL x.a.toNat i r) (fun i => aL b i r) k ∧ aL' j k r = cv (fun i => aL' x.a.toNat i r) (fun i => aL' b i r) k := by
 have h2 : x.op ≠ 2 := by omega
 rw [zec hT hx h2, aL'_fA hT hx h2]
 rcases ho with ⟨ho, rfl⟩ | ⟨ho, rfl⟩
 ·simp [fA, ho, zet]
 ·cases k with
  | zero => simp [fA, ho, cv, sm, algR]; constructor <;> grind
  | succ k => simp [fA, ho, zet]
omit hT hX hτ in
theorem Bdx.congr {u v : StR T X τ → Rat} (h : Bdx u) (e : ∀ r, u r = v r) : Bdx v := by
 obtain ⟨W, w0, hW⟩ := h
 exact ⟨W, w0, fun r => by rw [← e]; exact hW r⟩
omit hT hX hτ in
theorem Bdx.const (c : Rat) : Bdx (T := T) (X := X) (τ := τ) fun _ => c := by
 by_cases h : 0 ≤ c
 ·exact ⟨c, h, fun r => by unfold Bn; grind⟩
 ·exact ⟨-c, by grind, fun r => by unfold Bn; grind⟩
omit hT hX hτ in
theorem Bdx.cv {f g : Nat → StR T X τ → Rat} {m : Nat} (hf : ∀ i, i ≤ m → Bdx (f i)) (hg : ∀ i, i ≤ m → Bdx (g i)) : Bdx fun r => cv (fun i => f i r) (fun i => g i r) m :=
 Bdx.sum (m := m + 1) fun i hi => Bdx.mul (hf i (by omega)) (hg (m - i) (by omega))
def BdL (T : Tp) (X : List I) (τ : I) (j m : Nat) : Prop := Bdx (T := T) (X := X) (τ := τ) (aL j m) ∧ Bdx (T := T) (X := X) (τ := τ) (aL' j m)
def Good (T : Tp) (X : List I) (τ : I) (j M : Nat) : Prop := (∀ m, m ≤ M → BdL T X τ j m) ∧ ∀ m, m < M → DL T X τ j m
omit hX hτ in
theorem zuQ {j m : Nat} {x : Ins} (hx : T.L[j]? = some x) (ho : x.op = 1) : BdL T X τ j m :=
 ⟨(Bdx.const (if m = 0 then (x.c.1 : Rat) / 65536 else 0)).congr fun r => by rw [zec hT hx (by omega)]; simp [fA, ho, algR],
  (Bdx.const (if m = 0 then (x.c.1 : Rat) / 65536 else 0)).congr fun r => by rw [aL'_fA hT hx (by omega)]; simp [fA, ho, algR]⟩
omit hX hτ in
theorem zsU {j m : Nat} {x : Ins} (hte : τ ≠ ent) (hx : T.L[j]? = some x) (ho : x.op = 3) : BdL T X τ j m := by
 obtain ⟨W, w0, hW⟩ := zmo hte
 cases m with
 | zero => exact ⟨⟨W, w0, fun r => by rw [zec hT hx (by omega)]; simpa [fA, ho] using hW _ r.hs⟩, ⟨W, w0, fun r => by rw [aL'_fA hT hx (by omega)]; simpa [fA, ho] using hW _ r.hs'⟩⟩
 | succ m =>
  exact ⟨(Bdx.const (if m = 0 then 1 else 0)).congr fun r => by rw [zec hT hx (by omega)]; simp [fA, ho, algR],
   (Bdx.const (if m = 0 then 1 else 0)).congr fun r => by rw [aL'_fA hT hx (by omega)]; simp [fA, ho, algR]⟩
theorem zl3 (hte : τ ≠ ent) (hXe : ∀ i, i < T.n → atN X i ≠ ent) : ∀ M j, j < T.L.length → cL T X τ j M ≠ ent → Good T X τ j M := by
 intro M
 induction M using Nat.strongRecOn with
 | ind M ihM =>
  intro j
  induction j using Nat.strongRecOn with
  | ind j ihj =>
   intro hj hc
   have hx : T.L[j]? = some T.L[j] := List.getElem?_eq_getElem hj
   generalize T.L[j] = x at hx
   have both : ∀ m, m + 1 = M → ∀ a, a < j → ∀ i, i ≤ m → cL T X τ a (i + 1) ≠ ent → DL T X τ a i := fun m hm a ha i hi hn => by
    by_cases e : i + 1 = M
    ·rw [e] at hn
     exact (ihj a ha (by omega) hn).2 i (by omega)
    ·exact (ihM (i + 1) (by omega) a (by omega) hn).2 i (by omega)
   rcases hT.ins j x hx with ⟨ho, _⟩ | ⟨ho, h0, h1⟩ | ho | ⟨h4, h6, a0, a1, _⟩ | ⟨h7, h10, a0, a1, b0, b1⟩
   ·exact ⟨fun m _ => zuQ hT hx ho, fun m _ => zuK hT hx ho⟩
   ·have ha : x.a.toNat < T.n := by omega
    obtain ⟨o, hoo⟩ : ∃ o, T.out[x.a.toNat]? = some o := ⟨T.out[x.a.toNat]'(by rw [hT.len]; exact ha), by simp⟩
    have hol := hT.out o (List.mem_of_getElem? hoo)
    have hg : ∀ m, M = m + 1 → Good T X τ o m := fun m hm => by
     subst hm
     rw [zqC hT hX hτ hx, if_pos ho, zjc hT hX hτ ha hoo] at hc
     exact ihM m (by omega) o hol (zgV hc)
    have eA : ∀ k (r : StR T X τ), aL j k r = rO T r.p r.s r.y x.a.toNat k := fun k r => by
     show rL T r.p r.s r.y j k = _
     rw [zgL hT hx, if_pos ho]
    have eA' : ∀ k (r : StR T X τ), aL' j k r = rO T r.p (r.s + r.δ) r.y' x.a.toNat k := fun k r => by
     show rL T r.p (r.s + r.δ) r.y' j k = _
     rw [zgL hT hx, if_pos ho]
    refine ⟨fun m hm => ?_, fun m hm => zuJ hT hx ho ha fun m' o' e1 e2 => ?_⟩
    ·cases m with
     | zero =>
      obtain ⟨W, w0, hW⟩ := zmo (hXe _ ha)
      exact ⟨⟨W, w0, fun r => by rw [eA]; exact hW _ (r.hy _ ha)⟩, ⟨W, w0, fun r => by rw [eA']; exact hW _ (r.hy' _ ha)⟩⟩
     | succ m =>
      obtain ⟨M', rfl⟩ : ∃ M', M = M' + 1 := ⟨M - 1, by omega⟩
      have hb := (hg M' rfl).1 m (by omega)
      exact ⟨(Bdx.smul (1 / ((m + 1 : Nat) : Rat)) hb.1).congr fun r => by rw [eA, zdq hoo]; show 1 / ((m + 1 : Nat) : Rat) * rL T r.p r.s r.y o m = _; grind,
       (Bdx.smul (1 / ((m + 1 : Nat) : Rat)) hb.2).congr fun r => by rw [eA', zdq hoo]; show 1 / ((m + 1 : Nat) : Rat) * rL T r.p (r.s + r.δ) r.y' o m = _; grind⟩
    ·rw [hoo] at e2
     cases e2
     obtain ⟨M', rfl⟩ : ∃ M', M = M' + 1 := ⟨M - 1, by omega⟩
     exact (hg M' rfl).2 m' (by omega)
   ·exact ⟨fun m _ => zsU hT hte hx ho, fun m _ => zsJ hT hx ho⟩
   ·have la : x.a.toNat < j := by omega
    have h2 : x.op ≠ 2 := by omega
    by_cases o4 : x.op = 4
    ·have hc' : neg (cL T X τ x.a.toNat M) ≠ ent := by rw [zjd hT hX hτ hx h2] at hc; simpa [fA, o4, algI] using hc
     have hg := ihj _ la (by omega) (zq5 hc')
     refine ⟨fun m hm => ⟨(Bdx.smul (-1) (hg.1 m hm).1).congr fun r => ?_, (Bdx.smul (-1) (hg.1 m hm).2).congr fun r => ?_⟩, fun m hm => zrl hT hx (.inl o4) (hg.2 m hm) (fun h => absurd o4 h)⟩
     ·rw [zec hT hx h2]; simp [fA, o4, algR]; grind
     ·rw [aL'_fA hT hx h2]; simp [fA, o4, algR]; grind
    ·by_cases o5 : x.op = 5
     ·have na : cL T X τ x.a.toNat M ≠ ent := by
       rw [zjd hT hX hτ hx h2] at hc
       cases M with
       | zero =>
        have hc' : sq (cL T X τ x.a.toNat 0) ≠ ent := by simpa [fA, o5, algI] using hc
        exact fun e => hc' (by rw [e]; rfl)
       | succ M =>
        have hc' : zci algI (cL T X τ x.a.toNat) (cL T X τ x.a.toNat) 0 (M + 1 + 1) (M + 1) ≠ ent := by simpa [fA, o5] using hc
        exact (zcZ hc' (M + 1) (by omega) (by omega)).1
      have hg := ihj _ la (by omega) na
      have e := fun k r => zq6 hT (X := X) (τ := τ) (b := x.a.toNat) hx (.inr ⟨o5, rfl⟩) k r
      exact ⟨fun m hm => ⟨(Bdx.cv (fun i hi => (hg.1 i (by omega)).1) (fun i hi => (hg.1 i (by omega)).1)).congr fun r => (e m r).1.symm, (Bdx.cv (fun i hi => (hg.1 i (by omega)).2) (fun i hi => (hg.1 i (by omega)).2)).congr fun r => (e m r).2.symm⟩,
       fun m hm => zrk hT hx (.inr ⟨o5, rfl⟩) (fun i hi => hg.1 i (by omega)) (fun i hi => hg.1 i (by omega)) (fun i hi => hg.2 i (by omega)) (fun i hi => hg.2 i (by omega))⟩
     ·have o6 : x.op = 6 := by omega
      cases M with
      | zero => exact ⟨fun m hm => by rw [show m = 0 by omega]; exact zdl hT hX hτ j 0 hj hc, fun m hm => by omega⟩
      | succ M =>
       have nj := zsj hT hX hτ hx o6 hc
       refine ⟨fun m hm => ?_, fun m hm => ?_⟩
       ·by_cases e : m = M + 1
        ·rw [e]; exact zdl hT hX hτ j _ hj hc
        ·exact zdl hT hX hτ j m hj (nj m (by omega))
       ·by_cases e : m = M
        ·subst e
         exact zsK hT hX hτ hj hx o6 (by omega) hc (both m rfl _ la) (fun i hi hn => (ihM (i + 1) (by omega) j hj hn).2 i (by omega))
        ·exact (ihM M (by omega) j hj (nj M (Nat.le_refl _))).2 m (by omega)
   ·have la : x.a.toNat < j := by omega
    have lb : x.b.toNat < j := by omega
    have h2 : x.op ≠ 2 := by omega
    by_cases o9 : x.op = 9
    ·have hc' : zci algI (cL T X τ x.a.toNat) (cL T X τ x.b.toNat) 0 (M + 1) M ≠ ent := by rw [zjd hT hX hτ hx h2] at hc; simpa [fA, o9] using hc
     have ga := ihj _ la (by omega) (zcZ hc' M (by omega) (by omega)).1
     have gb := ihj _ lb (by omega) (zcZ hc' 0 (by omega) (by omega)).2
     have e := fun k r => zq6 hT (X := X) (τ := τ) (b := x.b.toNat) hx (.inl ⟨o9, rfl⟩) k r
     exact ⟨fun m hm => ⟨(Bdx.cv (fun i hi => (ga.1 i (by omega)).1) (fun i hi => (gb.1 i (by omega)).1)).congr fun r => (e m r).1.symm, (Bdx.cv (fun i hi => (ga.1 i (by omega)).2) (fun i hi => (gb.1 i (by omega)).2)).congr fun r => (e m r).2.symm⟩,
      fun m hm => zrk hT hx (.inl ⟨o9, rfl⟩) (fun i hi => ga.1 i (by omega)) (fun i hi => gb.1 i (by omega)) (fun i hi => ga.2 i (by omega)) (fun i hi => gb.2 i (by omega))⟩
    ·by_cases o10 : x.op = 10
     ·cases M with
      | zero => exact ⟨fun m hm => by rw [show m = 0 by omega]; exact zdl hT hX hτ j 0 hj hc, fun m hm => by omega⟩
      | succ M =>
       have nj := zt9 hT hX hτ hx o10 hc
       refine ⟨fun m hm => ?_, fun m hm => ?_⟩
       ·by_cases e : m = M + 1
        ·rw [e]; exact zdl hT hX hτ j _ hj hc
        ·exact zdl hT hX hτ j m hj (nj m (by omega))
       ·by_cases e : m = M
        ·subst e
         exact zuL hT hX hτ hj hx o10 (by omega) (by omega) hc (both m rfl _ la) (both m rfl _ lb) (fun i hi hn => (ihM (i + 1) (by omega) j hj hn).2 i (by omega))
        ·exact (ihM M (by omega) j hj (nj M (Nat.le_refl _))).2 m (by omega)
     ·have hg : Good T X τ x.a.toNat M ∧ Good T X τ x.b.toNat M := by
       rw [zjd hT hX hτ hx h2] at hc
       by_cases o7 : x.op = 7
       ·have hc' : add (cL T X τ x.a.toNat M) (cL T X τ x.b.toNat M) ≠ ent := by simpa [fA, o7, algI] using hc
        exact ⟨ihj _ la (by omega) (zkA hc').1, ihj _ lb (by omega) (zkA hc').2⟩
       ·have o8 : x.op = 8 := by omega
        have hc' : sub (cL T X τ x.a.toNat M) (cL T X τ x.b.toNat M) ≠ ent := by simpa [fA, o8, algI] using hc
        exact ⟨ihj _ la (by omega) (zhG hc').1, ihj _ lb (by omega) (zhG hc').2⟩
      refine ⟨fun m hm => ?_, fun m hm => zrl hT hx (.inr (by omega)) (hg.1.2 m hm) (fun _ => hg.2.2 m hm)⟩
      have ba := hg.1.1 m hm
      have bb := hg.2.1 m hm
      by_cases o7 : x.op = 7
      ·exact ⟨(ba.1.add bb.1).congr fun r => by rw [zec hT hx h2]; simp [fA, o7, algR], (ba.2.add bb.2).congr fun r => by rw [aL'_fA hT hx h2]; simp [fA, o7, algR]⟩
      ·have o8 : x.op = 8 := by omega
       exact ⟨(ba.1.add (Bdx.smul (-1) bb.1)).congr fun r => by rw [zec hT hx h2]; simp [fA, o8, algR]; grind, (ba.2.add (Bdx.smul (-1) bb.2)).congr fun r => by rw [aL'_fA hT hx h2]; simp [fA, o8, algR]; grind⟩
theorem goodO (hte : τ ≠ ent) (hXe : ∀ i, i < T.n → atN X i ≠ ent) {i M : Nat} (hi : i < T.n) (hc : cO T X τ i M ≠ ent) : ∀ m, m < M → Dfx (T := T) (X := X) (τ := τ) (aO i m) (aO' i m) (fun r => ((m + 1 : Nat) : Rat) * aO i (m + 1) r) := by
 obtain ⟨o, ho⟩ : ∃ o, T.out[i]? = some o := ⟨T.out[i]'(by rw [hT.len]; exact hi), by simp⟩
 intro m hm
 cases m with
 | zero => exact zo0 ho
 | succ m =>
  obtain ⟨M', rfl⟩ : ∃ M', M = M' + 1 := ⟨M - 1, by omega⟩
  rw [zjc hT hX hτ hi ho] at hc
  exact zo1 ho ((zl3 hT hX hτ hte hXe M' o (hT.out o (List.mem_of_getElem? ho)) (zgV hc)).2 m (by omega))
end
end Go.Pl

namespace Go.Pl
def pw (s : Rat) : Nat → Rat
 | 0 => 1
 | m + 1 => pw s m * s
def dpw (s : Rat) : Nat → Rat
 | 0 => 0
 | m + 1 => ((m + 1 : Nat) : Rat) * pw s m
theorem zmN {s : Rat} (h : 0 ≤ s) : ∀ m, 0 ≤ pw s m
 | 0 => by show (0 : Rat) ≤ 1; grind
 | m + 1 => Rat.mul_nonneg (zmN h m) h
theorem zk2 {s t : Rat} (h : 0 ≤ s) (k : s ≤ t) : ∀ m, pw s m ≤ pw t m
 | 0 => Rat.le_refl
 | m + 1 => by
  show pw s m * s ≤ pw t m * t
  have h1 := Rat.mul_le_mul_of_nonneg_right (zk2 h k m) h
  have h2 := Rat.mul_le_mul_of_nonneg_left k (zmN (Rat.le_trans h k) m)
  exact Rat.le_trans h1 h2
theorem zr4 {s S : Rat} (h : 0 ≤ s) (k : s ≤ S) (m : Nat) : Bn (pw S m) (pw s m) := by
 have h1 := zmN h m
 have h2 := zk2 h k m
 unfold Bn
 constructor <;> grind
theorem zrj {S : Rat} (hS : 0 ≤ S) : ∀ m, ∃ W, 0 ≤ W ∧ ∀ s, 0 ≤ s → s ≤ S → Bn W (dpw s m)
 | 0 => ⟨0, by grind, fun s _ _ => Bn.zero (by grind)⟩
 | m + 1 => by
  have hp := zn6 m
  exact ⟨((m + 1 : Nat) : Rat) * pw S m, Rat.mul_nonneg (Rat.le_of_lt hp) (zmN hS m), fun s h k => Bn.mul (by unfold Bn; constructor <;> grind) (zr4 h k m)⟩
theorem zr3 {S : Rat} (hS : 0 ≤ S) : ∀ m, ∃ K, 0 ≤ K ∧ ∀ δ s, 0 ≤ δ → δ ≤ 4 → 0 ≤ s - δ → s ≤ S → Df K δ (pw s m) (pw (s - δ) m) (-(dpw s m))
 | 0 => ⟨0, by grind, fun δ s _ _ _ _ => by
   show Df 0 δ 1 1 (-0)
   unfold Df Bn
   constructor <;> grind⟩
 | m + 1 => by
  obtain ⟨K, k0, hK⟩ := zr3 hS m
  obtain ⟨W1, w1, hW1⟩ := zrj hS m
  have hp := zmN hS m
  generalize hWe : W1 + pw S m + S + 1 = W
  have w0 : 0 ≤ W := by grind
  have n1 := Rat.mul_nonneg w0 w0
  have n2 := Rat.mul_nonneg (Rat.mul_nonneg (show (0 : Rat) ≤ 4 by grind) w0) k0
  have n4 := Rat.mul_nonneg w0 k0
  refine ⟨W * W + 4 * W * K + W * 0 + W * K, by grind, fun δ s d0 d4 h1 h2 => ?_⟩
  have s0 : 0 ≤ s := by grind
  have sW : s ≤ W := by grind
  have hs : Df 0 δ s (s - δ) (-1) := by
   have e : s - δ - s - δ * -1 = 0 := by grind
   have e2 : (0 : Rat) * (δ * δ) = 0 := by grind
   unfold Df
   rw [e, e2]
   exact Bn.zero (by grind)
  have h := Df.mul (W := W) d0 d4 (hK δ s d0 d4 h1 h2) hs ((zr4 (S := S) h1 (by grind) m).mono (by grind)) (⟨by grind, sW⟩) ((hW1 s s0 h2).neg.mono (by grind)) (⟨by grind, by grind⟩)
  have e : -(dpw s m) * s + pw s m * -1 = -(dpw s (m + 1)) := by
   cases m with
   | zero =>
    show -(0 : Rat) * s + 1 * -1 = -(((0 + 1 : Nat) : Rat) * 1)
    have : ((0 + 1 : Nat) : Rat) = 1 := rfl
    rw [this]; grind
   | succ m =>
    show -(((m + 1 : Nat) : Rat) * pw s m) * s + (pw s m * s) * -1 = -(((m + 1 + 1 : Nat) : Rat) * (pw s m * s))
    rw [zcd (m + 1)]
    grind
  rw [e] at h
  exact h
theorem zqW {S W K : Rat} (hS : 0 ≤ S) (hW : 0 ≤ W) (hK : 0 ≤ K) : ∀ M, ∃ L, 0 ≤ L ∧ ∀ (δ s : Rat) (U U' : Nat → Rat), 0 ≤ δ → δ ≤ 4 → 0 ≤ s - δ → s ≤ S →
  (∀ m, m ≤ M → Bn W (U m)) → (∀ m, m ≤ M → Bn W (U' m)) → (∀ m, m < M → Df K δ (U m) (U' m) (((m + 1 : Nat) : Rat) * U (m + 1))) →
  Df L δ (sm (fun m => U m * pw s m) M) (sm (fun m => U' m * pw (s - δ) m) M) (U M * dpw s M)
 | 0 => ⟨0, by grind, fun δ s U U' _ _ _ _ _ _ _ => by
   show Df 0 δ 0 0 (U 0 * 0)
   unfold Df Bn
   constructor <;> grind⟩
 | M + 1 => by
  obtain ⟨L, l0, hL⟩ := zqW hS hW hK M
  obtain ⟨P, p0, hP⟩ := zr3 hS M
  obtain ⟨W1, w1, hW1⟩ := zrj hS M
  have hp := zmN hS M
  have hM := zn6 M
  have hMW := Rat.mul_nonneg (Rat.le_of_lt hM) hW
  generalize hWe : W + W1 + pw S M + ((M + 1 : Nat) : Rat) * W = V
  have v0 : 0 ≤ V := by grind
  have n1 := Rat.mul_nonneg v0 v0
  have n2 := Rat.mul_nonneg (Rat.mul_nonneg (show (0 : Rat) ≤ 4 by grind) v0) hK
  have n3 := Rat.mul_nonneg v0 p0
  have n4 := Rat.mul_nonneg v0 hK
  refine ⟨L + (V * V + 4 * V * K + V * P + V * K), by grind, fun δ s U U' d0 d4 h1 h2 b b' hd => ?_⟩
  have a1 := hL δ s U U' d0 d4 h1 h2 (fun m hm => b m (by omega)) (fun m hm => b' m (by omega)) (fun m hm => hd m (by omega))
  have a2 := Df.mul (W := V) d0 d4 (hd M (by omega)) (hP δ s d0 d4 h1 h2) ((b' M (by omega)).mono (by grind)) ((zr4 (s := s) (S := S) (by grind) h2 M).mono (by grind)) ((Bn.mul (K := ((M + 1 : Nat) : Rat)) (by unfold Bn; constructor <;> grind) (b (M + 1) (Nat.le_refl _))).mono (by grind)) ((hW1 s (by grind) h2).neg.mono (by grind))
  have a3 := a1.add a2
  have e : U M * dpw s M + (((M + 1 : Nat) : Rat) * U (M + 1) * pw s M + U M * -(dpw s M)) = U (M + 1) * dpw s (M + 1) := by
   show _ = U (M + 1) * (((M + 1 : Nat) : Rat) * pw s M)
   grind
  rw [e] at a3
  exact a3
theorem zno {A B : Nat → Rat} {c : Rat} : ∀ {N : Nat}, (∀ n, n < N → Bn c (A (n + 1) - A n - B n)) → Bn ((N : Rat) * c) (A N - A 0 - sm B N)
 | 0, _ => by
  have e : ((0 : Nat) : Rat) = 0 := rfl
  rw [e]
  show Bn (0 * c) (A 0 - A 0 - 0)
  unfold Bn
  constructor <;> grind
 | N + 1, h => by
  have h1 := (zno (N := N) fun n hn => h n (by omega)).add (h N (by omega))
  rw [zcd]
  have e1 : (N : Rat) * c + c = ((N : Rat) + 1) * c := by grind
  have e2 : A N - A 0 - sm B N + (A (N + 1) - A N - B N) = A (N + 1) - A 0 - sm B (N + 1) := by
   show _ = A (N + 1) - A 0 - (sm B N + B N)
   grind
  rwa [e1, e2] at h1
theorem zlB {w v : Nat → Rat} {lo hi : Rat} : ∀ {N : Nat}, (∀ n, n < N → 0 ≤ w n ∧ lo ≤ v n ∧ v n ≤ hi) → lo * sm w N ≤ sm (fun n => w n * v n) N ∧ sm (fun n => w n * v n) N ≤ hi * sm w N
 | 0, _ => by
  show lo * 0 ≤ 0 ∧ 0 ≤ hi * 0
  constructor <;> grind
 | N + 1, h => by
  obtain ⟨h1, h2⟩ := zlB (N := N) fun n hn => h n (by omega)
  obtain ⟨k0, k1, k2⟩ := h N (by omega)
  have m1 := Rat.mul_le_mul_of_nonneg_left k1 k0
  have m2 := Rat.mul_le_mul_of_nonneg_left k2 k0
  show lo * (sm w N + w N) ≤ sm (fun n => w n * v n) N + w N * v N ∧ sm (fun n => w n * v n) N + w N * v N ≤ hi * (sm w N + w N)
  constructor <;> grind
theorem zlA (f : Nat → Rat) : ∀ N, sm (fun n => f n - f (n + 1)) N = f 0 - f N
 | 0 => by show (0 : Rat) = f 0 - f 0; grind
 | N + 1 => by
  show sm (fun n => f n - f (n + 1)) N + (f N - f (N + 1)) = _
  rw [zlA f N]; grind
end Go.Pl

namespace Go.Pl
theorem zsY (l : List I) (k : Nat) : at0 l (k : Int) = atN l k := by simp [at0, atN]
theorem zfv (l : List I) (k : Int) : at0 l k = atN l k.toNat := rfl
theorem zgt (x : List I) (t : I) (L : List Ins) : ∀ j y, L[j]? = some y → (zbb L x t)[j]? = some (insV y (zbb (L.take j) x t) x t) := by
 refine zgi (P := fun L => ∀ j y, L[j]? = some y → (zbb L x t)[j]? = some (insV y (zbb (L.take j) x t) x t)) (fun j y h => by simp at h) (fun L z ih j y h => ?_) L
 rw [zcw]
 rcases Nat.lt_or_ge j L.length with hj | hj
 ·rw [List.getElem?_append_left hj] at h
  rw [List.getElem?_append_left (by rw [zcD]; exact hj), ih j y h, List.take_append_of_le_length (by omega)]
 ·have hj2 : j = L.length := by
   have := (gJ.1 h).1
   simp at this; omega
  subst hj2
  rw [List.getElem?_append_right (Nat.le_refl _), Nat.sub_self] at h
  simp at h
  subst h
  rw [List.getElem?_append_right (by rw [zcD]; omega), zcD, Nat.sub_self]
  simp
theorem zmt {x : List I} {t : I} {L : List Ins} {i j : Nat} (hi : i < j) (hj : j ≤ L.length) : atN (zbb (L.take j) x t) i = atN (zbb L x t) i := by
 have h1 : (L.take j)[i]? = some L[i] := by rw [List.getElem?_take_of_lt hi]; exact List.getElem?_eq_getElem (by omega)
 have h2 : L[i]? = some L[i] := List.getElem?_eq_getElem (by omega)
 unfold atN
 rw [zgt x t _ i _ h1, zgt x t _ i _ h2, List.take_take, Nat.min_eq_left (by omega)]
section
variable {T : Tp} {X : List I} {τ : I} (hT : tpOk T) (hX : allV X) (hτ : vB τ = true)
include hT hX hτ
theorem zsF : ∀ j, j < T.L.length → atN (zbb T.L X τ) j = cL T X τ j 0 := by
 intro j
 induction j using Nat.strongRecOn with
 | ind j ih =>
  intro hj
  have hx : T.L[j]? = some T.L[j] := List.getElem?_eq_getElem hj
  generalize T.L[j] = y at hx
  have hv : atN (zbb T.L X τ) j = insV y (zbb (T.L.take j) X τ) X τ := by
   have := zgt X τ T.L j y hx
   simp [atN, this]
  have arg : ∀ k : Int, 0 ≤ k → k < j → at0 (zbb (T.L.take j) X τ) k = cL T X τ k.toNat 0 := fun k h0 h1 => by
   rw [zfv, zmt (by omega) (by omega)]
   exact ih k.toNat (by omega) (by omega)
  rw [hv, zqC hT hX hτ hx]
  rcases hT.ins j y hx with ⟨ho, _⟩ | ⟨ho, h0, h1⟩ | ho | ⟨h4, h6, a0, a1, _⟩ | ⟨h7, h10, a0, a1, b0, b1⟩
  ·simp [insV, fA, ho, algI]
  ·rw [if_pos ho, zjb (by omega)]
   simp [insV, ho, zfv]
  ·simp [insV, fA, ho]
  ·rw [if_neg (by omega)]
   have e := arg y.a a0 a1
   have n1 : y.op ≠ 1 := by omega
   have n2 : y.op ≠ 2 := by omega
   have n3 : y.op ≠ 3 := by omega
   by_cases o4 : y.op = 4
   ·simp [insV, opI, fA, o4, algI, e]
   ·by_cases o5 : y.op = 5
    ·simp [insV, opI, fA, o5, algI, e]
    ·have o6 : y.op = 6 := by omega
     simp [insV, opI, fA, o6, algI, e]
  ·rw [if_neg (by omega)]
   have e := arg y.a a0 a1
   have e2 := arg y.b b0 b1
   by_cases o7 : y.op = 7
   ·simp [insV, opI, fA, o7, algI, e, e2]
   ·by_cases o8 : y.op = 8
    ·simp [insV, opI, fA, o8, algI, e, e2]
    ·by_cases o9 : y.op = 9
     ·simp [insV, opI, fA, o9, zci, sumA, e, e2]; simp [algI]
     ·have o10 : y.op = 10 := by omega
      simp [insV, opI, fA, o10, algI, e, e2]
theorem zqv {i o : Nat} (ho : T.out[i]? = some o) : atN (zcS T X τ) i = cL T X τ o 0 := by
 have e : atN (zcS T X τ) i = at0 (zbb T.L X τ) (o : Int) := by simp [zcS, atN, ho]
 rw [← zsF hT hX hτ o (hT.out o (List.mem_of_getElem? ho)), e, zsY]
end
def poly (T : Tp) (p : Nat) (s δ : Rat) (y : Nat → Rat) : Nat → Nat → Rat
 | 0 => y
 | n + 1 => fun i => poly T p s δ y n i + δ * rL T p (s + (n : Rat) * δ) (poly T p s δ y n) ((T.out[i]?).getD 0) 0
theorem zsq {a b : I} {x : Rat} (ha : a ≠ ent) (h : subB a b = true) (hx : InI a x) : InI b x := by
 rcases hx with hx | ⟨h1, h2⟩
 ·exact absurd hx ha
 ·simp only [subB, Bool.and_eq_true, decide_eq_true_eq] at h
  have r1 : (b.1 : Rat) ≤ (a.1 : Rat) := Rat.intCast_le_intCast.2 h.1
  have r2 : (a.2 : Rat) ≤ (b.2 : Rat) := Rat.intCast_le_intCast.2 h.2
  exact .inr ⟨by grind, by grind⟩
section
variable {T : Tp} {x C : List I} {t h : Int} {p N : Nat} {θ : Rat} {y : Nat → Rat}
theorem zr5 (hT : tpOk T) (hC : allV C) (hCn : C.length = T.n) (hxn : x.length = T.n) (hτ : vB (mk t (t + h)) = true)
  (hne : ∀ i, i < T.n → atN (zaq T x C t h) i ≠ ent) (hsub : subI (zaq T x C t h) C = true) (hy : ∀ i, i < T.n → InI (atN x i) (y i))
  {s δ : Rat} (hδ : 0 ≤ δ) (hs : ∀ n : Nat, n ≤ N → InI (mk t (t + h)) (s + (n : Rat) * δ)) (hh : ∀ n : Nat, n ≤ N → InI (mk 0 h) ((n : Rat) * δ)) :
  ∀ n, n ≤ N → ∀ i, i < T.n → ∃ g, InI (atN (zcS T C (mk t (t + h))) i) g ∧ poly T p s δ y n i = y i + (n : Rat) * δ * g ∧ InI (atN (zaq T x C t h) i) (poly T p s δ y n i) := by
 have put : ∀ n, n ≤ N → ∀ i, i < T.n → ∀ g v, InI (atN (zcS T C (mk t (t + h))) i) g → v = y i + (n : Rat) * δ * g → InI (atN (zaq T x C t h) i) v := fun n hn i hi g v hg hv => by
  have e : atN (zaq T x C t h) i = imgI h (atN x i) (atN (zcS T C (mk t (t + h))) i) := by
   have : i < x.length := by omega
   simp [zaq, atN, this]
  rw [e, hv]
  exact zj1 (hy i hi) (zot (hh n hn) hg)
 intro n
 induction n with
 | zero =>
  intro h0 i hi
  have hv : vB (atN (zcS T C (mk t (t + h))) i) = true := zam (zcM hT hC hτ) i
  have e0 : ((0 : Nat) : Rat) = 0 := rfl
  have e1 : poly T p s δ y 0 i = y i + ((0 : Nat) : Rat) * δ * (((atN (zcS T C (mk t (t + h))) i).1 : Rat) / 65536) := by
   rw [e0]; show y i = _; grind
  exact ⟨_, zfR hv, e1, put 0 h0 i hi _ _ (zfR hv) e1⟩
 | succ n ih =>
  intro hn i hi
  obtain ⟨g, hg, he, _⟩ := ih (by omega) i hi
  obtain ⟨o, ho⟩ : ∃ o, T.out[i]? = some o := ⟨T.out[i]'(by rw [hT.len]; exact hi), by simp⟩
  have hol := hT.out o (List.mem_of_getElem? ho)
  have hin : ∀ i, i < T.n → InI (atN C i) (poly T p s δ y n i) := fun i hi => by
   obtain ⟨_, _, _, h3⟩ := ih (by omega) i hi
   refine zsq (hne i hi) ?_ h3
   have h4 := hsub
   unfold subI at h4
   rw [List.all_eq_true] at h4
   exact h4 i (List.mem_range.2 (by rw [zbE]; omega))
  have hf : InI (atN (zcS T C (mk t (t + h))) i) (rL T p (s + (n : Rat) * δ) (poly T p s δ y n) o 0) := by
   rw [zqv hT hC hτ ho]
   exact (zg5 hT hC hτ p hin (hs n (by omega)) 0).2 o hol
  generalize hF : rL T p (s + (n : Rat) * δ) (poly T p s δ y n) o 0 = f at hf
  have e1 : poly T p s δ y (n + 1) i = poly T p s δ y n i + δ * f := by
   show poly T p s δ y n i + δ * rL T p (s + (n : Rat) * δ) (poly T p s δ y n) ((T.out[i]?).getD 0) 0 = _
   rw [ho]
   show poly T p s δ y n i + δ * rL T p (s + (n : Rat) * δ) (poly T p s δ y n) o 0 = _
   rw [hF]
  have hp := zn6 n
  have hn0 : (0 : Rat) ≤ (n : Rat) := by rw [← Rat.intCast_natCast]; exact Rat.intCast_nonneg.2 (by omega)
  have ec := zcd n
  have hg2 : InI (atN (zcS T C (mk t (t + h))) i) (((n : Rat) * g + f) / ((n + 1 : Nat) : Rat)) := by
   rw [ec]
   rw [ec] at hp
   rcases (Rat.le_total : g ≤ f ∨ f ≤ g) with k | k
   ·refine zlY hg hf ?_ ?_
    ·exact zeM hp (by grind)
    ·refine zdu hp ?_
     have := Rat.mul_le_mul_of_nonneg_left k hn0
     grind
   ·refine zlY hf hg ?_ ?_
    ·refine zeM hp ?_
     have := Rat.mul_le_mul_of_nonneg_left k hn0
     grind
    ·exact zdu hp (by grind)
  have e2 : poly T p s δ y (n + 1) i = y i + ((n + 1 : Nat) : Rat) * δ * (((n : Rat) * g + f) / ((n + 1 : Nat) : Rat)) := by
   rw [e1, he]
   rw [ec] at hp ⊢
   grind
  exact ⟨_, hg2, e2, put (n + 1) hn i hi _ _ hg2 e2⟩
end
end Go.Pl

namespace Go.Pl
theorem arch (q : Rat) : ∃ N : Nat, 1 ≤ N ∧ q ≤ (N : Rat) := by
 have h1 : q < ((q.floor + 1 : Int) : Rat) := Rat.not_le.1 fun k => by
  have := Rat.le_floor_iff.2 k
  omega
 refine ⟨(max 1 (q.floor + 1)).toNat, by omega, ?_⟩
 have h2 : (((max 1 (q.floor + 1)).toNat : Nat) : Rat) = ((max 1 (q.floor + 1) : Int) : Rat) := by
  rw [← Rat.intCast_natCast]
  congr 1
  omega
 rw [h2]
 have h3 : ((q.floor + 1 : Int) : Rat) ≤ ((max 1 (q.floor + 1) : Int) : Rat) := Rat.intCast_le_intCast.2 (by omega)
 exact Rat.le_trans (Rat.le_of_lt h1) h3
section
variable {T : Tp} {X : List I} {τ : I}
theorem zpq {f f' d : Nat → StR T X τ → Rat} : ∀ {M : Nat}, (∀ m, m < M → Dfx (f m) (f' m) (d m)) → ∃ K, 0 ≤ K ∧ ∀ m, m < M → ∀ r, Df K r.δ (f m r) (f' m r) (d m r)
 | 0, _ => ⟨0, by grind, fun m hm => by omega⟩
 | M + 1, h => by
  obtain ⟨K, k0, hK⟩ := zpq (M := M) fun m hm => h m (by omega)
  obtain ⟨L, l0, hL⟩ := h M (by omega)
  refine ⟨K + L, by grind, fun m hm r => ?_⟩
  by_cases e : m = M
  ·subst e; exact (hL r).mono (by grind)
  ·exact (hK m (by omega) r).mono (by grind)
theorem zpr {f f' : Nat → StR T X τ → Rat} : ∀ {M : Nat}, (∀ m, m < M → Bdx (f m) ∧ Bdx (f' m)) → ∃ W, 0 ≤ W ∧ ∀ m, m < M → ∀ r, Bn W (f m r) ∧ Bn W (f' m r)
 | 0, _ => ⟨0, by grind, fun m hm => by omega⟩
 | M + 1, h => by
  obtain ⟨K, k0, hK⟩ := zpr (M := M) fun m hm => h m (by omega)
  obtain ⟨⟨L, l0, hL⟩, ⟨L', l0', hL'⟩⟩ := h M (by omega)
  refine ⟨K + L + L', by grind, fun m hm r => ?_⟩
  by_cases e : m = M
  ·subst e; exact ⟨(hL r).mono (by grind), (hL' r).mono (by grind)⟩
  ·exact ⟨(hK m (by omega) r).1.mono (by grind), (hK m (by omega) r).2.mono (by grind)⟩
theorem bdO (hT : tpOk T) (hX : allV X) (hτ : vB τ = true) (hte : τ ≠ ent) (hXe : ∀ i, i < T.n → atN X i ≠ ent) {i M : Nat} (hi : i < T.n) (hc : cO T X τ i M ≠ ent) : ∀ m, m < M + 1 → Bdx (T := T) (X := X) (τ := τ) (aO i m) ∧ Bdx (T := T) (X := X) (τ := τ) (aO' i m) := by
 obtain ⟨o, ho⟩ : ∃ o, T.out[i]? = some o := ⟨T.out[i]'(by rw [hT.len]; exact hi), by simp⟩
 intro m hm
 cases m with
 | zero =>
  obtain ⟨W, w0, hW⟩ := zmo (hXe _ hi)
  exact ⟨⟨W, w0, fun r => hW _ (r.hy _ hi)⟩, ⟨W, w0, fun r => hW _ (r.hy' _ hi)⟩⟩
 | succ m =>
  obtain ⟨M', rfl⟩ : ∃ M', M = M' + 1 := ⟨M - 1, by omega⟩
  rw [zjc hT hX hτ hi ho] at hc
  have hb := (zl3 hT hX hτ hte hXe M' o (hT.out o (List.mem_of_getElem? ho)) (zgV hc)).1 m (by omega)
  exact ⟨(Bdx.smul (1 / ((m + 1 : Nat) : Rat)) hb.1).congr fun r => by show _ = rO T r.p r.s r.y i (m + 1); rw [zdq ho]; show 1 / ((m + 1 : Nat) : Rat) * rL T r.p r.s r.y o m = _; grind,
   (Bdx.smul (1 / ((m + 1 : Nat) : Rat)) hb.2).congr fun r => by show _ = rO T r.p (r.s + r.δ) r.y' i (m + 1); rw [zdq ho]; show 1 / ((m + 1 : Nat) : Rat) * rL T r.p (r.s + r.δ) r.y' o m = _; grind⟩
theorem zqL (f : Nat → Rat) : ∀ M, sm (fun m => f m * pw 0 m) (M + 1) = f 0
 | 0 => by show 0 + f 0 * 1 = f 0; grind
 | M + 1 => by
  show sm (fun m => f m * pw 0 m) (M + 1) + f (M + 1) * (pw 0 M * 0) = f 0
  rw [zqL f M]; grind
theorem zqV {s : Rat} (h : 0 < s) : ∀ m, 0 < pw s m
 | 0 => by show (0 : Rat) < 1; grind
 | m + 1 => Rat.mul_pos (zqV h m) h
theorem zk3 (hT : tpOk T) (hX : allV X) (hτ : vB τ = true) (hte : τ ≠ ent) (hXe : ∀ i, i < T.n → atN X i ≠ ent) {i M : Nat} (hi : i < T.n) (hc : cO T X τ i (M + 1) ≠ ent) {θ : Rat} (hθ : 0 < θ) :
  ∃ Q, 0 ≤ Q ∧ ∀ (N p : Nat) (δ s : Rat) (y : Nat → Rat), 0 < δ → δ ≤ 4 → (N : Rat) * δ = θ → 1 / (grid p : Rat) ≤ δ * δ →
   (∀ n, n ≤ N → (∀ i, i < T.n → InI (atN X i) (poly T p s δ y n i)) ∧ InI τ (s + (n : Rat) * δ)) →
   ∃ ρ, InI (cO T X τ i (M + 1)) ρ ∧ Bn (Q * δ) (poly T p s δ y N i - (sm (fun m => rO T p s y i m * pw θ m) (M + 1) + ρ * pw θ (M + 1))) := by
 obtain ⟨K, k0, hK⟩ := zpq (goodO hT hX hτ hte hXe hi hc)
 obtain ⟨W, w0, hW⟩ := zpr (bdO hT hX hτ hte hXe hi hc)
 obtain ⟨L, l0, hL⟩ := zqW (S := θ) (Rat.le_of_lt hθ) w0 k0 (M + 1)
 obtain ⟨P, p0, hP⟩ := zr3 (S := θ) (Rat.le_of_lt hθ) (M + 1)
 have wp := Rat.mul_nonneg w0 p0
 refine ⟨θ * (L + W * P), Rat.mul_nonneg (Rat.le_of_lt hθ) (by grind), fun N p δ s y d0 d4 hN hp hin => ?_⟩
 have dn : 0 ≤ δ := Rat.le_of_lt d0
 have nn : ∀ n : Nat, (0 : Rat) ≤ (n : Rat) := fun n => by rw [← Rat.intCast_natCast]; exact Rat.intCast_nonneg.2 (by omega)
 have nle : ∀ n : Nat, n ≤ N → (n : Rat) * δ ≤ θ := fun n hn => by
  rw [← hN]
  refine Rat.mul_le_mul_of_nonneg_right ?_ dn
  rw [← Rat.intCast_natCast, ← Rat.intCast_natCast]
  exact Rat.intCast_le_intCast.2 (by omega)
 have se : ∀ n : Nat, s + (n : Rat) * δ + δ = s + ((n + 1 : Nat) : Rat) * δ := fun n => by rw [zcd]; grind
 have R : ∀ n, n < N → ∃ r : StR T X τ, r.p = p ∧ r.δ = δ ∧ r.s = s + (n : Rat) * δ ∧ r.y = poly T p s δ y n ∧ r.y' = poly T p s δ y (n + 1) := fun n hn =>
  ⟨⟨p, δ, s + (n : Rat) * δ, poly T p s δ y n, poly T p s δ y (n + 1), (hin n (by omega)).1, (hin (n + 1) (by omega)).1, (hin n (by omega)).2, by rw [se]; exact (hin (n + 1) (by omega)).2, d0, d4, hp, fun i o ho => by
   show poly T p s δ y n i + δ * rL T p (s + (n : Rat) * δ) (poly T p s δ y n) ((T.out[i]?).getD 0) 0 = _
   rw [ho]; rfl⟩, rfl, rfl, rfl, rfl, rfl⟩
 obtain ⟨U, hU⟩ : ∃ U : Nat → Nat → Rat, U = fun (n m : Nat) => rO T p (s + (n : Rat) * δ) (poly T p s δ y n) i m := ⟨_, rfl⟩
 have ub : ∀ n, n < N → ∀ m, m < M + 1 + 1 → Bn W (U n m) ∧ Bn W (U (n + 1) m) := fun n hn m hm => by
  obtain ⟨r, r1, r2, r3, r4, r5⟩ := R n hn
  have := hW m hm r
  unfold aO aO' at this
  rw [r1, r2, r3, r4, r5, se] at this
  subst hU
  exact this
 have ud : ∀ n, n < N → ∀ m, m < M + 1 → Df K δ (U n m) (U (n + 1) m) (((m + 1 : Nat) : Rat) * U n (m + 1)) := fun n hn m hm => by
  obtain ⟨r, r1, r2, r3, r4, r5⟩ := R n hn
  have := hK m hm r
  unfold aO aO' at this
  rw [r1, r2, r3, r4, r5, se] at this
  subst hU
  exact this
 have sig : ∀ n : Nat, θ - (n : Rat) * δ - δ = θ - ((n + 1 : Nat) : Rat) * δ := fun n => by rw [zcd]; grind
 have step : ∀ n, n < N → Bn ((L + W * P) * (δ * δ)) (sm (fun m => U (n + 1) m * pw (θ - ((n + 1 : Nat) : Rat) * δ) m) (M + 1) - sm (fun m => U n m * pw (θ - (n : Rat) * δ) m) (M + 1) - (pw (θ - (n : Rat) * δ) (M + 1) - pw (θ - ((n + 1 : Nat) : Rat) * δ) (M + 1)) * U n (M + 1)) := fun n hn => by
  have s1 : 0 ≤ θ - (n : Rat) * δ - δ := by rw [sig]; have := nle (n + 1) (by omega); grind
  have s2 : θ - (n : Rat) * δ ≤ θ := by have := Rat.mul_nonneg (nn n) dn; grind
  have a1 := hL δ (θ - (n : Rat) * δ) (U n) (U (n + 1)) dn d4 s1 s2 (fun m hm => (ub n hn m (by omega)).1) (fun m hm => (ub n hn m (by omega)).2) (ud n hn)
  have a2 := Df.smul (U n (M + 1)) (ub n hn (M + 1) (by omega)).1 (hP δ (θ - (n : Rat) * δ) dn d4 s1 s2)
  have a3 := a1.add a2
  unfold Df at a3
  rw [sig] at a3
  refine Eq.mp ?_ a3
  congr 1
  grind
 have tot := zno (N := N) (A := fun n => sm (fun m => U n m * pw (θ - (n : Rat) * δ) m) (M + 1)) (B := fun n => (pw (θ - (n : Rat) * δ) (M + 1) - pw (θ - ((n + 1 : Nat) : Rat) * δ) (M + 1)) * U n (M + 1)) step
 have z0 : ((0 : Nat) : Rat) = 0 := rfl
 have tele := zlA (fun n => pw (θ - (n : Rat) * δ) (M + 1)) N
 have eN : θ - (N : Rat) * δ = 0 := by rw [hN]; grind
 have e0 : θ - ((0 : Nat) : Rat) * δ = θ := by rw [z0]; grind
 have p00 : pw 0 (M + 1) = 0 := by show pw 0 M * 0 = 0; grind
 simp only [eN, e0, p00] at tele
 have pp := zqV hθ (M + 1)
 have hr : ∀ n, n < N → InI (cO T X τ i (M + 1)) (U n (M + 1)) := fun n hn => by
  subst hU
  exact (zg5 hT hX hτ p (hin n (by omega)).1 (hin n (by omega)).2 (M + 1)).1 i hi
 have conv := zlB (N := N) (w := fun n => pw (θ - (n : Rat) * δ) (M + 1) - pw (θ - ((n + 1 : Nat) : Rat) * δ) (M + 1)) (v := fun n => U n (M + 1)) (lo := ((cO T X τ i (M + 1)).1 : Rat) / 65536) (hi := ((cO T X τ i (M + 1)).2 : Rat) / 65536) (fun n hn => by
  have m1 := zk2 (s := θ - ((n + 1 : Nat) : Rat) * δ) (t := θ - (n : Rat) * δ) (by have := nle (n + 1) (by omega); grind) (by rw [← sig]; grind) (M + 1)
  rcases hr n hn with h | ⟨h1, h2⟩
  ·exact absurd h hc
  ·exact ⟨by grind, by grind, by grind⟩)
 rw [tele] at conv
 simp only [eN, e0, zqL] at tot
 generalize hS : sm (fun n => (pw (θ - (n : Rat) * δ) (M + 1) - pw (θ - ((n + 1 : Nat) : Rat) * δ) (M + 1)) * U n (M + 1)) N = S at tot conv
 refine ⟨S / pw θ (M + 1), .inr ⟨?_, ?_⟩, ?_⟩
 ·have : ((cO T X τ i (M + 1)).1 : Rat) / 65536 ≤ S / pw θ (M + 1) := zeM pp (by grind)
  grind
 ·have : S / pw θ (M + 1) ≤ ((cO T X τ i (M + 1)).2 : Rat) / 65536 := zdu pp (by grind)
  grind
 ·have e1 : S / pw θ (M + 1) * pw θ (M + 1) = S := by grind
  have e2 : U N 0 = poly T p s δ y N i := by subst hU; rfl
  have e3 : sm (fun m => U 0 m * pw θ m) (M + 1) = sm (fun m => rO T p s y i m * pw θ m) (M + 1) := by
   subst hU
   refine zb8 fun m hm => ?_
   show rO T p (s + ((0 : Nat) : Rat) * δ) y i m * _ = _
   rw [z0, show s + 0 * δ = s by grind]
  rw [e2, e3] at tot
  rw [e1]
  have e4 : (N : Rat) * ((L + W * P) * (δ * δ)) = θ * (L + W * P) * δ := by rw [← hN]; grind
  rw [e4] at tot
  refine Eq.mp ?_ tot
  congr 1
  grind
end
end Go.Pl

namespace Go.Pl
def zm3 : List Rat → Rat → Rat
 | [], _ => 0
 | [a], _ => a
 | a :: r, θ => zm3 r θ * θ + a
theorem zoE {part : I} {θ : Rat} (hp : InI part θ) : ∀ {l : List I} {v : List Rat}, l.length = v.length → (∀ (i : Nat) a b, l[i]? = some a → v[i]? = some b → InI a b) → InI (zaV l part) (zm3 v θ)
 | [], [], _, _ => zj2
 | [a], [b], _, h => h 0 a b rfl rfl
 | a :: c :: l, b :: d :: v, hl, h => by
  have ih := zoE hp (l := c :: l) (v := d :: v) (by simpa using hl) (fun (i : Nat) x y h1 h2 => h (i + 1) x y (by simpa using h1) (by simpa using h2))
  exact zj1 (zot ih hp) (h 0 a b rfl rfl)
def sumH : List Rat → Rat → Rat
 | [], _ => 0
 | a :: r, θ => sumH r θ * θ + a
theorem zh6 (a θ : Rat) : ∀ l : List Rat, zm3 (l ++ [a]) θ = sumH l θ + a * pw θ l.length
 | [] => by show a = 0 + a * 1; grind
 | c :: l => by
  have ih := zh6 a θ l
  have e : zm3 (c :: (l ++ [a])) θ = zm3 (l ++ [a]) θ * θ + c := by
   cases l with
   | nil => rfl
   | cons d l => rfl
  show zm3 (c :: (l ++ [a])) θ = (sumH l θ * θ + c) + a * (pw θ l.length * θ)
  rw [e, ih]; grind
theorem zjm (a θ : Rat) : ∀ l : List Rat, sumH (l ++ [a]) θ = sumH l θ + a * pw θ l.length
 | [] => by show (0 : Rat) * θ + a = 0 + a * 1; grind
 | c :: l => by
  have ih := zjm a θ l
  show sumH (l ++ [a]) θ * θ + c = (sumH l θ * θ + c) + a * (pw θ l.length * θ)
  rw [ih]; grind
theorem zhD (u : Nat → Rat) (θ : Rat) : ∀ M, sumH ((List.range M).map u) θ = sm (fun m => u m * pw θ m) M
 | 0 => rfl
 | M + 1 => by
  rw [List.range_succ, List.map_append, List.map_cons, List.map_nil, zjm, zhD u θ M]
  simp [sm]
theorem zl0 (part : I) : ∀ l : List I, zaV (l ++ [ent]) part = ent
 | [] => rfl
 | c :: l => by
  have ih := zl0 part l
  have e : zaV (c :: (l ++ [ent])) part = add (mul (zaV (l ++ [ent]) part) part) c := by
   cases l with
   | nil => rfl
   | cons d l => rfl
  show zaV (c :: (l ++ [ent])) part = ent
  rw [e, ih]
  have e1 : mul ent part = ent := by unfold mul; simp [show entB ent = true from rfl]
  rw [e1]
  unfold add; simp [show entB ent = true from rfl]
theorem zjZ {b : I} (h : vB b = true) : za3 ent b = true := by
 have := zao h
 unfold za3
 rw [decide_eq_true_eq]
 show max (-2147483648) b.1 ≤ min 2147483648 b.2
 omega
theorem zmW {a b : I} {u v : Rat} (va : vB a = true) (vb : vB b = true) (ha : InI a u) (hb : InI b v) (h : Bn (1 / 131072) (v - u)) : za3 a b = true := by
 have k1 := zao va
 have k2 := zao vb
 rcases ha with ha | ⟨a1, a2⟩
 ·subst ha; exact zjZ vb
 rcases hb with hb | ⟨b1, b2⟩
 ·subst hb
  unfold za3
  rw [decide_eq_true_eq]
  show max a.1 (-2147483648) ≤ min a.2 2147483648
  omega
 obtain ⟨h1, h2⟩ := h
 have l1 : b.1 ≤ a.2 := by
  by_cases k : b.1 ≤ a.2
  ·exact k
  ·have : ((a.2 + 1 : Int) : Rat) ≤ (b.1 : Rat) := Rat.intCast_le_intCast.2 (by omega)
   rw [Rat.intCast_add] at this
   have e : ((1 : Int) : Rat) = 1 := rfl
   rw [e] at this
   exfalso
   grind
 have l2 : a.1 ≤ b.2 := by
  by_cases k : a.1 ≤ b.2
  ·exact k
  ·have : ((b.2 + 1 : Int) : Rat) ≤ (a.1 : Rat) := Rat.intCast_le_intCast.2 (by omega)
   rw [Rat.intCast_add] at this
   have e : ((1 : Int) : Rat) = 1 := rfl
   rw [e] at this
   exfalso
   grind
 unfold za3
 rw [decide_eq_true_eq]
 omega
section
variable {T : Tp} {x C : List I} {t h : Int}
theorem zem (hT : tpOk T) (hx : allV x) (hC : allV C) (hCn : C.length = T.n) (hxn : x.length = T.n) (hh : 0 ≤ h ∧ h ≤ 1000000000) (ht : -1000000000 ≤ t ∧ t ≤ 1000000000)
  (hb : zaP (zaq T x C t h) = true) (hsub : subI (zaq T x C t h) C = true) {i k : Nat} (hi : i < T.n) {e : Int} (he : 0 < e ∧ e ≤ h) {part : I} (hp : InI part ((e : Rat) / 65536))
  (hv : vB (zaV ((List.range (k + 1)).map (cO T x (t, t) i) ++ [cO T (zaq T x C t h) (t, t + h) i (k + 1)]) part) = true) :
  za3 (zaV ((List.range (k + 1)).map (cO T x (t, t) i) ++ [cO T (zaq T x C t h) (t, t + h) i (k + 1)]) part) (atN (zaq T x C t h) i) = true := by
 have hX : allV (zaq T x C t h) := zaN hx
 have vb : vB (atN (zaq T x C t h) i) = true := zam hX i
 have emk : mk t (t + h) = (t, t + h) := by unfold mk numB; rw [if_pos (by simp; omega)]
 have emk0 : mk 0 h = (0, h) := by unfold mk numB; rw [if_pos (by simp; omega)]
 have hτ : vB (t, t + h) = true := zas (by omega) (by omega) (by omega)
 have hte : (t, t + h) ≠ ent := fun e => by have := congrArg Prod.fst e; simp [ent] at this; omega
 have hXe : ∀ i, i < T.n → atN (zaq T x C t h) i ≠ ent := fun i hi e => by
  unfold zaP at hb
  rw [List.all_eq_true] at hb
  have hl : i < (zaq T x C t h).length := by rw [zbE]; omega
  have hm : atN (zaq T x C t h) i ∈ zaq T x C t h := by
   unfold atN
   rw [List.getElem?_eq_getElem hl]
   exact List.getElem_mem hl
  have := hb _ hm
  rw [e] at this
  exact absurd this (by decide)
 by_cases hc : cO T (zaq T x C t h) (t, t + h) i (k + 1) = ent
 ·rw [hc, zl0]; exact zjZ vb
 have he0 : (0 : Rat) < (e : Rat) := Rat.intCast_pos.2 he.1
 have heh : (e : Rat) ≤ (h : Rat) := Rat.intCast_le_intCast.2 he.2
 have hθ : (0 : Rat) < (e : Rat) / 65536 := by grind
 generalize hθe : (e : Rat) / 65536 = θ at *
 have hθh : θ * 65536 ≤ (h : Rat) := by grind
 obtain ⟨Q, q0, hQ⟩ := zk3 hT hX hτ hte hXe hi hc hθ
 obtain ⟨N, n1, hN⟩ := arch (θ * Q * 131072 + θ)
 have npos : (0 : Rat) < (N : Rat) := by rw [← Rat.intCast_natCast]; exact Rat.intCast_pos.2 (by omega)
 have hθQ := Rat.mul_nonneg (Rat.le_of_lt hθ) q0
 obtain ⟨δ, hδ⟩ : ∃ δ, δ = θ / (N : Rat) := ⟨_, rfl⟩
 have hNδ : (N : Rat) * δ = θ := by rw [hδ]; grind
 have d0 : 0 < δ := by
  rw [hδ, Rat.div_def]
  exact Rat.mul_pos hθ (Rat.inv_pos.2 npos)
 have d1 : δ ≤ 1 := by
  rw [hδ]
  refine zdu npos ?_
  grind
 have dQ : Q * δ ≤ 1 / 131072 := by
  have : Q * δ = θ * Q / (N : Rat) := by rw [hδ]; grind
  rw [this]
  refine zdu npos ?_
  grind
 obtain ⟨p, p1, hp2⟩ := arch (1 / (δ * δ))
 have hdd : 0 < δ * δ := Rat.mul_pos d0 d0
 have hgrid : 1 / (grid p : Rat) ≤ δ * δ := by
  have hg := zd7 p
  have hpg : (p : Rat) ≤ (grid p : Rat) := by
   rw [← Rat.intCast_natCast]
   exact Rat.intCast_le_intCast.2 (by unfold grid; omega)
  refine zdu hg ?_
  have h1 : 1 / (δ * δ) ≤ (grid p : Rat) := Rat.le_trans hp2 hpg
  have h2 := Rat.mul_le_mul_of_nonneg_left h1 (Rat.le_of_lt hdd)
  have h3 : δ * δ * (1 / (δ * δ)) = 1 := by grind
  grind
 obtain ⟨y, hy⟩ : ∃ y : Nat → Rat, y = fun i => ((atN x i).1 : Rat) / 65536 := ⟨_, rfl⟩
 have hyx : ∀ i, i < T.n → InI (atN x i) (y i) := fun i hi => by rw [hy]; exact zfR (zam hx i)
 obtain ⟨s, hs⟩ : ∃ s : Rat, s = (t : Rat) / 65536 := ⟨_, rfl⟩
 have nn : ∀ n : Nat, (0 : Rat) ≤ (n : Rat) := fun n => by rw [← Rat.intCast_natCast]; exact Rat.intCast_nonneg.2 (by omega)
 have dn : 0 ≤ δ := Rat.le_of_lt d0
 have nle : ∀ n : Nat, n ≤ N → (n : Rat) * δ ≤ θ := fun n hn => by
  rw [← hNδ]
  refine Rat.mul_le_mul_of_nonneg_right ?_ dn
  rw [← Rat.intCast_natCast, ← Rat.intCast_natCast]
  exact Rat.intCast_le_intCast.2 (by omega)
 have hst : ∀ n : Nat, n ≤ N → InI (t, t + h) (s + (n : Rat) * δ) := fun n hn => by
  have h1 := nle n hn
  have h2 := Rat.mul_nonneg (nn n) dn
  refine .inr ⟨?_, ?_⟩
  ·show (t : Rat) ≤ _
   rw [hs]; grind
  ·show _ ≤ ((t + h : Int) : Rat)
   rw [hs, Rat.intCast_add]; grind
 have hht : ∀ n : Nat, n ≤ N → InI (0, h) ((n : Rat) * δ) := fun n hn => by
  have h1 := nle n hn
  have h2 := Rat.mul_nonneg (nn n) dn
  refine .inr ⟨?_, ?_⟩
  ·show ((0 : Int) : Rat) ≤ _
   have : ((0 : Int) : Rat) = 0 := rfl
   rw [this]; grind
  ·show _ ≤ (h : Rat)
   grind
 have hin := zr5 (p := p) (N := N) (y := y) (s := s) (δ := δ) hT hC hCn hxn (by rw [emk]; exact hτ) hXe hsub hyx dn (by rw [emk]; exact hst) (by rw [emk0]; exact hht)
 obtain ⟨ρ, hρ, hbn⟩ := hQ N p δ s y d0 (by grind) hNδ hgrid (fun n hn => ⟨fun i hi => by obtain ⟨_, _, _, h3⟩ := hin n hn i hi; exact h3, hst n hn⟩)
 obtain ⟨_, _, _, hz⟩ := hin N (Nat.le_refl _) i hi
 have hcx := zg5 hT hx (t := (t, t)) (zas (by omega) (by omega) (by omega)) p hyx (s := s) (by rw [hs]; exact zfR (c := (t, t)) (zas (by omega) (by omega) (by omega)))
 have hH : InI (zaV ((List.range (k + 1)).map (cO T x (t, t) i) ++ [cO T (zaq T x C t h) (t, t + h) i (k + 1)]) part) (sm (fun m => rO T p s y i m * pw θ m) (k + 1) + ρ * pw θ (k + 1)) := by
  have hl := zoE hp (l := (List.range (k + 1)).map (cO T x (t, t) i) ++ [cO T (zaq T x C t h) (t, t + h) i (k + 1)]) (v := (List.range (k + 1)).map (fun m => rO T p s y i m) ++ [ρ]) (by simp) (fun j a b h1 h2 => by
   rcases Nat.lt_or_ge j (k + 1) with hj | hj
   ·rw [List.getElem?_append_left (by simpa using hj)] at h1 h2
    simp [hj] at h1 h2
    subst h1 h2
    exact (hcx j).1 i hi
   ·rw [List.getElem?_append_right (by simpa using hj)] at h1 h2
    simp at h1 h2
    have hj2 : j - (k + 1) = 0 := by
     have := (gJ.1 h1).1
     simp at this; omega
    rw [hj2] at h1 h2
    simp at h1 h2
    subst h1 h2
    exact hρ)
  rw [zh6, zhD] at hl
  simpa using hl
 refine zmW hv vb hH hz (hbn.mono dQ)
end
end Go.Pl

namespace Go.Pl
theorem Sb.of {a b : I} (h : subB a b = true) : Sb a b := by
 simp only [subB, Bool.and_eq_true, decide_eq_true_eq] at h
 exact ⟨h.1, h.2⟩
theorem zmE {a a' : I} (va : vB a = true) (va' : vB a' = true) (ha : Sb a a') : Sb (zcQ a) (zcQ a') := zjo va va' ha
theorem zpX (o : Int) {a b a' b' : I} (va : vB a = true) (vb : vB b = true) (va' : vB a' = true) (vb' : vB b' = true) (ha : Sb a a') (hb : Sb b b') : Sb (opI o a b) (opI o a' b') := by
 unfold opI
 split
 ·exact ziH ha
 split
 ·exact znq va va' ha
 split
 ·exact zmE va va' ha
 split
 ·exact zdD va vb va' vb' ha hb
 split
 ·exact zlC va vb va' vb' ha hb
 split
 ·exact zej va vb va' vb' ha hb
 ·exact zmf va vb va' vb' ha hb
theorem zoo {y : Ins} {l l' X X' : List I} {t : I} (hy : y.op = 1 → vB y.c = true) (vl : allV l) (vl' : allV l') (hl : ∀ k : Int, Sb (at0 l k) (at0 l' k)) (hX : ∀ k : Int, Sb (at0 X k) (at0 X' k)) : Sb (insV y l X t) (insV y l' X' t) := by
 unfold insV
 split
 ·exact Sb.refl _
 split
 ·exact hX _
 split
 ·exact Sb.refl _
 ·exact zpX _ (zcg vl _) (zcg vl _) (zcg vl' _) (zcg vl' _) (hl _) (hl _)
theorem zjf {l l' : List I} {a a' : I} (hn : l.length = l'.length) (hl : ∀ k : Int, Sb (at0 l k) (at0 l' k)) (ha : Sb a a') (k : Int) : Sb (at0 (l ++ [a]) k) (at0 (l' ++ [a']) k) := by
 unfold at0 at *
 rcases Nat.lt_or_ge k.toNat l.length with h | h
 ·rw [List.getElem?_append_left h, List.getElem?_append_left (by omega)]
  exact hl k
 ·rw [List.getElem?_append_right h, List.getElem?_append_right (by omega), ← hn]
  cases k.toNat - l.length with
  | zero => simpa using ha
  | succ d => simp; exact Sb.refl _
theorem zmu {X X' : List I} {t : I} (hX : allV X) (hX' : allV X') (ht : vB t = true) (h : ∀ k : Int, Sb (at0 X k) (at0 X' k)) (L : List Ins) : (∀ y ∈ L, y.op = 1 → vB y.c = true) → ∀ k : Int, Sb (at0 (zbb L X t) k) (at0 (zbb L X' t) k) := by
 refine zgi (P := fun L => (∀ y ∈ L, y.op = 1 → vB y.c = true) → ∀ k : Int, Sb (at0 (zbb L X t) k) (at0 (zbb L X' t) k)) (fun _ k => Sb.refl _) (fun L y ih hc => ?_) L
 have ih' := ih fun z hz => hc z (by simp [hz])
 rw [zcw, zcw]
 exact zjf (by rw [zcD, zcD]) ih' (zoo (hc y (by simp)) (zcC hX ht fun z hz => hc z (by simp [hz])) (zcC hX' ht fun z hz => hc z (by simp [hz])) ih' h)
theorem zm6 {T : Tp} (hT : tpOk T) {X X' : List I} {t : I} (hX : allV X) (hX' : allV X') (ht : vB t = true) (h : ∀ k : Int, Sb (at0 X k) (at0 X' k)) (i : Nat) : Sb (atN (zcS T X t) i) (atN (zcS T X' t) i) := by
 unfold zcS atN
 cases ho : T.out[i]? with
 | none => simp [ho]; exact Sb.refl _
 | some o => simp [ho]; exact zmu hX hX' ht h T.L hT.num o
theorem zro {a : I} (h : vB a = true) : add (0, 0) a = a := by
 cases he : entB a with
 | true =>
  rw [zaA] at he; subst he; rfl
 | false =>
  have b := zaw h he
  unfold add
  rw [he, show entB (0, 0) = false from rfl]
  simp only [Bool.or_self, Bool.false_eq_true, if_false]
  unfold mk numB
  rw [if_pos (by simp; omega)]
  exact Prod.ext (by show 0 + a.1 = a.1; omega) (by show 0 + a.2 = a.2; omega)
theorem zuZ {a : I} (h : vB a = true) : add a (0, 0) = a := by
 have : add a (0, 0) = add (0, 0) a := by unfold add; rw [Bool.or_comm, Int.add_comm a.1, Int.add_comm a.2]
 rw [this, zro h]
theorem v00 : vB (0, 0) = true := by decide
theorem zgW {v : I} {h : Int} (vv : vB v = true) (hh : 0 ≤ h ∧ h ≤ 1000000000) : Sb (0, 0) (mul v (0, h)) ∧ Sb (0, 0) (mul (0, h) v) := by
 have vh : vB (0, h) = true := zas (by omega) (by omega) (by omega)
 have hs : Sb (0, 0) (0, h) := ⟨Int.le_refl _, hh.1⟩
 cases he : entB v with
 | true =>
  rw [zaA] at he; subst he
  have e1 : mul ent (0, h) = ent := by unfold mul; simp [show entB ent = true from rfl]
  have e2 : mul (0, h) ent = ent := by unfold mul; simp [show entB ent = true from rfl]
  rw [e1, e2]
  exact ⟨Sb.ent v00, Sb.ent v00⟩
 | false =>
  have z1 : mul v (0, 0) = (0, 0) := by
   unfold mul
   rw [he, show entB (0, 0) = false from rfl]
   simp [min4, max4, ce, fl, mk, numB]
  have z2 : mul (0, 0) v = (0, 0) := by
   unfold mul
   rw [he, show entB (0, 0) = false from rfl]
   simp [min4, max4, ce, fl, mk, numB]
  have m1 := zej vv v00 vv vh (Sb.refl v) hs
  have m2 := zej v00 vv vh vv hs (Sb.refl v)
  rw [z1] at m1
  rw [z2] at m2
  exact ⟨m1, m2⟩
theorem zb6 {part : I} (hp : vB part = true) : ∀ {l : List I}, allV l → vB (zaV l part) = true
 | [], _ => v00
 | [a], h => h a (by simp)
 | a :: b :: l, h => zbB zaz (h a (by simp))
theorem zfj {p q : I} (hp : vB p = true) (hq : vB q = true) (h : Sb p q) : ∀ {l : List I}, allV l → Sb (zaV l p) (zaV l q)
 | [], _ => Sb.refl _
 | [a], _ => Sb.refl _
 | a :: b :: l, hl => by
  have hl' : allV (b :: l) := fun z hz => hl z (by simp at hz ⊢; exact .inr hz)
  have ih := zfj hp hq h hl'
  exact zdD zaz (hl a (by simp)) zaz (hl a (by simp)) (zej (zb6 hp hl') hp (zb6 hq hl') hq ih h) (Sb.refl a)
theorem zh5 {h : Int} (hh : 0 ≤ h ∧ h ≤ 1000000000) {a : I} {l : List I} (hl : allV (a :: l)) : Sb a (zaV (a :: l) (0, h)) := by
 cases l with
 | nil => exact Sb.refl _
 | cons b l =>
  have va := hl a (by simp)
  have hl' : allV (b :: l) := fun z hz => hl z (by simp at hz ⊢; exact .inr hz)
  have vh : vB (0, h) = true := zas (by omega) (by omega) (by omega)
  have m := zdD v00 va zaz va (zgW (zb6 vh hl') hh).1 (Sb.refl a)
  rw [zro va] at m
  exact m
theorem zoy {h : Int} (hh : 0 ≤ h ∧ h ≤ 1000000000) {a q : I} (va : vB a = true) (vq : vB q = true) : Sb a (imgI h a q) := by
 have emk0 : mk 0 h = (0, h) := by unfold mk numB; rw [if_pos (by simp; omega)]
 have m := zdD va v00 va zaz (Sb.refl a) (zgW vq hh).2
 rw [zuZ va] at m
 unfold imgI
 rw [emk0]
 exact m
theorem znH (p q : I) : Sb (zbj p q) q := by
 unfold zbj
 split
 ·exact ⟨by show q.1 ≤ max p.1 q.1; omega, by show min p.2 q.2 ≤ q.2; omega⟩
 ·exact Sb.refl _
theorem zfF {p p' q : I} (h : Sb p p') (k : za3 p q = true) (k' : za3 p' q = true) : Sb (zbj p q) (zbj p' q) := by
 unfold zbj
 rw [if_pos k, if_pos k']
 have h1 := h.1
 have h2 := h.2
 exact ⟨by show max p'.1 q.1 ≤ max p.1 q.1; omega, by show min p.2 q.2 ≤ min p'.2 q.2; omega⟩
theorem zpP {a p q : I} (h : Sb a p) (k : Sb a q) : Sb a (zbj p q) := by
 unfold zbj
 split
 ·have := h.1; have := h.2; have := k.1; have := k.2
  exact ⟨by show max p.1 q.1 ≤ a.1; omega, by show a.2 ≤ min p.2 q.2; omega⟩
 ·exact k
theorem zhc {T : Tp} {x : List I} {t h : Int} (hx : allV x) : ∀ (k : Nat) (b0 b : List I), allV b0 → b0.length = x.length → encS T x t h k b0 = some b →
  ∃ C, allV C ∧ C.length = x.length ∧ b = zaq T x C t h ∧ zaP (zaq T x C t h) = true ∧ subI (zaq T x C t h) C = true
 | 0, b0, b, _, _, he => by simp [encS] at he
 | k + 1, b0, b, hb, hl, he => by
  have h1 := zeR hb
  have h2 : (zbZ b0).length = x.length := by rw [zg4, hl]
  simp only [encS] at he
  split at he
  ·cases he
  split at he
  ·cases he
  split at he
  ·cases he
  rename_i hb3
  split at he
  ·rename_i hs
   cases he
   exact ⟨zbZ b0, h1, h2, rfl, by simpa using hb3, hs⟩
  ·exact zhc hx k _ b (zby h1 (zaN hx)) (by rw [zbV, h2]) he
theorem zpM {T : Tp} {x : List I} {t : I} (hT : tpOk T) (hx : allV x) (ht : vB t = true) {i k : Nat} (hi : i < T.n) : rowN (za6 T x t k) (i : Int) = (List.range (k + 1)).map (cO T x t i) := by
 have hl : (rowN (za6 T x t k) (i : Int)).length = k + 1 := by
  have := (zaX hT hx ht k).2.row i hi
  simpa [za6] using this
 refine List.ext_getElem? fun m => ?_
 rcases Nat.lt_or_ge m (k + 1) with hm | hm
 ·have h1 := zsQ hT hx ht (k := k) (m := m) hi (by omega)
  have h2 : (rowN (za6 T x t k) (i : Int))[m]? = some (atN (rowN (za6 T x t k) (i : Int)) m) := by
   unfold atN
   rw [List.getElem?_eq_getElem (by rw [hl]; exact hm)]; rfl
  rw [h2]
  simp [hm]
  exact h1
 ·rw [List.getElem?_eq_none (by rw [hl]; exact hm), List.getElem?_eq_none (by simpa using hm)]
theorem za4 {T : Tp} {x : List I} {t : I} (hT : tpOk T) (hx : allV x) (ht : vB t = true) (k : Nat) : (za6 T x t k).length = T.n := (zaX hT hx ht k).2.len
theorem zcf {T : Tp} {x b : List I} {t h : Int} {part : I} {order i : Nat} (hT : tpOk T) (hx : allV x) (hb : allV b) (hh : 0 ≤ h ∧ h ≤ 1000000000) (ht : -1000000000 ≤ t ∧ t ≤ 1000000000) (hi : i < T.n) :
  atN (zaH T x b t h part order) i = zbj (zaV ((List.range (order + 1)).map (cO T x (t, t) i) ++ [cO T b (t, t + h) i (order + 1)]) part) (atN b i) := by
 have v1 : vB (t, t) = true := zas (by omega) (by omega) (by omega)
 have v2 : vB (t, t + h) = true := zas (by omega) (by omega) (by omega)
 have l1 := za4 hT hx v1 order
 have l2 := za4 hT hb v2 (order + 1)
 have e1 : atN (remS T b t h order) i = cO T b (t, t + h) i (order + 1) := by
  rw [← zsQ hT hb v2 (k := order + 1) hi (Nat.le_refl _)]
  unfold remS
  have : (za6 T b (t, t + h) (order + 1))[i]? = some (rowN (za6 T b (t, t + h) (order + 1)) (i : Int)) := by
   unfold rowN
   rw [Int.toNat_natCast, List.getElem?_eq_getElem (by omega)]; rfl
  simp [atN, this]
  rfl
 have e2 : rowN (zaB (za6 T x (t, t) order) (remS T b t h order)) (i : Int) = (List.range (order + 1)).map (cO T x (t, t) i) ++ [cO T b (t, t + h) i (order + 1)] := by
  have hlt : i < (za6 T x (t, t) order).length := by omega
  have : rowN (zaB (za6 T x (t, t) order) (remS T b t h order)) (i : Int) = rowN (za6 T x (t, t) order) (i : Int) ++ [atN (remS T b t h order) i] := by
   simp [zaB, rowN, hlt]
  rw [this, zpM hT hx v1 hi, e1]
 have hlw : (zaB (za6 T x (t, t) order) (remS T b t h order)).length = T.n := by simp [zaB, l1]
 have e3 : atN (zdA (zaB (za6 T x (t, t) order) (remS T b t h order)) part) i = zaV (rowN (zaB (za6 T x (t, t) order) (remS T b t h order)) (i : Int)) part := by
  have : (zaB (za6 T x (t, t) order) (remS T b t h order))[i]? = some (rowN (zaB (za6 T x (t, t) order) (remS T b t h order)) (i : Int)) := by
   unfold rowN
   rw [Int.toNat_natCast, List.getElem?_eq_getElem (by omega)]; rfl
  simp [zdA, atN, this]
 rw [← e2, ← e3]
 unfold zaH zdH
 have hle : i < (zdA (zaB (za6 T x (t, t) order) (remS T b t h order)) part).length := by simp [zdA, hlw]; omega
 simp [atN, hle]
theorem zfC {a b : List I} (h : ∀ i, i < a.length → Sb (atN a i) (atN b i)) : subI a b = true := by
 unfold subI
 rw [List.all_eq_true]
 intro i hi
 exact (h i (List.mem_range.1 hi)).to
theorem zjV {T : Tp} {x : List I} {t h : Int} {order : Nat} {s : Sg} (hT : tpOk T) (hx : allV x) (hxn : x.length = T.n) (hh : 1 ≤ h ∧ h ≤ 1000000000) (ht : -1000000000 ≤ t ∧ t ≤ 1000000000) (hs : zcW T x t h order = some s) :
  subI s.to s.tube = true ∧ subI s.tube s.pre = true ∧ subI x s.tube = true ∧ zhz T x s.pre t h = true := by
 have hh0 : 0 ≤ h ∧ h ≤ 1000000000 := by omega
 unfold zcW at hs
 cases hr : zeU T x t h with
 | none => rw [hr] at hs; cases hs
 | some b =>
  rw [hr] at hs
  obtain ⟨C, hC, hCn, rfl, hbd, hsub⟩ := zhc hx 8 _ b (zby hx (zaN hx)) (by rw [zbV]) hr
  simp only at hs
  split at hs
  ·cases hs
   have hX : allV (zaq T x C t h) := zaN hx
   have hXn : (zaq T x C t h).length = T.n := by rw [zbE, hxn]
   have v1 : vB (t, t) = true := zas (by omega) (by omega) (by omega)
   have v2 : vB (t, t + h) = true := zas (by omega) (by omega) (by omega)
   have vp : vB (0, h) = true := zas (by omega) (by omega) (by omega)
   have vq : vB (h, h) = true := zas (by omega) (by omega) (by omega)
   have emk : mk t (t + h) = (t, t + h) := by unfold mk numB; rw [if_pos (by simp; omega)]
   have hqp : Sb (h, h) (0, h) := ⟨hh0.1, Int.le_refl _⟩
   have len : ∀ part, (zaH T x (zaq T x C t h) t h part order).length = T.n := fun part => by
    simp [zaH, zdH, zdA, zaB, za4 hT hx v1 order]
   have rowV : ∀ i, i < T.n → allV ((List.range (order + 1)).map (cO T x (t, t) i) ++ [cO T (zaq T x C t h) (t, t + h) i (order + 1)]) := fun i hi z hz => by
    rcases List.mem_append.1 hz with hz | hz
    ·obtain ⟨m, hm, rfl⟩ := List.mem_map.1 hz
     exact zam (za9 (zaX hT hx v1 m).2.val _) _
    ·simp at hz; subst hz
     exact zam (za9 (zaX hT hX v2 (order + 1)).2.val _) _
   have ip : InI (0, h) ((h : Rat) / 65536) := by
    have h0 : (0 : Rat) ≤ (h : Rat) := Rat.intCast_nonneg.2 hh0.1
    refine .inr ⟨?_, ?_⟩
    ·show ((0 : Int) : Rat) ≤ _
     have : ((0 : Int) : Rat) = 0 := rfl
     rw [this]; grind
    ·show _ ≤ (h : Rat)
     grind
   have iq : InI (h, h) ((h : Rat) / 65536) := zfR (c := (h, h)) vq
   have mt : ∀ i, i < T.n → _ := fun i hi => zem (k := order) hT hx hC (by omega) hxn hh0 ht hbd hsub hi (e := h) (by omega) ip (zb6 vp (rowV i hi))
   have mq : ∀ i, i < T.n → _ := fun i hi => zem (k := order) hT hx hC (by omega) hxn hh0 ht hbd hsub hi (e := h) (by omega) iq (zb6 vq (rowV i hi))
   have hpre : ∀ i, i < T.n → Sb (atN x i) (atN (zaq T x C t h) i) := fun i hi => by
    have e : atN (zaq T x C t h) i = imgI h (atN x i) (atN (zcS T C (mk t (t + h))) i) := by
     have : i < x.length := by omega
     simp [zaq, atN, this]
    rw [e]
    exact zoy hh0 (zam hx i) (zam (zcM hT hC (by rw [emk]; exact v2)) i)
   refine ⟨zfC fun i hi => ?_, zfC fun i hi => ?_, zfC fun i hi => ?_, ?_⟩
   ·have hi' : i < T.n := by rw [← len (h, h)]; exact hi
    show Sb (atN (zaH T x (zaq T x C t h) t h (h, h) order) i) (atN (zaH T x (zaq T x C t h) t h (0, h) order) i)
    rw [zcf hT hx hX hh0 ht hi', zcf hT hx hX hh0 ht hi']
    exact zfF (zfj vq vp hqp (rowV i hi')) (mq i hi') (mt i hi')
   ·have hi' : i < T.n := by rw [← len (0, h)]; exact hi
    show Sb (atN (zaH T x (zaq T x C t h) t h (0, h) order) i) (atN (zaq T x C t h) i)
    rw [zcf hT hx hX hh0 ht hi']
    exact znH _ _
   ·have hi' : i < T.n := by omega
    show Sb (atN x i) (atN (zaH T x (zaq T x C t h) t h (0, h) order) i)
    rw [zcf hT hx hX hh0 ht hi']
    refine zpP ?_ (hpre i hi')
    have e : (List.range (order + 1)).map (cO T x (t, t) i) ++ [cO T (zaq T x C t h) (t, t + h) i (order + 1)] = atN x i :: ((List.range order).map (fun m => cO T x (t, t) i (m + 1)) ++ [cO T (zaq T x C t h) (t, t + h) i (order + 1)]) := by
     rw [List.range_succ_eq_map, List.map_cons, zjb hi']
     simp [Function.comp_def]
    have hv := rowV i hi'
    rw [e] at hv ⊢
    exact zh5 hh0 hv
   ·have hs0 : ∀ k : Int, Sb (at0 (zaq T x C t h) k) (at0 C k) := fun k => by
     rw [zfv, zfv]
     rcases Nat.lt_or_ge k.toNat T.n with hk | hk
     ·have h4 := hsub
      unfold subI at h4
      rw [List.all_eq_true] at h4
      exact Sb.of (h4 k.toNat (List.mem_range.2 (by omega)))
     ·simp [atN, List.getElem?_eq_none (show (zaq T x C t h).length ≤ k.toNat by omega), List.getElem?_eq_none (show C.length ≤ k.toNat by omega)]
      exact Sb.refl _
    have him : ∀ i, i < T.n → Sb (atN (zaq T x (zaq T x C t h) t h) i) (atN (zaq T x C t h) i) := fun i hi => by
     have hix : i < x.length := by omega
     have e : ∀ D, atN (zaq T x D t h) i = imgI h (atN x i) (atN (zcS T D (mk t (t + h))) i) := fun D => by simp [zaq, atN, hix]
     rw [e (zaq T x C t h), e C]
     have w := zcM hT hX (t := mk t (t + h)) (by rw [emk]; exact v2)
     have w' := zcM hT hC (t := mk t (t + h)) (by rw [emk]; exact v2)
     unfold imgI
     exact zdD (zam hx i) zaz (zam hx i) zaz (Sb.refl _) (zej (zbD hh0.1) (zam w i) (zbD hh0.1) (zam w' i) (Sb.refl _) (zm6 hT hX hC (by rw [emk]; exact v2) hs0 i))
    unfold zhz
    rw [Bool.and_eq_true]
    refine ⟨?_, zfC fun i hi => him i (by rw [zbE] at hi; omega)⟩
    unfold zaP
    rw [List.all_eq_true]
    intro p hp
    obtain ⟨i, hi⟩ := List.mem_iff_getElem?.1 hp
    have hil : i < T.n := by have := (gJ.1 hi).1; rw [zbE] at this; omega
    have e1 : p = atN (zaq T x (zaq T x C t h) t h) i := by simp [atN, hi]
    have hb2 := hbd
    unfold zaP at hb2
    rw [List.all_eq_true] at hb2
    have hm : atN (zaq T x C t h) i ∈ zaq T x C t h := by
     unfold atN
     rw [List.getElem?_eq_getElem (by omega)]
     exact List.getElem_mem _
    have hne : atN (zaq T x C t h) i ≠ ent := fun e => by
     have := hb2 _ hm
     rw [e] at this
     exact absurd this (by decide)
    have := (him i hil).bounded (zam hX i) hne
    rw [← e1] at this
    cases hp2 : entB p with
    | false => rfl
    | true => exact absurd (zaA.1 hp2) this
  ·cases hs
end Go.Pl

namespace Go.Pl
theorem zkd {T : Tp} {x : List I} {t h : Int} {order : Nat} {s : Sg} (hT : tpOk T) (hx : allV x) (hxn : x.length = T.n) (hh : 1 ≤ h ∧ h ≤ 1000000000) (ht : -1000000000 ≤ t ∧ t ≤ 1000000000) (hs : zcW T x t h order = some s)
  {q p : I} (hq : 0 ≤ q.1 ∧ q.1 ≤ q.2 ∧ 1 ≤ q.2 ∧ q.2 ≤ h) (hp : 0 ≤ p.1 ∧ p.2 ≤ h) (hqp : Sb q p) : subI (zaH T x s.pre t h q order) (zaH T x s.pre t h p order) = true := by
 have hh0 : 0 ≤ h ∧ h ≤ 1000000000 := by omega
 have hqp1 := hqp.1
 have hqp2 := hqp.2
 unfold zcW at hs
 cases hr : zeU T x t h with
 | none => rw [hr] at hs; cases hs
 | some b =>
  rw [hr] at hs
  obtain ⟨C, hC, hCn, rfl, hbd, hsub⟩ := zhc hx 8 _ b (zby hx (zaN hx)) (by rw [zbV]) hr
  simp only at hs
  split at hs
  ·cases hs
   simp only
   have hX : allV (zaq T x C t h) := zaN hx
   have hXn : (zaq T x C t h).length = T.n := by rw [zbE, hxn]
   have v1 : vB (t, t) = true := zas (by omega) (by omega) (by omega)
   have v2 : vB (t, t + h) = true := zas (by omega) (by omega) (by omega)
   have vp : vB p = true := zas (x := p.1) (y := p.2) (by omega) (by omega) (by omega)
   have vq : vB q = true := zas (x := q.1) (y := q.2) (by omega) (by omega) (by omega)
   have len : ∀ part, (zaH T x (zaq T x C t h) t h part order).length = T.n := fun part => by
    simp [zaH, zdH, zdA, zaB, za4 hT hx v1 order]
   have rowV : ∀ i, i < T.n → allV ((List.range (order + 1)).map (cO T x (t, t) i) ++ [cO T (zaq T x C t h) (t, t + h) i (order + 1)]) := fun i hi z hz => by
    rcases List.mem_append.1 hz with hz | hz
    ·obtain ⟨m, hm, rfl⟩ := List.mem_map.1 hz
     exact zam (za9 (zaX hT hx v1 m).2.val _) _
    ·simp at hz; subst hz
     exact zam (za9 (zaX hT hX v2 (order + 1)).2.val _) _
   have e65 : ((q.2 : Rat) / 65536) * 65536 = (q.2 : Rat) := by grind
   have ip : InI p ((q.2 : Rat) / 65536) := .inr ⟨by rw [e65]; exact Rat.intCast_le_intCast.2 (by omega), by rw [e65]; exact Rat.intCast_le_intCast.2 hqp2⟩
   have iq : InI q ((q.2 : Rat) / 65536) := .inr ⟨by rw [e65]; exact Rat.intCast_le_intCast.2 (by omega), by rw [e65]; exact Rat.le_refl⟩
   refine zfC fun i hi => ?_
   have hi' : i < T.n := by rw [← len q]; exact hi
   have mp := zem (k := order) hT hx hC (by omega) hxn hh0 ht hbd hsub hi' (e := q.2) (by omega) ip (zb6 vp (rowV i hi'))
   have mq := zem (k := order) hT hx hC (by omega) hxn hh0 ht hbd hsub hi' (e := q.2) (by omega) iq (zb6 vq (rowV i hi'))
   rw [zcf hT hx hX hh0 ht hi', zcf hT hx hX hh0 ht hi']
   exact zfF (zfj vq vp hqp (rowV i hi')) mq mp
  ·cases hs
structure zfW (h : Int) (l : List I) : Prop where
 inn : ∀ q ∈ l, 0 ≤ q.1 ∧ q.1 < q.2 ∧ q.2 ≤ h
 ord : l.Pairwise fun a b => a.2 < b.1
theorem zd4 {l : List I} (h : 0 < l.length) : l.dropLast ++ [zc6 l] = l ∧ zc6 l ∈ l := by
 have hne : l ≠ [] := by intro e; rw [e] at h; simp at h
 have e : zc6 l = l.getLast hne := by unfold zc6; rw [List.getLast?_eq_some_getLast hne]; rfl
 rw [e]
 exact ⟨List.dropLast_concat_getLast hne, List.getLast_mem hne⟩
theorem zin {l : List I} (h : 0 < l.length) (z : I) : l.set (l.length - 1) z = l.dropLast ++ [z] := by
 have hne : l ≠ [] := by intro e; rw [e] at h; simp at h
 obtain ⟨h1, _⟩ := zd4 h
 have hl : l.dropLast.length = l.length - 1 := by simp
 calc l.set (l.length - 1) z = (l.dropLast ++ [zc6 l]).set (l.length - 1) z := by rw [h1]
  _ = l.dropLast ++ [z] := by rw [← hl, List.set_append_right _ _ (Nat.le_refl _)]; simp
theorem zn9 {h : Int} {l : List I} {p : I} (hl : zfW h l) (hp : 0 ≤ p.1 ∧ p.1 < p.2 ∧ p.2 ≤ h) (hb : ∀ q ∈ l, q.2 ≤ p.1) : zfW h (zaM l p) ∧ ∀ q ∈ zaM l p, q.2 ≤ p.2 := by
 unfold zaM
 split
 ·rename_i hc
  obtain ⟨hpos, hlp⟩ := hc
  obtain ⟨e1, hm⟩ := zd4 hpos
  have hlast := hl.inn _ hm
  rw [zin hpos]
  have hdo : (l.dropLast ++ [zc6 l]).Pairwise fun a b : I => a.2 < b.1 := by rw [e1]; exact hl.ord
  obtain ⟨d1, -, d3⟩ := List.pairwise_append.1 hdo
  have hdm : ∀ q ∈ l.dropLast, q ∈ l := fun q hq => by rw [← e1]; simp [hq]
  refine ⟨⟨fun q hq => ?_, List.pairwise_append.2 ⟨d1, by simp, fun a ha b hb2 => ?_⟩⟩, fun q hq => ?_⟩
  ·rcases List.mem_append.1 hq with hq | hq
   ·exact hl.inn q (hdm q hq)
   ·simp at hq; subst hq; show 0 ≤ (zc6 l).1 ∧ (zc6 l).1 < p.2 ∧ p.2 ≤ h; omega
  ·simp at hb2; subst hb2; exact d3 a ha (zc6 l) (by simp)
  ·rcases List.mem_append.1 hq with hq | hq
   ·have := hb q (hdm q hq); omega
   ·simp at hq; subst hq; exact Int.le_refl _
 ·rename_i hc
  refine ⟨⟨fun q hq => ?_, List.pairwise_append.2 ⟨hl.ord, by simp, fun a ha b hb2 => ?_⟩⟩, fun q hq => ?_⟩
  ·rcases List.mem_append.1 hq with hq | hq
   ·exact hl.inn q hq
   ·simp at hq; subst hq; exact hp
  ·have hb2 : b = p := by simpa using hb2
   rw [hb2]
   have hpos : 0 < l.length := List.length_pos_of_mem ha
   obtain ⟨e1, hm⟩ := zd4 hpos
   have h1 := hb _ hm
   have h2 : (zc6 l).2 ≠ p.1 := fun e => hc ⟨hpos, e⟩
   have hdo : (l.dropLast ++ [zc6 l]).Pairwise fun a b : I => a.2 < b.1 := by rw [e1]; exact hl.ord
   obtain ⟨-, -, d3⟩ := List.pairwise_append.1 hdo
   rw [← e1] at ha
   rcases List.mem_append.1 ha with ha | ha
   ·have := d3 a ha (zc6 l) (by simp)
    have := hl.inn _ hm
    omega
   ·simp at ha; subst ha; omega
  ·rcases List.mem_append.1 hq with hq | hq
   ·have := hb q hq; omega
   ·simp at hq; subst hq; exact Int.le_refl _
theorem zoJ {h : Int} : ∀ (L l : List I), zfW h l → (∀ q ∈ L, 0 ≤ q.1 ∧ q.1 < q.2 ∧ q.2 ≤ h) → (L.Pairwise fun a b => a.2 ≤ b.1) → (∀ q ∈ l, ∀ p ∈ L, q.2 ≤ p.1) → zfW h (L.foldl zaM l)
 | [], l, hl, _, _, _ => hl
 | p :: L, l, hl, h1, h2, h3 => by
  obtain ⟨k1, k2⟩ := List.pairwise_cons.1 h2
  obtain ⟨m1, m2⟩ := zn9 hl (h1 p (by simp)) (fun q hq => h3 q hq p (by simp))
  exact zoJ L (zaM l p) m1 (fun q hq => h1 q (by simp [hq])) k2 (fun q hq r hr => by have := m2 q hq; have := k1 r hr; omega)
theorem zpV {P : I → Bool} {least h : Int} (hl : 1 ≤ least) (hh : 1 ≤ h) : zfW h (zdI P least h) := by
 have hk := ziP (P := P) hl h.toNat (0, h) (Int.le_refl 0) (by show 0 < h; omega)
 exact zoJ _ [] ⟨by simp, by simp⟩ (fun q hq => by have := hk.inn q hq; exact this) hk.ord (by simp)
theorem znU {P : I → Bool} {least h : Int} (hl : 1 ≤ least) (hh : 1 ≤ h) : ((zdI P least h).length : Int) ≤ h := by
 have hk := zgl (P := P) hl h.toNat (0, h) (Int.le_refl 0) (by show 0 < h; omega)
 have key : ∀ (L l : List I), (L.foldl zaM l).length ≤ l.length + L.length := by
  intro L
  induction L with
  | nil => intro l; simp
  | cons a r ih => intro l; have h1 := ih (zaM l a); have h2 := (zfL l a).1; simp only [List.foldl_cons, List.length_cons]; omega
 have := key (zcu P least h.toNat (0, h)) []
 unfold zdI
 simp only [List.length_nil] at this hk
 omega
end Go.Pl

namespace Go.Pl
end Go.Pl

namespace Go.Pl
theorem r1 (m : Nat) (h : m = 0) (x : Rat) : x / ((m + 1 : Nat) : Rat) = x := by
 subst h
 have : ((0 + 1 : Nat) : Rat) = 1 := rfl
 rw [this]; grind
theorem r0 (x : Rat) : (0 : Rat) / x = 0 := by rw [Rat.div_def, Rat.zero_mul]
section
variable {v : Int} {s : Rat} {y : Nat → Rat}
end
section
variable {x : List I} {t h : Int} {order : Nat} {s : Sg} (hx : allV x) (hh : 1 ≤ h ∧ h ≤ 1000000000) (ht : -1000000000 ≤ t ∧ t ≤ 1000000000) (ho : order = 1 ∨ order = 2 ∨ order = 3)
end
end Go.Pl

namespace Go.Pl
structure Two where
 n : Nat
 xp : List I
 xq : List I
 xb : List I
 tp : I
 tq : I
 tb : I
 p : List Rat
 q : List Rat
 s : Rat
 t : Rat
 lp : xp.length = n
 lq : xq.length = n
 lb : xb.length = n
 vp : ∀ a ∈ xp, vB a = true
 vq : ∀ a ∈ xq, vB a = true
 vb : ∀ a ∈ xb, vB a = true
 vtp : vB tp = true
 vtq : vB tq = true
 vtb : vB tb = true
 hp : zqg xp p
 hq : zqg xq q
 hbp : zqg xb p
 hbq : zqg xb q
 htp : InI tp s
 htq : InI tq t
 htbp : InI tb s
 htbq : InI tb t
def Two.vr (Z : Two) (i : Nat) : Vr := if i < Z.n then .st i else .tm
section
variable {Z : Two} {a b : Ex} {u v u' v' : Rat} {s s' : Nat → Rat}
end
end Go.Pl

namespace Go.Pl
end Go.Pl
