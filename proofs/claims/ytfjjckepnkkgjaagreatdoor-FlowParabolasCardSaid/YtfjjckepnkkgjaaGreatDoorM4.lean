/- Part of a proof: what the functions of the program do to abstract states, step by step. -/
import Derived.Test.YtfjjckepnkkgjaaGreatDoorM3
set_option linter.unusedVariables false
set_option linter.unusedSimpArgs false
namespace Go.Proofs.YtfjjckepnkkgjaaGreatDoor.Arm
open Go.Arm Go.Pl
def bxs (l : List (List I)) : AV := .slice (l.map bx) false
theorem hornS_cons (a : I) (r : List I) (h : I) (hr : r ≠ []) : hornS (a :: r) h = add (mul (hornS r h) h) a := by
  cases r with
  | nil => exact absurd rfl hr
  | cons b r => rfl
theorem hornS_valid {h : I} : ∀ {s : List I}, allV s → vB (hornS s h) = true
  | [], _ => (by decide : vB (0, 0) = true)
  | [a], hs => hs a (by simp)
  | a :: b :: r, hs => by rw [hornS_cons _ _ _ (by simp)]; exact add_valid mul_valid (hs a (by simp))
theorem sEval1 (p h : I) (b : Nat) (w : Bool) (hp : vB p = true) (hh : vB h = true) (H : AH) (hb : H[b]? = some (.row w 2 [iv h])) : Sound E 173 [iv p, .ptr b 1 0 0] H (.ret (iv (mul p h))) H := by
  refine sound_of_awp tabOk mixed Tryz.func173 rfl (by rfl) Tryz.ntmps173 (by kernel_rfl) (by simp) ?_
  have hl := (List.getElem?_eq_some_iff.1 hb).1
  simp [hb, get_old hb]
  refine call_ret (iMul p h hp hh _) ?_
  simp
  exact fin1 (rs := [.cell 3 54]) (by rfl) (by simp [resA]) (by simp [noFs, noF])
theorem callD_rdc {g : FuncId} {captured args : List AV} {next : NxD} {H : AH} {r : AV} (rds : List Nat) (hb : ∀ b ∈ rds, b < H.length) (h : ∀ Hx : AH, (∀ b ∈ rds, Hx[b]? = H[b]?) → Sound E g (args ++ captured) Hx (.ret r) Hx)
    (kk : next .go r ⟨rds, [], none, true⟩ H) : callD E (.func (.func g) [] captured) args next H :=
  ⟨r, rds, [], ⟨hb, fun p hp => by simp at hp, fun Hx hx => .inl (by rw [List.nil_append]; exact h Hx hx)⟩, kk⟩
def mulF (b : Nat) : AV := .func (.func 173) [] [.ptr b 1 0 0]
def LHo (l : List (List I)) (h : I) (b : Nat) (H : AH) (i : Nat) (fr : AFr) (H' : AH) : Prop :=
  fr 1 = mulF b ∧ fr 2 = fnA 175 ∧ fr 7 = .ref H.length l.length ∧ fr 15 = bxs l ∧ fr 16 = .int .i64 l.length ∧ fr 17 = .int .i64 i ∧ i ≤ l.length ∧ ∃ J, H' = H ++ J ∧ J[0]? = some (.row true 2 (padI ((l.take i).map fun s => hornS s h) l.length))
def LHi (l : List (List I)) (s : List I) (h : I) (b : Nat) (H : AH) (i : Nat) (m : Nat) (fr : AFr) (H' : AH) : Prop :=
  fr 1 = mulF b ∧ fr 2 = fnA 175 ∧ fr 7 = .ref H.length l.length ∧ fr 15 = bxs l ∧ fr 16 = .int .i64 l.length ∧ fr 17 = .int .i64 i ∧ fr 8 = .int .i64 i ∧ fr 9 = bx s ∧ fr 11 = .int .i64 ((m : Int) - 1) ∧ m < s.length ∧
  ∃ J k, H' = H ++ J ∧ J[0]? = some (.row true 2 (padI ((l.take i).map fun s => hornS s h) l.length)) ∧ 0 < k ∧ fr 10 = .ptr (H.length + k) 1 0 0 ∧ J[k]? = some (.row true 2 [iv (hornS (s.drop m) h)])
theorem sHorner (l : List (List I)) (h : I) (b : Nat) (w : Bool) (hl : ∀ s ∈ l, allV s ∧ s ≠ [] ∧ s.length ≤ 100000) (hn : l.length ≤ 1000) (hh : vB h = true) (H : AH) (hb : H[b]? = some (.row w 2 [iv h])) :
    Sound E 172 [bxs l, mulF b, fnA 175] H (.ret (bx (evalS l h))) H := by
  refine sound_of_awp tabOk mixed Tryz.func172 rfl (by rfl) Tryz.ntmps172 (by kernel_rfl) (by simp) ?_
  have hbl := (List.getElem?_eq_some_iff.1 hb).1
  simp [bxs]
  refine bind_if (by omega) ?_
  simp
  refine loop_count (LHo l h b H) (fun i => l.length - i) 0 ⟨by simp, by simp, by simp, by simp [bxs], by simp, by simp, by omega, _, rfl, by simp [padI_nil]⟩ ?_
  rintro i fr H' ⟨g1, g2, g7, g15, g16, g17, hi, J, rfl, hJ0⟩
  have hJl : 0 < J.length := (List.getElem?_eq_some_iff.1 hJ0).1
  simp [g16, g17]
  refine branch (fun hc => ?_) (fun hc => ?_)
  · have hlt : i < l.length := by simpa using hc
    obtain ⟨s, hs⟩ := get_lt hlt
    have hsE : ∀ h, l[i]'h = s := fun h => (List.getElem?_eq_some_iff.1 hs).2
    obtain ⟨hsv, hsn, hsl⟩ := hl s (List.mem_of_getElem? hs)
    have hpos : 0 < s.length := List.length_pos_iff.2 hsn
    obtain ⟨p, hp⟩ := get_lt (l := s) (i := s.length - 1) (by omega)
    have hpE : ∀ h, s[s.length - 1]'h = p := fun h => (List.getElem?_eq_some_iff.1 hp).2
    have w1 : IntKind.i64.wrap ((s.length : Int) - 1) = ((s.length - 1 : Nat) : Int) := by rw [wrap64 (by omega) (by omega)]; omega
    have w2 : IntKind.i64.wrap ((s.length : Int) - 2) = ((s.length - 1 : Nat) : Int) - 1 := by rw [wrap64 (by omega) (by omega)]; omega
    have wi : IntKind.i64.wrap ((i : Int) + 1) = ((i + 1 : Nat) : Int) := by rw [wrap64 (by omega) (by omega)]; omega
    have hdl : hornS (s.drop (s.length - 1)) h = p := by
      have : s.drop (s.length - 1) = [p] := by
        rw [List.drop_eq_getElem_cons (by omega), hpE, show s.length - 1 + 1 = s.length by omega, List.drop_length]
      rw [this]; rfl
    simp [g15, g17, bxs, bx, hs, hsE, hp, hpE, w1, w2]
    refine loop_count (LHi l s h b H i) (fun m => m) (s.length - 1) ⟨by simp [g1], by simp [g2], by simp [g7], by simp [g15], by simp [g16], by simp [g17], by simp, by simp [bx], by simp, by omega, _, J.length, rfl, get_old hJ0, hJl, by simp, by simp [hdl]⟩ ?_
    clear hJ0 hJl g1 g2 g7 g15 g16 g17
    rintro m fr H' ⟨g1, g2, g7, g15, g16, g17, g8, g9, g11, hm, J', k, rfl, hJ0, hk0, g10, hJk⟩
    simp [g11]
    refine branch (fun hc2 => ?_) (fun hc2 => ?_)
    · have hm1 : 1 ≤ m := by simp at hc2; omega
      have g11' : fr 11 = .int .i64 ((m - 1 : Nat) : Int) := by rw [g11]; congr 1; omega
      obtain ⟨a, ha⟩ := get_lt (l := s) (i := m - 1) (by omega)
      have haE : ∀ h, s[m - 1]'h = a := fun h => (List.getElem?_eq_some_iff.1 ha).2
      have hav := hsv a (List.mem_of_getElem? ha)
      have hdv : vB (hornS (s.drop m) h) = true := hornS_valid fun p hp => hsv p (List.mem_of_mem_drop hp)
      have hstep : add (mul (hornS (s.drop m) h) h) a = hornS (s.drop (m - 1)) h := by
        have : s.drop (m - 1) = a :: s.drop m := by
          rw [List.drop_eq_getElem_cons (by omega), haE, show m - 1 + 1 = m by omega]
        rw [this, hornS_cons]
        intro h0
        have := congrArg List.length h0
        simp at this; omega
      have hkl := (List.getElem?_eq_some_iff.1 hJk).1
      have hml : m - 1 < s.length := by omega
      have wm : IntKind.i64.wrap (((m - 1 : Nat) : Int) - 1) = ((m - 1 : Nat) : Int) - 1 := wrap64 (by omega) (by omega)
      simp [g1, g2, g9, g10, g11', mulF, fnA, hJk, ha, haE, bx]
      refine callD_rdc [b] (by simp; omega) (fun Hx hx => sEval1 _ h b w hdv hh Hx (by rw [hx b (by simp)]; exact get_old hb)) ?_
      simp [g2, g9, g11', fnA, bx, ha, haE]
      refine callD_ret0 (fun Hx => iAdd _ a mul_valid hav Hx) ?_
      simp [g10, hJk]
      refine endD [(2, 9)] (by rfl) (by simp [okW, note, Eff.triv, Eff.wr, Eff.none, upTo, newAt]; omega) ?_
      simp [g11', wm]
      refine ⟨m - 1, by show m - 1 < m; omega, by simp [g1, mulF], by simp [g2, fnA], by simp [g7], by simp [g15], by simp [g16], by simp [g17], by simp [g8], by simp [g9, bx], by simp, by omega, _, k, rfl, ?_, hk0, by simp [g10], ?_⟩
      · rw [List.getElem?_set_ne (by omega)]; exact hJ0
      · rw [← hstep]; exact set_get hJk
    · have hm0 : m = 0 := by simp at hc2; omega
      subst hm0
      have hW0 : (padI ((l.take i).map fun s => hornS s h) l.length)[i]? = some (iv (0, 0)) := padI_zero (by simp <;> omega) hlt
      have hW0E : ∀ h', (padI ((l.take i).map fun s => hornS s h) l.length)[i]'h' = iv (0, 0) := fun h' => (List.getElem?_eq_some_iff.1 hW0).2
      have hWl : (padI ((l.take i).map fun s => hornS s h) l.length).length = l.length := padI_len (by simp <;> omega)
      have hWset : (padI ((l.take i).map fun s => hornS s h) l.length).set i (iv (hornS s h)) = padI ((l.take (i + 1)).map fun s => hornS s h) l.length := by
        have := padI_set (l := (l.take i).map fun s => hornS s h) (n := l.length) (p := hornS s h) (by simp <;> omega)
        rw [show ((l.take i).map fun s => hornS s h).length = i by (simp <;> omega)] at this
        rw [this, List.take_add_one, hs]
        simp
      generalize padI ((l.take i).map fun s => hornS s h) l.length = W at *
      have hJl2 := (List.getElem?_eq_some_iff.1 hJ0).1
      rw [List.drop_zero] at hJk
      simp [g7, g8, g10, g17, hJ0, hJk, hWl, hlt, hW0, hW0E, wi]
      refine ⟨i + 1, by show l.length - (i + 1) < l.length - i; omega, by simp [g1], by simp [g2], by simp [g7], by simp [g15], by simp [g16], by simp, by omega, _, rfl, ?_⟩
      rw [← hWset]; exact set_get hJ0
  · have hi' : i = l.length := by have : ¬ i < l.length := by simpa using hc
                                  omega
    subst hi'
    rw [List.take_length, padI_all (by simp)] at hJ0
    simp
    exact finS (t := 6) (v := .ref (H.length + 0) l.length) (v0 := .nilslice) (sz := 2) (xs := (evalS l h).map iv) (by rfl) (by simp [g7]) (.inr ⟨0, by simp [evalS], hJ0⟩) rfl (iv_noFs _ _)
end Go.Proofs.YtfjjckepnkkgjaaGreatDoor.Arm

namespace Go.Proofs.YtfjjckepnkkgjaaGreatDoor.Arm
open Go.Arm Go.Pl
theorem sEval (l : List (List I)) (h : I) (hl : ∀ s ∈ l, allV s ∧ s ≠ [] ∧ s.length ≤ 100000) (hn : l.length ≤ 1000) (hh : vB h = true) (H : AH) : Sound E 146 [bxs l, iv h] H (.ret (bx (evalS l h))) H := by
  refine sound_of_awp tabOk mixed Tryz.func146 rfl (by rfl) Tryz.ntmps146 (by kernel_rfl) (by simp) ?_
  simp
  refine call_ret (sHorner l h H.length true hl hn hh _ (by simp)) ?_
  simp
  exact fin1 (rs := [.tmp 4]) (by rfl) (by simp [resA]) (by simp only [bx, noF, iv_noFs])
end Go.Proofs.YtfjjckepnkkgjaaGreatDoor.Arm

namespace Go.Pl
structure Ct where
  order : Int
  first : Int
  least : Int
  most : Int
  wide : Int
  deriving DecidableEq
def validC (c : Ct) : Bool := decide (1 ≤ c.order ∧ c.order < 8 ∧ 1 ≤ c.least ∧ c.least ≤ c.first ∧ c.first ≤ c.most ∧ c.most < 2147483648 ∧ 1 ≤ c.wide ∧ c.wide < 2147483648)
def shrinkS (c : Ct) (h : Int) : Int × Int := if h.tdiv 2 < c.least then (0, 130) else (h.tdiv 2, 0)
def growS (c : Ct) (h : Int) : Int := min (2 * h) c.most
def initS (c : Ct) (left : Int) : Int := min c.first left
structure Rq where
  ctrl : Ct
  t : Int
  last : Int
  h : Int
end Go.Pl

namespace Go.Pl
def boundedB (b : List I) : Bool := b.all fun p => !entB p
def narrowB (w : Int) (b : List I) : Bool := b.all fun p => decide (p.2 - p.1 ≤ w)
def subI (a b : List I) : Bool := (List.range a.length).all fun i => subB (atN a i) (atN b i)
structure Sg where
  t : Int
  h : Int
  frm : List I
  pre : List I
  tube : List I
  to : List I
def hullB (a b : List I) : List I := (List.range a.length).map fun i => hull (atN a i) (atN b i)
def inflI (p : I) : I := mk (p.1 - ((p.2 - p.1) / 16 + 1)) (p.2 + ((p.2 - p.1) / 16 + 1))
def inflB (a : List I) : List I := (List.range a.length).map fun i => inflI (atN a i)
theorem inflI_valid {p : I} (h : vB p = true) : vB (inflI p) = true := by
  have := vB_bounds h
  exact mk_valid (by omega)
def restrI (p q : I) : I := if interB p q then meet p q else q
theorem restrI_valid {p q : I} (hp : vB p = true) (hq : vB q = true) : vB (restrI p q) = true := by
  unfold restrI
  split
  · rename_i h
    have h1 := vB_bounds hp
    have h2 := vB_bounds hq
    simp only [interB, decide_eq_true_eq] at h
    by_cases e1 : p = ent
    · have e : meet p q = q := by subst e1; exact Prod.ext (by show max (-2147483648) q.1 = q.1; omega) (by show min 2147483648 q.2 = q.2; omega)
      rw [e]; exact hq
    · by_cases e2 : q = ent
      · have e : meet p q = p := by subst e2; exact Prod.ext (by show max p.1 (-2147483648) = p.1; omega) (by show min p.2 2147483648 = p.2; omega)
        rw [e]; exact hp
      · have a1 : entB p = false := by cases hh : entB p with
          | false => rfl
          | true => exact absurd (entB_iff.1 hh) e1
        have a2 : entB q = false := by cases hh : entB q with
          | false => rfl
          | true => exact absurd (entB_iff.1 hh) e2
        have b1 := entB_false hp a1
        have b2 := entB_false hq a2
        exact vB_pair (by omega) h (by omega)
  · exact hq
def restrB (a b : List I) : List I := (List.range a.length).map fun i => restrI (atN a i) (atN b i)
def imgI (h : Int) (p q : I) : I := add p (mul (mk 0 h) q)
def imageB (T : Tp) (x b : List I) (t h : Int) : List I := (List.range x.length).map fun i => imgI h (atN x i) (atN (evalT T b (mk t (t + h))) i)
theorem imgI_valid {h : Int} {p q : I} (hp : vB p = true) : vB (imgI h p q) = true := add_valid hp mul_valid
theorem rangeV {n : Nat} {f : Nat → I} (h : ∀ i, vB (f i) = true) : allV ((List.range n).map f) := fun p hp => by
  obtain ⟨k, _, rfl⟩ := List.mem_map.1 hp; exact h k
theorem imageB_valid {T : Tp} {x b : List I} {t h : Int} (hx : allV x) : allV (imageB T x b t h) := rangeV fun i => imgI_valid (atN_valid hx i)
theorem imageB_len {T : Tp} {x b : List I} {t h : Int} : (imageB T x b t h).length = x.length := by simp [imageB]
def validatesB (T : Tp) (x b : List I) (t h : Int) : Bool := boundedB (imageB T x b t h) && subI (imageB T x b t h) b
theorem inflB_valid {b : List I} (h : allV b) : allV (inflB b) := rangeV fun i => inflI_valid (atN_valid h i)
theorem inflB_len (b : List I) : (inflB b).length = b.length := by simp [inflB]
theorem hull_valid {p q : I} (hp : vB p = true) (hq : vB q = true) : vB (hull p q) = true := by
  have h1 := vB_bounds hp
  have h2 := vB_bounds hq
  cases a1 : entB p with
  | true =>
    rw [entB_iff] at a1; subst a1
    have e : hull ent q = ent := Prod.ext (by show min (-2147483648) q.1 = -2147483648; omega) (by show max 2147483648 q.2 = 2147483648; omega)
    rw [e]; exact ent_valid
  | false =>
    cases a2 : entB q with
    | true =>
      rw [entB_iff] at a2; subst a2
      have e : hull p ent = ent := Prod.ext (by show min p.1 (-2147483648) = -2147483648; omega) (by show max p.2 2147483648 = 2147483648; omega)
      rw [e]; exact ent_valid
    | false =>
      have b1 := entB_false hp a1
      have b2 := entB_false hq a2
      exact vB_pair (by omega) (by omega) (by omega)
theorem hullB_valid {a b : List I} (ha : allV a) (hb : allV b) : allV (hullB a b) := rangeV fun i => hull_valid (atN_valid ha i) (atN_valid hb i)
theorem hullB_len (a b : List I) : (hullB a b).length = a.length := by simp [hullB]
def encS (T : Tp) (x : List I) (t h : Int) : Nat → List I → Option (List I)
  | 0, _ => none
  | k + 1, b =>
    if boundedB b = false then none
    else if boundedB (inflB b) = false then none
    else if boundedB (imageB T x (inflB b) t h) = false then none
    else if subI (imageB T x (inflB b) t h) (inflB b) = true then some (imageB T x (inflB b) t h)
    else encS T x t h k (hullB (inflB b) (imageB T x (inflB b) t h))
def enclS (T : Tp) (x : List I) (t h : Int) : Option (List I) := encS T x t h 8 (hullB x (imageB T x x t h))
def validB (b : List I) : Bool := b.all vB && decide (1 ≤ b.length ∧ b.length ≤ 6)
def candP (T : Tp) (x : List I) (t h : Int) : Nat → List I → List (List I × List I)
  | 0, _ => []
  | k + 1, b =>
    if boundedB b = false then []
    else if boundedB (inflB b) = false then []
    else if boundedB (imageB T x (inflB b) t h) = false then []
    else (inflB b, imageB T x (inflB b) t h) :: candP T x t h k (hullB (inflB b) (imageB T x (inflB b) t h))
def hitP (p : List I × List I) : Option (List I) := if subI p.2 p.1 = true then some p.2 else none
theorem encS_cand (T : Tp) (x : List I) (t h : Int) : ∀ (n : Nat) (b : List I), encS T x t h n b = (candP T x t h n b).findSome? hitP
  | 0, _ => rfl
  | n + 1, b => by
    simp only [encS, candP]
    split
    · rfl
    split
    · rfl
    split
    · rfl
    rw [List.findSome?_cons]
    simp only [hitP]
    split
    · rfl
    · exact encS_cand T x t h n _
theorem candP_ok {T : Tp} {x : List I} {t h : Int} (hx : allV x) : ∀ (n : Nat) (b : List I), allV b → b.length = x.length → ∀ p ∈ candP T x t h n b, allV p.1 ∧ p.1.length = x.length ∧ allV p.2 ∧ p.2.length = x.length
  | 0, _, _, _, p, hp => by simp [candP] at hp
  | n + 1, b, hb, hl, p, hp => by
    simp only [candP] at hp
    split at hp
    · cases hp
    split at hp
    · cases hp
    split at hp
    · cases hp
    have h1 := inflB_valid hb
    have h2 : (inflB b).length = x.length := by rw [inflB_len, hl]
    rcases List.mem_cons.1 hp with rfl | hp
    · exact ⟨h1, h2, imageB_valid hx, imageB_len⟩
    · exact candP_ok hx n _ (hullB_valid h1 (imageB_valid hx)) (by rw [hullB_len, h2]) p hp
theorem rowN_get {l : List (List I)} {j : Nat} {q : List I} (h : l[j]? = some q) : rowN l j = q := by simp [rowN, h]
theorem rowN_set_self {l : List (List I)} {j : Nat} {q : List I} (h : j < l.length) : rowN (l.set j q) j = q := by simp [rowN, h]
theorem rowN_set_ne {l : List (List I)} {j k : Nat} {q : List I} (h : j ≠ k) : rowN (l.set j q) k = rowN l k := by simp [rowN, List.getElem?_set_ne h]
theorem rowN_valid {l : List (List I)} (h : ∀ q ∈ l, allV q) (j : Int) : allV (rowN l j) := by
  unfold rowN
  cases hl : l[j.toNat]? with
  | none => intro p hp; simp at hp
  | some q => exact h q (List.mem_of_getElem? hl)
theorem vite {c : Prop} [Decidable c] {p q : I} (hp : c → vB p = true) (hq : vB q = true) : vB (if c then p else q) = true := by
  split
  · exact hp ‹_›
  · exact hq
theorem nextC_valid {x : Ins} {l : List (List I)} {own : List I} {t : I} (hc : x.op = 1 → vB x.c = true) (hl : ∀ q ∈ l, allV q) (ho : allV own) (ht : vB t = true) : vB (nextC x l own t) = true := by
  have h0 : vB (0, 0) = true := vB_pair (by omega) (by omega) (by omega)
  have h1 : vB (65536, 65536) = true := vB_pair (by omega) (by omega) (by omega)
  have hr : ∀ j, allV (rowN l j) := fun j => rowN_valid hl j
  exact vite (fun _ => neg_valid (atN_valid (hr _) _)) (vite (fun _ => add_valid (atN_valid (hr _) _) (atN_valid (hr _) _)) (vite (fun _ => sub_valid (atN_valid (hr _) _) (atN_valid (hr _) _)) (vite (fun _ => convI_valid _ _ _ _ _)
    (vite (fun _ => vite (fun _ => sq_valid (atN_valid (hr _) _)) (convI_valid _ _ _ _ _)) (vite (fun _ => nextQ_valid (hr _) (hr _) _) (vite (fun _ => nextR_valid (hr _) ho) (vite (fun h => vite (fun _ => hc h) h0) (vite (fun _ => vite (fun _ => ht) (vite (fun _ => h1) h0)) h0))))))))
structure rowsOk (m k i : Nat) (l : List (List I)) : Prop where
  len : l.length = m
  row : ∀ j, j < m → (rowN l j).length = if j < i then k + 1 else k
  val : ∀ q ∈ l, allV q
theorem set_valid {l : List (List I)} {j : Nat} {q : List I} (h : ∀ q ∈ l, allV q) (hq : allV q) : ∀ p ∈ l.set j q, allV p := fun p hp => by
  rcases List.mem_or_eq_of_mem_set hp with hp | rfl
  · exact h p hp
  · exact hq
theorem rowsOk.push {m k i : Nat} {l : List (List I)} (h : rowsOk m k i l) (hi : i < m) {p : I} (hp : vB p = true) : rowsOk m k (i + 1) (l.set i (rowN l i ++ [p])) := by
  refine ⟨by simp [h.len], fun j hj => ?_, set_valid h.val (allV_snoc (rowN_valid h.val i) hp)⟩
  by_cases hji : i = j
  · subst hji
    rw [rowN_set_self (by rw [h.len]; exact hi)]
    have := h.row i hi
    rw [if_neg (by omega)] at this
    simp [this]
  · rw [rowN_set_ne hji, h.row j hj]
    by_cases h1 : j < i
    · rw [if_pos h1, if_pos (by omega)]
    · rw [if_neg h1, if_neg (by omega)]
theorem rowsOk.next {m k : Nat} {l : List (List I)} (h : rowsOk m k m l) : rowsOk m (k + 1) 0 l := ⟨h.len, fun j hj => by rw [h.row j hj, if_pos hj, if_neg (by omega)], h.val⟩
def coefV (x : Ins) (out l : List (List I)) (t : I) (k i : Nat) : I := if x.op = 2 then atN (rowN out x.a) k else nextC x l (rowN l i) t
theorem stepL_succ {L : List Ins} {out l : List (List I)} {t : I} {k i : Nat} {x : Ins} (hx : L[i]? = some x) :
    stepL L out t k l (i + 1) = (stepL L out t k l i).set i (rowN (stepL L out t k l i) i ++ [coefV x out (stepL L out t k l i) t k i]) := by
  simp only [stepL, hx, coefV]
theorem stepO_succ {T : Tp} {l out : List (List I)} {k i o : Nat} (ho : T.out[i]? = some o) :
    stepO T l k out (i + 1) = (stepO T l k out i).set i (rowN (stepO T l k out i) i ++ [mulr (atN (rowN l (o : Int)) k) 1 (k + 1)]) := by
  simp only [stepO, ho]
section
variable {T : Tp} {x : List I} {t : I} (hT : tpOk T) (hx : allV x) (ht : vB t = true)
include hT ht in
theorem stepL_ok {out l : List (List I)} {k : Nat} (hl : rowsOk T.L.length k 0 l) (ho : ∀ q ∈ out, allV q) : ∀ i, i ≤ T.L.length → rowsOk T.L.length k i (stepL T.L out t k l i)
  | 0, _ => hl
  | i + 1, hi => by
    have ih := stepL_ok hl ho i (by omega)
    have hlt : i < T.L.length := by omega
    rw [stepL_succ (List.getElem?_eq_getElem hlt)]
    refine ih.push hlt ?_
    unfold coefV
    split
    · exact atN_valid (rowN_valid ho _) _
    · exact nextC_valid (hT.num _ (List.getElem_mem hlt)) ih.val (rowN_valid ih.val _) ht
include hT in
theorem stepO_ok {l out : List (List I)} {k : Nat} (hl : ∀ q ∈ l, allV q) (ho : rowsOk T.n (k + 1) 0 out) : ∀ i, i ≤ T.n → rowsOk T.n (k + 1) i (stepO T l k out i)
  | 0, _ => ho
  | i + 1, hi => by
    have ih := stepO_ok hl ho i (by omega)
    have hlt : i < T.out.length := by rw [hT.len]; omega
    rw [stepO_succ (List.getElem?_eq_getElem hlt)]
    exact ih.push (by omega) (mulr_valid (atN_valid (rowN_valid hl _) _) (by decide) (by omega))
include hT hx ht in
theorem expS_ok : ∀ k, rowsOk T.L.length k 0 (expS T x t k).1 ∧ rowsOk T.n (k + 1) 0 (expS T x t k).2
  | 0 => by
    refine ⟨⟨by simp [expS], fun j hj => by rw [if_neg (by omega)]; simp [expS, rowN, hj], fun q hq => ?_⟩, ⟨by simp [expS], fun j hj => by rw [if_neg (by omega)]; simp [expS, rowN, hj], fun q hq => ?_⟩⟩
    · have : q = [] := by simp only [expS] at hq; exact List.eq_of_mem_replicate hq
      subst this; intro p hp; simp at hp
    · simp only [expS, List.mem_map, List.mem_range] at hq
      obtain ⟨j, _, rfl⟩ := hq
      intro p hp
      simp at hp; subst hp
      exact atN_valid hx j
  | k + 1 => by
    obtain ⟨h1, h2⟩ := expS_ok k
    have h3 := stepL_ok hT ht h1 h2.val T.L.length (Nat.le_refl _)
    have h4 := stepO_ok hT h3.val h2 T.n (Nat.le_refl _)
    simp only [expS]
    rw [hT.len]
    exact ⟨h3.next, h4.next⟩
end
def remS (T : Tp) (b : List I) (t h : Int) (order : Nat) : List I := (coefS T b (t, t + h) (order + 1)).map fun s => atN s (order + 1)
def withRem (l : List (List I)) (r : List I) : List (List I) := (List.range l.length).map fun i : Nat => rowN l (i : Int) ++ [atN r i]
def enclAt (T : Tp) (x b : List I) (t h : Int) (part : I) (order : Nat) : List I := restrB (evalS (withRem (coefS T x (t, t) order) (remS T b t h order)) part) b
def istepS (T : Tp) (x : List I) (t h : Int) (order : Nat) : Option Sg := match enclS T x t h with
  | none => none
  | some b => if boundedB (enclAt T x b t h (0, h) order) && boundedB (enclAt T x b t h (h, h) order) then some ⟨t, h, x, b, enclAt T x b t h (0, h) order, enclAt T x b t h (h, h) order⟩ else none
def candS (c : Ct) : Nat → Int → List Int
  | 0, _ => []
  | n + 1, h => h :: if h.tdiv 2 < c.least then [] else candS c n (h.tdiv 2)
def cands (c : Ct) (h : Int) : List Int := candS c (h.toNat + 1) h
def accS (T : Tp) (x : List I) (c : Ct) (t h : Int) : Option Sg := match istepS T x t h c.order.toNat with
  | some s => if narrowB c.wide s.to && narrowB c.wide s.tube then some s else none
  | none => none
def firstH (w : Rq) : Int := min w.h (w.last - w.t)
def advS (T : Tp) (x : List I) (w : Rq) : Option Sg := (cands w.ctrl (firstH w)).findSome? (accS T x w.ctrl w.t)
end Go.Pl

namespace Go.Proofs.YtfjjckepnkkgjaaGreatDoor.Arm
open Go.Arm Go.Pl
def ctA (c : Ct) : AV := .agg [.int .i64 c.order, .int .i64 c.first, .int .i64 c.least, .int .i64 c.most, .int .i64 c.wide]
def shA (p : Int × Int) : AV := .tuple [.int .i64 p.1, .int .i64 p.2]
theorem cValid (c : Ct) (H : AH) : Sound E 51 [ctA c] H (.ret (.bool (validC c))) H := by
  refine sound_of_awp tabOk mixed Tryz.func51 rfl (by rfl) Tryz.ntmps51 (by kernel_rfl) (by simp) ?_
  by_cases a1 : 1 ≤ c.least
  · by_cases a2 : c.least ≤ c.first
    · by_cases a3 : c.first ≤ c.most
      · by_cases a4 : c.most < 2147483648
        · by_cases b1 : 1 ≤ c.order
          · by_cases b2 : c.order < 8
            · by_cases b3 : 1 ≤ c.wide
              · by_cases b4 : c.wide < 2147483648
                · simp [ctA, a1, a2, a3, a4, b1, b2, b3, b4]
                  exact fin1 (rs := [.tmp 2]) (by rfl) (by simp [resA, validC, a1, a2, a3, a4, b1, b2, b3, b4]) (by simp [noFs, noF])
                · simp [ctA, a1, a2, a3, a4, b1, b2, b3, b4]
                  exact fin1 (rs := [.tmp 2]) (by rfl) (by simp [resA, validC, a1, a2, a3, a4, b1, b2, b3, b4]) (by simp [noFs, noF])
              · simp [ctA, a1, a2, a3, a4, b1, b2, b3]
                exact fin1 (rs := [.tmp 2]) (by rfl) (by simp [resA, validC, a1, a2, a3, a4, b1, b2, b3]) (by simp [noFs, noF])
            · simp [ctA, a1, a2, a3, a4, b1, b2]
              exact fin1 (rs := [.tmp 2]) (by rfl) (by simp [resA, validC, a1, a2, a3, a4, b1, b2]) (by simp [noFs, noF])
          · simp [ctA, a1, a2, a3, a4, b1]
            exact fin1 (rs := [.tmp 2]) (by rfl) (by simp [resA, validC, a1, a2, a3, a4, b1]) (by simp [noFs, noF])
        · by_cases b1 : 1 ≤ c.order
          · by_cases b2 : c.order < 8
            · simp [ctA, a1, a2, a3, a4, b1, b2]
              exact fin1 (rs := [.tmp 2]) (by rfl) (by simp [resA, validC, a1, a2, a3, a4, b1, b2]) (by simp [noFs, noF])
            · simp [ctA, a1, a2, a3, a4, b1, b2]
              exact fin1 (rs := [.tmp 2]) (by rfl) (by simp [resA, validC, a1, a2, a3, a4, b1, b2]) (by simp [noFs, noF])
          · simp [ctA, a1, a2, a3, a4, b1]
            exact fin1 (rs := [.tmp 2]) (by rfl) (by simp [resA, validC, a1, a2, a3, a4, b1]) (by simp [noFs, noF])
      · by_cases b1 : 1 ≤ c.order
        · by_cases b2 : c.order < 8
          · simp [ctA, a1, a2, a3, b1, b2]
            exact fin1 (rs := [.tmp 2]) (by rfl) (by simp [resA, validC, a1, a2, a3, b1, b2]) (by simp [noFs, noF])
          · simp [ctA, a1, a2, a3, b1, b2]
            exact fin1 (rs := [.tmp 2]) (by rfl) (by simp [resA, validC, a1, a2, a3, b1, b2]) (by simp [noFs, noF])
        · simp [ctA, a1, a2, a3, b1]
          exact fin1 (rs := [.tmp 2]) (by rfl) (by simp [resA, validC, a1, a2, a3, b1]) (by simp [noFs, noF])
    · by_cases b1 : 1 ≤ c.order
      · by_cases b2 : c.order < 8
        · simp [ctA, a1, a2, b1, b2]
          exact fin1 (rs := [.tmp 2]) (by rfl) (by simp [resA, validC, a1, a2, b1, b2]) (by simp [noFs, noF])
        · simp [ctA, a1, a2, b1, b2]
          exact fin1 (rs := [.tmp 2]) (by rfl) (by simp [resA, validC, a1, a2, b1, b2]) (by simp [noFs, noF])
      · simp [ctA, a1, a2, b1]
        exact fin1 (rs := [.tmp 2]) (by rfl) (by simp [resA, validC, a1, a2, b1]) (by simp [noFs, noF])
  · by_cases b1 : 1 ≤ c.order
    · by_cases b2 : c.order < 8
      · simp [ctA, a1, b1, b2]
        exact fin1 (rs := [.tmp 2]) (by rfl) (by simp [resA, validC, a1, b1, b2]) (by simp [noFs, noF])
      · simp [ctA, a1, b1, b2]
        exact fin1 (rs := [.tmp 2]) (by rfl) (by simp [resA, validC, a1, b1, b2]) (by simp [noFs, noF])
    · simp [ctA, a1, b1]
      exact fin1 (rs := [.tmp 2]) (by rfl) (by simp [resA, validC, a1, b1]) (by simp [noFs, noF])
theorem cShrink (c : Ct) (h : Int) (hh : 0 ≤ h ∧ h ≤ 1000000000000) (H : AH) : Sound E 116 [ctA c, .int .i64 h] H (.ret (shA (shrinkS c h))) H := by
  refine sound_of_awp tabOk mixed Tryz.func116 rfl (by rfl) Tryz.ntmps116 (by kernel_rfl) (by simp) ?_
  have wt : h.tdiv 2 = h / 2 := Int.tdiv_eq_ediv_of_nonneg hh.1
  have w1 : IntKind.i64.wrap (h / 2) = h / 2 := wrap64 (by omega) (by omega)
  simp [ctA, wt, w1]
  refine branch (fun hc => ?_) (fun hc => ?_)
  · have h0 : h / 2 < c.least := by simpa using hc
    simp
    exact finC (rs := [.tmp 4, .tmp 5]) (vs := [.int .i64 0, .int .i64 130]) (vs' := [.int .i64 0, .int .i64 130]) (by rfl) (by simp [resA]) (by simp; rfl) (by simp [noFs, noF]) (by simp [shA, shrinkS, wt, h0, one])
  · have h0 : ¬ h / 2 < c.least := by simpa using hc
    simp [wt, w1]
    exact finC (rs := [.tmp 4, .tmp 5]) (vs := [.int .i64 (h / 2), .int .i64 0]) (vs' := [.int .i64 (h / 2), .int .i64 0]) (by rfl) (by simp [resA]) (by simp; rfl) (by simp [noFs, noF]) (by simp [shA, shrinkS, wt, h0, one])
theorem cGrow (c : Ct) (h : Int) (hh : 0 ≤ h ∧ h ≤ 1000000000000) (H : AH) : Sound E 94 [ctA c, .int .i64 h] H (.ret (.int .i64 (growS c h))) H := by
  refine sound_of_awp tabOk mixed Tryz.func94 rfl (by rfl) Tryz.ntmps94 (by kernel_rfl) (by simp) ?_
  have w1 : IntKind.i64.wrap (2 * h) = 2 * h := wrap64 (by omega) (by omega)
  simp [ctA, w1, ite_min]
  exact fin1 (rs := [.tmp 4]) (by rfl) (by simp [resA, growS]) (by simp [noFs, noF])
theorem cInitial (c : Ct) (h : Int) (H : AH) : Sound E 53 [ctA c, .int .i64 h] H (.ret (.int .i64 (initS c h))) H := by
  refine sound_of_awp tabOk mixed Tryz.func53 rfl (by rfl) Tryz.ntmps53 (by kernel_rfl) (by simp) ?_
  simp [ctA, ite_min]
  exact fin1 (rs := [.tmp 4]) (by rfl) (by simp [resA, initS]) (by simp [noFs, noF])
end Go.Proofs.YtfjjckepnkkgjaaGreatDoor.Arm

namespace Go.Proofs.YtfjjckepnkkgjaaGreatDoor.Arm
open Go.Arm Go.Pl
def rqA (w : Rq) : AV := .agg [.int .i64 w.ctrl.order, .int .i64 w.ctrl.first, .int .i64 w.ctrl.least, .int .i64 w.ctrl.most, .int .i64 w.ctrl.wide, .int .i64 w.t, .int .i64 w.last, .int .i64 w.h]
end Go.Proofs.YtfjjckepnkkgjaaGreatDoor.Arm

namespace Go.Proofs.YtfjjckepnkkgjaaGreatDoor.Arm
open Go.Arm Go.Pl
def okTo (P : I → Bool) (b : List I) (i : Nat) : Prop := ∀ j p, j < i → b[j]? = some p → P p = true
theorem okTo_zero (P : I → Bool) (b : List I) : okTo P b 0 := fun j p hj => by omega
theorem okTo_succ {P : I → Bool} {b : List I} {i : Nat} {p : I} (h : okTo P b i) (hp : b[i]? = some p) (hP : P p = true) : okTo P b (i + 1) := by
  intro j q hj hq
  by_cases hji : j = i
  · subst hji; rw [hp] at hq; cases hq; exact hP
  · exact h j q (by omega) hq
end Go.Proofs.YtfjjckepnkkgjaaGreatDoor.Arm

namespace Go.Proofs.YtfjjckepnkkgjaaGreatDoor.Arm
open Go.Arm Go.Pl
def sgA (s : Sg) : AV := .agg [.int .i64 s.t, .int .i64 s.h, bx s.frm, bx s.pre, bx s.tube, bx s.to]
end Go.Proofs.YtfjjckepnkkgjaaGreatDoor.Arm

namespace Go.Proofs.YtfjjckepnkkgjaaGreatDoor.Arm
open Go.Arm Go.Pl
end Go.Proofs.YtfjjckepnkkgjaaGreatDoor.Arm

namespace Go.Proofs.YtfjjckepnkkgjaaGreatDoor.Arm
open Go.Arm Go.Pl
end Go.Proofs.YtfjjckepnkkgjaaGreatDoor.Arm

namespace Go.Proofs.YtfjjckepnkkgjaaGreatDoor.Arm
open Go.Arm Go.Pl
end Go.Proofs.YtfjjckepnkkgjaaGreatDoor.Arm

namespace Go.Proofs.YtfjjckepnkkgjaaGreatDoor.Arm
open Go.Arm Go.Pl
end Go.Proofs.YtfjjckepnkkgjaaGreatDoor.Arm

namespace Go.Proofs.YtfjjckepnkkgjaaGreatDoor.Arm
open Go.Arm Go.Pl
end Go.Proofs.YtfjjckepnkkgjaaGreatDoor.Arm

namespace Go.Proofs.YtfjjckepnkkgjaaGreatDoor.Arm
open Go.Arm Go.Pl
def encA (r : Option (List I)) : AV := match r with
  | some d => .tuple [bx d, .bool true]
  | none => .tuple [.nilslice, .bool false]
end Go.Proofs.YtfjjckepnkkgjaaGreatDoor.Arm

namespace Go.Proofs.YtfjjckepnkkgjaaGreatDoor.Arm
open Go.Arm Go.Pl
end Go.Proofs.YtfjjckepnkkgjaaGreatDoor.Arm

namespace Go.Proofs.YtfjjckepnkkgjaaGreatDoor.Arm
open Go.Arm Go.Pl
theorem neq_iv (H : AH) (a b x y : Int) (z : Bool) : binOpA tab H .neq 54 (.agg [.int .i64 a, .int .i64 b]) (.agg [.int .i64 x, .int .i64 y]) z = some (.bool (!(a == x && b == y)), H) := by
  by_cases h1 : a = x <;> by_cases h2 : b = y <;> simp [binOpA, binA, eqA, eqFs, nilI, h1, h2]
theorem r3Same (a b : List I) (ha : a.length ≤ 1000000) (hb : b.length ≤ 1000000) (H : AH) : Sound E 19 [bx a, bx b] H (.ret (.bool (decide (a = b)))) H := by
  refine sound_of_awp tabOk mixed Tryz.func19 rfl (by rfl) Tryz.ntmps19 (by kernel_rfl) (by simp) ?_
  by_cases hab : a.length = b.length
  · have hne : ((a.length : Int) == (b.length : Int)) = true := by simp [hab]
    simp [bx, hab]
    refine loop_count (fun (i : Nat) fr H' => fr 0 = bx a ∧ fr 1 = bx b ∧ fr 5 = .int .i64 i ∧ i ≤ a.length ∧ H' = H ∧ a.take i = b.take i) (fun i => a.length - i) 0 ⟨by simp [bx], by simp [bx], by simp, by omega, rfl, by simp⟩ ?_
    rintro i fr H' ⟨g0, g1, g5, hi, rfl, hok⟩
    simp [g0, g5, bx]
    refine branch (fun hc => ?_) (fun hc => ?_)
    · have hlt : i < a.length := by simpa using hc
      obtain ⟨p, hp⟩ := get_lt hlt
      obtain ⟨q, hq⟩ := get_lt (l := b) (i := i) (by omega)
      have hpE : ∀ h, a[i]'h = p := fun h => (List.getElem?_eq_some_iff.1 hp).2
      have hqE : ∀ h, b[i]'h = q := fun h => (List.getElem?_eq_some_iff.1 hq).2
      have w2 : IntKind.i64.wrap ((i : Int) + 1) = ((i + 1 : Nat) : Int) := by rw [wrap64 (by omega) (by omega)]; omega
      simp [g0, g1, g5, bx, hp, hpE, hq, hqE, neq_iv]
      refine endD [] (by rfl) (by simp [okW, note, Eff.triv, Eff.wr, Eff.none, upTo, newAt]) ?_
      simp
      refine branch (fun hb2 => ?_) (fun hb2 => ?_)
      · have hne2 : a ≠ b := by
          intro e; subst e; rw [hp] at hq; cases hq; simp at hb2
        simp
        exact fin0 (rs := [.tmp 4]) (by rfl) (by simp [resA, hne2])
      · have he : p = q := by simp at hb2; exact Prod.ext hb2.1 hb2.2
        simp [g5, w2]
        exact ⟨i + 1, by show a.length - (i + 1) < a.length - i; omega, by simp [g0, bx], by simp [g1, bx], by simp, by omega, rfl, by rw [List.take_add_one, List.take_add_one, hp, hq, hok, he]⟩
    · have hi' : i = a.length := by have : ¬ i < a.length := by first | simpa using hc | (simp at hc; omega)
                                    omega
      subst hi'
      have he : a = b := by rw [List.take_length, hab, List.take_length] at hok; exact hok
      simp
      exact fin0 (rs := [.tmp 4]) (by rfl) (by simp [resA, he])
  · have hne : a ≠ b := fun e => hab (by rw [e])
    have hne1 : ((a.length : Int) == (b.length : Int)) = false := by rw [beq_eq_false_iff_ne]; omega
    simp [bx]
    refine branch (fun h => ?_) (fun h => ?_)
    · simp
      exact fin0 (rs := [.tmp 4]) (by rfl) (by simp [resA, hne])
    · have h2 : (a.length : Int) = (b.length : Int) := by simpa using h
      exact absurd (by omega) hab
end Go.Proofs.YtfjjckepnkkgjaaGreatDoor.Arm

namespace Go.Proofs.YtfjjckepnkkgjaaGreatDoor.Arm
open Go.Arm Go.Pl
theorem sIndexFunc (b : List I) (g : FuncId) (caps : List AV) (P : I → Bool) (H : AH) (hl : b.length ≤ 1000000) (hf : ∀ p ∈ b, Sound E g ([iv p] ++ caps) H (.ret (.bool (P p))) H) :
    ∃ r : Int, (decide (0 ≤ r)) = b.any P ∧ Sound E 128 [bx b, .func (.func g) [] caps] H (.ret (.int .i64 r)) H := by
  refine ⟨match b.findIdx? P with | some i => (i : Int) | none => -1, ?_, ?_⟩
  · cases h : b.findIdx? P with
    | none =>
      rw [List.findIdx?_eq_none_iff] at h
      have : b.any P = false := by rw [List.any_eq_false]; intro x hx; simp [h x hx]
      rw [this]; rfl
    | some i =>
      rw [List.findIdx?_eq_some_iff_getElem] at h
      obtain ⟨h1, h2, _⟩ := h
      have : b.any P = true := by rw [List.any_eq_true]; exact ⟨_, List.getElem_mem h1, h2⟩
      rw [this]; simp
  refine sound_of_awp tabOk mixed Tryz.func128 rfl (by rfl) Tryz.ntmps128 (by kernel_rfl) (by simp) ?_
  simp [bx]
  refine loop_count (fun (i : Nat) fr H' => fr 0 = bx b ∧ fr 1 = .func (.func g) [] caps ∧ fr 7 = .int .i64 b.length ∧ fr 8 = .int .i64 i ∧ i ≤ b.length ∧ H' = H ∧ okTo (fun p => !P p) b i) (fun i => b.length - i) 0 ⟨by simp [bx], by simp, by simp, by simp, by omega, rfl, okTo_zero _ _⟩ ?_
  rintro i fr H' ⟨g0, g1, g7, g8, hi, rfl, hok⟩
  simp [g7, g8]
  refine branch (fun hc => ?_) (fun hc => ?_)
  · have hlt : i < b.length := by simpa using hc
    obtain ⟨p, hp⟩ := get_lt hlt
    have hpE : ∀ h, b[i]'h = p := fun h => (List.getElem?_eq_some_iff.1 hp).2
    have w2 : IntKind.i64.wrap ((i : Int) + 1) = ((i + 1 : Nat) : Int) := by rw [wrap64 (by omega) (by omega)]; omega
    simp [g0, g1, g8, bx, hp, hpE]
    refine call_ret (hf p (List.mem_of_getElem? hp)) ?_
    simp
    refine branch (fun hq => ?_) (fun hq => ?_)
    · have hfi : b.findIdx? P = some i := by
        rw [List.findIdx?_eq_some_iff_getElem]
        refine ⟨hlt, by rw [hpE]; exact hq, fun j hj => ?_⟩
        have := hok j _ hj (List.getElem?_eq_getElem (by omega))
        simpa using this
      rw [hfi]
      simp
      exact fin0 (rs := [.tmp 4]) (by rfl) (by simp [resA])
    · simp [g8, w2]
      exact ⟨i + 1, by show b.length - (i + 1) < b.length - i; omega, by simp [g0, bx], by simp [g1], by simp [g7], by simp, by omega, rfl, okTo_succ hok hp (by simp [hq])⟩
  · have hi' : i = b.length := by have : ¬ i < b.length := by simpa using hc
                                  omega
    subst hi'
    have hfi : b.findIdx? P = none := by
      rw [List.findIdx?_eq_none_iff]
      intro x hx
      obtain ⟨j, hj⟩ := List.mem_iff_getElem?.1 hx
      have := hok j x (List.getElem?_eq_some_iff.1 hj).1 hj
      simpa using this
    rw [hfi]
    simp
    exact fin0 (rs := [.tmp 4]) (by rfl) (by simp [resA])
theorem sContainsFunc (b : List I) (g : FuncId) (caps : List AV) (P : I → Bool) (H : AH) (hl : b.length ≤ 1000000) (hf : ∀ p ∈ b, Sound E g ([iv p] ++ caps) H (.ret (.bool (P p))) H) :
    Sound E 104 [bx b, .func (.func g) [] caps] H (.ret (.bool (b.any P))) H := by
  obtain ⟨r, hr, hS⟩ := sIndexFunc b g caps P H hl hf
  refine sound_of_awp tabOk mixed Tryz.func104 rfl (by rfl) Tryz.ntmps104 (by kernel_rfl) (by simp) ?_
  rw [← hr]
  simp
  refine call_ret (by simpa using hS) ?_
  simp
  exact fin0 (rs := [.tmp 4]) (by rfl) (by simp [resA])
end Go.Proofs.YtfjjckepnkkgjaaGreatDoor.Arm

namespace Go.Proofs.YtfjjckepnkkgjaaGreatDoor.Arm
open Go.Arm Go.Pl
theorem pBounded (b : List I) (hl : b.length ≤ 1000000) (H : AH) : Sound E 161 [bx b] H (.ret (.bool (boundedB b))) H := by
  refine sound_of_awp tabOk mixed Tryz.func161 rfl (by rfl) Tryz.ntmps161 (by kernel_rfl) (by simp) ?_
  have hS := fun Hx => sContainsFunc b 127 [] entB Hx hl (fun p _ => by simpa using iIsEntire p Hx)
  have e : boundedB b = !(b.any entB) := by
    unfold boundedB
    rw [List.not_any_eq_all_not]
  simp
  refine call_ret (by simpa using hS _) ?_
  simp
  exact fin0 (rs := [.tmp 2]) (by rfl) (by simp [resA, e])
theorem cAccept1 (c : Ct) (p : I) (b : Nat) (w : Bool) (hp : vB p = true) (H : AH) (hb : H[b]? = some (.row w 5 [ctA c])) : Sound E 121 [iv p, .ptr b 1 0 0] H (.ret (.bool (decide (c.wide < p.2 - p.1)))) H := by
  refine sound_of_awp tabOk mixed Tryz.func121 rfl (by rfl) Tryz.ntmps121 (by kernel_rfl) (by simp) ?_
  have hbl := (List.getElem?_eq_some_iff.1 hb).1
  unfold ctA at hb
  simp
  refine callD_ret0 (fun Hx => iWidth p hp Hx) ?_
  simp [hb, get_old hb]
  refine endD [] (by rfl) (by simp [okW, note, Eff.triv, Eff.wr, Eff.none, upTo, newAt]) ?_
  simp
  exact fin1 (rs := [.tmp 3]) (by rfl) (by simp [resA]) (by simp [noFs, noF])
theorem cAccept (c : Ct) (s : Sg) (h1 : allV s.to) (h2 : allV s.tube) (h3 : s.to.length ≤ 1000000) (h4 : s.tube.length ≤ 1000000) (H : AH) : Sound E 93 [ctA c, sgA s] H (.ret (.bool (narrowB c.wide s.to && narrowB c.wide s.tube))) H := by
  refine sound_of_awp tabOk mixed Tryz.func93 rfl (by rfl) Tryz.ntmps93 (by kernel_rfl) (by simp) ?_
  have hS : ∀ (b : List I) (J : AH), allV b → b.length ≤ 1000000 → J[0]? = some (.row true 5 [ctA c]) → Sound E 104 [bx b, .func (.func 121) [] [.ptr H.length 1 0 0]] (H ++ J) (.ret (.bool (b.any fun p => decide (c.wide < p.2 - p.1)))) (H ++ J) :=
    fun b J hb hl hJ => sContainsFunc b 121 [.ptr H.length 1 0 0] _ (H ++ J) hl (fun p hp => by simpa using cAccept1 c p H.length true (hb p hp) (H ++ J) (by simpa using hJ))
  have e : ∀ b : List I, narrowB c.wide b = !(b.any fun p => decide (c.wide < p.2 - p.1)) := by
    intro b
    unfold narrowB
    rw [List.not_any_eq_all_not]
    congr 1
    funext p
    by_cases h : p.2 - p.1 ≤ c.wide
    · have : ¬ c.wide < p.2 - p.1 := by omega
      simp [h, this]
    · have : c.wide < p.2 - p.1 := by omega
      simp [h, this]
  simp [ctA, sgA, bx]
  refine call_ret (by simpa [bx] using hS s.to _ h1 h3 (by simp [ctA])) ?_
  simp
  refine gateT (fun m1 => ?_) (fun m1 => ?_)
  · simp [m1]
    refine call_ret (by simpa [bx] using hS s.tube _ h2 h4 (by simp [ctA])) ?_
    simp
    exact fin1 (rs := [.tmp 4]) (by rfl) (by simp [resA, e, m1]) (by simp [noFs, noF])
  · simp [m1]
    exact fin1 (rs := [.tmp 4]) (by rfl) (by simp [resA, e, m1]) (by simp [noFs, noF])
end Go.Proofs.YtfjjckepnkkgjaaGreatDoor.Arm

namespace Go.Proofs.YtfjjckepnkkgjaaGreatDoor.Arm
open Go.Arm Go.Pl
def zipB (f : I → I → I) (a b : List I) : List I := (List.range a.length).map fun i => f (atN a i) (atN b i)
def LZi (f : I → I → I) (a b : List I) (g : FuncId) (caps : List AV) (H : AH) (i : Nat) (fr : AFr) (H' : AH) : Prop :=
  fr 0 = bx a ∧ fr 1 = bx b ∧ fr 2 = .func (.func g) [] caps ∧ fr 7 = .ref H.length a.length ∧ fr 13 = .int .i64 a.length ∧ fr 14 = .int .i64 i ∧ i ≤ a.length ∧ H' = H ++ [.row true 2 (padI ((List.range i).map fun i => f (atN a i) (atN b i)) a.length)]
theorem pZip (f : I → I → I) (a b : List I) (g : FuncId) (caps : List AV) (rds : List Nat) (hab : a.length ≤ b.length) (hl : a.length ≤ 1000000) (H : AH) (hr : ∀ c ∈ rds, c < H.length) (hrd : rds = [] ∨ ∃ c, rds = [c])
    (hf : ∀ p ∈ a, ∀ q ∈ b, ∀ Hx : AH, (∀ c ∈ rds, Hx[c]? = H[c]?) → Sound E g ([iv p, iv q] ++ caps) Hx (.ret (iv (f p q))) Hx) :
    Sound E 159 [bx a, bx b, .func (.func g) [] caps] H (.ret (bx (zipB f a b))) H := by
  refine sound_of_awp tabOk mixed Tryz.func159 rfl (by rfl) Tryz.ntmps159 (by kernel_rfl) (by simp) ?_
  simp [bx]
  refine bind_if (by omega) ?_
  simp
  refine loop_count (LZi f a b g caps H) (fun i => a.length - i) 0 ⟨by simp [bx], by simp [bx], by simp, by simp, by simp, by simp, by omega, by simp [padI_nil]⟩ ?_
  rintro i fr H' ⟨g0, g1, g2, g7, g13, g14, hi, rfl⟩
  simp [g13, g14]
  refine branch (fun hc => ?_) (fun hc => ?_)
  · have hlt : i < a.length := by simpa using hc
    obtain ⟨p, hp⟩ := get_lt hlt
    obtain ⟨q, hq⟩ := get_lt (l := b) (i := i) (by omega)
    have hpE : ∀ h, a[i]'h = p := fun h => (List.getElem?_eq_some_iff.1 hp).2
    have hqE : ∀ h, b[i]'h = q := fun h => (List.getElem?_eq_some_iff.1 hq).2
    have w2 : IntKind.i64.wrap ((i : Int) + 1) = ((i + 1 : Nat) : Int) := by rw [wrap64 (by omega) (by omega)]; omega
    have hs : f (atN a i) (atN b i) = f p q := by simp [atN, hp, hq]
    have hW0 : (padI ((List.range i).map fun i => f (atN a i) (atN b i)) a.length)[i]? = some (iv (0, 0)) := padI_zero (by simp) hlt
    have hWl : (padI ((List.range i).map fun i => f (atN a i) (atN b i)) a.length).length = a.length := padI_len (by simp; omega)
    have hWset : (padI ((List.range i).map fun i => f (atN a i) (atN b i)) a.length).set i (iv (f p q)) = padI ((List.range (i + 1)).map fun i => f (atN a i) (atN b i)) a.length := by
      have := padI_set (l := (List.range i).map fun i => f (atN a i) (atN b i)) (n := a.length) (p := f p q) (by simp; omega)
      rw [List.length_map, List.length_range] at this
      rw [this, List.range_succ, List.map_append]
      simp [hs]
    generalize padI ((List.range i).map fun i => f (atN a i) (atN b i)) a.length = W at *
    have hW0E : ∀ h, W[i]'h = iv (0, 0) := fun h => (List.getElem?_eq_some_iff.1 hW0).2
    simp [g0, g1, g2, g7, g14, bx, hp, hpE, hq, hqE]
    refine callD_rdc rds (fun c hc => by have := hr c hc; simp; omega) (fun Hx hx => hf p (List.mem_of_getElem? hp) q (List.mem_of_getElem? hq) Hx fun c hc => by rw [hx c hc, List.getElem?_append_left (hr c hc)]) ?_
    have fin : ∀ K, K = H ++ [.row true 2 (W.set i (iv (f p q)))] → ∃ i', a.length - i' < a.length - i ∧ i' = i + 1 ∧ K = H ++ [.row true 2 (padI ((List.range (i + 1)).map fun i => f (atN a i) (atN b i)) a.length)] := fun K hK => ⟨i + 1, by omega, rfl, by rw [hK, hWset]⟩
    rcases hrd with rfl | ⟨c, rfl⟩
    · simp [g7, g14, hWl, hlt, hW0, hW0E]
      refine endD [(12, 13)] (by rfl) (by simp [okW, note, Eff.triv, Eff.wr, Eff.none, upTo, newAt]) ?_
      simp [g14, w2]
      exact ⟨i + 1, by show a.length - (i + 1) < a.length - i; omega, by simp [g0, bx], by simp [g1, bx], by simp [g2], by simp [g7], by simp [g13], by simp, by omega, by rw [← hWset]; simp⟩
    · have hcl := hr c (by simp)
      simp [g7, g14, hWl, hlt, hW0, hW0E]
      refine endD [(11, 13), (12, 13)] (by rfl) (by simp [okW, note, Eff.triv, Eff.wr, Eff.none, upTo, newAt]) ?_
      simp [g14, w2]
      exact ⟨i + 1, by show a.length - (i + 1) < a.length - i; omega, by simp [g0, bx], by simp [g1, bx], by simp [g2], by simp [g7], by simp [g13], by simp, by omega, by rw [← hWset]; simp⟩
  · have hi' : i = a.length := by have : ¬ i < a.length := by simpa using hc
                                  omega
    subst hi'
    rw [padI_all (by simp)]
    simp
    exact finS (t := 6) (v := .ref (H.length + 0) a.length) (v0 := .nilslice) (sz := 2) (xs := (zipB f a b).map iv) (by rfl) (by simp [g7]) (.inr ⟨0, by simp [zipB], by simp [zipB]⟩) rfl (iv_noFs _ _)
end Go.Proofs.YtfjjckepnkkgjaaGreatDoor.Arm

namespace Go.Proofs.YtfjjckepnkkgjaaGreatDoor.Arm
open Go.Arm Go.Pl
theorem pImage1 (p q : I) (h : Int) (b : Nat) (w : Bool) (hp : vB p = true) (hq : vB q = true) (hh : vB (mk 0 h) = true) (H : AH) (hb : H[b]? = some (.row w 2 [iv (mk 0 h)])) : Sound E 182 [iv p, iv q, .ptr b 1 0 0] H (.ret (iv (imgI h p q))) H := by
  refine sound_of_awp tabOk mixed Tryz.func182 rfl (by rfl) Tryz.ntmps182 (by kernel_rfl) (by simp) ?_
  have hbl := (List.getElem?_eq_some_iff.1 hb).1
  unfold imgI
  generalize mk 0 h = m at *
  simp [hb, get_old hb]
  refine callD_ret0 (fun Hx => iMul m q hh hq Hx) ?_
  simp
  refine callD_ret0 (fun Hx => iAdd p _ hp mul_valid Hx) ?_
  simp
  refine endD [] (by rfl) (by simp [okW, note, Eff.triv, Eff.wr, Eff.none, upTo, newAt]; omega) ?_
  simp
  exact fin1 (rs := [.cell 5 54]) (by rfl) (by simp [resA]) (by simp [noFs, noF])
theorem pImage (T : Tp) (x b : List I) (t h : Int) (hT : tpOk T) (hx : allV x) (hb : allV b) (hxn : x.length = T.n) (hbn : b.length = T.n) (hh : 0 ≤ h ∧ h ≤ 1000000000) (ht : -1000000000 ≤ t ∧ t ≤ 1000000000) (H : AH) :
    Sound E 160 [tpA T, bx x, bx b, .agg [.int .i64 t, .int .i64 h]] H (.ret (bx (imageB T x b t h))) H := by
  refine sound_of_awp tabOk mixed Tryz.func160 rfl (by rfl) Tryz.ntmps160 (by kernel_rfl) (by simp) ?_
  have w1 : IntKind.i64.wrap (t + h) = t + h := wrap64 (by omega) (by omega)
  have hsm := hT.small
  have htv : vB (mk t (t + h)) = true := mk_valid (by omega)
  have hhv : vB (mk 0 h) = true := mk_valid (by omega)
  have hfv := evalT_valid hT hb htv
  have hfl := evalT_len hT (x := b) (t := mk t (t + h))
  simp [tpA]
  refine call_ret (iNew 0 h _) ?_
  simp [w1]
  refine callD_ret0 (fun Hx => iNew t (t + h) Hx) ?_
  simp
  refine callD_ret0 (fun Hx => by simpa [tpA] using tEval T b (mk t (t + h)) hT hb hbn htv Hx) ?_
  simp
  refine endD [] (by rfl) (by simp [okW, note, Eff.triv, Eff.wr, Eff.none, upTo, newAt]) ?_
  have hz := fun Hx hr hf => pZip (imgI h) x (evalT T b (mk t (t + h))) 182 [.ptr (H.length + 2) 1 0 0] [H.length + 2] (by omega) (by omega) Hx hr (.inr ⟨_, rfl⟩) hf
  have hi : imageB T x b t h = zipB (imgI h) x (evalT T b (mk t (t + h))) := rfl
  rw [hi]
  simp
  refine call_ret (hz _ (by simp) (fun p hp q hq Hx hc => by simpa using pImage1 p q h (H.length + 2) true (hx p hp) (hfv q hq) hhv Hx (by rw [hc _ (by simp)]; simp))) ?_
  simp
  exact fin1 (rs := [.tmp 8]) (by rfl) (by simp [resA]) (by simp only [bx, noF, iv_noFs])
end Go.Proofs.YtfjjckepnkkgjaaGreatDoor.Arm

namespace Go.Proofs.YtfjjckepnkkgjaaGreatDoor.Arm
open Go.Arm Go.Pl
def LPq (a : List I) (H : AH) (i : Nat) (fr : AFr) (H' : AH) : Prop :=
  fr 3 = .ref H.length a.length ∧ fr 10 = bx a ∧ fr 11 = .int .i64 a.length ∧ fr 12 = .int .i64 i ∧ i ≤ a.length ∧ ∃ J, H' = H ++ J ∧ J[0]? = some (.row true 2 (padI ((List.range i).map fun i => inflI (atN a i)) a.length))
theorem pInflate (a : List I) (ha : allV a) (hl : a.length ≤ 1000000) (H : AH) : Sound E 162 [bx a] H (.ret (bx (inflB a))) H := by
  refine sound_of_awp tabOk mixed Tryz.func162 rfl (by rfl) Tryz.ntmps162 (by kernel_rfl) (by simp) ?_
  simp [bx]
  refine bind_if (by omega) ?_
  simp
  refine loop_count (LPq a H) (fun i => a.length - i) 0 ⟨by simp, by simp [bx], by simp, by simp, by omega, _, rfl, by simp [padI_nil]⟩ ?_
  rintro i fr H' ⟨g3, g10, g11, g12, hi, J, rfl, hJ0⟩
  have hJl := (List.getElem?_eq_some_iff.1 hJ0).1
  simp [g11, g12]
  refine branch (fun hc => ?_) (fun hc => ?_)
  · have hlt : i < a.length := by simpa using hc
    obtain ⟨p, hp⟩ := get_lt hlt
    have hpE : ∀ h, a[i]'h = p := fun h => (List.getElem?_eq_some_iff.1 hp).2
    have w2 : IntKind.i64.wrap ((i : Int) + 1) = ((i + 1 : Nat) : Int) := by rw [wrap64 (by omega) (by omega)]; omega
    have hs : inflI (atN a i) = inflI p := by simp [atN, hp]
    have hpv := ha p (List.mem_of_getElem? hp)
    have hb := vB_bounds hpv
    have wt : (p.2 - p.1).tdiv 16 = (p.2 - p.1) / 16 := Int.tdiv_eq_ediv_of_nonneg (by omega)
    have v0 : IntKind.i64.wrap ((p.2 - p.1) / 16) = (p.2 - p.1) / 16 := wrap64 (by omega) (by omega)
    have v1 : IntKind.i64.wrap ((p.2 - p.1) / 16 + 1) = (p.2 - p.1) / 16 + 1 := wrap64 (by omega) (by omega)
    have v2 : IntKind.i64.wrap (p.1 - ((p.2 - p.1) / 16 + 1)) = p.1 - ((p.2 - p.1) / 16 + 1) := wrap64 (by omega) (by omega)
    have v3 : IntKind.i64.wrap (p.2 + ((p.2 - p.1) / 16 + 1)) = p.2 + ((p.2 - p.1) / 16 + 1) := wrap64 (by omega) (by omega)
    have hW0 : (padI ((List.range i).map fun i => inflI (atN a i)) a.length)[i]? = some (iv (0, 0)) := padI_zero (by simp) hlt
    have hWl : (padI ((List.range i).map fun i => inflI (atN a i)) a.length).length = a.length := padI_len (by simp; omega)
    have hWset : (padI ((List.range i).map fun i => inflI (atN a i)) a.length).set i (iv (inflI p)) = padI ((List.range (i + 1)).map fun i => inflI (atN a i)) a.length := by
      have := padI_set (l := (List.range i).map fun i => inflI (atN a i)) (n := a.length) (p := inflI p) (by simp; omega)
      rw [List.length_map, List.length_range] at this
      rw [this, List.range_succ, List.map_append]
      simp [hs]
    generalize padI ((List.range i).map fun i => inflI (atN a i)) a.length = W at *
    have hW0E : ∀ h, W[i]'h = iv (0, 0) := fun h => (List.getElem?_eq_some_iff.1 hW0).2
    simp [g10, g12, bx, hp, hpE]
    refine call_ret (iWidth p hpv _) ?_
    simp [g3, wt, v0, v1, v2, v3]
    refine call_ret (iNew _ _ _) ?_
    simp [g3, g12, ↓old hJ0, olds hJ0, hWl, hlt, hW0, hW0E, w2]
    refine ⟨i + 1, by show a.length - (i + 1) < a.length - i; omega, by simp [g3], by simp [g10, bx], by simp [g11], by simp, by omega, _, rfl, ?_⟩
    rw [← hWset]
    exact set_get' hJ0
  · have hi' : i = a.length := by have : ¬ i < a.length := by simpa using hc
                                  omega
    subst hi'
    rw [padI_all (by simp)] at hJ0
    simp
    exact finS (t := 2) (v := .ref (H.length + 0) a.length) (v0 := .nilslice) (sz := 2) (xs := (inflB a).map iv) (by rfl) (by simp [g3]) (.inr ⟨0, by simp [inflB], by simpa [inflB] using hJ0⟩) rfl (iv_noFs _ _)
end Go.Proofs.YtfjjckepnkkgjaaGreatDoor.Arm

namespace Go.Proofs.YtfjjckepnkkgjaaGreatDoor.Arm
open Go.Arm Go.Pl
theorem bPairs (a b : List I) (H : AH) : Sound E 129 [bx a, bx b] H (.ret (.func (.func 157) [] [.ptr H.length 1 0 0, .ptr (H.length + 1) 1 0 0])) (H ++ [.row true 1 [bx a], .row true 1 [bx b]]) := by
  refine sound_of_awp tabOk mixed Tryz.func129 rfl (by rfl) Tryz.ntmps129 (by kernel_rfl) (by simp) ?_
  simp [bx]
  exact finK (rs := [.tmp 4]) (vs := [.func (.func 157) [] [.ptr H.length 1 0 0, .ptr (H.length + 1) 1 0 0]]) (by rfl) (by simp [resA]) rfl
end Go.Proofs.YtfjjckepnkkgjaaGreatDoor.Arm

namespace Go.Arm
def allUps (K : AH) (n : Nat) : List (Nat × ABlk) := (List.range n).map fun i => (i, (K[i]?).getD .dead)
theorem upAt_map (f : Nat → ABlk) : ∀ (l : List Nat) (b : Nat), upAt (l.map fun i => (i, f i)) b = if b ∈ l then some (f b) else none
  | [], b => by simp [upAt]
  | c :: r, b => by
    simp only [List.map_cons, upAt, upAt_map f r b, List.mem_cons]
    by_cases h : b ∈ r
    · simp [h]
    · by_cases e : c = b
      · subst e; simp [h]
      · have : ¬ b = c := fun h => e h.symm
        simp [h, e, this]
theorem applyUps_all {H K X : AH} (hl : K.length = H.length) : applyUps (H ++ X) (allUps K H.length) = K ++ X := by
  apply List.ext_getElem?
  intro b
  by_cases hb : b < (H ++ X).length
  · rw [applyUps_get _ _ _ hb]
    unfold allUps
    rw [upAt_map]
    by_cases h : b < H.length
    · have hk : b < K.length := by omega
      simp [h, List.getElem?_append_left hk, hk]
    · have h2 : K.length ≤ b := by omega
      simp only [List.length_append] at hb
      have h3 : b - H.length < X.length := by omega
      simp [h, List.getElem?_append_right h2, List.getElem?_append_right (show H.length ≤ b by omega), hl, h3]
  · rw [List.getElem?_eq_none (by rw [applyUps_len]; omega), List.getElem?_eq_none (by simp at hb ⊢; omega)]
theorem callD_yld {E : Env} {b : Nat} {args : List AV} {next : NxD} {H K : AH} {v : AV} (hl : K.length = H.length) (hY : ∀ X : AH, YSound E b args (H ++ X) v (K ++ X))
    (k : next .go v ⟨List.range H.length, allUps K H.length, none, true⟩ K) : callD E (.yld b) args next H := by
  refine ⟨v, List.range H.length, allUps K H.length, ⟨fun c hc => List.mem_range.1 hc, fun p hp => ?_, fun Hx hx => ?_⟩, ?_⟩
  · unfold allUps at hp
    obtain ⟨i, hi, rfl⟩ := List.mem_map.1 hp
    exact hi
  · have hle : H.length ≤ Hx.length := by
      rcases Nat.lt_or_ge Hx.length H.length with h | h
      · have := hx Hx.length (List.mem_range.2 h)
        rw [List.getElem?_eq_none (Nat.le_refl _)] at this
        rw [List.getElem?_eq_getElem h] at this
        cases this
      · exact h
    have e : Hx = H ++ Hx.drop H.length := by
      apply List.ext_getElem?
      intro c
      by_cases hc : c < H.length
      · rw [List.getElem?_append_left hc]; exact hx c (List.mem_range.2 hc)
      · rw [List.getElem?_append_right (by omega), List.getElem?_drop]
        congr 1; omega
    rw [e, applyUps_all hl]
    exact .inl (hY _)
  · have := applyUps_all (X := []) hl
    rw [List.append_nil, List.append_nil] at this
    rw [this]
    exact k
end Go.Arm

namespace Go.Arm
open Go.RowKit
def alters (H H' : AH) : Prop := H'.length = H.length ∧ ∀ c : Nat, H'[c]? = H[c]? ∨ (∃ k, H'[c]? = some k ∧ noFB H.length k = true) ∨ ∃ k st st' frs, H[c]? = some (.loop k st frs) ∧ H'[c]? = some (.loop k st' frs)
theorem alters.refl (H : AH) : alters H H := ⟨rfl, fun _ => .inl rfl⟩
theorem alters.trans {H H1 H2 : AH} (h : alters H H1) (g : alters H1 H2) : alters H H2 := by
  refine ⟨g.1.trans h.1, fun c => ?_⟩
  rcases g.2 c with g1 | ⟨k, g1, g2⟩ | ⟨k, st, st', frs, g1, g2⟩
  · rw [g1]; exact h.2 c
  · exact .inr (.inl ⟨k, g1, by rw [← h.1]; exact g2⟩)
  · rcases h.2 c with h1 | ⟨k', h1, h2⟩ | ⟨k', s1, s2, frs', h1, h2⟩
    · exact .inr (.inr ⟨k, st, st', frs, by rw [← h1]; exact g1, g2⟩)
    · rw [g1] at h1; cases h1
      exact .inr (.inl ⟨_, g2, h2⟩)
    · rw [g1] at h2; cases h2
      exact .inr (.inr ⟨k, s1, st', frs, h1, g2⟩)
def altB (m : Nat) (k k' : ABlk) : Prop := k' = k ∨ noFB m k' = true ∨ ∃ q st st' frs, k = .loop q st frs ∧ k' = .loop q st' frs
def altL (m : Nat) : List ABlk → List ABlk → Prop
  | [], [] => True
  | a :: r, b :: s => altB m a b ∧ altL m r s
  | _, _ => False
theorem altL.len {m : Nat} : ∀ {K K' : List ABlk}, altL m K K' → K'.length = K.length
  | [], [], _ => rfl
  | _ :: _, _ :: _, h => by simp [altL.len h.2]
theorem altL.get {m : Nat} : ∀ {K K' : List ABlk}, altL m K K' → ∀ c : Nat, K'[c]? = K[c]? ∨ (∃ k, K'[c]? = some k ∧ noFB m k = true) ∨ ∃ k st st' frs, K[c]? = some (.loop k st frs) ∧ K'[c]? = some (.loop k st' frs)
  | [], [], _, c => .inl rfl
  | a :: r, b :: s, h, 0 => by
    rcases h.1 with h1 | h1 | ⟨q, st, st', frs, h1, h2⟩
    · exact .inl (by simp [h1])
    · exact .inr (.inl ⟨b, rfl, h1⟩)
    · exact .inr (.inr ⟨q, st, st', frs, by simp [h1], by simp [h2]⟩)
  | a :: r, b :: s, h, c + 1 => by simpa using altL.get h.2 c
theorem alters_of {H K K' : AH} (h : altL (H ++ K).length K K') : alters (H ++ K) (H ++ K') := by
  refine ⟨by simp [h.len], fun c => ?_⟩
  rcases Nat.lt_or_ge c H.length with h1 | h1
  · left; rw [List.getElem?_append_left h1, List.getElem?_append_left h1]
  · rw [List.getElem?_append_right h1, List.getElem?_append_right h1]; exact h.get _
theorem altB.same {m : Nat} (k : ABlk) : altB m k k := .inl rfl
theorem altB.loop {m : Nat} {q : LK} {st st' : LSt} {frs : List AV} : altB m (.loop q st frs) (.loop q st' frs) := .inr (.inr ⟨q, st, st', frs, rfl, rfl⟩)
inductive YRuns (E : Env) (b : Nat) (P : AH → Prop) : List (List AV) → AH → AH → Prop
  | nil (H : AH) : YRuns E b P [] H H
  | stop {a : List AV} {r : List (List AV)} {H H' : AH} (h1 : alters H H') (h2 : P H') (h3 : ∀ J : AH, YSound E b a (H ++ J) (.bool false) (H' ++ J)) : YRuns E b P (a :: r) H H'
  | go {a : List AV} {r : List (List AV)} {H H1 H' : AH} (h1 : alters H H1) (h2 : P H1) (h3 : ∀ J : AH, YSound E b a (H ++ J) (.bool true) (H1 ++ J)) (h4 : YRuns E b P r H1 H') : YRuns E b P (a :: r) H H'
theorem YRuns.alters {E : Env} {b : Nat} {P : AH → Prop} {L : List (List AV)} {H H' : AH} (h : YRuns E b P L H H') : Arm.alters H H' := by
  induction h with
  | nil H => exact .refl H
  | stop h1 _ _ => exact h1
  | go h1 _ _ _ ih => exact h1.trans ih
theorem YRuns.keep {E : Env} {b : Nat} {P : AH → Prop} {L : List (List AV)} {H H' : AH} (h : YRuns E b P L H H') (h0 : P H) : P H' := by
  induction h with
  | nil H => exact h0
  | stop _ h2 _ => exact h2
  | go _ h2 _ _ ih => exact ih h2
theorem YRuns.cases_cons {E : Env} {b : Nat} {P : AH → Prop} {a : List AV} {r : List (List AV)} {H H' : AH} (h : YRuns E b P (a :: r) H H') :
    ∃ (go : Bool) (H1 : AH), Arm.alters H H1 ∧ P H1 ∧ (∀ J : AH, YSound E b a (H ++ J) (.bool go) (H1 ++ J)) ∧ (go = false → H1 = H') ∧ (go = true → YRuns E b P r H1 H') := by
  cases h with
  | stop h1 h2 h3 => exact ⟨false, _, h1, h2, h3, fun _ => rfl, nofun⟩
  | go h1 h2 h3 h4 => exact ⟨true, _, h1, h2, h3, nofun, fun _ => h4⟩
theorem finY {E : Env} {fr : AFr} {fn : Func} {H0 H1 J : AH} {e : AExit} (hr : fn.results.toList = []) (ha : alters H0 H1) (hx : e = .ret ∨ e = .normal := by simp) : bodyK E fn H0 (.ret (.tuple [])) H1 e fr (H1 ++ J) := by
  have hL : Leaves H0 [] (H1 ++ J) [] H1 := .cut H0.length (Nat.le_refl _) (by rw [← ha.1]; simp) (fun b _ => ha.2 b) (by simp [noFs])
  rcases hx with rfl | rfl <;> exact ⟨[], [], by rw [hr]; rfl, hL, rfl⟩
theorem assignK_normal {b : Nat} {k : LK} {frs : List AV} {y : AFr → AH → Prop} {fr : AFr} {H1 : AH} : assignK b k frs y .normal fr H1 = (H1[b]? = some (.loop k .ready frs) ∧ y fr (H1.set b (.loop k .busy frs))) := rfl
theorem roundK_normal {b : Nat} {k : LK} {frs : List AV} {H0 H' H2 : AH} {v : AV} {fr : AFr} : roundK b k frs H0 v H' .normal fr H2 = (H2[b]? = some (.loop k .busy frs) ∧ v = .bool true ∧ Leaves H0 [] (H2.set b (.loop k .ready frs)) [] H') := rfl
theorem roundK_ret {b : Nat} {k : LK} {frs : List AV} {H0 H' H2 : AH} {v : AV} {fr : AFr} : roundK b k frs H0 v H' .ret fr H2 = (H2[b]? = some (.loop k .busy frs) ∧ v = .bool false ∧ Leaves H0 [] (H2.set b (.loop k (.done .ret) frs)) [] H') := rfl
theorem roundK_exit {b id : Nat} {k : LK} {frs : List AV} {H0 H' H2 : AH} {v : AV} {fr : AFr} : roundK b k frs H0 v H' (.exit id) fr H2 = (H2[b]? = some (.loop k .busy frs) ∧ v = .bool false ∧ Leaves H0 [] (H2.set b (.loop k (.done (.exit id)) frs)) [] H') := rfl
theorem Leaves.alters {H H1 J X : AH} (ha : Arm.alters H H1) : Leaves (H ++ J) [] (H1 ++ J ++ X) [] (H1 ++ J) := by
  have hl : (H ++ J).length = (H1 ++ J).length := by simp [ha.1]
  refine .cut (H ++ J).length (Nat.le_refl _) (by rw [hl, List.take_left]) (fun c hc => ?_) (by simp [noFs])
  by_cases h : c < H.length
  · have h1 : c < H1.length := by rw [ha.1]; exact h
    rw [List.getElem?_append_left h, List.getElem?_append_left h1]
    rcases ha.2 c with g | ⟨k, g1, g2⟩ | ⟨k, st, st', frs, g1, g2⟩
    · exact .inl g
    · refine .inr (.inl ⟨k, g1, ?_⟩)
      have hm : H.length ≤ (H ++ J).length := by simp
      cases k with
      | dead => rfl
      | row wr sz xs => simp only [noFB] at g2 ⊢; rw [noFs_iff] at g2 ⊢; exact fun x hx => noF_mono hm (g2 x hx)
      | map es =>
        simp only [noFB, List.all_eq_true, Bool.and_eq_true] at g2 ⊢
        exact fun e hx => ⟨noF_mono hm (g2 e hx).1, noF_mono hm (g2 e hx).2⟩
      | loop k st frs => simp only [noFB] at g2 ⊢; rw [noFs_iff] at g2 ⊢; exact fun x hx => noF_mono hm (g2 x hx)
    · exact .inr (.inr ⟨k, st, st', frs, g1, g2⟩)
  · left
    have hh := ha.1
    rw [List.getElem?_append_right (by omega), List.getElem?_append_right (by omega), hh]
end Go.Arm

namespace Go.Arm
open Go.RowKit
def mvG (G : Gh) (m : Nat) (σ : Nat → Option Nat) : Gh := (List.range m).map fun c => match σ c with
  | some k => ownr G k
  | none => ownr G c
theorem mv_own {G : Gh} {m : Nat} {σ : Nat → Option Nat} {c : Nat} : ownr (mvG G m σ) c = if c < m then (match σ c with | some k => ownr G k | none => ownr G c) else none := by
  show ((mvG G m σ)[c]?).join = _
  unfold mvG
  rw [List.getElem?_map]
  by_cases h : c < m
  · rw [List.getElem?_range h, if_pos h, Option.map_some]; cases h2 : σ c <;> simp [h2]
  · rw [if_neg h, List.getElem?_eq_none (by simpa using h)]; rfl
section
variable {G : Gh} {w : World} {m : Nat} {σ : Nat → Option Nat}
theorem mv_some {c : Nat} {L : GL} (h : ownr (mvG G m σ) c = some L) : c < m ∧ ((∃ k, σ c = some k ∧ ownr G k = some L) ∨ (σ c = none ∧ ownr G c = some L)) := by
  rw [mv_own] at h
  split at h
  · rename_i hc
    refine ⟨hc, ?_⟩
    cases hs : σ c with
    | none => rw [hs] at h; exact .inr ⟨rfl, h⟩
    | some k => rw [hs] at h; exact .inl ⟨k, rfl, h⟩
  · cases h
theorem VR.move (hd : ∀ c k, σ c = some k → ownr G c = none) {a : AV} {v : Value} (h : VR G w a v) : Arm.noF m a = true → VR (mvG G m σ) w a v := by
  have keep : ∀ {c : Nat} {L : GL}, ownr G c = some L → c < m → ownr (mvG G m σ) c = some L := fun {c L} h hc => by
    rw [mv_own, if_pos hc]
    cases hs : σ c with
    | none => exact h
    | some k => rw [hd c k hs] at h; cases h
  have fitsT : ∀ {B e : Nat}, fits G B e → fits (mvG G m σ) B e := fun hl c L hc hB => by
    rcases (mv_some hc).2 with ⟨k, _, h⟩ | ⟨_, h⟩ <;> exact hl _ L h hB
  induction h with
  | junk v => intro _; exact .junk v
  | bool b => intro _; exact .bool b
  | int k n => intro _; exact .int k n
  | str s => intro _; exact .str s
  | nilptr => intro _; exact .nilptr
  | ptr h1 hg hs hv => intro hn; simp only [Arm.noF, decide_eq_true_eq] at hn; exact .ptr (keep h1 hn) hg hs hv
  | eptr vals hB hc hr hl ih => intro hn; simp only [Arm.noF] at hn; exact .eptr vals hB hc (fun j a hj => ih j a hj (noFs_get hn hj)) (fitsT hl)
  | nilslice => intro _; exact .nilslice
  | slice0 hf => intro _; exact .slice0 hf
  | slice vals hB hs hc hr hl hcap hf ih =>
    intro hn
    simp only [Arm.noF] at hn
    exact .slice vals hB hs hc (fun i x j c hi hj => ih i x j c hi hj (noFs_get (noF_cells.2 (noFs_get hn hi)) hj)) (fitsT hl) hcap hf
  | ref h1 hfx hg hs hv => intro hn; simp only [Arm.noF, decide_eq_true_eq] at hn; exact .ref (keep h1 hn) hfx hg hs hv
  | pre h1 hfx hs hv => intro hn; simp only [Arm.noF, decide_eq_true_eq] at hn; exact .pre (keep h1 hn) hfx hs hv
  | func h1 h2 _ _ ih1 ih2 =>
    intro hn
    simp only [Arm.noF, Bool.and_eq_true] at hn
    exact .func h1 h2 (fun i a v ha hv => ih1 i a v ha hv (noFs_get hn.1 ha)) (fun i a v ha hv => ih2 i a v ha hv (noFs_get hn.2 ha))
  | nilfunc => intro _; exact .nilfunc
  | iface _ ih => intro hn; simp only [Arm.noF] at hn; exact .iface (ih hn)
  | niliface => intro _; exact .niliface
  | agg h1 _ ih => intro hn; simp only [Arm.noF] at hn; exact .agg h1 fun i a v ha hv => ih i a v ha hv (noFs_get hn ha)
  | tuple h1 _ ih => intro hn; simp only [Arm.noF] at hn; exact .tuple h1 fun i a v ha hv => ih i a v ha hv (noFs_get hn ha)
  | nilmap => intro _; exact .nilmap
  | map h1 hfx => intro hn; simp only [Arm.noF, decide_eq_true_eq] at hn; exact .map (keep h1 hn) hfx
  | yld h1 hfx => intro hn; simp only [Arm.noF, decide_eq_true_eq] at hn; exact .yld (keep h1 hn) hfx
inductive RenV (m : Nat) (σ : Nat → Option Nat) : AV → AV → Prop
  | old {a : AV} (h : Arm.noF m a = true) : RenV m σ a a
  | ref {b k n : Nat} (h1 : σ b = some k) (h2 : b < m) : RenV m σ (.ref k n) (.ref b n)
  | ptr {b k g i off : Nat} (h1 : σ b = some k) (h2 : b < m) : RenV m σ (.ptr k g i off) (.ptr b g i off)
  | func {f : Fn} {first cap cap' : List AV} (hl : cap'.length = cap.length) (hf : noFs m first = true) (h : ∀ (i : Nat) a a', cap[i]? = some a → cap'[i]? = some a' → RenV m σ a a') : RenV m σ (.func f first cap) (.func f first cap')
def RenX (m : Nat) (σ : Nat → Option Nat) (x x' : AV) : Prop := x.cells.length = x'.cells.length ∧ ∀ (j : Nat) a a', x.cells[j]? = some a → x'.cells[j]? = some a' → RenV m σ a a'
theorem RenV.vr (hd : ∀ c k, σ c = some k → ownr G c = none) {a a' : AV} (hr : RenV m σ a a') : ∀ {v : Value}, VR G w a v → VR (mvG G m σ) w a' v := by
  induction hr with
  | old h1 => intro v h; exact h.move hd h1
  | ref h1 h2 =>
    intro v h
    cases h with
    | ref g1 hfx hg hs hv => exact .ref (by rw [mv_own, if_pos h2, h1]; exact g1) hfx hg hs hv
  | ptr h1 h2 =>
    intro v h
    cases h with
    | ptr g1 hg hs hv => exact .ptr (by rw [mv_own, if_pos h2, h1]; exact g1) hg hs hv
  | func hl hf h ih =>
    rename_i f first cap cap'
    intro v hv
    cases hv with
    | func q1 q2 q3 q4 =>
      rename_i fv cv
      refine .func q1 (by rw [q2, hl]) (fun i a v ha hv => (q3 i a v ha hv).move hd (noFs_get hf ha)) (fun i a' v ha hv => ?_)
      have hlt : i < cap.length := by rw [← hl]; exact (List.getElem?_eq_some_iff.1 ha).1
      exact ih i cap[i] a' (by simp) ha (q4 i cap[i] v (by simp) hv)
theorem BlkOk.move (hd : ∀ c k, σ c = some k → ownr G c = none) {c : Nat} (hc : c < m) (hs : σ c = none) {x : ABlk} (h : BlkOk G w c x) (hn : noFB m x = true) : BlkOk (mvG G m σ) w c x := by
  have ho : ownr (mvG G m σ) c = ownr G c := by rw [mv_own, if_pos hc, hs]
  cases x with
  | dead => exact ho.trans h
  | row wr sz xs =>
    obtain ⟨L, h1, h2, h3, h4, h5, h6, h7, c', e, h8, h9, hv⟩ := h
    simp only [noFB] at hn
    refine ⟨L, ho.trans h1, h2, h3, h4, h5, h6, h7, c', e, h8, h9, fun i x j a hi hj => ?_⟩
    obtain ⟨v, g1, g2⟩ := hv i x j a hi hj
    exact ⟨v, g1, g2.move hd (noFs_get (noF_cells.2 (noFs_get hn hi)) hj)⟩
  | map es =>
    obtain ⟨L, h1, h2, ents, clock, h3, h4, h5⟩ := h
    simp only [noFB, List.all_eq_true, Bool.and_eq_true] at hn
    refine ⟨L, ho.trans h1, h2, ents, clock, h3, h4, fun j e v hj hv => ?_⟩
    have := h5 j e v hj hv
    have h6 := hn e (List.mem_of_getElem? hj)
    exact ⟨this.1.move hd h6.1, this.2.move hd h6.2⟩
  | loop k st frs =>
    obtain ⟨L, h1, h2, r, h3, h4, h5, h6, h7, h8, h9⟩ := h
    simp only [noFB] at hn
    exact ⟨L, ho.trans h1, h2, r, h3, h4, h5, h6, h7, h8, fun j a hj => (h9 j a hj).move hd (noFs_get hn hj)⟩
theorem BlkOk.moveRow (hd : ∀ c k, σ c = some k → ownr G c = none) {c k : Nat} (hc : c < m) (hs : σ c = some k) {wr : Bool} {sz : Nat} {xs xs' : List AV} (h : BlkOk G w k (.row wr sz xs)) (hl : xs'.length = xs.length)
    (hx : ∀ (i : Nat) x x', xs[i]? = some x → xs'[i]? = some x' → RenX m σ x x') : BlkOk (mvG G m σ) w c (.row wr sz xs') := by
  have ho : ownr (mvG G m σ) c = ownr G k := by rw [mv_own, if_pos hc, hs]
  obtain ⟨L, h1, h2, h3, h4, h5, h6, h7, c', e, h8, h9, hv⟩ := h
  have hget : ∀ (i : Nat) x', xs'[i]? = some x' → ∃ x, xs[i]? = some x ∧ RenX m σ x x' := fun i x' hi => by
    have hlt := (List.getElem?_eq_some_iff.1 hi).1
    exact ⟨xs[i], by simp, hx i _ x' (by simp) hi⟩
  refine ⟨L, ho.trans h1, by rw [h2, hl], h3, fun x' hx' => ?_, by rw [hl]; exact h5, h6, by rw [hl]; exact h7, c', e, h8, h9, fun i x' j a' hi hj => ?_⟩
  · obtain ⟨i, hi⟩ := List.mem_iff_getElem?.1 hx'
    obtain ⟨x, hx1, hx2⟩ := hget i x' hi
    rw [← hx2.1]; exact h4 x (List.mem_of_getElem? hx1)
  · obtain ⟨x, hx1, hx2⟩ := hget i x' hi
    have hjl : j < x.cells.length := by rw [hx2.1]; exact (List.getElem?_eq_some_iff.1 hj).1
    obtain ⟨v, g1, g2⟩ := hv i x j x.cells[j] hx1 (by simp)
    exact ⟨v, g1, (hx2.2 j _ a' (by simp) hj).vr hd g2⟩
end
structure Fills (H HJ H' : AH) (r r' : AV) (σ : Nat → Option Nat) : Prop where
  dead : ∀ c k, σ c = some k → c < H.length ∧ H[c]? = some .dead ∧ HJ[c]? = some .dead ∧ H.length ≤ k
  inj : ∀ c c' k, σ c = some k → σ c' = some k → c = c'
  len : H'.length = H.length
  keep : ∀ c, c < H.length → σ c = none → HJ[c]? = H[c]? ∧ H'[c]? = H[c]?
  fill : ∀ c k, σ c = some k → ∃ wr sz xs xs', HJ[k]? = some (.row wr sz xs) ∧ H'[c]? = some (.row wr sz xs') ∧ xs'.length = xs.length ∧ ∀ (i : Nat) x x', xs[i]? = some x → xs'[i]? = some x' → RenX H.length σ x x'
  res : RenV H.length σ r r'
theorem Fills.ok {Γ : Nat → Option (List AV)} {G G' : Gh} {w w' : World} {H HJ H' : AH} {r r' : AV} {σ : Nat → Option Nat} (h : Fills H HJ H' r r' σ) (hI : Inv Γ G w H) (e : Ext G w G' w') (i : Inv Γ G' w' HJ) {u : Value} (hu : VR G' w' r u) :
    ∃ G'', Ext G w G'' w' ∧ Inv Γ G'' w' H' ∧ VR G'' w' r' u := by
  obtain ⟨hd, hi, hl, hk, hf, hr⟩ := h
  have hd' : ∀ c k, σ c = some k → ownr G' c = none := fun c k hs => i.blk c _ (hd c k hs).2.2.1
  have e1 : Ext G w (mvG G' H.length σ) w' := by
    refine ⟨e.os, e.tape, e.output, e.size, e.keep, fun c L hc => ?_, fun c L' hc hlt => ?_⟩
    · obtain ⟨L', h1, h2⟩ := e.own c L hc
      have hc0 := own_lt hc
      rw [hI.len] at hc0
      cases hs : σ c with
      | some k => have := hI.blk c _ (hd c k hs).2.1; rw [show ownr G c = none from this] at hc; cases hc
      | none => exact ⟨L', by rw [mv_own, if_pos hc0, hs]; exact h1, h2⟩
    · rcases (mv_some hc).2 with ⟨k, hs, h1⟩ | ⟨_, h1⟩
      · obtain ⟨L, h2, _⟩ := e.back k L' h1 hlt
        have := own_lt h2
        rw [hI.len] at this
        have := (hd c k hs).2.2.2
        omega
      · exact e.back c L' h1 hlt
  refine ⟨_, e1, ⟨by simp [mvG, hl], fun c x hx => ?_, ?_, fun g cs hg => (hI.glob g cs hg).mono e1⟩, hr.vr hd' hu⟩
  · have hc : c < H.length := by rw [← hl]; exact (List.getElem?_eq_some_iff.1 hx).1
    cases hs : σ c with
    | none =>
      obtain ⟨h1, h2⟩ := hk c hc hs
      rw [h2] at hx
      have hn := (hI.blk c x hx).noF
      rw [hI.len] at hn
      exact (i.blk c x (h1.trans hx)).move hd' hc hs hn
    | some k =>
      obtain ⟨wr, sz, xs, xs', h1, h2, h3, h4⟩ := hf c k hs
      rw [h2] at hx; cases hx
      exact (i.blk k _ h1).moveRow hd' hc hs h3 h4
  · intro c c' L L' h1 h2 h3
    obtain ⟨g0, g1⟩ := mv_some h1
    obtain ⟨q0, q1⟩ := mv_some h2
    rcases g1 with ⟨k, s1, g1⟩ | ⟨s1, g1⟩ <;> rcases q1 with ⟨k', s2, q1⟩ | ⟨s2, q1⟩
    · have := i.inj k k' L L' g1 q1 h3; subst this; exact hi c c' k s1 s2
    · have := i.inj k c' L L' g1 q1 h3; have := (hd c k s1).2.2.2; omega
    · have := i.inj c k' L L' g1 q1 h3; have := (hd c' k' s2).2.2.2; omega
    · exact i.inj c c' L L' g1 q1 h3
theorem Sound.fills {E : Env} {f : FuncId} {args : List AV} {H HJ H' : AH} {r r' : AV} {σ : Nat → Option Nat} (h : Sound E f args H (.ret r) HJ) (hs : Fills H HJ H' r r' σ) : Sound E f args H (.ret r') H' := by
  refine ⟨h.1, fun F n hF G w vs hI hv => (h.2 F n hF G w vs hI hv).mono ?_⟩
  rintro z w1 ⟨G', e, i, hz⟩
  cases z with
  | returned u =>
    obtain ⟨G'', e2, i2, r2⟩ := hs.ok hI e i hz
    exact ⟨G'', e2, i2, r2⟩
  | panicked ch => cases ch <;> exact hz.elim
  | outgrown => exact hz.elim
theorem leavesInM_mono {F : Fence} {n : Nat} {P : Program} {fn : Func} {tmps : Array Value} {R R' : Ending → World → Prop} (hR : ∀ e w, R e w → R' e w) : ∀ (ds : List Deferred) (u : FrameMode) (w : World), LeavesInM F n P fn tmps R ds u w → LeavesInM F n P fn tmps R' ds u w
  | [], u, w, h => by
    simp only [LeavesInM] at h ⊢
    cases u with
    | returning => simp only [LeavesIn] at h ⊢; obtain ⟨v, h1, h2⟩ := h; exact ⟨v, h1, hR _ _ h2⟩
    | panicking ch => simp only [LeavesIn] at h ⊢; exact hR _ _ h
    | run => simp only [LeavesIn] at h
  | d :: ds, u, w, h => by
    refine ⟨h.1, ?_⟩
    rcases h.2 with ⟨r, w', h1, h2, h3⟩ | ⟨h1, fv, cap, f, args, h2, h3, h4, h5⟩
    · exact .inl ⟨r, w', h1, h2, leavesInM_mono hR ds u w' h3⟩
    · refine .inr ⟨h1, fv, cap, f, args, h2, h3, h4, h5.mono fun e u' w' h => ?_⟩
      cases e with
      | returned v => exact leavesInM_mono hR ds _ w' h
      | panicked ch => exact leavesInM_mono hR ds _ w' h
      | outgrown => exact hR _ _ h
theorem bodyPostM_mono {F : Fence} {n : Nat} {P : Program} {fn : Func} {R R' : Ending → World → Prop} (hR : ∀ e w, R e w → R' e w) {x : Exit} {a : Act} {w : World} (h : bodyPostM F n P fn R x a w) : bodyPostM F n P fn R' x a w := by
  cases x with
  | normal => exact leavesInM_mono hR _ _ _ h
  | ret => exact leavesInM_mono hR _ _ _ h
  | panic ch => exact leavesInM_mono hR _ _ _ h
  | outgrown => exact hR _ _ h
  | exit id => exact h
  | goto l => exact h
def bodyX (E : Env) (fn : Func) (H : AH) (r' : AV) (H' : AH) : APost := fun x fr H1 => ∃ r HJ σ, Fills H HJ H' r r' σ ∧ bodyK E fn H (.ret r) HJ x fr H1
theorem soundX_of_awp {E : Env} (hT : TabOk E.P E.T) (hm : E.P.follows .mixedOrders = true) {f : FuncId} {fn : Func} {c : Code} (hf : E.P.funcs[f]? = some fn) (hb : fn.body = some c)
    (hname : (fn.name == "runtime.NumGoroutine") = false) {N : Nat} (hN : fn.ntmps = N) (hok : codeOk N c = true) {args : List AV} {H H' : AH} {r : AV} (hl : args.length ≤ N)
    (h : awp E c (bodyX E fn H r H') (argFr args) H) : Sound E f args H (.ret r) H' := by
  subst hN
  refine ⟨⟨fn, hf, by rw [hb]; rfl, hname⟩, fun F n hF G w vs hI hv => ?_⟩
  have hF' : Wd F.plain := hF
  have hvl : args.length = vs.size := by simpa using hv.1
  refine (callsIn_of_wp_marks (F := F.plain) (n := n) (P := E.P) (f := f) (fn := fn) (c := c) (args := vs) (w := w) hf hb (hF.2 f) ?_ rfl : CallsIn F.plain n E.P f vs w _)
  refine wpIn_mono (awp_soundD hT hF' hm (N := fn.ntmps) (Dk := DefOk w []) ⟨hI.inj, hI.lt⟩ DefOk.mono c _ (argFr args) H G _ w (.inr (mayRange rfl)) hok h (.refl _ _) hI (argFr_ok hv _) (by simp; omega) ⟨[], rfl, by simp, by simp⟩) fun x a w' hp => ?_
  obtain ⟨e', fr, H1, G1, ⟨r0, HJ, σ, hs, hk⟩, hp⟩ := hp
  refine bodyPostM_mono ?_ (body_leaves hT hI (e := .ret r0) (H' := HJ) ⟨e', fr, H1, G1, hk, hp⟩)
  rintro z w1 ⟨G', e, i, hz⟩
  cases z with
  | returned u =>
    obtain ⟨G'', e2, i2, r2⟩ := hs.ok hI e i hz
    exact ⟨G'', e2, i2, r2⟩
  | panicked ch => cases ch <;> exact hz.elim
  | outgrown => exact hz.elim
theorem Sound.after {E : Env} {f : FuncId} {args : List AV} {H HJ H' : AH} {r r' : AV} (h : Sound E f args H (.ret r) HJ) (hl : Leaves H [r] HJ [r'] H') : Sound E f args H (.ret r') H' := by
  refine ⟨h.1, fun F n hF G w vs hI hv => (h.2 F n hF G w vs hI hv).mono ?_⟩
  rintro z w' ⟨G', e, i, hz⟩
  cases z with
  | returned u =>
    obtain ⟨G'', e2, i2, r2⟩ := leaves_ok hI hl e i (VL.nil.cons hz)
    exact ⟨G'', e2, i2, r2.2 0 _ _ rfl rfl⟩
  | panicked ch => cases ch <;> exact hz.elim
  | outgrown => exact hz.elim
end Go.Arm

namespace Go.Proofs.YtfjjckepnkkgjaaGreatDoor.Arm
open Go.Arm Go.Pl
theorem getAt {H J : AH} {b : Nat} : (H ++ J)[H.length + b]? = J[b]? := by rw [List.getElem?_append_right (by omega), Nat.add_sub_cancel_left]
def rowB (q : List I) : ABlk := .row true 2 (q.map iv)
def NewV (z : AV) (s : Nat) (v : AV) (q : List I) : Prop := (q = [] ∧ v = z) ∨ (s = 0 ∧ ∃ p, q = [p] ∧ v = .slice [iv p] true)
def OwnF (z : AV) (tag : Nat → Nat) (B : Nat) (J : AH) (s c : Nat) (v : AV) (q : List I) : Prop := NewV z s v q ∨ ∃ b, v = .ref (B + b) q.length ∧ J[b]? = some (rowB q) ∧ 5 ≤ b ∧ tag b = c
def Fam (z : AV) (tag : Nat → Nat) (B : Nat) (J : AH) (s : Nat) (cells : List AV) (l : List (List I)) : Prop := cells.length = l.length ∧ ∀ (j : Nat) v q, cells[j]? = some v → l[j]? = some q → OwnF z tag B J s (2 * j + s) v q
def updT (tag : Nat → Nat) (b c : Nat) : Nat → Nat := fun i => if i = b then c else tag i
theorem Fam.ext {z : AV} {tag : Nat → Nat} {B s : Nat} {J J' : AH} {cells : List AV} {l : List (List I)} (h : Fam z tag B J s cells l) (hJ : ∀ b y, 5 ≤ b → J[b]? = some y → J'[b]? = some y) : Fam z tag B J' s cells l :=
  ⟨h.1, fun j v q hv hq => (h.2 j v q hv hq).imp id fun ⟨b, h1, h2, h3, h4⟩ => ⟨b, h1, hJ b _ h3 h2, h3, h4⟩⟩
theorem Fam.app {z : AV} {tag : Nat → Nat} {B s : Nat} {J : AH} (K : AH) {cells : List AV} {l : List (List I)} (h : Fam z tag B J s cells l) : Fam z tag B (J ++ K) s cells l := h.ext fun b y _ hb => get_old hb
theorem Fam.set {z : AV} {tag : Nat → Nat} {B s c : Nat} {J : AH} {y : ABlk} {cells : List AV} {l : List (List I)} (h : Fam z tag B J s cells l) (hc : c < 5) : Fam z tag B (J.set c y) s cells l :=
  h.ext fun b z h5 hb => by rw [List.getElem?_set_ne (by omega)]; exact hb
theorem Fam.otherN {z : AV} {tag : Nat → Nat} {B s c : Nat} {J : AH} {y : ABlk} {cells : List AV} {l : List (List I)} (h : Fam z tag B J s cells l) : Fam z (updT tag J.length c) B (J ++ [y]) s cells l :=
  ⟨h.1, fun j v q hv hq => (h.2 j v q hv hq).imp id fun ⟨b, h1, h2, h3, h4⟩ => ⟨b, h1, get_old h2, h3, by have := (List.getElem?_eq_some_iff.1 h2).1; unfold updT; rw [if_neg (by omega)]; exact h4⟩⟩
theorem Fam.otherR {z : AV} {tag : Nat → Nat} {B s c b : Nat} {J : AH} {y : ABlk} {cells : List AV} {l : List (List I)} (h : Fam z tag B J s cells l) (hb : tag b = c) (hc : ∀ j, 2 * j + s ≠ c) : Fam z tag B (J.set b y) s cells l :=
  ⟨h.1, fun j v q hv hq => (h.2 j v q hv hq).imp id fun ⟨b', h1, h2, h3, h4⟩ => ⟨b', h1, by rw [List.getElem?_set_ne (by intro e; subst e; exact hc j (h4.symm.trans hb))]; exact h2, h3, h4⟩⟩
theorem Fam.pushN {z : AV} {tag : Nat → Nat} {B s j : Nat} {J : AH} {cells : List AV} {l : List (List I)} {q : List I} {p : I} (h : Fam z tag B J s cells l) (h5 : 5 ≤ J.length) :
    Fam z (updT tag J.length (2 * j + s)) B (J ++ [rowB (q ++ [p])]) s (cells.set j (.ref (B + J.length) (q.length + 1))) (l.set j (q ++ [p])) := by
  refine ⟨by simpa using h.1, fun i v r hv hr => ?_⟩
  by_cases hij : j = i
  · subst hij
    have h1 := (List.getElem?_eq_some_iff.1 hv).1
    have h2 := (List.getElem?_eq_some_iff.1 hr).1
    simp only [List.length_set] at h1 h2
    rw [List.getElem?_set_self h1] at hv
    rw [List.getElem?_set_self h2] at hr
    cases hv; cases hr
    exact .inr ⟨J.length, by simp, by simp, h5, by simp [updT]⟩
  · rw [List.getElem?_set_ne hij] at hv hr
    exact (Fam.otherN h).2 i v r hv hr
theorem Fam.pushR {z : AV} {tag : Nat → Nat} {B s j b : Nat} {J : AH} {cells : List AV} {l : List (List I)} {q : List I} {p : I} (h : Fam z tag B J s cells l) (hJ : J[b]? = some (rowB q)) (h5 : 5 ≤ b) (ht : tag b = 2 * j + s) :
    Fam z tag B (J.set b (rowB (q ++ [p]))) s (cells.set j (.ref (B + b) (q.length + 1))) (l.set j (q ++ [p])) := by
  refine ⟨by simpa using h.1, fun i v r hv hr => ?_⟩
  by_cases hij : j = i
  · subst hij
    have h1 := (List.getElem?_eq_some_iff.1 hv).1
    have h2 := (List.getElem?_eq_some_iff.1 hr).1
    simp only [List.length_set] at h1 h2
    rw [List.getElem?_set_self h1] at hv
    rw [List.getElem?_set_self h2] at hr
    cases hv; cases hr
    exact .inr ⟨b, by simp, set_get hJ, h5, ht⟩
  · rw [List.getElem?_set_ne hij] at hv hr
    refine (h.2 i v r hv hr).imp id fun ⟨b', g1, g2, g3, g4⟩ => ⟨b', g1, ?_, g3, g4⟩
    rw [List.getElem?_set_ne (by intro e; subst e; omega)]; exact g2
theorem Fam.rows {z : AV} {tag : Nat → Nat} {L : Nat} {H J : AH} {cells : List AV} {l : List (List I)} (h : Fam z tag H.length J 1 cells l) (hL : (H ++ J)[L]? = some (.row true 1 cells)) (hz : z = .nilslice ∨ z = .slice [] true) : RowsAt (H ++ J) L cells l := by
  refine ⟨hL, h.1, fun j v q hv hq => ?_⟩
  rcases h.2 j v q hv hq with (⟨h0, h1⟩ | ⟨h1, _⟩) | ⟨b, h1, h2, _, _⟩
  · exact .inl ⟨h0, by rw [h1]; exact hz⟩
  · cases h1
  · exact .inr ⟨H.length + b, true, h1, by rw [getAt]; exact h2⟩
theorem Fam.own {z : AV} {tag : Nat → Nat} {H J : AH} {j : Nat} {v : AV} {q : List I} {cells : List AV} {l : List (List I)} (h : Fam z tag H.length J 1 cells l) (hv : cells[j]? = some v) (hq : l[j]? = some q) (hz : z = .nilslice ∨ z = .slice [] true) : Own (H ++ J) v q := by
  rcases h.2 j v q hv hq with (⟨h0, h1⟩ | ⟨h1, _⟩) | ⟨b, h1, h2, _, _⟩
  · exact .inl ⟨h0, by rw [h1]; exact hz⟩
  · cases h1
  · exact .inr ⟨H.length + b, true, h1, by rw [getAt]; exact h2⟩
theorem app_new0 {H : AH} {p : I} {f : Bool} {v : AV} (h : v = .nilslice ∨ v = .slice [] true) : appendA tab H 26 v (.slice [iv p] f) = some (.ref H.length 1, H ++ [rowB ([] ++ [p])]) := by
  rcases h with rfl | rfl <;> simp [appendA, els, growA, growNew, okc, rowB]
theorem app_new1 {H : AH} {p a : I} {f : Bool} : appendA tab H 26 (.slice [iv a] true) (.slice [iv p] f) = some (.ref H.length 2, H ++ [rowB ([a] ++ [p])]) := by
  simp [appendA, els, growA, growNew, okc, rowB]
theorem app_rowB {H : AH} {p : I} {q : List I} {b : Nat} {f : Bool} (hn : q.length ≤ 1000000) (hH : H[b]? = some (rowB q)) : appendA tab H 26 (.ref b q.length) (.slice [iv p] f) = some (.ref b (q.length + 1), H.set b (rowB (q ++ [p]))) := by
  have := app_iv (H := H) (p := p) (l := q.map iv) (b := b) (n := q.length) (f := f) (by simp) (by omega) hH
  rw [this]
  simp [rowB]
theorem callD_rdA {g : FuncId} {captured args : List AV} {next : NxD} {H : AH} {r : AV} (h : ∀ X : AH, Sound E g (args ++ captured) (H ++ X) (.ret r) (H ++ X))
    (kk : next .go r ⟨List.range H.length, [], none, true⟩ H) : callD E (.func (.func g) [] captured) args next H := by
  refine callD_rdc (List.range H.length) (fun c hc => List.mem_range.1 hc) (fun Hx hx => ?_) kk
  have hle : H.length ≤ Hx.length := by
    rcases Nat.lt_or_ge Hx.length H.length with h | h
    · have := hx Hx.length (List.mem_range.2 h)
      rw [List.getElem?_eq_none (Nat.le_refl _)] at this
      rw [List.getElem?_eq_getElem h] at this
      cases this
    · exact h
  have e : Hx = H ++ Hx.drop H.length := by
    apply List.ext_getElem?
    intro c
    by_cases hc : c < H.length
    · rw [List.getElem?_append_left hc]; exact hx c (List.mem_range.2 hc)
    · rw [List.getElem?_append_right (by omega), List.getElem?_drop]
      congr 1; omega
  rw [e]; exact h _
theorem callD_all {g : FuncId} {captured args : List AV} {next : NxD} {H K : AH} {r : AV} (hl : K.length = H.length) (h : ∀ X : AH, Sound E g (args ++ captured) (H ++ X) (.ret r) (K ++ X))
    (kk : next .go r ⟨List.range H.length, allUps K H.length, none, true⟩ K) : callD E (.func (.func g) [] captured) args next H := by
  refine ⟨r, List.range H.length, allUps K H.length, ⟨fun c hc => List.mem_range.1 hc, fun p hp => ?_, fun Hx hx => ?_⟩, ?_⟩
  · unfold allUps at hp
    obtain ⟨i, hi, rfl⟩ := List.mem_map.1 hp
    exact hi
  · have hle : H.length ≤ Hx.length := by
      rcases Nat.lt_or_ge Hx.length H.length with h | h
      · have := hx Hx.length (List.mem_range.2 h)
        rw [List.getElem?_eq_none (Nat.le_refl _)] at this
        rw [List.getElem?_eq_getElem h] at this
        cases this
      · exact h
    have e : Hx = H ++ Hx.drop H.length := by
      apply List.ext_getElem?
      intro c
      by_cases hc : c < H.length
      · rw [List.getElem?_append_left hc]; exact hx c (List.mem_range.2 hc)
      · rw [List.getElem?_append_right (by omega), List.getElem?_drop]
        congr 1; omega
    rw [e, applyUps_all hl]
    exact .inl (by rw [List.nil_append]; exact h _)
  · have := applyUps_all (X := []) hl
    rw [List.append_nil, List.append_nil] at this
    rw [this]
    exact kk
def refsN (p : Nat) (l : List (List I)) : List AV := (List.range l.length).map fun j : Nat => .ref (p + 1 + j) (rowN l (j : Int)).length
theorem rowB_noF (m : Nat) (q : List I) : ∀ x ∈ q.map iv, noF m x = true := fun x hx => by obtain ⟨y, _, rfl⟩ := List.mem_map.1 hx; simp [noF, noFs]
theorem fam_fills {z : AV} {tag : Nat → Nat} {H J H' : AH} {c0 p : Nat} {co : List AV} {l : List (List I)} (hF : Fam z tag H.length J 0 co l) (h3 : J[c0]? = some (.row true 1 co)) (hc0 : c0 < 5) (h2 : ∀ q ∈ l, 2 ≤ q.length)
    (hd : ∀ j, j ≤ l.length → H[p + j]? = some .dead) (hlen : H'.length = H.length) (g1 : H'[p]? = some (.row true 1 (refsN p l))) (g2 : ∀ (j : Nat) q, l[j]? = some q → H'[p + 1 + j]? = some (rowB q)) (g3 : ∀ c, c < H.length → (c < p ∨ p + l.length < c) → H'[c]? = H[c]?) :
    ∃ σ, Fills H (H ++ J) H' (.ref (H.length + c0) l.length) (.ref p l.length) σ := by
  have hb : ∀ j : Nat, ∃ b, ∀ q, l[j]? = some q → co[j]? = some (.ref (H.length + b) q.length) ∧ J[b]? = some (rowB q) ∧ 5 ≤ b ∧ tag b = 2 * j := by
    intro j
    cases hq : l[j]? with
    | none => exact ⟨0, fun q h => by cases h⟩
    | some q =>
      have hlt := (List.getElem?_eq_some_iff.1 hq).1
      have hv : co[j]? = some (co[j]'(by rw [hF.1]; exact hlt)) := by simp
      have hm := h2 q (List.mem_of_getElem? hq)
      rcases hF.2 j _ q hv hq with (⟨h1, _⟩ | ⟨_, a, h1, _⟩) | ⟨b, h1, h4, h5, h6⟩
      · rw [h1] at hm; simp at hm
      · rw [h1] at hm; simp at hm
      · refine ⟨b, fun q' hq' => ?_⟩
        cases hq'
        exact ⟨by rw [hv, h1], h4, h5, by simpa using h6⟩
  let β : Nat → Nat := fun j => Classical.choose (hb j)
  have hβ : ∀ j q, l[j]? = some q → co[j]? = some (.ref (H.length + β j) q.length) ∧ J[β j]? = some (rowB q) ∧ 5 ≤ β j ∧ tag (β j) = 2 * j := fun j => Classical.choose_spec (hb j)
  have hβ' : ∀ j, j < l.length → J[β j]? = some (rowB l[j]!) ∧ 5 ≤ β j ∧ tag (β j) = 2 * j := fun j hj => by
    have := hβ j l[j] (by simp [hj])
    exact ⟨by rw [this.2.1]; simp [hj], this.2.2⟩
  refine ⟨fun c => if c = p then some (H.length + c0) else if p < c ∧ c ≤ p + l.length then some (H.length + β (c - p - 1)) else none, ?_⟩
  have hpl : ∀ j, j ≤ l.length → p + j < H.length := fun j hj => (List.getElem?_eq_some_iff.1 (hd j hj)).1
  have hcas : ∀ c k, (if c = p then some (H.length + c0) else if p < c ∧ c ≤ p + l.length then some (H.length + β (c - p - 1)) else none) = some k → (c = p ∧ k = H.length + c0) ∨ ∃ j, j < l.length ∧ c = p + 1 + j ∧ k = H.length + β j := by
    intro c k h
    split at h
    · rename_i e; cases h; exact .inl ⟨e, rfl⟩
    · split at h
      · rename_i e; cases h; exact .inr ⟨c - p - 1, by omega, by omega, rfl⟩
      · cases h
  refine ⟨?_, ?_, hlen, ?_, ?_, ?_⟩
  · intro c k h
    rcases hcas c k h with ⟨rfl, rfl⟩ | ⟨j, hj, rfl, rfl⟩
    · have h0 := hd 0 (by omega)
      exact ⟨hpl 0 (by omega), h0, get_old h0, by omega⟩
    · have h0 := hd (1 + j) (by omega)
      have e : p + (1 + j) = p + 1 + j := by omega
      rw [e] at h0
      exact ⟨(List.getElem?_eq_some_iff.1 h0).1, h0, get_old h0, by omega⟩
  · intro c c' k h h'
    rcases hcas c k h with ⟨rfl, rfl⟩ | ⟨j, hj, rfl, rfl⟩ <;> rcases hcas c' _ h' with ⟨h4, h5⟩ | ⟨j', hj', h4, h5⟩
    · exact h4.symm
    · have := (hβ' j' hj').2.1; omega
    · have := (hβ' j hj).2.1; omega
    · have e1 := (hβ' j hj).2.2
      have e2 := (hβ' j' hj').2.2
      have : β j = β j' := by omega
      rw [this] at e1
      omega
  · intro c hc h
    have hn : c < p ∨ p + l.length < c := by
      split at h
      · cases h
      · split at h
        · cases h
        · omega
    exact ⟨List.getElem?_append_left hc, g3 c hc hn⟩
  · intro c k h
    rcases hcas c k h with ⟨rfl, rfl⟩ | ⟨j, hj, rfl, rfl⟩
    · refine ⟨true, 1, co, refsN c l, by rw [getAt]; exact h3, g1, by simp [refsN, hF.1], fun i x x' hx hx' => ?_⟩
      have hlt : i < l.length := by rw [← hF.1]; exact (List.getElem?_eq_some_iff.1 hx).1
      have hq : l[i]? = some l[i] := by simp
      obtain ⟨e1, _, e3, _⟩ := hβ i _ hq
      rw [hx] at e1; cases e1
      have e2 : (refsN c l)[i]? = some (.ref (c + 1 + i) l[i].length) := by simp [refsN, hlt, rowN]
      rw [hx'] at e2; cases e2
      refine ⟨rfl, fun j a a' ha ha' => ?_⟩
      have hj0 : j = 0 := by have := (List.getElem?_eq_some_iff.1 ha).1; simp [AV.cells] at this; omega
      subst hj0
      simp [AV.cells] at ha ha'
      subst ha; subst ha'
      refine .ref (b := c + 1 + i) (k := H.length + β i) ?_ (by have := hpl (1 + i) (by omega); omega)
      rw [if_neg (by omega), if_pos (by omega), show c + 1 + i - c - 1 = i by omega]
    · have hq : l[j]? = some l[j] := by simp
      obtain ⟨_, e2, _, _⟩ := hβ j _ hq
      refine ⟨true, 2, l[j].map iv, l[j].map iv, by rw [getAt]; exact e2, g2 j _ hq, rfl, fun i x x' hx hx' => ?_⟩
      rw [hx] at hx'; cases hx'
      refine ⟨rfl, fun i a a' ha ha' => ?_⟩
      rw [ha] at ha'; cases ha'
      have := rowB_noF H.length l[j] x (List.mem_of_getElem? hx)
      exact .old (noFs_get (noF_cells.2 this) ha)
  · exact .ref (b := p) (k := H.length + c0) (by rw [if_pos rfl]) (hpl 0 (by omega))
end Go.Proofs.YtfjjckepnkkgjaaGreatDoor.Arm

namespace Go.Proofs.YtfjjckepnkkgjaaGreatDoor.Arm
open Go.Arm Go.Pl
def inC (x : List I) (n i : Nat) : List AV := (List.range n).map fun j => if j < i then .slice [iv (atN x j)] true else .nilslice
theorem inC_zero (x : List I) (n : Nat) : inC x n 0 = List.replicate n .nilslice := by
  unfold inC
  apply List.ext_getElem
  · simp
  · intro i h1 h2; simp
theorem inC_len (x : List I) (n i : Nat) : (inC x n i).length = n := by simp [inC]
theorem inC_get {x : List I} {n i j : Nat} (h : j < n) : (inC x n i)[j]? = some (if j < i then .slice [iv (atN x j)] true else .nilslice) := by
  unfold inC
  rw [List.getElem?_map, List.getElem?_range h]; rfl
theorem inC_set {x : List I} {n i : Nat} (h : i < n) : (inC x n i).set i (.slice [iv (atN x i)] true) = inC x n (i + 1) := by
  apply List.ext_getElem?
  intro j
  by_cases hj : j < n
  · by_cases hij : i = j
    · subst hij
      rw [List.getElem?_set_self (by rw [inC_len]; exact h), inC_get h, if_pos (by omega)]
    · rw [List.getElem?_set_ne hij, inC_get hj, inC_get hj]
      by_cases h1 : j < i
      · rw [if_pos h1, if_pos (by omega)]
      · rw [if_neg h1, if_neg (by omega)]
  · rw [List.getElem?_eq_none (by rw [List.length_set, inC_len]; omega), List.getElem?_eq_none (by rw [inC_len]; omega)]
theorem fam_out0 {z : AV} {tag : Nat → Nat} {B : Nat} {J : AH} (x : List I) (n : Nat) : Fam z tag B J 0 (inC x n n) ((List.range n).map fun i => [atN x i]) := by
  refine ⟨by simp [inC], fun j v q hv hq => .inl (.inr ⟨rfl, atN x j, ?_⟩)⟩
  have hj : j < n := by have := (List.getElem?_eq_some_iff.1 hq).1; simpa using this
  rw [inC_get hj, if_pos hj] at hv
  rw [List.getElem?_map, List.getElem?_range hj] at hq
  cases hv; cases hq
  exact ⟨rfl, rfl⟩
theorem fam_l0 {z : AV} {tag : Nat → Nat} {B : Nat} {J : AH} (m : Nat) : Fam z tag B J 1 (List.replicate m z) (List.replicate m []) := by
  refine ⟨by simp, fun j u q hu hq => .inl (.inl ⟨List.eq_of_mem_replicate (List.mem_of_getElem? hq), ?_⟩)⟩
  exact List.eq_of_mem_replicate (List.mem_of_getElem? hu)
structure MemX (z : AV) (T : Tp) (t : I) (B : Nat) (J : AH) (tag : Nat → Nat) (co cl : List AV) (out l : List (List I)) : Prop where
  h0 : J[0]? = some (.row true 9 [algA])
  h1 : J[1]? = some (.row true 3 [tpA T])
  h2 : J[2]? = some (.row true 2 [iv t])
  h3 : J[3]? = some (.row true 1 co)
  h4 : J[4]? = some (.row true 1 cl)
  ho : Fam z tag B J 0 co out
  hl : Fam z tag B J 1 cl l
theorem MemX.len {z : AV} {T : Tp} {t : I} {B : Nat} {J : AH} {tag : Nat → Nat} {co cl : List AV} {out l : List (List I)} (h : MemX z T t B J tag co cl out l) : 5 ≤ J.length := (List.getElem?_eq_some_iff.1 h.h4).1
theorem MemX.app {z : AV} {T : Tp} {t : I} {B : Nat} {J : AH} {tag : Nat → Nat} {co cl : List AV} {out l : List (List I)} (h : MemX z T t B J tag co cl out l) (K : AH) : MemX z T t B (J ++ K) tag co cl out l :=
  ⟨get_old h.h0, get_old h.h1, get_old h.h2, get_old h.h3, get_old h.h4, h.ho.app K, h.hl.app K⟩
theorem MemX.lN {z : AV} {T : Tp} {t : I} {B i : Nat} {J : AH} {tag : Nat → Nat} {co cl : List AV} {out l : List (List I)} {q : List I} {p : I} (h : MemX z T t B J tag co cl out l) :
    MemX z T t B ((J ++ [rowB (q ++ [p])]).set 4 (.row true 1 (cl.set i (.ref (B + J.length) (q.length + 1))))) (updT tag J.length (2 * i + 1)) co (cl.set i (.ref (B + J.length) (q.length + 1))) out (l.set i (q ++ [p])) := by
  have hJ := h.len
  refine ⟨?_, ?_, ?_, ?_, ?_, ?_, ?_⟩
  · rw [List.getElem?_set_ne (by omega)]; exact get_old h.h0
  · rw [List.getElem?_set_ne (by omega)]; exact get_old h.h1
  · rw [List.getElem?_set_ne (by omega)]; exact get_old h.h2
  · rw [List.getElem?_set_ne (by omega)]; exact get_old h.h3
  · rw [List.getElem?_set_self (by simp; omega)]
  · exact h.ho.otherN.set (by omega)
  · exact (h.hl.pushN (by omega)).set (by omega)
theorem MemX.lR {z : AV} {T : Tp} {t : I} {B i b : Nat} {J : AH} {tag : Nat → Nat} {co cl : List AV} {out l : List (List I)} {q : List I} {p : I} (h : MemX z T t B J tag co cl out l) (hb : J[b]? = some (rowB q)) (h5 : 5 ≤ b) (ht : tag b = 2 * i + 1) :
    MemX z T t B ((J.set b (rowB (q ++ [p]))).set 4 (.row true 1 (cl.set i (.ref (B + b) (q.length + 1))))) tag co (cl.set i (.ref (B + b) (q.length + 1))) out (l.set i (q ++ [p])) := by
  have hJ := h.len
  refine ⟨?_, ?_, ?_, ?_, ?_, ?_, ?_⟩
  · rw [List.getElem?_set_ne (by omega), List.getElem?_set_ne (by omega)]; exact h.h0
  · rw [List.getElem?_set_ne (by omega), List.getElem?_set_ne (by omega)]; exact h.h1
  · rw [List.getElem?_set_ne (by omega), List.getElem?_set_ne (by omega)]; exact h.h2
  · rw [List.getElem?_set_ne (by omega), List.getElem?_set_ne (by omega)]; exact h.h3
  · rw [List.getElem?_set_self (by simp; omega)]
  · exact (h.ho.otherR ht (fun j => by omega)).set (by omega)
  · exact (h.hl.pushR hb h5 ht).set (by omega)
theorem MemX.oN {z : AV} {T : Tp} {t : I} {B i : Nat} {J : AH} {tag : Nat → Nat} {co cl : List AV} {out l : List (List I)} {q : List I} {p : I} (h : MemX z T t B J tag co cl out l) :
    MemX z T t B ((J ++ [rowB (q ++ [p])]).set 3 (.row true 1 (co.set i (.ref (B + J.length) (q.length + 1))))) (updT tag J.length (2 * i + 0)) (co.set i (.ref (B + J.length) (q.length + 1))) cl (out.set i (q ++ [p])) l := by
  have hJ := h.len
  refine ⟨?_, ?_, ?_, ?_, ?_, ?_, ?_⟩
  · rw [List.getElem?_set_ne (by omega)]; exact get_old h.h0
  · rw [List.getElem?_set_ne (by omega)]; exact get_old h.h1
  · rw [List.getElem?_set_ne (by omega)]; exact get_old h.h2
  · rw [List.getElem?_set_self (by simp; omega)]
  · rw [List.getElem?_set_ne (by omega)]; exact get_old h.h4
  · exact (h.ho.pushN (by omega)).set (by omega)
  · exact h.hl.otherN.set (by omega)
theorem MemX.oR {z : AV} {T : Tp} {t : I} {B i b : Nat} {J : AH} {tag : Nat → Nat} {co cl : List AV} {out l : List (List I)} {q : List I} {p : I} (h : MemX z T t B J tag co cl out l) (hb : J[b]? = some (rowB q)) (h5 : 5 ≤ b) (ht : tag b = 2 * i + 0) :
    MemX z T t B ((J.set b (rowB (q ++ [p]))).set 3 (.row true 1 (co.set i (.ref (B + b) (q.length + 1))))) tag (co.set i (.ref (B + b) (q.length + 1))) cl (out.set i (q ++ [p])) l := by
  have hJ := h.len
  refine ⟨?_, ?_, ?_, ?_, ?_, ?_, ?_⟩
  · rw [List.getElem?_set_ne (by omega), List.getElem?_set_ne (by omega)]; exact h.h0
  · rw [List.getElem?_set_ne (by omega), List.getElem?_set_ne (by omega)]; exact h.h1
  · rw [List.getElem?_set_ne (by omega), List.getElem?_set_ne (by omega)]; exact h.h2
  · rw [List.getElem?_set_self (by simp; omega)]
  · rw [List.getElem?_set_ne (by omega), List.getElem?_set_ne (by omega)]; exact h.h4
  · exact (h.ho.pushR hb h5 ht).set (by omega)
  · exact (h.hl.otherR ht (fun j => by omega)).set (by omega)
end Go.Proofs.YtfjjckepnkkgjaaGreatDoor.Arm

namespace Go.Proofs.YtfjjckepnkkgjaaGreatDoor.Arm
open Go.Arm Go.Pl
def fK (H : AH) (n m order k : Nat) (fr : AFr) : Prop := fr 5 = .ptr H.length 1 0 0 ∧ fr 6 = .ptr (H.length + 1) 1 0 0 ∧ fr 8 = .ptr (H.length + 2) 1 0 0 ∧ fr 11 = .ref (H.length + 3) n ∧ fr 12 = .ref (H.length + 4) m ∧ fr 40 = .int .i64 order ∧ fr 41 = .int .i64 k ∧ k ≤ order
def SxK (T : Tp) (x : List I) (t : I) (order : Nat) (H : AH) (k : Nat) (fr : AFr) (H' : AH) : Prop :=
  fK H T.n T.L.length order k fr ∧ ∃ J tag co cl, H' = H ++ J ∧ MemX .nilslice T t H.length J tag co cl (expS T x t k).2 (expS T x t k).1
def SxL (T : Tp) (x : List I) (t : I) (order : Nat) (H : AH) (k i : Nat) (fr : AFr) (H' : AH) : Prop :=
  fK H T.n T.L.length order k fr ∧ fr 14 = .int .i64 k ∧ fr 45 = .slice (T.L.map insA) false ∧ fr 46 = .int .i64 T.L.length ∧ fr 47 = .int .i64 i ∧ i ≤ T.L.length ∧
  ∃ J tag co cl, H' = H ++ J ∧ MemX .nilslice T t H.length J tag co cl (expS T x t k).2 (stepL T.L (expS T x t k).2 t k (expS T x t k).1 i)
def SxO (T : Tp) (x : List I) (t : I) (order : Nat) (H : AH) (k i : Nat) (fr : AFr) (H' : AH) : Prop :=
  fK H T.n T.L.length order k fr ∧ fr 14 = .int .i64 k ∧ fr 92 = outA T.out ∧ fr 93 = .int .i64 T.out.length ∧ fr 94 = .int .i64 i ∧ i ≤ T.out.length ∧
  ∃ J tag co cl, H' = H ++ J ∧ MemX .nilslice T t H.length J tag co cl (stepO T (expS T x t (k + 1)).1 k (expS T x t k).2 i) (expS T x t (k + 1)).1
def SxI (T : Tp) (x : List I) (t : I) (order : Nat) (H : AH) (i : Nat) (fr : AFr) (H' : AH) : Prop :=
  fr 2 = bx x ∧ fr 4 = .int .i64 order ∧ fr 5 = .ptr H.length 1 0 0 ∧ fr 6 = .ptr (H.length + 1) 1 0 0 ∧ fr 8 = .ptr (H.length + 2) 1 0 0 ∧ fr 11 = .ref (H.length + 3) T.n ∧ fr 12 = .ref (H.length + 4) T.L.length ∧ fr 27 = .int .i64 T.n ∧ fr 28 = .int .i64 i ∧ i ≤ T.n ∧
  H' = H ++ [.row true 9 [algA], .row true 3 [tpA T], .row true 2 [iv t], .row true 1 (inC x T.n i), .row true 1 (List.replicate T.L.length .nilslice)]
set_option maxHeartbeats 4000000 in
theorem sExpand (T : Tp) (x : List I) (t : I) (order : Nat) (hT : tpOk T) (hx : allV x) (hxn : x.length = T.n) (ht : vB t = true) (ho : 1 ≤ order ∧ order ≤ 1000) (H H' : AH) (p : Nat)
    (hd : ∀ j, j ≤ T.n → H[p + j]? = some .dead) (hlen : H'.length = H.length) (g1 : H'[p]? = some (.row true 1 (refsN p (coefS T x t order)))) (g2 : ∀ (j : Nat) q, (coefS T x t order)[j]? = some q → H'[p + 1 + j]? = some (rowB q)) (g3 : ∀ c, c < H.length → (c < p ∨ p + T.n < c) → H'[c]? = H[c]?) :
    Sound E 167 [algA, tpA T, bx x, iv t, .int .i64 order] H (.ret (.ref p T.n)) H' := by
  refine soundX_of_awp tabOk mixed Tryz.func167 rfl (by rfl) Tryz.ntmps167 (by kernel_rfl) (by simp) ?_
  have hsm := hT.small
  simp [tpA, algA, fnA]
  refine bind_if (by omega) ?_
  simp
  refine bind_if (by omega) ?_
  simp
  refine endD [] (by rfl) (by simp [okW, note, Eff.triv, Eff.wr, Eff.none, upTo, newAt]) ?_
  simp
  refine loop_count (SxI T x t order H) (fun i => T.n - i) 0 ⟨by simp, by simp, by simp, by simp, by simp, by simp [bx], by simp, by simp, by simp, by omega, by rw [inC_zero]; simp [algA, tpA, fnA]⟩ ?_
  rintro i fr H1 ⟨f2, f4, f5, f6, f8, f11, f12, f27, f28, hi, rfl⟩
  simp [f27, f28]
  refine branch (fun hc => ?_) (fun hc => ?_)
  · have hlt : i < T.n := by simpa using hc
    obtain ⟨q, hq⟩ := get_lt (l := x) (i := i) (by omega)
    have hqE : ∀ h, x[i]'h = q := fun h => (List.getElem?_eq_some_iff.1 hq).2
    have hqa : atN x i = q := by simp [atN, hq]
    have w2 : IntKind.i64.wrap ((i : Int) + 1) = ((i + 1 : Nat) : Int) := by rw [wrap64 (by omega) (by omega)]; omega
    have hs := inC_set (x := x) hlt
    have hl := inC_len x T.n i
    have hg := inC_get (x := x) (i := i) hlt
    rw [if_neg (by omega)] at hg
    have hgE : ∀ h, (inC x T.n i)[i]'h = .nilslice := fun h => (List.getElem?_eq_some_iff.1 hg).2
    rw [hqa] at hs
    simp only [iv_eq] at hs
    simp [f2, f11, f12, f28, bx, hq, hqE, hl, hlt, hg, hgE, hs, w2]
    exact ⟨i + 1, by show T.n - (i + 1) < T.n - i; omega, by simp [f2, bx], by simp [f4], by simp [f5], by simp [f6], by simp [f8], by simp [f11], by simp [f12], by simp [f27], by simp, by omega, by simp⟩
  · have hin : i = T.n := by have : ¬ i < T.n := by simpa using hc
                             omega
    subst hin
    simp [f4]
    refine loop_count (SxK T x t order H) (fun k => order - k) 0 ⟨⟨by simp [f5], by simp [f6], by simp [f8], by simp [f11], by simp [f12], by simp, by simp, by omega⟩, _, fun _ => 0, _, _, rfl, ⟨rfl, rfl, rfl, rfl, rfl, fam_out0 x T.n, fam_l0 _⟩⟩ ?_
    clear f2 f4 f5 f6 f8 f11 f12 f27 f28
    rintro k fr H1 ⟨⟨f5, f6, f8, f11, f12, f40, f41, hk⟩, J, tag, co, cl, rfl, hM⟩
    have hJl := hM.len
    have h1 := hM.h1
    simp only [tpA] at h1
    simp [f40, f41]
    refine branch (fun hc => ?_) (fun hc => ?_)
    · have hklt : k < order := by simpa using hc
      simp [f6, h1]
      have wk : IntKind.i64.wrap ((k : Int) + 1) = ((k + 1 : Nat) : Int) := by rw [wrap64 (by omega) (by omega)]; omega
      refine loop_count (SxL T x t order H k) (fun i => T.L.length - i) 0 ⟨⟨by simp [f5], by simp [f6], by simp [f8], by simp [f11], by simp [f12], by simp [f40], by simp [f41], by omega⟩, by simp [f41], by simp, by simp, by simp, by omega, J, tag, co, cl, rfl, hM⟩ ?_
      clear f5 f6 f8 f11 f12 f40 f41 hM h1 hJl
      clear J tag co cl
      rintro i fr H1 ⟨⟨f5, f6, f8, f11, f12, f40, f41, _⟩, f14, f45, f46, f47, hi, J, tag, co, cl, rfl, hM⟩
      have hJl := hM.len
      simp [f46, f47]
      obtain ⟨e1, e2⟩ := expS_ok hT hx ht k
      have hrl := stepL_ok hT ht e1 e2.val i hi
      refine branch (fun hc => ?_) (fun hc => ?_)
      · have hlt : i < T.L.length := by simpa using hc
        obtain ⟨y, hy⟩ := get_lt hlt
        have hyE : ∀ h, T.L[i]'h = y := fun h => (List.getElem?_eq_some_iff.1 hy).2
        have hins := hT.ins i y hy
        have w2 : IntKind.i64.wrap ((i : Int) + 1) = ((i + 1 : Nat) : Int) := by rw [wrap64 (by omega) (by omega)]; omega
        have hnext := stepL_succ (out := (expS T x t k).2) (l := (expS T x t k).1) (t := t) (k := k) hy
        have hfin : ∀ (J' : AH) (tag' : Nat → Nat) (co' cl' : List AV), MemX .nilslice T t H.length J' tag' co' cl' (expS T x t k).2 (stepL T.L (expS T x t k).2 t k (expS T x t k).1 (i + 1)) → ∀ fr' : AFr, fK H T.n T.L.length order k fr' → fr' 14 = .int .i64 k → fr' 45 = .slice (T.L.map insA) false → fr' 46 = .int .i64 T.L.length → fr' 47 = .int .i64 (i + 1 : Nat) → Again (SxL T x t order H k) (fun i => T.L.length - i) i fr' (H ++ J') :=
          fun J' tag' co' cl' hM' fr' g1 g2 g3 g4 g5 => ⟨i + 1, by show T.L.length - (i + 1) < T.L.length - i; omega, g1, g2, g3, g4, g5, by omega, J', tag', co', cl', rfl, hM'⟩
        generalize hL : stepL T.L (expS T x t k).2 t k (expS T x t k).1 i = l at *
        generalize hO : (expS T x t k).2 = out at *
        rw [hnext] at hfin
        have hil : i < l.length := by rw [hrl.len]; exact hlt
        obtain ⟨q, hq⟩ := get_lt hil
        have hqr : rowN l (i : Int) = q := rowN_get hq
        have hqk : q.length = k := by have := hrl.row i hlt; rw [hqr, if_neg (by omega)] at this; exact this
        obtain ⟨v, hv⟩ := get_lt (l := cl) (i := i) (by rw [hM.hl.1]; exact hil)
        have hvE : ∀ h, cl[i]'h = v := fun h => (List.getElem?_eq_some_iff.1 hv).2
        have hcll : cl.length = T.L.length := by rw [hM.hl.1, hrl.len]
        obtain ⟨o, a, b, c⟩ := y
        simp [f45, f47, hy, hyE, insA]
        have hM2 := hM.app [.row true 5 [.agg [.int .i64 o, .int .i64 a, .int .i64 b, .int .i64 c.1, .int .i64 c.2]]]
        have h16 : (J ++ [ABlk.row true 5 [.agg [.int .i64 o, .int .i64 a, .int .i64 b, .int .i64 c.1, .int .i64 c.2]]])[J.length]? = some (.row true 5 [.agg [.int .i64 o, .int .i64 a, .int .i64 b, .int .i64 c.1, .int .i64 c.2]]) := by simp
        generalize hJ2 : J ++ [ABlk.row true 5 [.agg [.int .i64 o, .int .i64 a, .int .i64 b, .int .i64 c.1, .int .i64 c.2]]] = J2 at *
        have hJ2l := hM2.len
        have hJ2n : J2 ≠ [] := by rintro rfl; simp at hJ2l
        have hJ2J : J2.length = J.length + 1 := by rw [← hJ2]; simp
        have m2 := hM2.h2
        have m3 := hM2.h3
        have m4 := hM2.h4
        simp only [iv_eq] at m2
        refine branch (fun ho2 => ?_) (fun ho2 => ?_)
        · have ho2 : o = 2 := by simpa using ho2
          subst ho2
          have hins : 0 ≤ a ∧ a < T.n := by rcases hins with h | h | h | h | h <;> simp only at h <;> omega
          obtain ⟨ka, rfl⟩ : ∃ ka : Nat, a = ka := ⟨a.toNat, by omega⟩
          obtain ⟨r, hr⟩ := get_lt (l := out) (i := ka) (by rw [e2.len]; omega)
          have hrr : rowN out (ka : Int) = r := rowN_get hr
          have hrk : r.length = k + 1 := by have := e2.row ka (by omega); rw [hrr, if_neg (by omega)] at this; exact this
          obtain ⟨u, hu⟩ := get_lt (l := co) (i := ka) (by rw [hM.ho.1, e2.len]; omega)
          have huE : ∀ h, co[ka]'h = u := fun h => (List.getElem?_eq_some_iff.1 hu).2
          have hcol : co.length = T.n := by rw [hM.ho.1, e2.len]
          obtain ⟨z, hz⟩ := get_lt (l := r) (i := k) (by omega)
          have hzE : ∀ h, r[k]'h = z := fun h => (List.getElem?_eq_some_iff.1 hz).2
          have hcv : coefV ⟨2, ka, b, c⟩ out l t k i = z := by simp [coefV, hrr, atN, hz]
          rw [hcv, hqr] at hfin
          have hka : ka < T.n := by omega
          have hkk : (k : Int) < (k : Int) + 1 := by omega
          have hkn : k < k + 1 := by omega
          have hoF := hM2.ho.2 ka u r hu hr
          have hlF := hM2.hl.2 i v q hv hq
          rcases hoF with (⟨h0, _⟩ | ⟨_, z', h0, hu'⟩) | ⟨bo, hu', g2o, g5o, gto⟩
          · rw [h0] at hrk; simp at hrk
          · have hk0 : k = 0 := by rw [h0] at hrk; simpa using hrk.symm
            subst hk0
            have hzz : z' = z := by rw [h0] at hz; simpa using hz
            subst hzz
            subst hu'
            rcases hlF with (hn | ⟨hn, _⟩) | ⟨bl, rfl, g2l, g5l, gtl⟩
            · obtain ⟨h0q, rfl⟩ := hn
              subst h0q
              simp [f11, f12, f14, h16, m3, m4, hv, hvE, hu, huE, hcll, hcol, hlt, hka]
              refine bind_some (app_new0 (.inl rfl)) ?_
              simp [f11, f12, f14, hcll, hlt, hv, hvE, m4, get_old m4]
              refine endD [(4, 17), (5, 17), (16, 17)] (by rfl) (by simp [okW, note, Eff.triv, Eff.wr, Eff.none, upTo, newAt]; omega) ?_
              simp [f47, w2]
              exact hfin _ _ _ _ (hM2.lN (i := i) (q := []) (p := z')) _ ⟨by simp [f5], by simp [f6], by simp [f8], by simp [f11], by simp [f12], by simp [f40], by simp [f41], by omega⟩ (by simp [f14]) (by simp [f45]) (by simp [f46]) (by simp)
            · cases hn
            · simp [f11, f12, f14, h16, m3, m4, hv, hvE, hu, huE, hcll, hcol, hlt, hka]
              refine bind_some (app_rowB (by omega) (by simpa using g2l)) ?_
              have m4b : (J2.set bl (rowB (q ++ [z'])))[4]? = some (.row true 1 cl) := by rw [List.getElem?_set_ne (by omega)]; exact m4
              have hne : bl ≠ J.length := by rintro rfl; rw [h16] at g2l; simp [rowB] at g2l
              simp [f11, f12, f14, hcll, hlt, hv, hvE, m4b]
              refine endD [(4, 17), (5, 17), (16, 17)] (by rfl) (by simp [okW, note, Eff.triv, Eff.wr, Eff.none, upTo, newAt]; omega) ?_
              simp [f47, w2]
              exact hfin _ _ _ _ (hM2.lR (i := i) (q := q) (p := z') g2l g5l gtl) _ ⟨by simp [f5], by simp [f6], by simp [f8], by simp [f11], by simp [f12], by simp [f40], by simp [f41], by omega⟩ (by simp [f14]) (by simp [f45]) (by simp [f46]) (by simp)
          · subst hu'
            have g2o' := g2o
            have hbo := (List.getElem?_eq_some_iff.1 g2o).1
            simp only [rowB] at g2o'
            rcases hlF with (hn | ⟨hn, _⟩) | ⟨bl, rfl, g2l, g5l, gtl⟩
            · obtain ⟨h0q, rfl⟩ := hn
              subst h0q
              simp [f11, f12, f14, h16, m3, m4, hv, hvE, hu, huE, hcll, hcol, hlt, hka, g2o', hz, hzE, hrk, hkk, hkn]
              refine bind_some (app_new0 (.inl rfl)) ?_
              simp [f11, f12, f14, hcll, hlt, hv, hvE, m4, get_old m4]
              refine endD [(4, 17), (5, 17), (16, 17)] (by rfl) (by simp [okW, note, Eff.triv, Eff.wr, Eff.none, upTo, newAt]; omega) ?_
              simp [f47, w2]
              exact hfin _ _ _ _ (hM2.lN (i := i) (q := []) (p := z)) _ ⟨by simp [f5], by simp [f6], by simp [f8], by simp [f11], by simp [f12], by simp [f40], by simp [f41], by omega⟩ (by simp [f14]) (by simp [f45]) (by simp [f46]) (by simp)
            · cases hn
            · simp [f11, f12, f14, h16, m3, m4, hv, hvE, hu, huE, hcll, hcol, hlt, hka, g2o', hz, hzE, hrk, hkk, hkn]
              refine bind_some (app_rowB (by omega) (by simpa using g2l)) ?_
              have m4b : (J2.set bl (rowB (q ++ [z])))[4]? = some (.row true 1 cl) := by rw [List.getElem?_set_ne (by omega)]; exact m4
              have hne : bl ≠ J.length := by rintro rfl; rw [h16] at g2l; simp [rowB] at g2l
              have hne2 : bo ≠ bl := by rintro rfl; omega
              simp [f11, f12, f14, hcll, hlt, hv, hvE, m4b]
              refine endD [(4, 17), (5, 17), (16, 17)] (by rfl) (by simp [okW, note, Eff.triv, Eff.wr, Eff.none, upTo, newAt]; omega) ?_
              simp [f47, w2]
              exact hfin _ _ _ _ (hM2.lR (i := i) (q := q) (p := z) g2l g5l gtl) _ ⟨by simp [f5], by simp [f6], by simp [f8], by simp [f11], by simp [f12], by simp [f40], by simp [f41], by omega⟩ (by simp [f14]) (by simp [f45]) (by simp [f46]) (by simp)
        · have ho2 : o ≠ 2 := by simpa using ho2
          have hnx : nextOk ⟨o, a, b, c⟩ l q.length := by
            have hrow : ∀ z : Int, 0 ≤ z → z < i → (rowN l z).length = q.length + 1 := by
              intro z h1 h2
              obtain ⟨kz, rfl⟩ : ∃ kz : Nat, z = kz := ⟨z.toNat, by omega⟩
              have := hrl.row kz (by omega)
              rw [if_pos (by omega)] at this
              rw [this, hqk]
            rcases hins with h | h | h | h | h <;> simp only at h
            · exact .inl h
            · exact absurd h.1 ho2
            · exact .inr (.inl h)
            · exact .inr (.inr (.inl ⟨h.1, h.2.1, h.2.2.1, hrow _ h.2.2.1 h.2.2.2.1⟩))
            · exact .inr (.inr (.inr ⟨h.1, h.2.1, h.2.2.1, h.2.2.2.2.1, hrow _ h.2.2.1 h.2.2.2.1, hrow _ h.2.2.2.2.1 h.2.2.2.2.2⟩))
          have hcv : coefV ⟨o, a, b, c⟩ out l t k i = nextC ⟨o, a, b, c⟩ l q t := by simp [coefV, ho2, hqr]
          rw [hcv, hqr] at hfin
          have hlF := hM2.hl.2 i v q hv hq
          have hqv : allV q := hrl.val q (List.mem_of_getElem? hq)
          have hS := fun X : AH => sNext ⟨o, a, b, c⟩ (H.length + 4) cl l q v t hnx hrl.val hqv ht (by omega) (H ++ (J2 ++ X)) ((hM2.app X).hl.rows (by rw [getAt]; exact get_old m4) (.inl rfl)) ((hM2.app X).hl.own hv hq (.inl rfl))
          rw [hrl.len] at hS
          have m0 := hM2.h0
          simp only [algA, fnA] at m0
          rcases hlF with (hn | ⟨hn, _⟩) | ⟨bl, rfl, g2l, g5l, gtl⟩
          · obtain ⟨h0q, rfl⟩ := hn
            subst h0q
            simp [f5, f8, f11, f12, f14, h16, m0, m2, m4, hv, hvE, hcll, hlt]
            refine callD_rdA (fun X => by simpa [algA, fnA, insA] using hS X) ?_
            generalize nextC ⟨o, a, b, c⟩ l [] t = z at *
            simp
            refine bind_some (app_new0 (.inl rfl)) ?_
            simp [f11, f12, f14, hcll, hlt, hv, hvE, m4, get_old m4]
            refine endD [(4, 18), (5, 18), (11, 18), (12, 18), (14, 18), (17, 18), (14, 16)] (by rfl) (by simp [okW, note, Eff.triv, Eff.wr, Eff.none, upTo, newAt, hJ2n]; omega) ?_
            simp [f47, w2]
            exact hfin _ _ _ _ (hM2.lN (i := i) (q := []) (p := z)) _ ⟨by simp [f5], by simp [f6], by simp [f8], by simp [f11], by simp [f12], by simp [f40], by simp [f41], by omega⟩ (by simp [f14]) (by simp [f45]) (by simp [f46]) (by simp)
          · cases hn
          · simp [f5, f8, f11, f12, f14, h16, m0, m2, m4, hv, hvE, hcll, hlt]
            refine callD_rdA (fun X => by simpa [algA, fnA, insA] using hS X) ?_
            generalize nextC ⟨o, a, b, c⟩ l q t = z at *
            simp
            refine bind_some (app_rowB (by omega) (by simpa using g2l)) ?_
            have m4b : (J2.set bl (rowB (q ++ [z])))[4]? = some (.row true 1 cl) := by rw [List.getElem?_set_ne (by omega)]; exact m4
            have hne : bl ≠ J.length := by rintro rfl; rw [h16] at g2l; simp [rowB] at g2l
            simp [f11, f12, f14, hcll, hlt, hv, hvE, m4b]
            refine endD [(4, 18), (5, 18), (11, 18), (12, 18), (14, 18), (17, 18), (14, 16)] (by rfl) (by simp [okW, note, Eff.triv, Eff.wr, Eff.none, upTo, newAt, hJ2n]; omega) ?_
            simp [f47, w2]
            exact hfin _ _ _ _ (hM2.lR (i := i) (q := q) (p := z) g2l g5l gtl) _ ⟨by simp [f5], by simp [f6], by simp [f8], by simp [f11], by simp [f12], by simp [f40], by simp [f41], by omega⟩ (by simp [f14]) (by simp [f45]) (by simp [f46]) (by simp)
      · have hin : i = T.L.length := by have : ¬ i < T.L.length := by simpa using hc
                                        omega
        subst hin
        have h1 := hM.h1
        simp only [tpA] at h1
        simp [f6, h1, outA]
        refine loop_count (SxO T x t order H k) (fun i => T.out.length - i) 0 ⟨⟨by simp [f5], by simp [f6], by simp [f8], by simp [f11], by simp [f12], by simp [f40], by simp [f41], by omega⟩, by simp [f14], by simp [outA], by simp, by simp, by omega, J, tag, co, cl, rfl, hM⟩ ?_
        clear f5 f6 f8 f11 f12 f40 f41 f14 f45 f46 f47 hM h1 hJl hrl
        clear J tag co cl
        rintro i fr H1 ⟨⟨f5, f6, f8, f11, f12, f40, f41, _⟩, f14, f92, f93, f94, hi, J, tag, co, cl, rfl, hM⟩
        have hJl := hM.len
        simp [f93, f94]
        obtain ⟨e3, e4⟩ := expS_ok hT hx ht (k + 1)
        have hro := stepO_ok hT e3.val e2 i (by rw [← hT.len]; exact hi)
        refine branch (fun hc => ?_) (fun hc => ?_)
        · have hlt : i < T.out.length := by simpa using hc
          obtain ⟨y, hy⟩ := get_lt hlt
          have hyE : ∀ h, T.out[i]'h = y := fun h => (List.getElem?_eq_some_iff.1 hy).2
          have hyl := hT.out y (List.mem_of_getElem? hy)
          have hltn : i < T.n := by rw [← hT.len]; exact hlt
          have w2 : IntKind.i64.wrap ((i : Int) + 1) = ((i + 1 : Nat) : Int) := by rw [wrap64 (by omega) (by omega)]; omega
          have hnext := stepO_succ (l := (expS T x t (k + 1)).1) (out := (expS T x t k).2) (k := k) hy
          have hfin : ∀ (J' : AH) (tag' : Nat → Nat) (co' cl' : List AV), MemX .nilslice T t H.length J' tag' co' cl' (stepO T (expS T x t (k + 1)).1 k (expS T x t k).2 (i + 1)) (expS T x t (k + 1)).1 → ∀ fr' : AFr, fK H T.n T.L.length order k fr' → fr' 14 = .int .i64 k → fr' 92 = outA T.out → fr' 93 = .int .i64 T.out.length → fr' 94 = .int .i64 (i + 1 : Nat) → Again (SxO T x t order H k) (fun i => T.out.length - i) i fr' (H ++ J') :=
            fun J' tag' co' cl' hM' fr' g1 g2 g3 g4 g5 => ⟨i + 1, by show T.out.length - (i + 1) < T.out.length - i; omega, g1, g2, g3, g4, g5, by omega, J', tag', co', cl', rfl, hM'⟩
          generalize hL : (expS T x t (k + 1)).1 = l at *
          generalize hO : stepO T l k (expS T x t k).2 i = out at *
          rw [hnext] at hfin
          have hil : i < out.length := by rw [hro.len]; exact hltn
          obtain ⟨q, hq⟩ := get_lt hil
          have hqr : rowN out (i : Int) = q := rowN_get hq
          have hqk : q.length = k + 1 := by have := hro.row i hltn; rw [hqr, if_neg (by omega)] at this; exact this
          obtain ⟨v, hv⟩ := get_lt (l := co) (i := i) (by rw [hM.ho.1]; exact hil)
          have hvE : ∀ h, co[i]'h = v := fun h => (List.getElem?_eq_some_iff.1 hv).2
          have hcol : co.length = T.n := by rw [hM.ho.1, hro.len]
          obtain ⟨r, hr⟩ := get_lt (l := l) (i := y) (by rw [e3.len]; exact hyl)
          have hrr : rowN l (y : Int) = r := rowN_get hr
          have hrk : r.length = k + 1 := by have := e3.row y hyl; rw [hrr, if_neg (by omega)] at this; exact this
          obtain ⟨u, hu⟩ := get_lt (l := cl) (i := y) (by rw [hM.hl.1, e3.len]; exact hyl)
          have huE : ∀ h, cl[y]'h = u := fun h => (List.getElem?_eq_some_iff.1 hu).2
          have hcll : cl.length = T.L.length := by rw [hM.hl.1, e3.len]
          obtain ⟨z, hz⟩ := get_lt (l := r) (i := k) (by omega)
          have hzE : ∀ h, r[k]'h = z := fun h => (List.getElem?_eq_some_iff.1 hz).2
          have hzv : vB z = true := e3.val r (List.mem_of_getElem? hr) z (List.mem_of_getElem? hz)
          have hkk : (k : Int) < (k : Int) + 1 := by omega
          have hkn : k < k + 1 := by omega
          have hJn : J ≠ [] := by rintro rfl; simp at hJl
          rw [hrr, hqr, show atN r k = z by simp [atN, hz]] at hfin
          have hoF := hM.ho.2 i v q hv hq
          have hlF := hM.hl.2 y u r hu hr
          have m0 := hM.h0
          have m3 := hM.h3
          have m4 := hM.h4
          simp only [algA, fnA] at m0
          rcases hlF with (⟨h0, _⟩ | ⟨h0, _⟩) | ⟨bl, hu', g2l, g5l, gtl⟩
          · rw [h0] at hrk; simp at hrk
          · cases h0
          subst hu'
          have g2l' := g2l
          have hbl := (List.getElem?_eq_some_iff.1 g2l).1
          simp only [rowB] at g2l'
          rcases hoF with (⟨h0, _⟩ | ⟨_, a, h0, hv'⟩) | ⟨bo, hv', g2o, g5o, gto⟩
          · rw [h0] at hqk; simp at hqk
          · subst hv'
            subst h0
            simp [f92, f93, f94, f11, f12, f14, f5, hy, hyE, outA, m0, m3, m4, hv, hvE, hu, huE, hcll, hcol, hltn, hyl, g2l', hz, hzE, hrk, hkk, hkn, wk]
            refine callD_ret0 (fun Hx => by simpa using sDivide z ((k + 1 : Nat) : Int) hzv (by omega) Hx) ?_
            generalize mulr z 1 (k + 1) = d at *
            simp
            refine bind_some app_new1 ?_
            simp [f11, f12, f14, hcol, hltn, hv, hvE, m3, get_old m3]
            refine endD [(4, 21), (5, 21), (20, 21)] (by rfl) (by simp [okW, note, Eff.triv, Eff.wr, Eff.none, upTo, newAt, hJn]; omega) ?_
            simp [f94, w2]
            exact hfin _ _ _ _ (hM.oN (i := i) (q := [a]) (p := d)) _ ⟨by simp [f5], by simp [f6], by simp [f8], by simp [f11], by simp [f12], by simp [f40], by simp [f41], by omega⟩ (by simp [f14]) (by simp [f92]) (by simp [f93]) (by simp)
          · subst hv'
            have hne2 : bo ≠ bl := by rintro rfl; omega
            simp [f92, f93, f94, f11, f12, f14, f5, hy, hyE, outA, m0, m3, m4, hv, hvE, hu, huE, hcll, hcol, hltn, hyl, g2l', hz, hzE, hrk, hkk, hkn, wk]
            refine callD_ret0 (fun Hx => by simpa using sDivide z ((k + 1 : Nat) : Int) hzv (by omega) Hx) ?_
            generalize mulr z 1 (k + 1) = d at *
            simp
            refine bind_some (app_rowB (by omega) (by simpa using g2o)) ?_
            have m3b : (J.set bo (rowB (q ++ [d])))[3]? = some (.row true 1 co) := by rw [List.getElem?_set_ne (by omega)]; exact m3
            simp [f11, f12, f14, hcol, hltn, hv, hvE, m3b]
            refine endD [(4, 21), (5, 21), (20, 21)] (by rfl) (by simp [okW, note, Eff.triv, Eff.wr, Eff.none, upTo, newAt, hJn]; omega) ?_
            simp [f94, w2]
            exact hfin _ _ _ _ (hM.oR (i := i) (q := q) (p := d) g2o g5o gto) _ ⟨by simp [f5], by simp [f6], by simp [f8], by simp [f11], by simp [f12], by simp [f40], by simp [f41], by omega⟩ (by simp [f14]) (by simp [f92]) (by simp [f93]) (by simp)
        · have hin : i = T.out.length := by have : ¬ i < T.out.length := by simpa using hc
                                            omega
          subst hin
          simp [f41, wk]
          exact ⟨k + 1, by show order - (k + 1) < order - k; omega, ⟨by simp [f5], by simp [f6], by simp [f8], by simp [f11], by simp [f12], by simp [f40], by simp, by omega⟩, J, tag, co, cl, rfl, hM⟩
    · have hkn : k = order := by have : ¬ k < order := by simpa using hc
                                 omega
      subst hkn
      obtain ⟨_, e4⟩ := expS_ok hT hx ht k
      have hcf : coefS T x t k = (expS T x t k).2 := rfl
      rw [hcf] at g1 g2
      have hlen2 : ∀ q ∈ (expS T x t k).2, 2 ≤ q.length := fun q hq => by
        obtain ⟨j, hj⟩ := List.mem_iff_getElem?.1 hq
        have := e4.row j (by rw [← e4.len]; exact (List.getElem?_eq_some_iff.1 hj).1)
        rw [rowN_get hj, if_neg (by omega)] at this
        omega
      obtain ⟨σ, hσ⟩ := fam_fills hM.ho hM.h3 (by omega) hlen2 (by rw [e4.len]; exact hd) hlen g1 g2 (by rw [e4.len]; exact g3)
      rw [e4.len] at hσ
      simp [f11]
      exact ⟨_, _, σ, hσ, finK (rs := [.tmp 10]) (vs := [.ref (H.length + 3) T.n]) (by rfl) (by simp [resA]) rfl⟩
end Go.Proofs.YtfjjckepnkkgjaaGreatDoor.Arm

namespace Go.Proofs.YtfjjckepnkkgjaaGreatDoor.Arm
open Go.Arm Go.Pl
def outJ (p : Nat) (l : List (List I)) : AH := .row true 1 (refsN p l) :: l.map rowB
theorem outJ_len (p : Nat) (l : List (List I)) : (outJ p l).length = l.length + 1 := by simp [outJ]
def deadJ (n : Nat) : AH := List.replicate (n + 1) .dead
theorem deadJ_len (n : Nat) : (deadJ n).length = n + 1 := by simp [deadJ]
theorem outJ_noFB {p m : Nat} {l : List (List I)} (hm : p + l.length < m) : ∀ k ∈ outJ p l, noFB m k = true := by
  intro k hk
  simp only [outJ, List.mem_cons, List.mem_map] at hk
  rcases hk with rfl | ⟨q, _, rfl⟩
  · simp only [noFB]
    rw [noFs_iff]
    intro x hx
    simp only [refsN, List.mem_map, List.mem_range] at hx
    obtain ⟨j, hj, rfl⟩ := hx
    simp [noF]; omega
  · simp only [rowB, noFB]
    rw [noFs_iff]
    exact rowB_noF m q
theorem head_eq {H0 K K' : AH} {c : Nat} (h : c < H0.length) : (H0 ++ K)[c]? = (H0 ++ K')[c]? := by rw [List.getElem?_append_left h, List.getElem?_append_left h]
theorem tail_eq {H0 A B X : AH} {c : Nat} (h : A.length = B.length) (hc : H0.length + A.length ≤ c) : (H0 ++ (A ++ X))[c]? = (H0 ++ (B ++ X))[c]? := by
  have h1 : H0.length ≤ c := by omega
  have h2 : A.length ≤ c - H0.length := by omega
  have h3 : B.length ≤ c - H0.length := by omega
  rw [List.getElem?_append_right h1, List.getElem?_append_right h1, List.getElem?_append_right h2, List.getElem?_append_right h3, h]
theorem dead_get {n i : Nat} {k : ABlk} (h : (deadJ n)[i]? = some k) : k = .dead := List.eq_of_mem_replicate (List.mem_of_getElem? h)
theorem outJ_alters (H0 X : AH) (l : List (List I)) : alters (H0 ++ (deadJ l.length ++ X)) (H0 ++ (outJ H0.length l ++ X)) := by
  refine ⟨by simp [outJ_len, deadJ_len], fun c => ?_⟩
  by_cases h : c < H0.length
  · exact .inl (head_eq h)
  · by_cases h2 : c - H0.length < l.length + 1
    · right; left
      refine ⟨(outJ H0.length l)[c - H0.length]'(by rw [outJ_len]; exact h2), ?_, ?_⟩
      · rw [List.getElem?_append_right (by omega), List.getElem?_append_left (by rw [outJ_len]; exact h2)]; simp
      · exact outJ_noFB (by simp [deadJ_len]; omega) _ (List.getElem_mem _)
    · exact .inl (tail_eq (by rw [outJ_len, deadJ_len]) (by rw [outJ_len]; omega))
theorem dead_at {H0 X : AH} {n : Nat} (j : Nat) (h : j ≤ n) : (H0 ++ (deadJ n ++ X))[H0.length + j]? = some .dead := by
  rw [getAt, List.getElem?_append_left (by rw [deadJ_len]; omega)]
  simp only [deadJ]
  rw [List.getElem?_replicate, if_pos (by omega)]
theorem outJ_rows {H0 X : AH} {l : List (List I)} {j : Nat} {q : List I} (h : l[j]? = some q) : (H0 ++ (outJ H0.length l ++ X))[H0.length + 1 + j]? = some (rowB q) := by
  have hlt := (List.getElem?_eq_some_iff.1 h).1
  rw [Nat.add_assoc, getAt, List.getElem?_append_left (by rw [outJ_len]; omega)]
  rw [show 1 + j = j + 1 by omega]
  simp [outJ, h]
theorem finO {fr : AFr} {fn : Func} {rs : List ResultVar} {H0 X J : AH} {l : List (List I)} {v : AV} {e : AExit} (hr : fn.results.toList = rs) (h : resA E fr (H0 ++ (outJ H0.length l ++ X) ++ J) rs = some [v]) (hv : noF (H0 ++ (deadJ l.length ++ X)).length v = true) (hx : e = .ret ∨ e = .normal := by simp) :
    bodyK E fn (H0 ++ (deadJ l.length ++ X)) (.ret v) (H0 ++ (outJ H0.length l ++ X)) e fr (H0 ++ (outJ H0.length l ++ X) ++ J) := by
  have ha := outJ_alters H0 X l
  exact finU hr h ha.1 (fun b => by
    rcases ha.2 b with h | h | ⟨k, st, st', frs, h1, h2⟩
    · exact .inl h
    · exact .inr h
    · rcases Nat.lt_or_ge b H0.length with h3 | h3
      · exact .inl (head_eq h3)
      · by_cases h4 : b - H0.length < l.length + 1
        · exfalso
          rw [List.getElem?_append_right h3, List.getElem?_append_left (by rw [deadJ_len]; exact h4)] at h1
          cases dead_get h1
        · exact .inl (tail_eq (by rw [outJ_len, deadJ_len]) (by rw [outJ_len]; omega))) hv hx
theorem coefS_len {T : Tp} {x : List I} {t : I} {order : Nat} (hT : tpOk T) (hx : allV x) (ht : vB t = true) : (coefS T x t order).length = T.n := (expS_ok hT hx ht order).2.len
theorem sExpand' (T : Tp) (x : List I) (t : I) (order : Nat) (hT : tpOk T) (hx : allV x) (hxn : x.length = T.n) (ht : vB t = true) (ho : 1 ≤ order ∧ order ≤ 1000) (H0 X : AH) :
    Sound E 167 [algA, tpA T, bx x, iv t, .int .i64 order] (H0 ++ (deadJ T.n ++ X)) (.ret (.ref H0.length T.n)) (H0 ++ (outJ H0.length (coefS T x t order) ++ X)) := by
  have hl := coefS_len (order := order) hT hx ht
  have ha := outJ_alters H0 X (coefS T x t order)
  rw [hl] at ha
  refine sExpand T x t order hT hx hxn ht ho _ _ H0.length (fun j hj => dead_at j hj) ha.1 (by simp [outJ]) (fun j q hq => outJ_rows hq) (fun c hc h => ?_)
  rcases Nat.lt_or_ge c H0.length with h3 | h3
  · exact head_eq h3
  · exact tail_eq (by rw [outJ_len, deadJ_len, hl]) (by rw [outJ_len, hl]; omega)
theorem sCoef (T : Tp) (x : List I) (t : I) (order : Nat) (hT : tpOk T) (hx : allV x) (hxn : x.length = T.n) (ht : vB t = true) (ho : 1 ≤ order ∧ order ≤ 1000) (H0 X : AH) :
    Sound E 142 [tpA T, bx x, iv t, .int .i64 order] (H0 ++ (deadJ T.n ++ X)) (.ret (.ref H0.length T.n)) (H0 ++ (outJ H0.length (coefS T x t order) ++ X)) := by
  refine sound_of_awp tabOk mixed Tryz.func142 rfl (by rfl) Tryz.ntmps142 (by kernel_rfl) (by simp) ?_
  have hS := sExpand' T x t order hT hx hxn ht ho
  have hl := coefS_len (order := order) hT hx ht
  generalize hc : coefS T x t order = l at *
  simp [tpA]
  refine callD_ret0 (fun Hx => by simpa [algA, fnA] using sIntervals Hx) ?_
  simp
  refine callD_all (r := .ref H0.length T.n) (K := H0 ++ (outJ H0.length l ++ (X ++ [.row true 3 [tpA T], .row true 2 [iv t]]))) (by simp [outJ_len, deadJ_len, hl]) (fun Y => by
    have := hS H0 (X ++ [.row true 3 [tpA T], .row true 2 [iv t]] ++ Y)
    simp [algA, fnA, tpA] at this ⊢
    exact this) ?_
  simp
  refine endD [(1, 5), (3, 5)] (by rfl) (by simp [okW, note, Eff.triv, Eff.wr, Eff.none, upTo, newAt, deadJ_len]) ?_
  simp
  have e : H0 ++ (outJ H0.length l ++ (X ++ [.row true 3 [tpA T], .row true 2 [.agg [.int .i64 t.1, .int .i64 t.2]]])) = H0 ++ (outJ H0.length l ++ X) ++ [.row true 3 [tpA T], .row true 2 [.agg [.int .i64 t.1, .int .i64 t.2]]] := by simp
  rw [e, ← hl]
  exact finO (rs := [.tmp 8]) (by rfl) (by simp [resA]) (by simp [noF, deadJ_len]; omega)
end Go.Proofs.YtfjjckepnkkgjaaGreatDoor.Arm

namespace Go.Proofs.YtfjjckepnkkgjaaGreatDoor.Arm
open Go.Arm Go.Pl
theorem refsN_get {p : Nat} {l : List (List I)} {j : Nat} {q : List I} (h : l[j]? = some q) : (refsN p l)[j]? = some (.ref (p + 1 + j) q.length) := by
  have hlt := (List.getElem?_eq_some_iff.1 h).1
  have hE : l[j] = q := (List.getElem?_eq_some_iff.1 h).2
  simp [refsN, hlt, rowN, hE]
theorem refsN_len (p : Nat) (l : List (List I)) : (refsN p l).length = l.length := by simp [refsN]
theorem kRem1 (i order b c : Nat) (q : List I) (z : I) (w w2 : Bool) (ho : order ≤ 1000) (hz : q[order + 1]? = some z) (H : AH) (hc : H[c]? = some (.row w 1 [.int .i64 order])) (hb : H[b]? = some (.row w2 2 (q.map iv))) :
    Sound E 165 [.int .i64 i, .ref b q.length, .ptr c 1 0 0] H (.ret (iv z)) H := by
  refine sound_of_awp tabOk mixed Tryz.func165 rfl (by rfl) Tryz.ntmps165 (by kernel_rfl) (by simp) ?_
  have hcl := (List.getElem?_eq_some_iff.1 hc).1
  have hbl := (List.getElem?_eq_some_iff.1 hb).1
  have hlt := (List.getElem?_eq_some_iff.1 hz).1
  have hzE : ∀ h, q[order + 1]'h = z := fun h => (List.getElem?_eq_some_iff.1 hz).2
  have w1 : IntKind.i64.wrap ((order : Int) + 1) = ((order + 1 : Nat) : Int) := by rw [wrap64 (by omega) (by omega)]; omega
  have hltI : (order : Int) + 1 < q.length := by omega
  have h0o : (0 : Int) ≤ (order : Int) + 1 := by omega
  simp [hc, get_old hc, hb, get_old hb, w1, hz, hzE, hlt, hltI, h0o]
  exact fin1 (rs := [.cell 5 54]) (by rfl) (by simp [resA]) (by simp [noFs, noF])
def LMr (l : List (List I)) (f : Nat → I) (g : FuncId) (caps : List AV) (p : Nat) (H : AH) (i : Nat) (fr : AFr) (H' : AH) : Prop :=
  fr 1 = .func (.func g) [] caps ∧ fr 5 = .ref H.length l.length ∧ fr 11 = .ref p l.length ∧ fr 12 = .int .i64 l.length ∧ fr 13 = .int .i64 i ∧ i ≤ l.length ∧ H' = H ++ [.row true 2 (padI ((List.range i).map f) l.length)]
theorem kMapR (l : List (List I)) (f : Nat → I) (g : FuncId) (caps : List AV) (p : Nat) (hl : l.length ≤ 1000000) (H : AH) (hp : H[p]? = some (.row true 1 (refsN p l)))
    (hf : ∀ (j : Nat) q, l[j]? = some q → ∀ X : AH, Sound E g ([.int .i64 j, .ref (p + 1 + j) q.length] ++ caps) (H ++ X) (.ret (iv (f j))) (H ++ X)) :
    Sound E 164 [.ref p l.length, .func (.func g) [] caps] H (.ret (bx ((List.range l.length).map f))) H := by
  refine sound_of_awp tabOk mixed Tryz.func164 rfl (by rfl) Tryz.ntmps164 (by kernel_rfl) (by simp) ?_
  have hpl := (List.getElem?_eq_some_iff.1 hp).1
  simp [hp, get_old hp, refsN_len]
  refine bind_if (by omega) ?_
  simp [hp, get_old hp, refsN_len]
  refine loop_count (LMr l f g caps p H) (fun i => l.length - i) 0 ⟨by simp, by simp, by simp, by simp, by simp, by omega, by simp [padI_nil]⟩ ?_
  rintro i fr H' ⟨g1, g5, g11, g12, g13, hi, rfl⟩
  simp [g12, g13]
  refine branch (fun hc => ?_) (fun hc => ?_)
  · have hlt : i < l.length := by simpa using hc
    obtain ⟨q, hq⟩ := get_lt hlt
    have hr := refsN_get (p := p) hq
    have hrE : ∀ h, (refsN p l)[i]'h = .ref (p + 1 + i) q.length := fun h => (List.getElem?_eq_some_iff.1 hr).2
    have w2 : IntKind.i64.wrap ((i : Int) + 1) = ((i + 1 : Nat) : Int) := by rw [wrap64 (by omega) (by omega)]; omega
    have hW0 : (padI ((List.range i).map f) l.length)[i]? = some (iv (0, 0)) := padI_zero (by simp) hlt
    have hWl : (padI ((List.range i).map f) l.length).length = l.length := padI_len (by simp; omega)
    have hWset : (padI ((List.range i).map f) l.length).set i (iv (f i)) = padI ((List.range (i + 1)).map f) l.length := by
      have := padI_set (l := (List.range i).map f) (n := l.length) (p := f i) (by simp; omega)
      rw [List.length_map, List.length_range] at this
      rw [this, List.range_succ, List.map_append]
      simp
    have hS := hf i q hq
    generalize padI ((List.range i).map f) l.length = W at *
    have hW0E : ∀ h, W[i]'h = iv (0, 0) := fun h => (List.getElem?_eq_some_iff.1 hW0).2
    simp [g1, g5, g11, g13, hp, get_old hp, refsN_len, hlt, hr, hrE]
    refine call_ret (by simpa using hS _) ?_
    simp [g5, g13, hWl, hlt, hW0, hW0E, w2]
    exact ⟨i + 1, by show l.length - (i + 1) < l.length - i; omega, by simp [g1], by simp [g5], by simp [g11], by simp [g12], by simp, by omega, by rw [← hWset]; simp⟩
  · have hi' : i = l.length := by have : ¬ i < l.length := by simpa using hc
                                  omega
    subst hi'
    rw [padI_all (by simp)]
    simp [g5]
    exact finS (t := 4) (v := .ref (H.length + 0) l.length) (v0 := .nilslice) (sz := 2) (xs := ((List.range l.length).map f).map iv) (by rfl) (by simp) (.inr ⟨0, by simp, by simp⟩) rfl (iv_noFs _ _)
theorem kRemainder (T : Tp) (b : List I) (t h : Int) (order : Nat) (hT : tpOk T) (hb : allV b) (hbn : b.length = T.n) (hh : 0 ≤ h ∧ h ≤ 1000000000) (ht : -1000000000 ≤ t ∧ t ≤ 1000000000) (ho : order ≤ 900) (H : AH) :
    Sound E 140 [tpA T, bx b, .agg [.int .i64 t, .int .i64 h], .int .i64 order] H (.ret (bx (remS T b t h order))) H := by
  refine sound_of_awp_pad (T.n + 1) tabOk mixed Tryz.func140 rfl (by rfl) Tryz.ntmps140 (by kernel_rfl) (by simp) ?_
  rw [show List.replicate (T.n + 1) ABlk.dead = deadJ T.n from rfl]
  have hsm := hT.small
  have htv : vB (t, t + h) = true := vB_pair (by omega) (by omega) (by omega)
  have hS := sCoef T b (t, t + h) (order + 1) hT hb hbn htv (by omega)
  have hl := coefS_len (order := order + 1) hT hb htv
  have he : remS T b t h order = (List.range (coefS T b (t, t + h) (order + 1)).length).map (fun j : Nat => atN (rowN (coefS T b (t, t + h) (order + 1)) (j : Int)) (order + 1)) := by
    unfold remS
    apply List.ext_getElem?
    intro j
    rw [List.getElem?_map, List.getElem?_map]
    by_cases hj : j < (coefS T b (t, t + h) (order + 1)).length
    · rw [List.getElem?_range hj, List.getElem?_eq_getElem hj]
      simp [rowN, hj]
    · rw [List.getElem?_eq_none (by omega), List.getElem?_eq_none (by simp; omega)]; rfl
  rw [he]
  have hrow : ∀ (j : Nat) q, (coefS T b (t, t + h) (order + 1))[j]? = some q → q.length = order + 2 := fun j q hq => by
    have := (expS_ok hT hb htv (order + 1)).2.row j (by rw [← hl]; exact (List.getElem?_eq_some_iff.1 hq).1)
    rw [show (expS T b (t, t + h) (order + 1)).2 = coefS T b (t, t + h) (order + 1) from rfl, rowN_get hq] at this
    simpa using this
  generalize hc : coefS T b (t, t + h) (order + 1) = l at *
  have w1 : IntKind.i64.wrap ((order : Int) + 1) = ((order + 1 : Nat) : Int) := by rw [wrap64 (by omega) (by omega)]; omega
  have w2 : IntKind.i64.wrap (t + h) = t + h := wrap64 (by omega) (by omega)
  simp [tpA, w1, w2]
  refine call_ret (by
    have := hS H [.row true 3 [tpA T], .row true 2 [.agg [.int .i64 t, .int .i64 h]], .row true 1 [.int .i64 order]]
    simp [tpA] at this ⊢
    exact this) ?_
  simp
  have hM := kMapR l (fun j : Nat => atN (rowN l (j : Int)) (order + 1)) 165 [.ptr (H.length + (T.n + 1 + 2)) 1 0 0] H.length (by omega) (H ++ (outJ H.length l ++ [.row true 3 [tpA T], .row true 2 [.agg [.int .i64 t, .int .i64 h]], .row true 1 [.int .i64 order]])) (by simp [outJ]) (fun j q hq X => by
    have hql := hrow j q hq
    obtain ⟨z, hz⟩ := get_lt (l := q) (i := order + 1) (by omega)
    have e : atN (rowN l (j : Int)) (order + 1) = z := by simp [rowN_get hq, atN, hz]
    rw [e]
    refine kRem1 j order _ _ q z true true (by omega) hz _ (get_old ?_) (get_old (outJ_rows hq))
    rw [getAt, List.getElem?_append_right (by rw [outJ_len]; omega), outJ_len, hl, Nat.add_sub_cancel_left]; rfl)
  rw [hl] at hM
  refine call_ret (by simpa [tpA, deadJ_len] using hM) ?_
  simp
  rw [hl]
  exact fin1 (rs := [.tmp 8]) (by rfl) (by simp [resA]) (by simp only [bx, noF, iv_noFs])
end Go.Proofs.YtfjjckepnkkgjaaGreatDoor.Arm

namespace Go.Proofs.YtfjjckepnkkgjaaGreatDoor.Arm
open Go.Arm Go.Pl
def rowF (q : List I) : ABlk := .row false 2 (q.map iv)
theorem kEnc1 (i b c : Nat) (q r : List I) (z : I) (w : Bool) (hz : r[i]? = some z) (hq : q.length ≤ 1000000) (H : AH) (hc : H[c]? = some (.row w 1 [bx r])) (hb : H[b]? = some (rowB q)) :
    Sound E 144 [.int .i64 i, .ref b q.length, .ptr c 1 0 0] H (.ret (.ref b (q.length + 1))) (H.set b (rowB (q ++ [z]))) := by
  refine sound_of_awp tabOk mixed Tryz.func144 rfl (by rfl) Tryz.ntmps144 (by kernel_rfl) (by simp) ?_
  have hcl := (List.getElem?_eq_some_iff.1 hc).1
  have hbl := (List.getElem?_eq_some_iff.1 hb).1
  have hlt := (List.getElem?_eq_some_iff.1 hz).1
  have hzE : ∀ h, r[i]'h = z := fun h => (List.getElem?_eq_some_iff.1 hz).2
  simp only [bx] at hc
  simp [hc, hz, hzE, hlt]
  refine bind_some (app_rowB hq hb) ?_
  simp
  exact finK (rs := [.tmp 5]) (vs := [.ref b (q.length + 1)]) (by rfl) (by simp [resA]) rfl
def extB (l : List (List I)) (r : List I) (i : Nat) : List ABlk := (List.range l.length).map fun j : Nat => if j < i then rowB (rowN l (j : Int) ++ [atN r j]) else rowB (rowN l (j : Int))
def extC (p : Nat) (l : List (List I)) (i : Nat) : List AV := (List.range l.length).map fun j : Nat => if j < i then .ref (p + 1 + j) ((rowN l (j : Int)).length + 1) else .nilslice
theorem extB_len (l : List (List I)) (r : List I) (i : Nat) : (extB l r i).length = l.length := by simp [extB]
theorem extC_len (p : Nat) (l : List (List I)) (i : Nat) : (extC p l i).length = l.length := by simp [extC]
theorem extB_get {l : List (List I)} {r : List I} {i j : Nat} (h : j < l.length) : (extB l r i)[j]? = some (if j < i then rowB (rowN l (j : Int) ++ [atN r j]) else rowB (rowN l (j : Int))) := by
  unfold extB; rw [List.getElem?_map, List.getElem?_range h]; rfl
theorem extC_get {p : Nat} {l : List (List I)} {i j : Nat} (h : j < l.length) : (extC p l i)[j]? = some (if j < i then .ref (p + 1 + j) ((rowN l (j : Int)).length + 1) else .nilslice) := by
  unfold extC; rw [List.getElem?_map, List.getElem?_range h]; rfl
theorem extB_zero (l : List (List I)) (r : List I) : extB l r 0 = l.map rowB := by
  apply List.ext_getElem?
  intro j
  by_cases h : j < l.length
  · rw [extB_get h, if_neg (by omega), List.getElem?_map, List.getElem?_eq_getElem h]; simp [rowN, h]
  · rw [List.getElem?_eq_none (by rw [extB_len]; omega), List.getElem?_eq_none (by simp; omega)]
theorem extC_zero (p : Nat) (l : List (List I)) : extC p l 0 = List.replicate l.length .nilslice := by
  apply List.ext_getElem?
  intro j
  by_cases h : j < l.length
  · rw [extC_get h, if_neg (by omega), List.getElem?_replicate, if_pos h]
  · rw [List.getElem?_eq_none (by rw [extC_len]; omega), List.getElem?_eq_none (by simp; omega)]
theorem extB_set {l : List (List I)} {r : List I} {i : Nat} (h : i < l.length) : (extB l r i).set i (rowB (rowN l (i : Int) ++ [atN r i])) = extB l r (i + 1) := by
  apply List.ext_getElem?
  intro j
  by_cases hj : j < l.length
  · by_cases hij : i = j
    · subst hij; rw [List.getElem?_set_self (by rw [extB_len]; exact h), extB_get h, if_pos (by omega)]
    · rw [List.getElem?_set_ne hij, extB_get hj, extB_get hj]
      by_cases h1 : j < i
      · rw [if_pos h1, if_pos (by omega)]
      · rw [if_neg h1, if_neg (by omega)]
  · rw [List.getElem?_eq_none (by rw [List.length_set, extB_len]; omega), List.getElem?_eq_none (by rw [extB_len]; omega)]
theorem extC_set {p : Nat} {l : List (List I)} {i : Nat} (h : i < l.length) : (extC p l i).set i (.ref (p + 1 + i) ((rowN l (i : Int)).length + 1)) = extC p l (i + 1) := by
  apply List.ext_getElem?
  intro j
  by_cases hj : j < l.length
  · by_cases hij : i = j
    · subst hij; rw [List.getElem?_set_self (by rw [extC_len]; exact h), extC_get h, if_pos (by omega)]
    · rw [List.getElem?_set_ne hij, extC_get hj, extC_get hj]
      by_cases h1 : j < i
      · rw [if_pos h1, if_pos (by omega)]
      · rw [if_neg h1, if_neg (by omega)]
  · rw [List.getElem?_eq_none (by rw [List.length_set, extC_len]; omega), List.getElem?_eq_none (by rw [extC_len]; omega)]
theorem withRem_len (l : List (List I)) (r : List I) : (withRem l r).length = l.length := by simp [withRem]
theorem withRem_get {l : List (List I)} {r : List I} {j : Nat} (h : j < l.length) : (withRem l r)[j]? = some (rowN l (j : Int) ++ [atN r j]) := by
  unfold withRem; rw [List.getElem?_map, List.getElem?_range h]; rfl
theorem extB_all (l : List (List I)) (r : List I) : extB l r l.length = (withRem l r).map rowB := by
  apply List.ext_getElem?
  intro j
  by_cases h : j < l.length
  · rw [extB_get h, if_pos h, List.getElem?_map, withRem_get h]; rfl
  · rw [List.getElem?_eq_none (by rw [extB_len]; omega), List.getElem?_eq_none (by simp [withRem_len]; omega)]
def refsF (p : Nat) : List (List I) → List AV
  | [] => []
  | q :: r => .ref p q.length :: refsF (p + 1) r
theorem refsF_get : ∀ {l : List (List I)} {p j : Nat} {q : List I}, l[j]? = some q → (refsF p l)[j]? = some (.ref (p + j) q.length)
  | q :: r, p, 0, q', h => by simp at h; subst h; rfl
  | q :: r, p, j + 1, q', h => by
    have := refsF_get (p := p + 1) (l := r) (j := j) (by simpa using h)
    simpa [refsF, Nat.add_assoc, Nat.add_comm 1 j] using this
  | [], p, j, q, h => by simp at h
theorem refsF_len : ∀ (l : List (List I)) (p : Nat), (refsF p l).length = l.length
  | [], _ => rfl
  | q :: r, p => by simp [refsF, refsF_len r]
theorem extC_all (p : Nat) (l : List (List I)) (r : List I) : extC p l l.length = refsF (p + 1) (withRem l r) := by
  apply List.ext_getElem?
  intro j
  by_cases h : j < l.length
  · rw [extC_get h, if_pos h, refsF_get (withRem_get h)]; simp
  · rw [List.getElem?_eq_none (by rw [extC_len]; omega), List.getElem?_eq_none (by rw [refsF_len, withRem_len]; omega)]
theorem convs_refs : ∀ (l : List (List I)) (A B : AH), convs (A ++ (l.map rowB ++ B)) (refsF A.length l) = (l.map bx, A ++ (l.map rowF ++ B))
  | [], A, B => rfl
  | q :: r, A, B => by
    have h1 : conv1 (A ++ (rowB q :: (r.map rowB ++ B))) (.ref A.length q.length) = (bx q, (A ++ [rowF q]) ++ (r.map rowB ++ B)) := by
      simp [conv1, rowB, rowF, bx]
    have h2 := convs_refs r (A ++ [rowF q]) B
    simp only [List.length_append, List.length_cons, List.length_nil, Nat.zero_add] at h2
    simp only [List.map_cons, List.cons_append, refsF, convs, h1, h2]
    simp
end Go.Proofs.YtfjjckepnkkgjaaGreatDoor.Arm

namespace Go.Proofs.YtfjjckepnkkgjaaGreatDoor.Arm
open Go.Arm Go.Pl
theorem setAt {H J : AH} {b : Nat} {y : ABlk} : (H ++ J).set (H.length + b) y = H ++ J.set b y := by rw [List.set_append_right _ _ (by omega), Nat.add_sub_cancel_left]
def mE (H0 X : AH) (l : List (List I)) (r : List I) (i k : Nat) : AH := H0 ++ (.row true 1 (refsN H0.length l) :: (extB l r i ++ (X ++ [.row true 1 (extC H0.length l k)])))
section
variable {H0 X : AH} {l : List (List I)} {r : List I} {i k : Nat}
theorem mE_at0 : (mE H0 X l r i k)[H0.length]? = some (.row true 1 (refsN H0.length l)) := by
  have := getAt (H := H0) (J := .row true 1 (refsN H0.length l) :: (extB l r i ++ (X ++ [.row true 1 (extC H0.length l k)]))) (b := 0)
  exact this
theorem mE_row {j : Nat} (h : j < l.length) : (mE H0 X l r i k)[H0.length + 1 + j]? = (extB l r i)[j]? := by
  unfold mE
  rw [Nat.add_assoc, getAt, Nat.add_comm 1 j, List.getElem?_cons_succ, List.getElem?_append_left (by rw [extB_len]; exact h)]
theorem mE_x {j : Nat} (h : j < X.length) : (mE H0 X l r i k)[H0.length + (l.length + 1 + j)]? = X[j]? := by
  unfold mE
  rw [getAt, show l.length + 1 + j = (l.length + j) + 1 by omega, List.getElem?_cons_succ, List.getElem?_append_right (by rw [extB_len]; omega), extB_len, Nat.add_sub_cancel_left, List.getElem?_append_left h]
theorem mE_D : (mE H0 X l r i k)[H0.length + (l.length + 1 + X.length)]? = some (.row true 1 (extC H0.length l k)) := by
  unfold mE
  rw [getAt, show l.length + 1 + X.length = (l.length + X.length) + 1 by omega, List.getElem?_cons_succ, List.getElem?_append_right (by rw [extB_len]; omega), extB_len, Nat.add_sub_cancel_left, List.getElem?_append_right (by omega), Nat.sub_self]; rfl
theorem mE_set (h : i < l.length) : (mE H0 X l r i k).set (H0.length + 1 + i) (rowB (rowN l (i : Int) ++ [atN r i])) = mE H0 X l r (i + 1) k := by
  unfold mE
  rw [Nat.add_assoc, setAt, Nat.add_comm 1 i, List.set_cons_succ, List.set_append_left _ _ (by rw [extB_len]; exact h), extB_set h]
theorem mE_setD (h : k < l.length) : (mE H0 X l r i k).set (H0.length + (l.length + 1 + X.length)) (.row true 1 ((extC H0.length l k).set k (.ref (H0.length + 1 + k) ((rowN l (k : Int)).length + 1)))) = mE H0 X l r i (k + 1) := by
  unfold mE
  rw [setAt, show l.length + 1 + X.length = (l.length + X.length) + 1 by omega, List.set_cons_succ, List.set_append_right _ _ (by rw [extB_len]; omega), extB_len, Nat.add_sub_cancel_left, List.set_append_right _ _ (by omega), Nat.sub_self, List.set_cons_zero, extC_set h]
theorem mE_start : mE H0 X l r 0 0 = H0 ++ (outJ H0.length l ++ X) ++ [.row true 1 (List.replicate l.length .nilslice)] := by
  unfold mE outJ; rw [extB_zero, extC_zero]; simp
theorem mE_end : mE H0 X l r l.length l.length = H0 ++ [.row true 1 (refsN H0.length l)] ++ ((withRem l r).map rowB ++ (X ++ [.row true 1 (refsF (H0.length + 1) (withRem l r))])) := by
  unfold mE; rw [extB_all, extC_all _ _ r]; simp
end
def LMe (H0 X : AH) (l : List (List I)) (r : List I) (g : FuncId) (caps : List AV) (i : Nat) (fr : AFr) (H' : AH) : Prop :=
  fr 1 = .func (.func g) [] caps ∧ fr 5 = .ref (H0.length + (l.length + 1 + X.length)) l.length ∧ fr 11 = .ref H0.length l.length ∧ fr 12 = .int .i64 l.length ∧ fr 13 = .int .i64 i ∧ i ≤ l.length ∧ H' = mE H0 X l r i i
theorem kMapE (l : List (List I)) (r : List I) (kc : Nat) (w : Bool) (hl : l.length ≤ 1000000) (hr : l.length ≤ r.length) (hq : ∀ q ∈ l, q.length ≤ 1000000) (H0 X : AH) (hX : X[kc]? = some (.row w 1 [bx r])) :
    Sound E 141 [.ref H0.length l.length, .func (.func 144) [] [.ptr (H0.length + (l.length + 1 + kc)) 1 0 0]] (H0 ++ (outJ H0.length l ++ X)) (.ret (bxs (withRem l r)))
      (H0 ++ (.row true 1 (refsN H0.length l) :: ((withRem l r).map rowF ++ X))) := by
  refine sound_of_awp tabOk mixed Tryz.func141 rfl (by rfl) Tryz.ntmps141 (by kernel_rfl) (by simp) ?_
  have hM0 : (H0 ++ (outJ H0.length l ++ X)).length = H0.length + (l.length + 1 + X.length) := by simp [outJ_len]
  have hM1 : (H0 ++ (outJ H0.length l ++ X))[H0.length]? = some (.row true 1 (refsN H0.length l)) := by simp [outJ]
  have hst := mE_start (H0 := H0) (X := X) (l := l) (r := r)
  generalize hM : H0 ++ (outJ H0.length l ++ X) = M at *
  simp [hM1, get_old hM1, refsN_len]
  refine bind_if (by omega) ?_
  simp [hM1, get_old hM1, refsN_len]
  refine loop_count (LMe H0 X l r 144 [.ptr (H0.length + (l.length + 1 + kc)) 1 0 0]) (fun i => l.length - i) 0 ⟨by simp, by simp [hM0], by simp, by simp, by simp, by omega, by rw [hst]⟩ ?_
  rintro i fr H1 ⟨g1, g5, g11, g12, g13, hi, rfl⟩
  simp [g12, g13]
  refine branch (fun hc => ?_) (fun hc => ?_)
  · have hlt : i < l.length := by simpa using hc
    obtain ⟨q, hqi⟩ := get_lt hlt
    obtain ⟨z, hz⟩ := get_lt (l := r) (i := i) (by omega)
    have hrow : rowN l (i : Int) = q := rowN_get hqi
    have hza : atN r i = z := by simp [atN, hz]
    have hrf := refsN_get (p := H0.length) hqi
    have hrE : ∀ h, (refsN H0.length l)[i]'h = .ref (H0.length + 1 + i) q.length := fun h => (List.getElem?_eq_some_iff.1 hrf).2
    have w2 : IntKind.i64.wrap ((i : Int) + 1) = ((i + 1 : Nat) : Int) := by rw [wrap64 (by omega) (by omega)]; omega
    have a0 := mE_at0 (H0 := H0) (X := X) (l := l) (r := r) (i := i) (k := i)
    have a1 := mE_row (H0 := H0) (X := X) (l := l) (r := r) (i := i) (k := i) hlt
    rw [extB_get hlt, if_neg (by omega), hrow] at a1
    have a2 := mE_x (H0 := H0) (l := l) (r := r) (i := i) (k := i) (List.getElem?_eq_some_iff.1 hX).1
    rw [hX] at a2
    have a3 := mE_set (H0 := H0) (X := X) (l := l) (r := r) (i := i) (k := i) hlt
    rw [hrow, hza] at a3
    have a4 := mE_D (H0 := H0) (X := X) (l := l) (r := r) (i := i + 1) (k := i)
    have a5 := mE_setD (H0 := H0) (X := X) (l := l) (r := r) (i := i + 1) (k := i) hlt
    rw [hrow] at a5
    have hcl := extC_len H0.length l i
    have hcg := extC_get (p := H0.length) (i := i) hlt
    rw [if_neg (by omega)] at hcg
    have hcgE : ∀ h, (extC H0.length l i)[i]'h = .nilslice := fun h => (List.getElem?_eq_some_iff.1 hcg).2
    have hS := kEnc1 i (H0.length + 1 + i) _ q r z w hz (hq q (List.mem_of_getElem? hqi)) _ a2 a1
    rw [a3] at hS
    have hfin : ∀ fr' : AFr, fr' 1 = .func (.func 144) [] [.ptr (H0.length + (l.length + 1 + kc)) 1 0 0] → fr' 5 = .ref (H0.length + (l.length + 1 + X.length)) l.length → fr' 11 = .ref H0.length l.length → fr' 12 = .int .i64 l.length → fr' 13 = .int .i64 (i + 1 : Nat) →
        Again (LMe H0 X l r 144 [.ptr (H0.length + (l.length + 1 + kc)) 1 0 0]) (fun i => l.length - i) i fr' (mE H0 X l r (i + 1) (i + 1)) := fun fr' h1 h2 h3 h4 h5 => ⟨i + 1, by show l.length - (i + 1) < l.length - i; omega, h1, h2, h3, h4, h5, by omega, rfl⟩
    rw [← a5] at hfin
    generalize mE H0 X l r (i + 1) i = M1 at *
    generalize mE H0 X l r i i = M2 at *
    generalize extC H0.length l i = C at *
    simp [g1, g5, g11, g13, a0, refsN_len, hlt, hrf, hrE]
    refine call_ret (by simpa using hS) ?_
    simp [g5, g13, a4, hcl, hlt, hcg, hcgE, w2]
    exact hfin _ (by simp [g1]) (by simp [g5]) (by simp [g11]) (by simp [g12]) (by simp)
  · have hi' : i = l.length := by have : ¬ i < l.length := by simpa using hc
                                  omega
    subst hi'
    simp [g5]
    rw [mE_end]
    have hA : (H0 ++ [ABlk.row true 1 (refsN H0.length l)]).length = H0.length + 1 := by simp
    have hlw := withRem_len l r
    generalize hl' : withRem l r = l' at *
    have hcv := convs_refs l' (H0 ++ [.row true 1 (refsN H0.length l)]) (X ++ [.row true 1 (refsF (H0.length + 1) l')])
    rw [hA] at hcv
    have hD : ∀ (f : List (List I) → List ABlk), (∀ l, (f l).length = l.length) → ∀ y, (H0 ++ [ABlk.row true 1 (refsN H0.length l)] ++ (f l' ++ (X ++ [y])))[H0.length + (l.length + 1 + X.length)]? = some y := by
      intro f hf y
      rw [List.append_assoc, getAt, show l.length + 1 + X.length = 1 + (l.length + X.length) by omega]
      have := getAt (H := [ABlk.row true 1 (refsN H0.length l)]) (J := f l' ++ (X ++ [y])) (b := l.length + X.length)
      rw [List.length_singleton] at this
      rw [this]
      have := getAt (H := f l') (J := X ++ [y]) (b := X.length)
      rw [hf, hlw] at this
      rw [this]
      simp
    have hDs : ∀ y y', (H0 ++ [ABlk.row true 1 (refsN H0.length l)] ++ (l'.map rowF ++ (X ++ [y]))).set (H0.length + (l.length + 1 + X.length)) y' = H0 ++ [.row true 1 (refsN H0.length l)] ++ (l'.map rowF ++ (X ++ [y'])) := by
      intro y y'
      rw [List.append_assoc, setAt, show l.length + 1 + X.length = 1 + (l.length + X.length) by omega]
      have := setAt (H := [ABlk.row true 1 (refsN H0.length l)]) (J := l'.map rowF ++ (X ++ [y])) (b := l.length + X.length) (y := y')
      rw [List.length_singleton] at this
      rw [this]
      have := setAt (H := l'.map rowF) (J := X ++ [y]) (b := X.length) (y := y')
      rw [List.length_map, hlw] at this
      rw [this]
      simp
    refine ⟨[.ref (H0.length + (l.length + 1 + X.length)) l.length], [bxs l'], by simp [show (Tryz.f141).results.toList = [.tmp 4] from rfl, resA], ?_, rfl⟩
    refine .deep (H0.length + (l.length + 1 + X.length)) true (refsF (H0.length + 1) l') (hD (fun l => l.map rowB) (fun l => by simp) _) (by rw [hcv]; exact hD (fun l => l.map rowF) (fun l => by simp) _) (fun x hx => ?_) (fun x hx => ?_) ?_
    · obtain ⟨j, hj⟩ := List.mem_iff_getElem?.1 hx
      have hjl : j < l'.length := by rw [← refsF_len l' (H0.length + 1)]; exact (List.getElem?_eq_some_iff.1 hj).1
      have := refsF_get (p := H0.length + 1) (List.getElem?_eq_getElem hjl)
      rw [hj] at this; cases this; rfl
    · rw [hcv] at hx
      simp only [List.mem_map] at hx
      obtain ⟨q, _, rfl⟩ := hx; rfl
    rw [hcv]
    dsimp only
    rw [hDs]
    refine .conv ?_
    have h6 := hD (fun l => l.map rowF) (fun l => by simp) (.row true 1 (l'.map bx))
    have h7 : convL (H0 ++ [ABlk.row true 1 (refsN H0.length l)] ++ (l'.map rowF ++ (X ++ [.row true 1 (l'.map bx)]))) [.ref (H0.length + (l.length + 1 + X.length)) l.length] = ([bxs l'], H0 ++ [.row true 1 (refsN H0.length l)] ++ (l'.map rowF ++ (X ++ [.row false 1 (l'.map bx)]))) := by
      simp only [convL, conv, conv1, h6]
      rw [if_pos (by simp [hlw])]
      simp only [hDs]
      rfl
    rw [h7]
    dsimp only
    refine .cut M.length (Nat.le_refl _) ?_ (fun b hb => ?_) ?_
    · rw [hM0, show H0.length + (l.length + 1 + X.length) = (H0 ++ ABlk.row true 1 (refsN H0.length l) :: (l'.map rowF ++ X)).length by simp [hlw]; omega]
      have : H0 ++ [ABlk.row true 1 (refsN H0.length l)] ++ (l'.map rowF ++ (X ++ [.row false 1 (l'.map bx)])) = (H0 ++ ABlk.row true 1 (refsN H0.length l) :: (l'.map rowF ++ X)) ++ [.row false 1 (l'.map bx)] := by simp
      rw [this, List.take_left]
    · rw [← hM]
      rcases Nat.lt_or_ge b H0.length with h | h
      · exact .inl (head_eq h)
      · obtain ⟨c, rfl⟩ : ∃ c, b = H0.length + c := ⟨b - H0.length, by omega⟩
        rw [getAt, getAt]
        cases c with
        | zero => exact .inl rfl
        | succ c =>
          unfold outJ
          rw [List.cons_append, List.getElem?_cons_succ, List.getElem?_cons_succ]
          by_cases hcl : c < l.length
          · right; left
            have hcl' : c < l'.length := by omega
            refine ⟨rowF l'[c], by rw [List.getElem?_append_left (by simp; exact hcl'), List.getElem?_map, List.getElem?_eq_getElem hcl']; rfl, ?_⟩
            simp only [rowF, noFB]
            rw [noFs_iff]
            exact rowB_noF _ _
          · left
            rw [List.getElem?_append_right (by simp; omega), List.getElem?_append_right (by simp; omega)]
            simp [hlw]
    · simp only [noFs, bxs, noF, Bool.and_true]
      rw [noFs_iff]
      intro x hx
      obtain ⟨q, _, rfl⟩ := List.mem_map.1 hx
      simp only [bx, noF, iv_noFs]
end Go.Proofs.YtfjjckepnkkgjaaGreatDoor.Arm

namespace Go.Proofs.YtfjjckepnkkgjaaGreatDoor.Arm
open Go.Arm Go.Pl
theorem restr_eq (p q : I) : (if interB p q then inter p q else q) = restrI p q := by
  unfold restrI inter
  cases interB p q <;> rfl
theorem kRestr1 (i c : Nat) (p q : I) (b : List I) (w : Bool) (hz : b[i]? = some q) (H : AH) (hc : H[c]? = some (.row w 1 [bx b])) : Sound E 170 [.int .i64 i, iv p, .ptr c 1 0 0] H (.ret (iv (restrI p q))) H := by
  refine sound_of_awp tabOk mixed Tryz.func170 rfl (by rfl) Tryz.ntmps170 (by kernel_rfl) (by simp) ?_
  have hcl := (List.getElem?_eq_some_iff.1 hc).1
  have hlt := (List.getElem?_eq_some_iff.1 hz).1
  have hzE : ∀ h, b[i]'h = q := fun h => (List.getElem?_eq_some_iff.1 hz).2
  have he := restr_eq p q
  simp only [bx] at hc
  simp [hc, get_old hc, hz, hzE, hlt]
  refine callD_ret0 (fun Hx => iIntersect p q Hx) ?_
  simp
  refine endD [(9, 10)] (by rfl) (by simp [okW, note, Eff.triv, Eff.wr, Eff.none, upTo, newAt]; omega) ?_
  simp
  refine branch (fun m => ?_) (fun m => ?_)
  · rw [if_pos m] at he
    simp
    exact fin1 (rs := [.cell 5 54]) (by rfl) (by simp [resA, ← he]) (by simp [noFs, noF])
  · rw [if_neg (by simp [m])] at he
    simp [hc, get_old hc, hz, hzE, hlt]
    exact fin1 (rs := [.cell 5 54]) (by rfl) (by simp [resA, ← he]) (by simp [noFs, noF])
def LMi (l : List I) (f : Nat → I) (g : FuncId) (caps : List AV) (H : AH) (i : Nat) (fr : AFr) (H' : AH) : Prop :=
  fr 1 = .func (.func g) [] caps ∧ fr 5 = .ref H.length l.length ∧ fr 11 = bx l ∧ fr 12 = .int .i64 l.length ∧ fr 13 = .int .i64 i ∧ i ≤ l.length ∧ ∃ J, H' = H ++ J ∧ J[0]? = some (.row true 2 (padI ((List.range i).map f) l.length))
theorem kMapI (l : List I) (f : Nat → I) (g : FuncId) (caps : List AV) (hl : l.length ≤ 1000000) (H : AH)
    (hf : ∀ (j : Nat) p, l[j]? = some p → ∀ X : AH, Sound E g ([.int .i64 j, iv p] ++ caps) (H ++ X) (.ret (iv (f j))) (H ++ X)) :
    Sound E 169 [bx l, .func (.func g) [] caps] H (.ret (bx ((List.range l.length).map f))) H := by
  refine sound_of_awp tabOk mixed Tryz.func169 rfl (by rfl) Tryz.ntmps169 (by kernel_rfl) (by simp) ?_
  generalize hR : (List.range l.length).map f = R
  simp [bx]
  refine bind_if (by omega) ?_
  simp
  refine loop_count (LMi l f g caps H) (fun i => l.length - i) 0 ⟨by simp, by simp, by simp [bx], by simp, by simp, by omega, _, rfl, by simp [padI_nil]⟩ ?_
  rintro i fr H' ⟨g1, g5, g11, g12, g13, hi, J, rfl, hJ0⟩
  have hJl := (List.getElem?_eq_some_iff.1 hJ0).1
  simp [g12, g13]
  refine branch (fun hc => ?_) (fun hc => ?_)
  · have hlt : i < l.length := by simpa using hc
    obtain ⟨q, hq⟩ := get_lt hlt
    have hqE : ∀ h, l[i]'h = q := fun h => (List.getElem?_eq_some_iff.1 hq).2
    have w2 : IntKind.i64.wrap ((i : Int) + 1) = ((i + 1 : Nat) : Int) := by rw [wrap64 (by omega) (by omega)]; omega
    have hW0 : (padI ((List.range i).map f) l.length)[i]? = some (iv (0, 0)) := padI_zero (by simp) hlt
    have hWl : (padI ((List.range i).map f) l.length).length = l.length := padI_len (by simp; omega)
    have hWset : (padI ((List.range i).map f) l.length).set i (iv (f i)) = padI ((List.range (i + 1)).map f) l.length := by
      have := padI_set (l := (List.range i).map f) (n := l.length) (p := f i) (by simp; omega)
      rw [List.length_map, List.length_range] at this
      rw [this, List.range_succ, List.map_append]
      simp
    have hS := hf i q hq
    generalize padI ((List.range i).map f) l.length = W at *
    have hW0E : ∀ h, W[i]'h = iv (0, 0) := fun h => (List.getElem?_eq_some_iff.1 hW0).2
    simp [g1, g5, g11, g13, bx, hlt, hq, hqE]
    refine call_ret (by simpa using hS _) ?_
    simp [g5, g13, ↓old hJ0, olds hJ0, hWl, hlt, hW0, hW0E, w2]
    refine ⟨i + 1, by show l.length - (i + 1) < l.length - i; omega, by simp [g1], by simp [g5], by simp [g11], by simp [g12], by simp, by omega, _, rfl, ?_⟩
    rw [← hWset]
    exact set_get' hJ0
  · have hi' : i = l.length := by have : ¬ i < l.length := by simpa using hc
                                  omega
    subst hi'
    rw [padI_all (by simp), hR] at hJ0
    have hRl : R.length = l.length := by rw [← hR]; simp
    simp [g5]
    exact finS (t := 4) (v := .ref (H.length + 0) l.length) (v0 := .nilslice) (sz := 2) (xs := R.map iv) (by rfl) (by simp) (.inr ⟨0, by simp [hRl], by simpa using hJ0⟩) rfl (iv_noFs _ _)
theorem kRestr (a b : List I) (c : Nat) (w : Bool) (hab : a.length ≤ b.length) (hl : a.length ≤ 1000000) (H : AH) (hc : H[c]? = some (.row w 1 [bx b])) : Sound E 168 [bx a, .ptr c 1 0 0] H (.ret (bx (restrB a b))) H := by
  refine sound_of_awp tabOk mixed Tryz.func168 rfl (by rfl) Tryz.ntmps168 (by kernel_rfl) (by simp) ?_
  have hS := kMapI a (fun i => restrI (atN a i) (atN b i)) 170 [.ptr c 1 0 0] hl H (fun j p hj X => by
    obtain ⟨q, hq⟩ := get_lt (l := b) (i := j) (by have := (List.getElem?_eq_some_iff.1 hj).1; omega)
    have e1 : atN a j = p := by simp [atN, hj]
    have e2 : atN b j = q := by simp [atN, hq]
    rw [e1, e2]
    exact kRestr1 j c p q b w hq _ (get_old hc))
  simp
  refine call_ret (by simpa using hS) ?_
  simp
  exact fin0 (rs := [.tmp 3]) (by rfl) (by simp [resA, restrB])
theorem kRestrict0 (b : List I) (H : AH) : Sound E 145 [bx b] H (.ret (.func (.func 168) [] [.ptr H.length 1 0 0])) (H ++ [.row true 1 [bx b]]) := by
  refine sound_of_awp tabOk mixed Tryz.func145 rfl (by rfl) Tryz.ntmps145 (by kernel_rfl) (by simp) ?_
  simp [bx]
  exact finK (rs := [.tmp 2]) (vs := [.func (.func 168) [] [.ptr H.length 1 0 0]]) (by rfl) (by simp [resA]) rfl
theorem kRestrict (b : List I) (p : Nat) (H : AH) (hd : H[p]? = some .dead) : Sound E 145 [bx b] H (.ret (.func (.func 168) [] [.ptr p 1 0 0])) (H.set p (.row true 1 [bx b])) := by
  have hp := (List.getElem?_eq_some_iff.1 hd).1
  refine (kRestrict0 b H).fills (σ := fun c => if c = p then some H.length else none) ⟨?_, ?_, by simp, ?_, ?_, ?_⟩
  · intro c k h
    split at h
    · rename_i e; cases h; subst e
      exact ⟨hp, hd, get_old hd, Nat.le_refl _⟩
    · cases h
  · intro c c' k h h'
    split at h <;> split at h' <;> first | (cases h; done) | (cases h'; done) | skip
    rename_i e1 e2; rw [e1, e2]
  · intro c hc h
    split at h
    · cases h
    · rename_i hne
      exact ⟨List.getElem?_append_left hc, List.getElem?_set_ne (Ne.symm hne)⟩
  · intro c k h
    split at h
    · rename_i e; cases h; subst e
      refine ⟨true, 1, [bx b], [bx b], by simp, List.getElem?_set_self hp, rfl, fun i x x' hx hx' => ?_⟩
      rw [hx] at hx'; cases hx'
      refine ⟨rfl, fun i a a' ha ha' => ?_⟩
      rw [ha] at ha'; cases ha'
      have hxe : x = bx b := by
        have := List.mem_of_getElem? hx
        simpa using this
      subst hxe
      have hae : a = bx b := by
        have := List.mem_of_getElem? ha
        simpa [AV.cells, bx] using this
      subst hae
      exact .old (by simp only [bx, noF, iv_noFs])
    · cases h
  · refine .func (by simp) (by simp [noFs]) (fun i a a' ha ha' => ?_)
    cases i with
    | zero =>
      simp at ha ha'
      subst ha; subst ha'
      exact .ptr (by simp) hp
    | succ i => simp at ha
end Go.Proofs.YtfjjckepnkkgjaaGreatDoor.Arm

namespace Go.Proofs.YtfjjckepnkkgjaaGreatDoor.Arm
open Go.Arm Go.Pl
theorem coefS_rows {T : Tp} {x : List I} {t : I} {order : Nat} (hT : tpOk T) (hx : allV x) (ht : vB t = true) : ∀ q ∈ coefS T x t order, q.length = order + 1 ∧ allV q := fun q hq => by
  have h := (expS_ok hT hx ht order).2
  refine ⟨?_, h.val q hq⟩
  obtain ⟨j, hj⟩ := List.mem_iff_getElem?.1 hq
  have := h.row j (by rw [← h.len]; exact (List.getElem?_eq_some_iff.1 hj).1)
  rw [show (expS T x t order).2 = coefS T x t order from rfl, rowN_get hj] at this
  simpa using this
theorem remS_valid {T : Tp} {b : List I} {t h : Int} {order : Nat} (hT : tpOk T) (hb : allV b) (ht : vB (t, t + h) = true) : allV (remS T b t h order) := fun p hp => by
  obtain ⟨q, hq, rfl⟩ := List.mem_map.1 hp
  exact atN_valid (coefS_rows hT hb ht q hq).2 _
theorem remS_len {T : Tp} {b : List I} {t h : Int} {order : Nat} (hT : tpOk T) (hb : allV b) (ht : vB (t, t + h) = true) : (remS T b t h order).length = T.n := by
  simp [remS, coefS_len hT hb ht]
theorem withRem_rows {l : List (List I)} {r : List I} {k : Nat} (hl : ∀ q ∈ l, q.length = k ∧ allV q) (hr : allV r) : ∀ q ∈ withRem l r, q.length = k + 1 ∧ allV q := fun q hq => by
  simp only [withRem, List.mem_map, List.mem_range] at hq
  obtain ⟨j, hj, rfl⟩ := hq
  have e : rowN l (j : Int) = l[j] := rowN_get (List.getElem?_eq_getElem hj)
  obtain ⟨h1, h2⟩ := hl l[j] (List.getElem_mem hj)
  rw [e]
  exact ⟨by simp [h1], allV_snoc h2 (atN_valid hr j)⟩
theorem evalS_len (l : List (List I)) (h : I) : (evalS l h).length = l.length := by simp [evalS]
theorem pt_num {t : Int} (h : -2147483648 < t ∧ t < 2147483648) : pt t = (t, t) := by
  unfold pt mk
  rw [if_pos (by rw [Bool.and_eq_true, numB_iff]; exact ⟨h, h⟩)]
theorem kEnclosureAt (T : Tp) (x b : List I) (t h : Int) (part : I) (order : Nat) (hT : tpOk T) (hx : allV x) (hxn : x.length = T.n) (hb : allV b) (hbn : b.length = T.n) (hh : 0 ≤ h ∧ h ≤ 1000000000) (ht : -1000000000 ≤ t ∧ t ≤ 1000000000) (hp : vB part = true) (ho : 1 ≤ order ∧ order ≤ 900) (H : AH) :
    Sound E 119 [tpA T, bx x, bx b, .agg [.int .i64 t, .int .i64 h, .int .i64 part.1, .int .i64 part.2, .int .i64 order]] H (.ret (bx (enclAt T x b t h part order))) H := by
  refine sound_of_awp_pad (T.n + 2) tabOk mixed Tryz.func119 rfl (by rfl) Tryz.ntmps119 (by kernel_rfl) (by simp) ?_
  rw [show List.replicate (T.n + 2) ABlk.dead = deadJ T.n ++ [.dead] by unfold deadJ; rw [List.replicate_succ']]
  have hsm := hT.small
  have htv : vB (t, t + h) = true := vB_pair (by omega) (by omega) (by omega)
  have htp : pt t = (t, t) := pt_num (by omega)
  have htv2 : vB (t, t) = true := vB_pair (by omega) (by omega) (by omega)
  have hR := kRemainder T b t h order hT hb hbn hh ht (by omega)
  have hC := sCoef T x (t, t) order hT hx hxn htv2 (by omega)
  have hl := coefS_len (order := order) hT hx htv2
  have hrows := coefS_rows (order := order) hT hx htv2
  have hrv := remS_valid (order := order) hT hb htv
  have hrl := remS_len (order := order) hT hb htv
  unfold enclAt
  generalize coefS T x (t, t) order = l at *
  generalize remS T b t h order = r at *
  simp [tpA]
  refine call_ret (by simpa [tpA] using hR _) ?_
  simp [bx]
  refine callD_ret0 (fun Hx => iPoint t Hx) ?_
  rw [htp]
  simp
  refine callD_all (r := .ref H.length T.n) (K := H ++ (outJ H.length l ++ [.dead, .row true 3 [tpA T], .row true 5 [.agg [.int .i64 t, .int .i64 h, .int .i64 part.1, .int .i64 part.2, .int .i64 order]], .row true 1 [bx r]])) (by simp [outJ_len, deadJ_len, hl]) (fun Y => by
    have := hC H ([.dead, .row true 3 [tpA T], .row true 5 [.agg [.int .i64 t, .int .i64 h, .int .i64 part.1, .int .i64 part.2, .int .i64 order]], .row true 1 [bx r]] ++ Y)
    simp [tpA, bx] at this ⊢
    exact this) ?_
  simp
  refine callD_all (r := bxs (withRem l r)) (K := H ++ (.row true 1 (refsN H.length l) :: ((withRem l r).map rowF ++ [.dead, .row true 3 [tpA T], .row true 5 [.agg [.int .i64 t, .int .i64 h, .int .i64 part.1, .int .i64 part.2, .int .i64 order]], .row true 1 [bx r]]))) (by simp [outJ_len, withRem_len]) (fun Y => by
    have := kMapE l r 3 true (by omega) (by omega) (fun q hq => by rw [(hrows q hq).1]; omega) H ([.dead, .row true 3 [tpA T], .row true 5 [.agg [.int .i64 t, .int .i64 h, .int .i64 part.1, .int .i64 part.2, .int .i64 order]], .row true 1 [bx r]] ++ Y) rfl
    rw [hl] at this
    simp [tpA, bx, deadJ_len] at this ⊢
    exact this) ?_
  have hwr := withRem_rows hrows hrv
  have hwl := withRem_len l r
  rw [hl] at hwl
  generalize hw : withRem l r = l' at *
  generalize hJ : ABlk.row true 1 (refsN H.length l) :: l'.map rowF = J1
  have hJl : J1.length = T.n + 1 := by rw [← hJ]; simp [hwl]
  have hJa : ∀ Y, ABlk.row true 1 (refsN H.length l) :: (l'.map rowF ++ Y) = J1 ++ Y := fun Y => by rw [← hJ]; rfl
  rw [hJa]
  simp
  refine endD [(0, 7), (3, 7), (6, 7), (0, 9), (3, 9), (6, 9), (7, 9)] (by rfl) (by simp [okW, note, Eff.triv, Eff.wr, Eff.none, upTo, newAt, deadJ_len, outJ_len, hl]) ?_
  simp
  have hJg : ∀ (c : Nat) (Y : AH), (H ++ (J1 ++ Y))[H.length + (T.n + 1 + c)]? = Y[c]? := fun c Y => by
    rw [getAt]
    have := getAt (H := J1) (J := Y) (b := c)
    rw [hJl] at this; exact this
  have hJg2 : ∀ (c : Nat) (Y : AH), (J1 ++ Y)[T.n + 1 + c]? = Y[c]? := fun c Y => by
    have := getAt (H := J1) (J := Y) (b := c)
    rw [hJl] at this; exact this
  have hJs : ∀ (y : ABlk) (Y : AH), (H ++ (J1 ++ .dead :: Y)).set (H.length + (T.n + 1)) y = H ++ (J1 ++ y :: Y) := fun y Y => by
    rw [setAt]
    have := setAt (H := J1) (J := .dead :: Y) (b := 0) (y := y)
    rw [hJl] at this; rw [show T.n + 1 = T.n + 1 + 0 from rfl, this]; rfl
  refine callD_at (b := H.length + (T.n + 1)) (k := .dead) (k' := .row true 1 [bx b]) (hJg 0 _) (fun Hx hx => by simpa [bx] using kRestrict b _ Hx hx) ?_
  rw [hJs]
  simp [deadJ_len, hJg2]
  refine callD_ret0 (fun Hx => by simpa [bxs] using sEval l' part (fun q hq => ⟨(hwr q hq).2, by intro h; have := (hwr q hq).1; rw [h] at this; simp at this, by rw [(hwr q hq).1]; omega⟩) (by omega) hp Hx) ?_
  have hel := evalS_len l' part
  generalize evalS l' part = e at *
  simp
  refine callD_rdc [H.length + (T.n + 1)] (fun c hc => by simp at hc; subst hc; simp [hJl]) (fun Hx hx => by
    have hc : Hx[H.length + (T.n + 1)]? = some (.row true 1 [bx b]) := by rw [hx _ (by simp), show H.length + (T.n + 1) = H.length + (T.n + 1 + 0) from rfl, hJg]; rfl
    simpa using kRestr e b _ true (by omega) (by omega) Hx hc) ?_
  simp
  refine endD [(1, 6)] (by rfl) (by simp [okW, note, Eff.triv, Eff.wr, Eff.none, upTo, newAt]) ?_
  simp
  exact fin1 (rs := [.tmp 8]) (by rfl) (by simp [resA, bx]) (by simp only [noF, iv_noFs])
end Go.Proofs.YtfjjckepnkkgjaaGreatDoor.Arm

namespace Go.Proofs.YtfjjckepnkkgjaaGreatDoor.Arm
open Go.Arm Go.Pl
def PairM (a b : List I) (ca cb : Nat) (M : AH) : Prop := (∃ w, M[ca]? = some (.row w 1 [bx a])) ∧ ∃ w, M[cb]? = some (.row w 1 [bx b])
def pairsA (a b : List I) (i : Nat) : List (List AV) := (List.range (a.length - i)).map fun k => [iv (atN a (i + k)), iv (atN b (i + k))]
theorem pairsA_cons {a b : List I} {i : Nat} (h : i < a.length) : pairsA a b i = [iv (atN a i), iv (atN b i)] :: pairsA a b (i + 1) := by
  unfold pairsA
  rw [show a.length - i = a.length - (i + 1) + 1 by omega, List.range_succ_eq_map, List.map_cons, List.map_map]
  congr 1
  apply List.map_congr_left
  intro k _
  simp only [Function.comp]
  rw [show i + 1 + k = i + k.succ by omega]
theorem pairsA_nil {a b : List I} {i : Nat} (h : a.length ≤ i) : pairsA a b i = [] := by simp [pairsA, show a.length - i = 0 by omega]
def LPr (a b : List I) (ca cb bl : Nat) (H H1 : AH) (i : Nat) (fr : AFr) (H' : AH) : Prop :=
  fr 0 = .yld bl ∧ fr 2 = .ptr cb 1 0 0 ∧ fr 6 = bx a ∧ fr 7 = .int .i64 a.length ∧ fr 8 = .int .i64 i ∧ i ≤ a.length ∧
  ∃ M J, H' = M ++ J ∧ alters H M ∧ PairM a b ca cb M ∧ YRuns E bl (PairM a b ca cb) (pairsA a b i) M H1
theorem bPairs1 (a b : List I) (ca cb bl : Nat) (H H1 : AH) (hab : a.length ≤ b.length) (hl : a.length ≤ 1000000) (hM : PairM a b ca cb H) (hY : YRuns E bl (PairM a b ca cb) (pairsA a b 0) H H1) :
    Sound E 157 [.yld bl, .ptr ca 1 0 0, .ptr cb 1 0 0] H (.ret (.tuple [])) H1 := by
  refine sound_of_awp tabOk mixed Tryz.func157 rfl (by rfl) Tryz.ntmps157 (by kernel_rfl) (by simp) ?_
  obtain ⟨⟨wa, ha⟩, ⟨wb, hb⟩⟩ := hM
  have hal := (List.getElem?_eq_some_iff.1 ha).1
  simp only [bx] at ha hb
  simp [ha, get_old ha]
  refine loop_count (LPr a b ca cb bl H H1) (fun i => a.length - i) 0 ⟨by simp, by simp, by simp [bx], by simp, by simp, by omega, H, [], by simp, .refl H, ⟨⟨wa, ha⟩, ⟨wb, hb⟩⟩, hY⟩ ?_
  clear ha hb hal hY
  rintro i fr H' ⟨g0, g2, g6, g7, g8, hi, M, J, rfl, hal, hM, hY⟩
  simp [g7, g8]
  refine branch (fun hc => ?_) (fun hc => ?_)
  · have hlt : i < a.length := by simpa using hc
    obtain ⟨p, hp⟩ := get_lt hlt
    obtain ⟨q, hq⟩ := get_lt (l := b) (i := i) (by omega)
    have hpE : ∀ h, a[i]'h = p := fun h => (List.getElem?_eq_some_iff.1 hp).2
    have hqE : ∀ h, b[i]'h = q := fun h => (List.getElem?_eq_some_iff.1 hq).2
    have w2 : IntKind.i64.wrap ((i : Int) + 1) = ((i + 1 : Nat) : Int) := by rw [wrap64 (by omega) (by omega)]; omega
    rw [pairsA_cons hlt, show atN a i = p by simp [atN, hp], show atN b i = q by simp [atN, hq]] at hY
    obtain ⟨go, M1, h1, h2, h3, h4, h5⟩ := hY.cases_cons
    obtain ⟨⟨wa, ha⟩, ⟨wb, hb⟩⟩ := hM
    have hbl := (List.getElem?_eq_some_iff.1 hb).1
    simp only [bx] at ha hb
    simp [g0, g2, g6, g8, bx, hp, hpE, hq, hqE, hb, get_old hb]
    refine callD_yld (K := M1 ++ (J ++ [.row true 2 [iv p]])) (v := .bool go) (by simp [h1.1]) (fun X => by
      have := h3 (J ++ [.row true 2 [iv p]] ++ X)
      simp at this ⊢
      exact this) ?_
    simp
    refine endD [(1, 6), (2, 6)] (by rfl) (by simp [okW, note, Eff.triv, Eff.wr, Eff.none, upTo, newAt]) ?_
    simp
    refine branch (fun hg => ?_) (fun hg => ?_)
    · have hg : go = false := by simpa using hg
      rw [h4 hg]
      simp
      exact finY (by rfl) (hal.trans (by rw [← h4 hg]; exact h1))
    · have hg : go = true := by simpa using hg
      simp [g8, w2]
      exact ⟨i + 1, by show a.length - (i + 1) < a.length - i; omega, by simp [g0], by simp [g2], by simp [g6, bx], by simp [g7], by simp, by omega, M1, J ++ [.row true 2 [iv p]], by simp, hal.trans h1, h2, h5 hg⟩
  · have hi' : i = a.length := by have : ¬ i < a.length := by simpa using hc
                                  omega
    subst hi'
    rw [pairsA_nil (by omega)] at hY
    cases hY
    simp
    exact finY (by rfl) hal
end Go.Proofs.YtfjjckepnkkgjaaGreatDoor.Arm

namespace Go.Proofs.YtfjjckepnkkgjaaGreatDoor.Arm
open Go.Arm Go.Pl
theorem bSubset (a b : List I) (hab : a.length ≤ b.length) (hl : a.length ≤ 1000000) (H : AH) : Sound E 139 [bx a, bx b] H (.ret (.bool (subI a b))) H := by
  refine sound_of_awp tabOk mixed Tryz.func139 rfl (by rfl) Tryz.ntmps139 (by kernel_rfl) (by simp) ?_
  simp
  refine call_ret (by simpa using bPairs a b _) ?_
  simp
  refine range_it 5 (by rfl) (fun N hN => ?_)
  generalize hk : (LK.mk N _ _ _) = k at hN ⊢
  generalize hf : List.map _ (List.range 5) = frs
  have h4 : frs[4]? = some (.ptr H.length 1 0 0) := by rw [← hf]; simp
  have halt : ∀ st, alters (H ++ [.row true 1 [.bool false], .row true 1 [bx a], .row true 1 [bx b], .loop k .ready frs]) (H ++ [.row true 1 [.bool false], .row true 1 [bx a], .row true 1 [bx b], .loop k st frs]) := fun st => alters_of ⟨.same _, .same _, .same _, .loop, trivial⟩
  have hP : ∀ st, PairM a b (H.length + 1) (H.length + 2) (H ++ [.row true 1 [.bool false], .row true 1 [bx a], .row true 1 [bx b], .loop k st frs]) := fun st => ⟨⟨true, by simp⟩, ⟨true, by simp⟩⟩
  have hround : ∀ (p q : I) (J : AH), YSound E (H.length + 3) [iv p, iv q] (H ++ [.row true 1 [.bool false], .row true 1 [bx a], .row true 1 [bx b], .loop k .ready frs] ++ J) (.bool (subB p q))
      (H ++ [.row true 1 [.bool false], .row true 1 [bx a], .row true 1 [bx b], .loop k (if subB p q then .ready else .done .ret) frs] ++ J) := by
    intro p q J
    refine yield_sound tabOk mixed (k := k) (frs := frs) (by simp) (by rw [← hk]; rfl) hN ?_
    have ka := congrArg LK.assign hk
    have kb := congrArg LK.body hk
    have kp := congrArg LK.ps hk
    dsimp only at ka kb kp
    rw [← ka, ← kb, ← kp]
    clear ka kb kp hk hf hN
    simp [roundFr]
    rw [assignK_normal]
    refine ⟨by simp, ?_⟩
    simp
    refine call_ret (iSubset p q _) ?_
    simp
    refine branch (fun hs => ?_) (fun hs => ?_)
    · have hs : subB p q = false := by simpa using hs
      simp [h4, hs]
      rw [roundK_ret]
      refine ⟨by simp, rfl, ?_⟩
      have := Leaves.alters (J := J) (X := [.row true 2 [iv p], .row true 2 [iv q]]) (halt (.done .ret))
      simpa using this
    · have hs : subB p q = true := by simpa using hs
      simp [hs]
      rw [roundK_normal]
      refine ⟨by simp, rfl, ?_⟩
      have := Leaves.alters (J := J) (X := [.row true 2 [iv p], .row true 2 [iv q]]) (halt .ready)
      simpa using this
  have hrun : ∀ n i, a.length - i = n → YRuns E (H.length + 3) (PairM a b (H.length + 1) (H.length + 2)) (pairsA a b i) (H ++ [.row true 1 [.bool false], .row true 1 [bx a], .row true 1 [bx b], .loop k .ready frs])
      (H ++ [.row true 1 [.bool false], .row true 1 [bx a], .row true 1 [bx b], .loop k (if (List.range n).all (fun j => subB (atN a (i + j)) (atN b (i + j))) then .ready else .done .ret) frs]) := by
    intro n
    induction n with
    | zero => intro i hi; rw [pairsA_nil (by omega)]; exact .nil _
    | succ n ih =>
      intro i hi
      rw [pairsA_cons (by omega)]
      have hr := fun J => hround (atN a i) (atN b i) J
      have he : (List.range (n + 1)).all (fun j => subB (atN a (i + j)) (atN b (i + j))) = (subB (atN a i) (atN b i) && (List.range n).all fun j => subB (atN a (i + 1 + j)) (atN b (i + 1 + j))) := by
        rw [List.range_succ_eq_map, List.all_cons, List.all_map]
        congr 1
        congr 1
        funext j
        simp only [Function.comp]
        rw [show i + j.succ = i + 1 + j by omega]
      rw [he]
      cases hs : subB (atN a i) (atN b i) with
      | false =>
        rw [hs] at hr
        exact .stop (halt _) (hP _) hr
      | true =>
        rw [hs] at hr
        simp only [Bool.true_and]
        exact .go (halt _) (hP _) hr (ih (i + 1) (by omega))
  have hrun0 := hrun a.length 0 rfl
  have he : (List.range a.length).all (fun j => subB (atN a (0 + j)) (atN b (0 + j))) = subI a b := by
    unfold subI; congr 1; funext j; rw [Nat.zero_add]
  rw [he] at hrun0
  have hS := bPairs1 a b _ _ (H.length + 3) _ _ hab hl (hP .ready) hrun0
  cases hs : subI a b with
  | true =>
    rw [hs] at hS
    refine ⟨_, _, k, .ready, frs, by simpa using hS, by simp, ?_⟩
    simp [jumpA]
    exact fin1 (rs := [.cell 4 4]) (by rfl) (by simp [resA]) (by simp [noFs, noF])
  | false =>
    rw [hs] at hS
    refine ⟨_, _, k, .done .ret, frs, by simpa using hS, by simp, ?_⟩
    simp [jumpA]
    exact fin1 (rs := [.cell 4 4]) (by rfl) (by simp [resA]) (by simp [noFs, noF])
end Go.Proofs.YtfjjckepnkkgjaaGreatDoor.Arm

namespace Go.Proofs.YtfjjckepnkkgjaaGreatDoor.Arm
open Go.Arm Go.Pl
theorem pCandidates (T : Tp) (x : List I) (t h : Int) (H : AH) : Sound E 138 [tpA T, bx x, .agg [.int .i64 t, .int .i64 h]] H (.ret (.func (.func 158) [] [.ptr (H.length + 1) 1 0 0, .ptr H.length 1 0 0, .ptr (H.length + 2) 1 0 0]))
    (H ++ [.row true 3 [tpA T], .row true 1 [bx x], .row true 2 [.agg [.int .i64 t, .int .i64 h]]]) := by
  refine sound_of_awp tabOk mixed Tryz.func138 rfl (by rfl) Tryz.ntmps138 (by kernel_rfl) (by simp) ?_
  simp [bx, tpA]
  exact finK (rs := [.tmp 6]) (vs := [.func (.func 158) [] [.ptr (H.length + 1) 1 0 0, .ptr H.length 1 0 0, .ptr (H.length + 2) 1 0 0]]) (by rfl) (by simp [resA]) rfl
def CandM (T : Tp) (x : List I) (t h : Int) (cx cT cg : Nat) (M : AH) : Prop := (∃ w, M[cx]? = some (.row w 1 [bx x])) ∧ (∃ w, M[cT]? = some (.row w 3 [tpA T])) ∧ ∃ w, M[cg]? = some (.row w 2 [.agg [.int .i64 t, .int .i64 h]])
def candA (l : List (List I × List I)) : List (List AV) := l.map fun p => [bx p.1, bx p.2]
def LCd (T : Tp) (x : List I) (t h : Int) (cx cT cg bl : Nat) (H H1 : AH) (i : Nat) (fr : AFr) (H' : AH) : Prop :=
  fr 0 = .yld bl ∧ fr 1 = .ptr cx 1 0 0 ∧ fr 2 = .ptr cT 1 0 0 ∧ fr 3 = .ptr cg 1 0 0 ∧ fr 14 = .int .i64 i ∧ i ≤ 8 ∧
  ∃ b M J, fr 5 = bx b ∧ allV b ∧ b.length = x.length ∧ H' = M ++ J ∧ alters H M ∧ CandM T x t h cx cT cg M ∧ YRuns E bl (CandM T x t h cx cT cg) (candA (candP T x t h (8 - i) b)) M H1
theorem pCandidates1 (T : Tp) (x : List I) (t h : Int) (cx cT cg bl : Nat) (H H1 : AH) (hT : tpOk T) (hx : allV x) (hxn : x.length = T.n) (hh : 0 ≤ h ∧ h ≤ 1000000000) (ht : -1000000000 ≤ t ∧ t ≤ 1000000000) (hM : CandM T x t h cx cT cg H)
    (hY : YRuns E bl (CandM T x t h cx cT cg) (candA (candP T x t h 8 (hullB x (imageB T x x t h)))) H H1) :
    Sound E 158 [.yld bl, .ptr cx 1 0 0, .ptr cT 1 0 0, .ptr cg 1 0 0] H (.ret (.tuple [])) H1 := by
  refine sound_of_awp tabOk mixed Tryz.func158 rfl (by rfl) Tryz.ntmps158 (by kernel_rfl) (by simp) ?_
  have hsm := hT.small
  have hI := fun b hb hbn Hx => pImage T x b t h hT hx hb hxn hbn hh ht Hx
  have hZ : ∀ a b Hx, a.length ≤ b.length → a.length ≤ 1000000 → allV a → allV b → Sound E 159 [bx a, bx b, fnA 130] Hx (.ret (bx (hullB a b))) Hx := fun a b Hx h1 h2 h3 h4 =>
    pZip hull a b 130 [] [] h1 h2 Hx (by simp) (.inl rfl) (fun p hp q hq Hx _ => by simpa using iHull p q Hx)
  obtain ⟨⟨w1, m1⟩, ⟨w2, m2⟩, ⟨w3, m3⟩⟩ := hM
  have m1' := m1
  have m2' := m2
  simp only [bx] at m1
  simp only [tpA] at m2
  simp [m1, m2, m3]
  refine callD_ret0 (fun Hx => by simpa [tpA, bx] using hI x hx hxn Hx) ?_
  have hil := imageB_len (T := T) (x := x) (b := x) (t := t) (h := h)
  have hiv := imageB_valid (T := T) (x := x) (b := x) (t := t) (h := h) hx
  generalize imageB T x x t h = d0 at *
  simp
  refine callD_ret0 (fun Hx => by simpa [fnA, bx] using hZ x d0 Hx (by omega) (by omega) hx hiv) ?_
  simp
  refine endD [] (by rfl) (by simp [okW, note, Eff.triv, Eff.wr, Eff.none, upTo, newAt]) ?_
  simp
  refine loop_count (LCd T x t h cx cT cg bl H H1) (fun i => 8 - i) 0 ⟨by simp, by simp, by simp, by simp, by simp, by omega, hullB x d0, H, [], by simp [bx], hullB_valid hx hiv, by rw [hullB_len], by simp, .refl H, ⟨⟨w1, m1'⟩, ⟨w2, m2'⟩, ⟨w3, m3⟩⟩, hY⟩ ?_
  clear m1 m2 m1' m2' m3 hY hil hiv
  rintro i fr H' ⟨g0, g1, g2, g3, g14, hi, b, M, J, g5, hb, hbl, rfl, hal, hM, hY⟩
  simp [g14]
  refine branch (fun hc => ?_) (fun hc => ?_)
  · have hlt : i < 8 := by simp at hc; omega
    have w2 : IntKind.i64.wrap ((i : Int) + 1) = ((i + 1 : Nat) : Int) := by rw [wrap64 (by omega) (by omega)]; omega
    rw [show 8 - i = (8 - (i + 1)) + 1 by omega] at hY
    simp only [candP] at hY
    have hib := inflB_valid hb
    have hil := inflB_len b
    have hdv := imageB_valid (T := T) (x := x) (b := inflB b) (t := t) (h := h) hx
    have hdl := imageB_len (T := T) (x := x) (b := inflB b) (t := t) (h := h)
    obtain ⟨⟨w1, m1⟩, ⟨w2', m2⟩, ⟨w3, m3⟩⟩ := hM
    simp only [bx] at m1
    simp only [tpA] at m2
    simp [g5]
    refine call_ret (pBounded b (by omega) _) ?_
    simp
    refine branch (fun n1 => ?_) (fun n1 => ?_)
    · rw [if_pos (by simpa using n1)] at hY
      cases hY
      simp
      exact finY (by rfl) hal
    rw [if_neg (by simpa using n1)] at hY
    simp [g5]
    refine call_ret (pInflate b hb (by omega) _) ?_
    generalize inflB b = b1 at *
    simp
    refine call_ret (pBounded b1 (by omega) _) ?_
    simp
    refine branch (fun n2 => ?_) (fun n2 => ?_)
    · rw [if_pos (by simpa using n2)] at hY
      cases hY
      simp
      exact finY (by rfl) hal
    rw [if_neg (by simpa using n2)] at hY
    simp [g1, g2, g3, m1, m2, m3, get_old m1, get_old m2, get_old m3]
    refine call_ret (by simpa [tpA, bx] using hI b1 hib (by omega) _) ?_
    generalize imageB T x b1 t h = d at *
    simp
    refine call_ret (by simpa [bx] using pBounded d (by omega) _) ?_
    simp
    refine gateF (fun n3 => ?_) (fun n3 => ?_)
    · have n3' : ¬ boundedB d = false := by simpa using n3
      rw [if_neg n3'] at hY
      obtain ⟨go, M1, h1, h2, h3, h4, h5⟩ := YRuns.cases_cons (show YRuns E bl (CandM T x t h cx cT cg) ([bx b1, bx d] :: candA (candP T x t h (8 - (i + 1)) (hullB b1 d))) M H1 from hY)
      simp [n3, g0]
      refine call_yld (by simpa [bx] using h3 J) ?_
      simp [n3]
      refine branch (fun hg => ?_) (fun hg => ?_)
      · have hg : go = false := by simpa using hg
        have e := h4 hg
        subst e
        simp
        exact finY (by rfl) (hal.trans h1)
      · have hg : go = true := by simpa using hg
        simp
        refine call_ret (by simpa [fnA, bx] using hZ b1 d _ (by omega) (by omega) hib hdv) ?_
        simp [g14, w2]
        exact ⟨i + 1, by show 8 - (i + 1) < 8 - i; omega, by simp [g0], by simp [g1], by simp [g2], by simp [g3], by simp, by omega, hullB b1 d, M1, J, by simp [bx], hullB_valid hib hdv, by rw [hullB_len]; omega, rfl, hal.trans h1, h2, h5 hg⟩
    · have n3' : boundedB d = false := by simpa using n3
      rw [if_pos n3'] at hY
      cases hY
      simp [n3]
      exact finY (by rfl) hal
  · have hi' : i = 8 := by simp at hc; omega
    subst hi'
    cases hY
    simp
    exact finY (by rfl) hal
end Go.Proofs.YtfjjckepnkkgjaaGreatDoor.Arm

namespace Go.Proofs.YtfjjckepnkkgjaaGreatDoor.Arm
open Go.Arm Go.Pl
def fndA : Option (List I) → AV
  | some d => bx d
  | none => .nilslice
theorem pEnclose (T : Tp) (x : List I) (t h : Int) (hT : tpOk T) (hx : allV x) (hxn : x.length = T.n) (hn : 1 ≤ T.n) (hh : 0 ≤ h ∧ h ≤ 1000000000) (ht : -1000000000 ≤ t ∧ t ≤ 1000000000) (H : AH) :
    Sound E 117 [tpA T, bx x, .agg [.int .i64 t, .int .i64 h]] H (.ret (encA (enclS T x t h))) H := by
  refine sound_of_awp tabOk mixed Tryz.func117 rfl (by rfl) Tryz.ntmps117 (by kernel_rfl) (by simp) ?_
  have hsm := hT.small
  have henc : enclS T x t h = (candP T x t h 8 (hullB x (imageB T x x t h))).findSome? hitP := encS_cand T x t h 8 _
  have hcand := candP_ok (T := T) (t := t) (h := h) hx 8 (hullB x (imageB T x x t h)) (hullB_valid hx (imageB_valid hx)) (by rw [hullB_len])
  rw [henc]
  have hI1 := fun bl H1 M hM hY => pCandidates1 T x t h (H.length + 4) (H.length + 3) (H.length + 5) bl M H1 hT hx hxn hh ht hM hY
  generalize candP T x t h 8 (hullB x (imageB T x x t h)) = L at *
  simp [tpA]
  refine call_ret (by simpa [tpA] using pCandidates T x t h _) ?_
  simp
  refine range_it 9 (by rfl) (fun N hN => ?_)
  generalize hk : (LK.mk N _ _ _) = k at hN ⊢
  generalize hf : List.map _ (List.range 9) = frs
  have h4 : frs[8]? = some (.ptr (H.length + 2) 1 0 0) := by rw [← hf]; simp
  let MM : Option (List I) → LSt → AH := fun r st => H ++ [.row true 3 [tpA T], .row true 2 [.agg [.int .i64 t, .int .i64 h]], .row true 1 [fndA r], .row true 3 [tpA T], .row true 1 [bx x], .row true 2 [.agg [.int .i64 t, .int .i64 h]], .loop k st frs]
  have halt : ∀ r st, alters (MM none .ready) (MM r st) := fun r st => alters_of ⟨.same _, .same _, .inr (.inl (by cases r <;> simp [fndA, noFB, noFs, noF, bx, iv_noFs])), .same _, .same _, .same _, .loop, trivial⟩
  have hP : ∀ r st, CandM T x t h (H.length + 4) (H.length + 3) (H.length + 5) (MM r st) := fun r st => ⟨⟨true, by simp [MM]⟩, ⟨true, by simp [MM]⟩, ⟨true, by simp [MM]⟩⟩
  have hround : ∀ p ∈ L, ∀ (J : AH), YSound E (H.length + 6) [bx p.1, bx p.2] (MM none .ready ++ J) (.bool (!(subI p.2 p.1))) (MM (hitP p) (if subI p.2 p.1 then .done (.exit 0) else .ready) ++ J) := by
    intro p hp J
    obtain ⟨q1, q2, q3, q4⟩ := hcand p hp
    refine yield_sound tabOk mixed (k := k) (frs := frs) (by simp [MM]) (by rw [← hk]; rfl) hN ?_
    have ka := congrArg LK.assign hk
    have kb := congrArg LK.body hk
    have kp := congrArg LK.ps hk
    dsimp only at ka kb kp
    rw [← ka, ← kb, ← kp]
    clear ka kb kp hk hf hN
    simp [roundFr]
    rw [assignK_normal]
    refine ⟨by simp [MM], ?_⟩
    simp [MM]
    refine call_ret (bSubset p.2 p.1 (by omega) (by omega) _) ?_
    simp
    refine branch (fun hs => ?_) (fun hs => ?_)
    · simp [h4, hs, fndA, bx]
      rw [roundK_exit]
      refine ⟨by simp, rfl, ?_⟩
      have := Leaves.alters (J := J) (X := []) (halt (some p.2) (.done (.exit 0)))
      simpa [MM, hitP, hs, fndA, bx] using this
    · simp [hs]
      rw [roundK_normal]
      refine ⟨by simp, rfl, ?_⟩
      have := Leaves.alters (J := J) (X := []) (halt none .ready)
      simpa [MM, hitP, hs, fndA, bx] using this
  have hrun : ∀ l : List (List I × List I), (∀ p ∈ l, p ∈ L) → YRuns E (H.length + 6) (CandM T x t h (H.length + 4) (H.length + 3) (H.length + 5)) (candA l) (MM none .ready) (MM (l.findSome? hitP) (if (l.findSome? hitP).isSome then .done (.exit 0) else .ready)) := by
    intro l
    induction l with
    | nil => intro _; exact .nil _
    | cons p l ih =>
      intro hl
      have hr := hround p (hl p (by simp))
      rw [List.findSome?_cons]
      cases hs : subI p.2 p.1 with
      | true =>
        have e : hitP p = some p.2 := by simp [hitP, hs]
        rw [hs, e] at hr
        rw [e]
        exact .stop (halt _ _) (hP _ _) hr
      | false =>
        have e : hitP p = none := by simp [hitP, hs]
        rw [hs, e] at hr
        rw [e]
        exact .go (halt _ _) (hP _ _) hr (ih fun q hq => hl q (by simp [hq]))
  have hS := hI1 (H.length + 6) _ _ (hP none .ready) (hrun L fun p hp => hp)
  have hmem : ∀ d, L.findSome? hitP = some d → d ≠ [] := by
    intro d hd
    obtain ⟨p, hp, hpd⟩ := List.exists_of_findSome?_eq_some hd
    have := hcand p hp
    unfold hitP at hpd
    split at hpd
    · cases hpd
      intro h0
      have h1 := this.2.2.2
      rw [h0] at h1
      simp at h1; omega
    · cases hpd
  cases hr : L.findSome? hitP with
  | none =>
    rw [hr] at hS
    refine ⟨_, _, k, .ready, frs, by simpa [MM, fndA, tpA] using hS, by simp, ?_⟩
    simp [jumpA, binOpA, binA, eqA, nilI]
    refine endD [] (by rfl) (by simp [okW, note, Eff.triv, Eff.wr, Eff.none, upTo, newAt]) ?_
    simp
    exact ⟨[.nilslice, .bool false], [.nilslice, .bool false], by simp [show (Tryz.f117).results.toList = [.tmp 6, .tmp 7] from rfl, resA], .drop (by simp [noFs, noF]), rfl⟩
  | some d =>
    rw [hr] at hS
    refine ⟨_, _, k, .done (.exit 0), frs, by simpa [MM, fndA, tpA] using hS, by simp, ?_⟩
    have hd := hmem d hr
    obtain ⟨p, r, rfl⟩ : ∃ p r, d = p :: r := by cases d with
      | nil => exact absurd rfl hd
      | cons p r => exact ⟨p, r, rfl⟩
    simp [jumpA, bx, binOpA, binA, eqA, nilI]
    refine endD [] (by rfl) (by simp [okW, note, Eff.triv, Eff.wr, Eff.none, upTo, newAt]) ?_
    simp
    exact ⟨[bx (p :: r), .bool true], [bx (p :: r), .bool true], by simp [show (Tryz.f117).results.toList = [.tmp 6, .tmp 7] from rfl, resA, bx], .drop (by simp only [noFs, noF, bx, iv_noFs, Bool.and_self]), rfl⟩
end Go.Proofs.YtfjjckepnkkgjaaGreatDoor.Arm

namespace Go.Proofs.YtfjjckepnkkgjaaGreatDoor.Arm
open Go.Arm Go.Pl
def zsA : AV := .agg [.int .i64 0, .int .i64 0, .nilslice, .nilslice, .nilslice, .nilslice]
def sgO : Option Sg → AV
  | some s => .tuple [sgA s, .bool true]
  | none => .tuple [zsA, .bool false]
theorem kBounded (s : Sg) (h1 : s.to.length ≤ 1000000) (h2 : s.tube.length ≤ 1000000) (H : AH) : Sound E 120 [sgA s] H (.ret (sgO (if boundedB s.tube && boundedB s.to then some s else none))) H := by
  refine sound_of_awp tabOk mixed Tryz.func120 rfl (by rfl) Tryz.ntmps120 (by kernel_rfl) (by simp) ?_
  have hS := fun b Hx hl => sContainsFunc b 127 [] entB Hx hl (fun p _ => by simpa using iIsEntire p Hx)
  have e : ∀ b : List I, boundedB b = !(b.any entB) := fun b => by
    unfold boundedB
    rw [List.not_any_eq_all_not]
  simp only [e]
  obtain ⟨t, h, frm, pre, tube, to⟩ := s
  simp only at h1 h2 ⊢
  simp [sgA, bx]
  refine call_ret (by simpa [bx] using hS tube _ h2) ?_
  simp
  cases m1 : tube.any entB with
  | true =>
    simp
    exact ⟨[zsA, .bool false], [zsA, .bool false], by simp [show (Tryz.f120).results.toList = [.cell 2 47, .tmp 3] from rfl, resA, zsA], .drop (by simp [noFs, noF, zsA]), rfl⟩
  | false =>
    simp
    refine call_ret (by simpa [bx] using hS to _ h1) ?_
    simp
    cases m2 : to.any entB with
    | true =>
      simp
      exact ⟨[zsA, .bool false], [zsA, .bool false], by simp [show (Tryz.f120).results.toList = [.cell 2 47, .tmp 3] from rfl, resA, zsA], .drop (by simp [noFs, noF, zsA]), rfl⟩
    | false =>
      simp
      exact ⟨[sgA ⟨t, h, frm, pre, tube, to⟩, .bool true], [sgA ⟨t, h, frm, pre, tube, to⟩, .bool true], by simp [show (Tryz.f120).results.toList = [.cell 2 47, .tmp 3] from rfl, resA, sgA, bx], .drop (by simp only [noFs, noF, sgA, bx, iv_noFs, Bool.and_self]), rfl⟩
theorem kStep1 (T : Tp) (x b : List I) (t h lo hi : Int) (order : Nat) (c4 c5 c10 c6 c7 : Nat) (w4 w5 w10 w6 w7 : Bool) (hT : tpOk T) (hx : allV x) (hxn : x.length = T.n) (hb : allV b) (hbn : b.length = T.n) (hh : 0 ≤ h ∧ h ≤ 1000000000) (ht : -1000000000 ≤ t ∧ t ≤ 1000000000) (hp : vB (lo, hi) = true) (ho : 1 ≤ order ∧ order ≤ 900) (H : AH)
    (m4 : H[c4]? = some (.row w4 3 [tpA T])) (m5 : H[c5]? = some (.row w5 1 [bx x])) (m10 : H[c10]? = some (.row w10 1 [bx b])) (m6 : H[c6]? = some (.row w6 2 [.agg [.int .i64 t, .int .i64 h]])) (m7 : H[c7]? = some (.row w7 1 [.int .i64 order])) :
    Sound E 118 [.int .i64 lo, .int .i64 hi, .ptr c4 1 0 0, .ptr c5 1 0 0, .ptr c10 1 0 0, .ptr c6 1 0 0, .ptr c7 1 0 0] H (.ret (bx (enclAt T x b t h (lo, hi) order))) H := by
  refine sound_of_awp tabOk mixed Tryz.func118 rfl (by rfl) Tryz.ntmps118 (by kernel_rfl) (by simp) ?_
  have hS := kEnclosureAt T x b t h (lo, hi) order hT hx hxn hb hbn hh ht hp ho H
  generalize enclAt T x b t h (lo, hi) order = r at *
  simp only [tpA] at m4
  simp only [bx] at m5 m10
  simp [m4, m5, m6, m7, m10]
  refine call_ret (by simpa [tpA, bx] using hS) ?_
  simp
  exact fin0 (rs := [.tmp 9]) (by rfl) (by simp [resA, bx])
theorem restrB_valid {a b : List I} (ha : allV a) (hb : allV b) : allV (restrB a b) := rangeV fun i => restrI_valid (atN_valid ha i) (atN_valid hb i)
theorem restrB_len (a b : List I) : (restrB a b).length = a.length := by simp [restrB]
theorem enclAt_ok {T : Tp} {x b : List I} {t h : Int} {part : I} {order : Nat} (hT : tpOk T) (hx : allV x) (hb : allV b) (hh : 0 ≤ h ∧ h ≤ 1000000000) (ht : -1000000000 ≤ t ∧ t ≤ 1000000000) (hp : vB part = true) :
    allV (enclAt T x b t h part order) ∧ (enclAt T x b t h part order).length = T.n := by
  have htv : vB (t, t + h) = true := vB_pair (by omega) (by omega) (by omega)
  have htv2 : vB (t, t) = true := vB_pair (by omega) (by omega) (by omega)
  have hr := withRem_rows (coefS_rows (order := order) hT hx htv2) (remS_valid (order := order) hT hb htv)
  unfold enclAt
  refine ⟨restrB_valid (fun p hp => ?_) hb, by rw [restrB_len, evalS_len, withRem_len, coefS_len hT hx htv2]⟩
  obtain ⟨q, hq, rfl⟩ := List.mem_map.1 hp
  exact hornS_valid (hr q hq).2
theorem enclS_ok {T : Tp} {x d : List I} {t h : Int} (hx : allV x) (h0 : enclS T x t h = some d) : allV d ∧ d.length = x.length := by
  rw [show enclS T x t h = (candP T x t h 8 (hullB x (imageB T x x t h))).findSome? hitP from encS_cand T x t h 8 _] at h0
  obtain ⟨p, hp, hpd⟩ := List.exists_of_findSome?_eq_some h0
  have := candP_ok hx 8 _ (hullB_valid hx (imageB_valid hx)) (by rw [hullB_len]) p hp
  unfold hitP at hpd
  split at hpd
  · cases hpd; exact this.2.2
  · cases hpd
theorem kIntervalStep (T : Tp) (x : List I) (t h : Int) (order : Nat) (hT : tpOk T) (hx : allV x) (hxn : x.length = T.n) (hn : 1 ≤ T.n) (hh : 0 ≤ h ∧ h ≤ 1000000000) (ht : -1000000000 ≤ t ∧ t ≤ 1000000000) (ho : 1 ≤ order ∧ order ≤ 900) (H : AH) :
    Sound E 92 [tpA T, bx x, .agg [.int .i64 t, .int .i64 h], .int .i64 order] H (.ret (sgO (istepS T x t h order))) H := by
  refine sound_of_awp tabOk mixed Tryz.func92 rfl (by rfl) Tryz.ntmps92 (by kernel_rfl) (by simp) ?_
  have hsm := hT.small
  have hE := pEnclose T x t h hT hx hxn hn hh ht
  unfold istepS
  cases hr : enclS T x t h with
  | none =>
    rw [hr] at hE
    simp [tpA, bx]
    refine call_ret (by simpa [tpA, bx] using hE _) ?_
    simp [encA]
    exact ⟨[zsA, .bool false], [zsA, .bool false], by simp [show (Tryz.f92).results.toList = [.cell 8 47, .tmp 9] from rfl, resA, zsA], .drop (by simp [noFs, noF, zsA]), rfl⟩
  | some b =>
    rw [hr] at hE
    obtain ⟨hbv, hbl⟩ := enclS_ok hx hr
    have hp1 : vB (0, h) = true := vB_pair (by omega) (by omega) (by omega)
    have hp2 : vB (h, h) = true := vB_pair (by omega) (by omega) (by omega)
    have hS1 := fun lo hi hp c4 c5 c10 c6 c7 Hx m4 m5 m10 m6 m7 => kStep1 T x b t h lo hi order c4 c5 c10 c6 c7 true true true true true hT hx hxn hbv (by omega) hh ht hp ho Hx m4 m5 m10 m6 m7
    have k1 := enclAt_ok (order := order) hT hx hbv hh ht hp1
    have k2 := enclAt_ok (order := order) hT hx hbv hh ht hp2
    have hA := hS1 0 h hp1
    have hB := hS1 h h hp2
    have hK := kBounded ⟨t, h, x, b, enclAt T x b t h (0, h) order, enclAt T x b t h (h, h) order⟩ (by simp only; omega) (by simp only; omega)
    simp only at hK ⊢
    generalize (if (boundedB (enclAt T x b t h (0, h) order) && boundedB (enclAt T x b t h (h, h) order)) = true then some (Sg.mk t h x b (enclAt T x b t h (0, h) order) (enclAt T x b t h (h, h) order)) else none) = R at *
    generalize enclAt T x b t h (0, h) order = A at *
    generalize enclAt T x b t h (h, h) order = B at *
    simp [tpA, bx]
    refine call_ret (by simpa [tpA, bx] using hE _) ?_
    simp [encA, bx]
    refine callD_rdA (fun X => by simpa using hA _ _ _ _ _ _ (by simp [tpA]) (by simp [bx]) (by simp [bx]) (by simp) (by simp)) ?_
    simp
    refine callD_rdA (fun X => by simpa using hB _ _ _ _ _ _ (by simp [tpA]) (by simp [bx]) (by simp [bx]) (by simp) (by simp)) ?_
    simp [bx]
    refine callD_ret0 (fun Hx => by simpa [sgA, bx] using hK Hx) ?_
    cases R with
    | none =>
      simp [sgO, zsA]
      refine endD [(9, 20), (15, 20)] (by rfl) (by simp [okW, note, Eff.triv, Eff.wr, Eff.none, upTo, newAt]) ?_
      simp
      exact ⟨[zsA, .bool false], [zsA, .bool false], by simp [show (Tryz.f92).results.toList = [.cell 8 47, .tmp 9] from rfl, resA, zsA], .drop (by simp [noFs, noF, zsA]), rfl⟩
    | some s =>
      simp [sgO, sgA, bx]
      refine endD [(9, 20), (15, 20)] (by rfl) (by simp [okW, note, Eff.triv, Eff.wr, Eff.none, upTo, newAt]) ?_
      simp
      exact ⟨[sgA s, .bool true], [sgA s, .bool true], by simp [show (Tryz.f92).results.toList = [.cell 8 47, .tmp 9] from rfl, resA, sgA, bx], .drop (by simp only [noFs, noF, sgA, bx, iv_noFs, Bool.and_self]), rfl⟩
end Go.Proofs.YtfjjckepnkkgjaaGreatDoor.Arm

namespace Go.Arm
open Go.RowKit
theorem alters.set (H : AH) (b : Nat) {k : ABlk} (hk : noFB H.length k = true) : alters H (H.set b k) := by
  refine ⟨by simp, fun c => ?_⟩
  by_cases h : b = c
  · subst h
    by_cases hlt : b < H.length
    · exact .inr (.inl ⟨k, by simp [hlt], hk⟩)
    · left; rw [List.set_eq_of_length_le (by omega)]
  · left; rw [List.getElem?_set_ne h]
inductive YTurns (E : Env) (b : Nat) (C : List Nat) : List (List AV × (AH → AH)) → AH → AH → Prop
  | nil (H : AH) : YTurns E b C [] H H
  | stop {a : List AV} {f : AH → AH} {r : List (List AV × (AH → AH))} {H H' : AH} (h1 : alters H H') (h2 : ∀ c ∈ C, H'[c]? = H[c]?) (h3 : ∀ J : AH, YSound E b a (H ++ J) (.bool false) (H' ++ J)) : YTurns E b C ((a, f) :: r) H H'
  | go {a : List AV} {f : AH → AH} {r : List (List AV × (AH → AH))} {H H1 H' : AH} (h1 : alters H H1) (h2 : ∀ c ∈ C, H1[c]? = H[c]?) (h3 : ∀ J : AH, YSound E b a (H ++ J) (.bool true) (H1 ++ J)) (h4 : YTurns E b C r (f H1) H') : YTurns E b C ((a, f) :: r) H H'
theorem YTurns.cases_cons {E : Env} {b : Nat} {C : List Nat} {a : List AV} {f : AH → AH} {r : List (List AV × (AH → AH))} {H H' : AH} (h : YTurns E b C ((a, f) :: r) H H') :
    ∃ (go : Bool) (H1 : AH), Arm.alters H H1 ∧ (∀ c ∈ C, H1[c]? = H[c]?) ∧ (∀ J : AH, YSound E b a (H ++ J) (.bool go) (H1 ++ J)) ∧ (go = false → H1 = H') ∧ (go = true → YTurns E b C r (f H1) H') := by
  cases h with
  | stop h1 h2 h3 => exact ⟨false, _, h1, h2, h3, fun _ => rfl, nofun⟩
  | go h1 h2 h3 h4 => exact ⟨true, _, h1, h2, h3, nofun, fun _ => h4⟩
end Go.Arm

namespace Go.Pl
theorem tdiv2 {h : Int} (h0 : 0 ≤ h) : h.tdiv 2 = h / 2 := Int.tdiv_eq_ediv_of_nonneg h0
theorem candS_fuel (c : Ct) (hl : 1 ≤ c.least) : ∀ (k : Nat) (h : Int) (n : Nat), 1 ≤ h → h.toNat ≤ k → h.toNat < n → candS c n h = candS c (h.toNat + 1) h
  | 0, h, n, h1, hk, hn => by omega
  | k + 1, h, n, h1, hk, hn => by
    obtain ⟨m, rfl⟩ : ∃ m, n = m + 1 := ⟨n - 1, by omega⟩
    simp only [candS]
    split
    · rfl
    · rename_i hd
      have e := tdiv2 (h := h) (by omega)
      have h2 : 1 ≤ h.tdiv 2 := by omega
      have h3 : (h.tdiv 2).toNat < h.toNat := by omega
      rw [candS_fuel c hl k (h.tdiv 2) m h2 (by omega) (by omega), candS_fuel c hl k (h.tdiv 2) h.toNat h2 (by omega) h3]
theorem cands_cons {c : Ct} {h : Int} (hl : 1 ≤ c.least) (h1 : 1 ≤ h) : cands c h = h :: if h.tdiv 2 < c.least then [] else cands c (h.tdiv 2) := by
  unfold cands
  have : candS c (h.toNat + 1) h = h :: if h.tdiv 2 < c.least then [] else candS c h.toNat (h.tdiv 2) := rfl
  rw [this]
  split
  · rfl
  · have e := tdiv2 (h := h) (by omega)
    rw [candS_fuel c hl _ (h.tdiv 2) h.toNat (by omega) (Nat.le_refl _) (by omega)]
theorem cands_bound {c : Ct} (hl : 1 ≤ c.least) : ∀ (k : Nat) {h : Int}, 1 ≤ h → h.toNat ≤ k → ∀ g ∈ cands c h, 1 ≤ g ∧ g ≤ h
  | 0, h, h1, hk, g, hg => by omega
  | k + 1, h, h1, hk, g, hg => by
    rw [cands_cons hl h1] at hg
    rcases List.mem_cons.1 hg with rfl | hg
    · omega
    · split at hg
      · cases hg
      · have e := tdiv2 (h := h) (by omega)
        have := cands_bound hl k (h := h.tdiv 2) (by omega) (by omega) g hg
        omega
end Go.Pl

namespace Go.Proofs.YtfjjckepnkkgjaaGreatDoor.Arm
open Go.Arm Go.Pl
theorem cCandidates (c : Ct) (h : Int) (H : AH) : Sound E 91 [ctA c, .int .i64 h] H (.ret (.func (.func 115) [] [.ptr (H.length + 1) 1 0 0, .ptr H.length 1 0 0])) (H ++ [.row true 5 [ctA c], .row true 1 [.int .i64 h]]) := by
  refine sound_of_awp tabOk mixed Tryz.func91 rfl (by rfl) Tryz.ntmps91 (by kernel_rfl) (by simp) ?_
  simp [ctA]
  exact finK (rs := [.tmp 4]) (vs := [.func (.func 115) [] [.ptr (H.length + 1) 1 0 0, .ptr H.length 1 0 0]]) (by rfl) (by simp [resA]) rfl
def turnA (c : Ct) (ch : Nat) (l : List Int) : List (List AV × (AH → AH)) := l.map fun h => ([.int .i64 h], fun M => M.set ch (.row true 1 [.int .i64 (shrinkS c h).1]))
def LCn (c : Ct) (ch cc bl : Nat) (H H1 : AH) (n : Nat) (fr : AFr) (H' : AH) : Prop :=
  fr 0 = .yld bl ∧ fr 1 = .ptr ch 1 0 0 ∧ fr 2 = .ptr cc 1 0 0 ∧ ∃ M J, H' = M ++ J ∧ alters H M ∧ (∃ w, M[cc]? = some (.row w 5 [ctA c])) ∧
  ((n = 0 ∧ (∃ e, fr 4 = .int .i64 e ∧ e ≠ 0) ∧ M = H1) ∨ ∃ h : Int, 1 ≤ h ∧ h ≤ 1000000000 ∧ n = h.toNat + 1 ∧ fr 4 = .int .i64 0 ∧ M[ch]? = some (.row true 1 [.int .i64 h]) ∧ YTurns E bl [ch, cc] (turnA c ch (cands c h)) M H1)
theorem cCandidates1 (c : Ct) (h : Int) (ch cc bl : Nat) (H H1 : AH) (hh : 1 ≤ h ∧ h ≤ 1000000000) (hl : 1 ≤ c.least) (hne : ch ≠ cc) (hc : ∃ w, H[cc]? = some (.row w 5 [ctA c])) (hm : H[ch]? = some (.row true 1 [.int .i64 h]))
    (hY : YTurns E bl [ch, cc] (turnA c ch (cands c h)) H H1) :
    Sound E 115 [.yld bl, .ptr ch 1 0 0, .ptr cc 1 0 0] H (.ret (.tuple [])) H1 := by
  refine sound_of_awp tabOk mixed Tryz.func115 rfl (by rfl) Tryz.ntmps115 (by kernel_rfl) (by simp) ?_
  simp
  refine loop_count (LCn c ch cc bl H H1) (fun n => n) (h.toNat + 1) ⟨by simp, by simp, by simp, H, [], by simp, .refl H, hc, .inr ⟨h, hh.1, hh.2, rfl, by simp, hm, hY⟩⟩ ?_
  clear hc hm hY hh
  clear h
  rintro n fr H' ⟨g0, g1, g2, M, J, rfl, hal, ⟨w, hc⟩, hst⟩
  rcases hst with ⟨rfl, ⟨e, g4, he⟩, rfl⟩ | ⟨h, h1, h2, rfl, g4, hm, hY⟩
  · have he2 : (e == 0) = false := by simpa using he
    simp [g4, he2]
    exact finY (by rfl) hal
  · have hml := (List.getElem?_eq_some_iff.1 hm).1
    rw [cands_cons hl h1] at hY
    obtain ⟨go, M1, a1, a2, a3, a4, a5⟩ := YTurns.cases_cons (show YTurns E bl [ch, cc] (([.int .i64 h], fun M => M.set ch (.row true 1 [.int .i64 (shrinkS c h).1])) :: turnA c ch (if h.tdiv 2 < c.least then [] else cands c (h.tdiv 2))) M H1 from hY)
    have b1 := a2 ch (by simp)
    have b2 := a2 cc (by simp)
    rw [hm] at b1
    rw [hc] at b2
    have hm1l := (List.getElem?_eq_some_iff.1 b1).1
    simp only [ctA] at b2
    simp [g0, g1, g4, hm, get_old hm]
    refine call_yld (by simpa using a3 J) ?_
    simp
    refine branch (fun hg => ?_) (fun hg => ?_)
    · simp [g1, g2, b1, b2, get_old b1, get_old b2]
      refine call_ret (by simpa [ctA] using cShrink c h (by omega) _) ?_
      simp [shA, g1, b1, get_old b1]
      have hY2 := a5 (by simpa using hg)
      have e2 := tdiv2 (h := h) (by omega)
      have hcc : (M1.set ch (.row true 1 [.int .i64 (shrinkS c h).1]))[cc]? = some (.row w 5 [ctA c]) := by rw [List.getElem?_set_ne hne]; simpa [ctA] using b2
      by_cases hs : h.tdiv 2 < c.least
      · rw [if_pos hs] at hY2
        cases hY2
        have hs2 : shrinkS c h = (0, 130) := by unfold shrinkS; rw [if_pos hs]
        exact ⟨0, by show 0 < h.toNat + 1; omega, by simp [g0], by simp [g1], by simp [g2], _, J, List.set_append_left _ _ hm1l, (hal.trans a1).trans (alters.set _ _ (by simp [noFB, noFs, noF])), ⟨w, hcc⟩, .inl ⟨rfl, ⟨130, by simp [hs2], by omega⟩, rfl⟩⟩
      · rw [if_neg hs] at hY2
        have hs2 : shrinkS c h = (h.tdiv 2, 0) := by unfold shrinkS; rw [if_neg hs]
        refine ⟨(h.tdiv 2).toNat + 1, by show (h.tdiv 2).toNat + 1 < h.toNat + 1; omega, by simp [g0], by simp [g1], by simp [g2], _, J, List.set_append_left _ _ hm1l, (hal.trans a1).trans (alters.set _ _ (by simp [noFB, noFs, noF])), ⟨w, hcc⟩, .inr ⟨h.tdiv 2, by omega, by omega, rfl, by simp [hs2], ?_, hY2⟩⟩
        rw [List.getElem?_set_self hm1l, hs2]
    · have e := a4 hg
      subst e
      simp
      exact finY (by rfl) (hal.trans a1)
end Go.Proofs.YtfjjckepnkkgjaaGreatDoor.Arm

namespace Go.Pl
structure SgOk (T : Tp) (x : List I) (t h : Int) (s : Sg) : Prop where
  ht : s.t = t
  hh : s.h = h
  hx : s.frm = x
  vpre : allV s.pre
  npre : s.pre.length = T.n
  vtube : allV s.tube
  ntube : s.tube.length = T.n
  vto : allV s.to
  nto : s.to.length = T.n
theorem horn_val {h : I} : ∀ {s : List I}, allV s → vB (hornS s h) = true
  | [], _ => (by decide : vB (0, 0) = true)
  | [a], hs => hs a (by simp)
  | a :: b :: r, hs => add_valid mul_valid (hs a (by simp))
theorem coefS_okL {T : Tp} {x : List I} {t : I} {order : Nat} (hT : tpOk T) (hx : allV x) (ht : vB t = true) : (coefS T x t order).length = T.n ∧ ∀ q ∈ coefS T x t order, allV q :=
  ⟨(expS_ok hT hx ht order).2.len, (expS_ok hT hx ht order).2.val⟩
theorem enclAt_okL {T : Tp} {x b : List I} {t h : Int} {part : I} {order : Nat} (hT : tpOk T) (hx : allV x) (hb : allV b) (hh : 0 ≤ h ∧ h ≤ 1000000000) (ht : -1000000000 ≤ t ∧ t ≤ 1000000000) :
    allV (enclAt T x b t h part order) ∧ (enclAt T x b t h part order).length = T.n := by
  have htv : vB (t, t + h) = true := vB_pair (by omega) (by omega) (by omega)
  have htv2 : vB (t, t) = true := vB_pair (by omega) (by omega) (by omega)
  obtain ⟨c1, c2⟩ := coefS_okL (order := order) hT hx htv2
  obtain ⟨d1, d2⟩ := coefS_okL (order := order + 1) hT hb htv
  have hR : allV (remS T b t h order) := fun p hp => by
    obtain ⟨q, hq, rfl⟩ := List.mem_map.1 hp
    exact atN_valid (d2 q hq) _
  unfold enclAt
  refine ⟨rangeV fun i => restrI_valid (atN_valid (fun p hp => ?_) i) (atN_valid hb i), by simp [restrB, evalS, withRem, c1]⟩
  obtain ⟨q, hq, rfl⟩ := List.mem_map.1 hp
  simp only [withRem, List.mem_map, List.mem_range] at hq
  obtain ⟨j, hj, rfl⟩ := hq
  exact horn_val (allV_snoc (rowN_valid c2 j) (atN_valid hR j))
theorem enclS_okL {T : Tp} {x d : List I} {t h : Int} (hx : allV x) (h0 : enclS T x t h = some d) : allV d ∧ d.length = x.length := by
  rw [show enclS T x t h = (candP T x t h 8 (hullB x (imageB T x x t h))).findSome? hitP from encS_cand T x t h 8 _] at h0
  obtain ⟨p, hp, hpd⟩ := List.exists_of_findSome?_eq_some h0
  have := candP_ok hx 8 _ (hullB_valid hx (imageB_valid hx)) (by rw [hullB_len]) p hp
  unfold hitP at hpd
  split at hpd
  · cases hpd; exact this.2.2
  · cases hpd
theorem istepS_ok {T : Tp} {x : List I} {t h : Int} {order : Nat} {s : Sg} (hT : tpOk T) (hx : allV x) (hxn : x.length = T.n) (hh : 0 ≤ h ∧ h ≤ 1000000000) (ht : -1000000000 ≤ t ∧ t ≤ 1000000000) (hs : istepS T x t h order = some s) : SgOk T x t h s := by
  unfold istepS at hs
  cases hr : enclS T x t h with
  | none => rw [hr] at hs; cases hs
  | some b =>
    rw [hr] at hs
    obtain ⟨hbv, hbl⟩ := enclS_okL hx hr
    have k1 := enclAt_okL (part := (0, h)) (order := order) hT hx hbv hh ht
    have k2 := enclAt_okL (part := (h, h)) (order := order) hT hx hbv hh ht
    simp only at hs
    split at hs
    · cases hs
      exact ⟨rfl, rfl, rfl, hbv, by simp only; omega, k1.1, k1.2, k2.1, k2.2⟩
    · cases hs
theorem accS_ok {T : Tp} {x : List I} {c : Ct} {t h : Int} {s : Sg} (hT : tpOk T) (hx : allV x) (hxn : x.length = T.n) (hh : 0 ≤ h ∧ h ≤ 1000000000) (ht : -1000000000 ≤ t ∧ t ≤ 1000000000) (hs : accS T x c t h = some s) : SgOk T x t h s := by
  unfold accS at hs
  split at hs
  · rename_i s' h'
    split at hs
    · cases hs; exact istepS_ok hT hx hxn hh ht h'
    · cases hs
  · cases hs
structure rqOk (w : Rq) : Prop where
  order : 1 ≤ w.ctrl.order ∧ w.ctrl.order ≤ 900
  least : 1 ≤ w.ctrl.least
  t : -1000000000 ≤ w.t ∧ w.t ≤ 1000000000
  last : w.t < w.last ∧ w.last ≤ 1000000000
  h : 1 ≤ w.h ∧ w.h ≤ 1000000000
theorem advS_ok {T : Tp} {x : List I} {w : Rq} {s : Sg} (hT : tpOk T) (hx : allV x) (hxn : x.length = T.n) (hw : rqOk w) (h : advS T x w = some s) :
    s.h ∈ cands w.ctrl (firstH w) ∧ 1 ≤ s.h ∧ s.h ≤ firstH w ∧ accS T x w.ctrl w.t s.h = some s ∧ SgOk T x w.t s.h s := by
  unfold advS at h
  obtain ⟨g, hg, hs⟩ := List.exists_of_findSome?_eq_some h
  have hb := cands_bound (c := w.ctrl) hw.least _ (by have := hw.last; have := hw.h; unfold firstH; omega) (Nat.le_refl _) g hg
  have hf : firstH w ≤ 1000000000 := by have := hw.h; unfold firstH; omega
  have hok := accS_ok hT hx hxn (by omega) hw.t hs
  have := hok.hh
  subst this
  exact ⟨hg, hb.1, hb.2, hs, hok⟩
def nxS (w : Rq) (s : Sg) : Int := growS w.ctrl (if s.h = firstH w then w.h else s.h)
end Go.Pl

namespace Go.Proofs.YtfjjckepnkkgjaaGreatDoor.Arm
open Go.Arm Go.Pl
def segC : Option Sg → AV
  | some s => sgA s
  | none => zsA
def nxC (w : Rq) : Option Sg → Int
  | some s => growS w.ctrl (if s.h = firstH w then w.h else s.h)
  | none => 0
def advA (p : Sg × Int × Int) : AV := .tuple [sgA p.1, .int .i64 p.2.1, .int .i64 p.2.2]
def advZ : AV := .tuple [zsA, .int .i64 0, .int .i64 130]
def advO (w : Rq) : Option Sg → AV
  | some s => advA (s, nxC w (some s), 0)
  | none => advZ
theorem cAdvance (T : Tp) (x : List I) (w : Rq) (hT : tpOk T) (hx : allV x) (hxn : x.length = T.n) (hn : 1 ≤ T.n) (hw : rqOk w) (H : AH) :
    Sound E 54 [tpA T, bx x, rqA w] H (.ret (advO w (advS T x w))) H := by
  refine sound_of_awp tabOk mixed Tryz.func54 rfl (by rfl) Tryz.ntmps54 (by kernel_rfl) (by simp) ?_
  have hsm := hT.small
  obtain ⟨wo, wl, wt, wlast, wh⟩ := hw
  have hf1 : 1 ≤ firstH w ∧ firstH w ≤ 1000000000 := by unfold firstH; omega
  have hfe : (if w.last - w.t < w.h then w.last - w.t else w.h) = firstH w := by unfold firstH; split <;> omega
  have wsub : IntKind.i64.wrap (w.last - w.t) = w.last - w.t := wrap64 (by omega) (by omega)
  have hor : ((w.ctrl.order.toNat : Nat) : Int) = w.ctrl.order := by omega
  have hst := fun (h : Int) (h1 : 1 ≤ h ∧ h ≤ firstH w) => kIntervalStep T x w.t h w.ctrl.order.toNat hT hx hxn hn (by omega) wt (by omega)
  have hok := fun (h : Int) (h1 : 1 ≤ h ∧ h ≤ firstH w) s (hs : istepS T x w.t h w.ctrl.order.toNat = some s) => istepS_ok hT hx hxn (by omega) wt hs
  have hcb := cands_bound wl (firstH w).toNat (h := firstH w) hf1.1 (Nat.le_refl _)
  simp [tpA, bx, rqA, wsub, hfe]
  refine call_ret (by simpa [ctA] using cCandidates w.ctrl (firstH w) _) ?_
  simp
  refine range_it 10 (by rfl) (fun N hN => ?_)
  generalize hk : (LK.mk N _ _ _) = k at hN ⊢
  generalize hf : List.map _ (List.range 10) = frs
  have q3 : frs[3]? = some (.ptr H.length 1 0 0) := by rw [← hf]; simp
  have q4 : frs[4]? = some (.ptr (H.length + 1) 1 0 0) := by rw [← hf]; simp
  have q5 : frs[5]? = some (.ptr (H.length + 2) 1 0 0) := by rw [← hf]; simp
  have q6 : frs[6]? = some (.ptr (H.length + 3) 1 0 0) := by rw [← hf]; simp
  have q7 : frs[7]? = some (.ptr (H.length + 4) 1 0 0) := by rw [← hf]; simp
  have q8 : frs[8]? = some (.ptr (H.length + 5) 1 0 0) := by rw [← hf]; simp
  have q9 : frs[9]? = some (.ptr (H.length + 6) 1 0 0) := by rw [← hf]; simp
  let MM : Int → Option Sg → LSt → AH := fun hv o st => H ++ [.row true 3 [tpA T], .row true 1 [bx x], .row true 8 [rqA w], .row true 6 [segC o], .row true 1 [.int .i64 (nxC w o)], .row true 1 [.int .i64 0], .row true 1 [.int .i64 (firstH w)], .row true 5 [ctA w.ctrl], .row true 1 [.int .i64 hv], .loop k st frs]
  have halt : ∀ hv o st, alters (MM hv none .ready) (MM hv o st) := fun hv o st => alters_of ⟨.same _, .same _, .same _, .inr (.inl (by cases o <;> simp [segC, zsA, sgA, noFB, noFs, noF, bx, iv_noFs])), .inr (.inl (by simp [noFB, noFs, noF])), .same _, .same _, .same _, .same _, .loop, trivial⟩
  have hC : ∀ hv o st, ∀ c ∈ [H.length + 8, H.length + 7], (MM hv o st)[c]? = (MM hv none .ready)[c]? := fun hv o st c hc => by
    simp at hc
    rcases hc with rfl | rfl <;> simp [MM]
  have hround : ∀ (hv h : Int), 1 ≤ h ∧ h ≤ firstH w → ∀ (J : AH), YSound E (H.length + 9) [.int .i64 h] (MM hv none .ready ++ J) (.bool (accS T x w.ctrl w.t h).isNone) (MM hv (accS T x w.ctrl w.t h) (if (accS T x w.ctrl w.t h).isSome then .done .ret else .ready) ++ J) := by
    intro hv h h1 J
    refine yield_sound tabOk mixed (k := k) (frs := frs) (by simp [MM]) (by rw [← hk]; rfl) hN ?_
    have ka := congrArg LK.assign hk
    have kb := congrArg LK.body hk
    have kp := congrArg LK.ps hk
    dsimp only at ka kb kp
    rw [← ka, ← kb, ← kp]
    clear ka kb kp hk hf hN
    have hS := hst h h1
    rw [hor] at hS
    cases hr : istepS T x w.t h w.ctrl.order.toNat with
    | none =>
      have hacc : accS T x w.ctrl w.t h = none := by unfold accS; rw [hr]
      rw [hacc]
      rw [hr] at hS
      simp [roundFr]
      rw [assignK_normal]
      refine ⟨by simp [MM], ?_⟩
      simp [MM, q3, q4, q5, tpA, bx, rqA]
      refine call_ret (by simpa [tpA, bx] using hS _) ?_
      simp [sgO, zsA]
      rw [roundK_normal]
      refine ⟨by simp, rfl, ?_⟩
      have := Leaves.alters (J := J) (X := [.row true 6 [zsA]]) (halt hv none .ready)
      simpa [MM, segC, zsA, tpA, bx, rqA, nxC] using this
    | some s =>
      have hso := hok h h1 s hr
      rw [hr] at hS
      have hA := cAccept w.ctrl s hso.vto hso.vtube (by rw [hso.nto]; omega) (by rw [hso.ntube]; omega)
      cases ha : (narrowB w.ctrl.wide s.to && narrowB w.ctrl.wide s.tube) with
      | false =>
        have hacc : accS T x w.ctrl w.t h = none := by unfold accS; rw [hr]; simp only [ha]; rfl
        rw [hacc]
        rw [ha] at hA
        simp [roundFr]
        rw [assignK_normal]
        refine ⟨by simp [MM], ?_⟩
        simp [MM, q3, q4, q5, tpA, bx, rqA]
        refine call_ret (by simpa [tpA, bx] using hS _) ?_
        simp [sgO, sgA, bx, q5]
        refine call_ret (by simpa [sgA, bx, ctA] using hA _) ?_
        simp
        rw [roundK_normal]
        refine ⟨by simp, rfl, ?_⟩
        have := Leaves.alters (J := J) (X := [.row true 6 [sgA s]]) (halt hv none .ready)
        simpa [MM, segC, sgA, zsA, tpA, bx, rqA, nxC, ctA] using this
      | true =>
        have hacc : accS T x w.ctrl w.t h = some s := by unfold accS; rw [hr]; simp only [ha]; rfl
        rw [hacc]
        rw [ha] at hA
        simp [roundFr]
        rw [assignK_normal]
        refine ⟨by simp [MM], ?_⟩
        simp [MM, q3, q4, q5, tpA, bx, rqA]
        refine call_ret (by simpa [tpA, bx] using hS _) ?_
        simp [sgO, sgA, bx, q5]
        refine call_ret (by simpa [sgA, bx, ctA] using hA _) ?_
        simp [q9]
        refine branch (fun he => ?_) (fun he => ?_)
        · have heP : h = firstH w := by simpa using he
          simp [q5, q6, q7, q8, heP]
          refine callD_ret0 (fun Hx => by simpa [ctA] using cGrow w.ctrl w.h (by omega) Hx) ?_
          simp [q5, q6, q7, q8]
          refine endD [] (by rfl) (by simp [okW, note, Eff.triv, Eff.wr, Eff.none, upTo, newAt]) ?_
          simp
          rw [roundK_ret]
          refine ⟨by simp, rfl, ?_⟩
          have := Leaves.alters (J := J) (X := [.row true 6 [sgA s]]) (halt hv (some s) (.done .ret))
          simpa [MM, segC, sgA, zsA, tpA, bx, rqA, nxC, hso.hh, heP, ctA] using this
        · have heP : h ≠ firstH w := by simpa using he
          simp [q5, q6, q7, q8, heP]
          refine callD_ret0 (fun Hx => by simpa [ctA] using cGrow w.ctrl h (by omega) Hx) ?_
          simp [q5, q6, q7, q8]
          refine endD [] (by rfl) (by simp [okW, note, Eff.triv, Eff.wr, Eff.none, upTo, newAt]) ?_
          simp
          rw [roundK_ret]
          refine ⟨by simp, rfl, ?_⟩
          have := Leaves.alters (J := J) (X := [.row true 6 [sgA s]]) (halt hv (some s) (.done .ret))
          simpa [MM, segC, sgA, zsA, tpA, bx, rqA, nxC, hso.hh, heP, ctA] using this
  have hrun : ∀ l : List Int, (∀ g ∈ l, 1 ≤ g ∧ g ≤ firstH w) → ∀ hv, ∃ hv', YTurns E (H.length + 9) [H.length + 8, H.length + 7] (turnA w.ctrl (H.length + 8) l) (MM hv none .ready) (MM hv' (l.findSome? (accS T x w.ctrl w.t)) (if (l.findSome? (accS T x w.ctrl w.t)).isSome then .done .ret else .ready)) := by
    intro l
    induction l with
    | nil => intro _ hv; exact ⟨hv, .nil _⟩
    | cons h l ih =>
      intro hl hv
      have hr := hround hv h (hl h (by simp))
      rw [List.findSome?_cons]
      cases hs : accS T x w.ctrl w.t h with
      | some s =>
        rw [hs] at hr
        exact ⟨hv, .stop (halt _ _ _) (hC _ _ _) hr⟩
      | none =>
        rw [hs] at hr
        obtain ⟨hv', hY⟩ := ih (fun g hg => hl g (by simp [hg])) (shrinkS w.ctrl h).1
        refine ⟨hv', .go (halt hv none .ready) (hC hv none .ready) hr ?_⟩
        have e : (MM hv none .ready).set (H.length + 8) (.row true 1 [.int .i64 (shrinkS w.ctrl h).1]) = MM (shrinkS w.ctrl h).1 none .ready := by simp [MM]
        dsimp only
        rw [e]; exact hY
  obtain ⟨hv', hY⟩ := hrun (cands w.ctrl (firstH w)) hcb (firstH w)
  have hS := cCandidates1 w.ctrl (firstH w) (H.length + 8) (H.length + 7) (H.length + 9) (MM (firstH w) none .ready) _ hf1 wl (by omega) ⟨true, by simp [MM]⟩ (by simp [MM]) hY
  have hadv : (cands w.ctrl (firstH w)).findSome? (accS T x w.ctrl w.t) = advS T x w := rfl
  rw [hadv] at hS
  cases hr : advS T x w with
  | none =>
    rw [hr] at hS
    refine ⟨_, _, k, .ready, frs, by simpa [MM, segC, nxC, zsA, tpA, bx, rqA, ctA] using hS, by simp, ?_⟩
    simp [jumpA]
    exact ⟨[zsA, .int .i64 0, .int .i64 130], [zsA, .int .i64 0, .int .i64 130], by simp [show (Tryz.f54).results.toList = [.cell 6 47, .cell 7 2, .cell 8 38] from rfl, resA, zsA], .drop (by simp [noFs, noF, zsA]), rfl⟩
  | some s =>
    rw [hr] at hS
    refine ⟨_, _, k, .done .ret, frs, by simpa [MM, segC, nxC, zsA, tpA, bx, rqA, ctA] using hS, by simp, ?_⟩
    simp [jumpA]
    exact ⟨[sgA s, .int .i64 (nxC w (some s)), .int .i64 0], [sgA s, .int .i64 (nxC w (some s)), .int .i64 0], by simp [show (Tryz.f54).results.toList = [.cell 6 47, .cell 7 2, .cell 8 38] from rfl, resA, sgA, bx, nxC], .drop (by simp only [noFs, noF, sgA, bx, iv_noFs, Bool.and_self]), rfl⟩
def erO : Option Sg → Int
  | some _ => 0
  | none => 130
theorem advO_eq (w : Rq) (o : Option Sg) : advO w o = .tuple [segC o, .int .i64 (nxC w o), .int .i64 (erO o)] := by cases o <;> rfl
end Go.Proofs.YtfjjckepnkkgjaaGreatDoor.Arm
