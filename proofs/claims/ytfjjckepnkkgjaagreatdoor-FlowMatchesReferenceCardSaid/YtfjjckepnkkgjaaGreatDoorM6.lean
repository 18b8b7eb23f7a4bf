/- Part of a proof: what the functions of the program do to abstract states, step by step. -/
import Derived.Test.YtfjjckepnkkgjaaGreatDoorM5
set_option linter.unusedVariables false
set_option linter.unusedSimpArgs false
namespace Go.Proofs.YtfjjckepnkkgjaaGreatDoor.Arm
open Go.Arm Go.Pl
theorem r9Coef' (T : Tp) (x : List I) (t : I) (order : Nat) (hT : tpOk T) (hx : allV x) (hxn : x.length = T.n) (hn : 1 ≤ T.n) (ht : vB t = true) (ho : 1 ≤ order ∧ order ≤ 1000) (H0 X : AH) :
    Sound E 152 [tpA T, bx x, iv t, .int .i64 order] (H0 ++ (deadJ T.n ++ X)) (.ret (.ref H0.length T.n)) (H0 ++ (outJ H0.length (coefS T x t order) ++ X)) := by
  have hl := coefS_len (order := order) hT hx ht
  have ha := outJ_alters H0 X (coefS T x t order)
  rw [hl] at ha
  refine r9Coef T x t order hT hx hxn hn ht ho _ _ H0.length (fun j hj => dead_at j hj) ha.1 (by simp [outJ]) (fun j q hq => outJ_rows hq) (fun c hc h => ?_)
  rcases Nat.lt_or_ge c H0.length with h3 | h3
  · exact head_eq h3
  · exact tail_eq (by rw [outJ_len, deadJ_len, hl]) (by rw [outJ_len, hl]; omega)
def LRm (l : List (List I)) (order : Nat) (H : AH) (i : Nat) (fr : AFr) (H' : AH) : Prop :=
  fr 3 = .int .i64 order ∧ fr 9 = .ref H.length l.length ∧ fr 11 = .int .i64 i ∧ i ≤ l.length ∧
  ∃ J, H' = H ++ J ∧ J[0]? = some (.row true 1 (refsN H.length l)) ∧ (∀ (j : Nat) q, l[j]? = some q → J[1 + j]? = some (rowB q)) ∧ Acc H J (fr 10) 2 (((l.take i).map fun s => atN s (order + 1)).map iv) (.slice [] true) ∧ ∀ c n, c ≤ l.length → fr 10 ≠ .ref (H.length + c) n
theorem r12Remainder (T : Tp) (b : List I) (t h : Int) (order : Nat) (hT : tpOk T) (hb : allV b) (hbn : b.length = T.n) (hn : 1 ≤ T.n) (hh : 0 ≤ h ∧ h ≤ 1000000000) (ht : -1000000000 ≤ t ∧ t ≤ 1000000000) (ho : order ≤ 900) (H : AH) :
    Sound E 153 [tpA T, bx b, .agg [.int .i64 t, .int .i64 h], .int .i64 order] H (.ret (bx (remS T b t h order))) H := by
  refine sound_of_awp_pad (T.n + 1) tabOk mixed Tryz.func153 rfl (by rfl) Tryz.ntmps153 (by kernel_rfl) (by simp) ?_
  rw [show List.replicate (T.n + 1) ABlk.dead = deadJ T.n from rfl]
  have hsm := hT.small
  have htv : vB (t, t + h) = true := vB_pair (by omega) (by omega) (by omega)
  have hS := r9Coef' T b (t, t + h) (order + 1) hT hb hbn hn htv (by omega)
  have hl := coefS_len (order := order + 1) hT hb htv
  have hrow := coefS_rows (order := order + 1) hT hb htv
  unfold remS
  generalize hc : coefS T b (t, t + h) (order + 1) = l at *
  have w1 : IntKind.i64.wrap ((order : Int) + 1) = ((order + 1 : Nat) : Int) := by rw [wrap64 (by omega) (by omega)]; omega
  have w2 : IntKind.i64.wrap (t + h) = t + h := wrap64 (by omega) (by omega)
  simp [tpA, w1, w2]
  refine call_ret (by
    have := hS H [.row true 3 [tpA T], .row true 2 [.agg [.int .i64 t, .int .i64 h]]]
    simp [tpA] at this ⊢
    exact this) ?_
  simp
  refine loop_count (LRm l order H) (fun i => l.length - i) 0 ⟨by simp, by simp [hl], by simp, by omega, _, rfl, by simp [outJ], fun j q hq => ?_, .inl ⟨by simp, by simp⟩, by simp⟩ ?_
  · have := outJ_rows (H0 := H) (X := [.row true 3 [.agg [.int .i64 T.n, .slice (T.L.map insA) false, outA T.out]], .row true 2 [.agg [.int .i64 t, .int .i64 h]]]) hq
    rw [Nat.add_assoc, getAt] at this
    exact this
  rintro i fr H' ⟨g3, g9, g11, hi, J, rfl, hJ0, hJr, hacc, hne⟩
  have hJl := (List.getElem?_eq_some_iff.1 hJ0).1
  simp [g9, g11, hJ0, refsN_len]
  refine branch (fun hc => ?_) (fun hc => ?_)
  · have hlt : i < l.length := by simpa using hc
    obtain ⟨q, hq⟩ := get_lt hlt
    have hql := (hrow q (List.mem_of_getElem? hq)).1
    obtain ⟨z, hz⟩ := get_lt (l := q) (i := order + 1) (by omega)
    have hzE : ∀ h, q[order + 1]'h = z := fun h => (List.getElem?_eq_some_iff.1 hz).2
    have hrf := refsN_get (p := H.length) hq
    have hrE : ∀ h, (refsN H.length l)[i]'h = .ref (H.length + 1 + i) q.length := fun h => (List.getElem?_eq_some_iff.1 hrf).2
    have hrow1 := hJr i q hq
    simp only [rowB] at hrow1
    have hrowH : (H ++ J)[H.length + 1 + i]? = some (.row true 2 (q.map iv)) := by rw [Nat.add_assoc, getAt]; exact hrow1
    have w3 : IntKind.i64.wrap ((i : Int) + 1) = ((i + 1 : Nat) : Int) := by rw [wrap64 (by omega) (by omega)]; omega
    have hft : (l.take (i + 1)).map (fun s => atN s (order + 1)) = (l.take i).map (fun s => atN s (order + 1)) ++ [z] := by rw [List.take_add_one, hq]; simp [atN, hz]
    have hlt2 : order + 1 < q.length := by omega
    have hltI : (order : Int) + 1 < q.length := by omega
    have h0o : (0 : Int) ≤ (order : Int) + 1 := by omega
    obtain ⟨v', J2, hap, hacc', hk', hle, hnew⟩ := Acc.push (T := tab) (t := 26) (e := 54) (x := .slice [iv z] true) (ys := [iv z]) hacc tab26 rfl tab54 rfl rfl (by simp [okc]) ⟨by decide, by simp⟩ (by simp; omega) (by simp; omega)
    simp [g3, g9, g11, hJ0, refsN_len, hlt, hrf, hrE, hrowH, hz, hzE, w1, hlt2, hltI, h0o]
    refine bind_some (by simpa using hap) ?_
    simp [g11, w3]
    refine ⟨i + 1, by show l.length - (i + 1) < l.length - i; omega, by simp [g3], by simp [g9], by simp, by omega, J2, rfl, hk' 0 _ hJ0 (fun n => hne 0 n (by omega)), fun j q hq => hk' (1 + j) _ (hJr j q hq) (fun n => hne (1 + j) n (by have := (List.getElem?_eq_some_iff.1 hq).1; omega)), by rw [hft]; simpa using hacc', ?_⟩
    intro c n hcl hv
    rcases hnew c n (by simpa using hv) with ⟨m, hm⟩ | hm
    · exact hne c m hcl hm
    · have : l.length < J.length := by
        cases hln : l.length with
        | zero => omega
        | succ k =>
          obtain ⟨q2, hq2⟩ := get_lt (l := l) (i := k) (by omega)
          have := (List.getElem?_eq_some_iff.1 (hJr k q2 hq2)).1
          omega
      omega
  · have hi' : i = l.length := by have : ¬ i < l.length := by simpa using hc
                                  omega
    subst hi'
    rw [List.take_length] at hacc
    simp
    exact finS (t := 8) (by rfl) (by simp) hacc rfl (iv_noFs _ _)
end Go.Proofs.YtfjjckepnkkgjaaGreatDoor.Arm

namespace Go.Arm
open Go.RowKit
theorem Sound.deep0 {E : Env} {f : FuncId} {rest : List AV} {H H2 H' : AH} {e : AEnd} {c : Nat} {wr : Bool} {xs xs' : List AV} (hc : H[c]? = some (.row wr 1 xs)) (hk : (convs H xs).2[c]? = some (.row wr 1 xs)) (hx : ∀ x ∈ xs, x.cells = [x]) (hx' : ∀ x ∈ (convs H xs).1, x.cells = [x])
    (he : (convs H xs).1 = xs') (hH : (convs H xs).2.set c (.row false 1 xs') = H2) (h : Sound E f (.slice xs' false :: rest) H2 e H') : Sound E f (.ref c xs.length :: rest) H e H' := by
  refine ⟨h.1, fun F n hF G w vs hI hv => ?_⟩
  obtain ⟨G1, e1, i1⟩ := deep_ok hI hc hk hx hx'
  rw [he] at i1
  have hlt : c < (convs H xs).2.length := (List.getElem?_eq_some_iff.1 hk).1
  obtain ⟨vs', hvs⟩ : ∃ l, vs.toList = l := ⟨_, rfl⟩
  rw [hvs] at hv
  cases vs' with
  | nil => have := hv.1; simp at this
  | cons v0 r0 =>
    obtain ⟨h1, h2⟩ := hv.uncons
    have hlen : xs'.length = xs.length := by rw [← he]; exact convs_length xs H
    obtain ⟨G2, e2, i2, r2⟩ := conv1_ok i1 (h1.mono e1)
    have hc1 : conv1 ((convs H xs).2.set c (.row wr 1 xs')) (.ref c xs.length) = (.slice xs' false, H2) := by
      simp only [conv1]
      rw [List.getElem?_set_self hlt]
      simp only
      rw [if_pos hlen, List.set_set, hH]
    rw [hc1] at i2 r2
    have e12 : Ext G w G2 w := hI.trans e1 e2
    refine (h.2 F n hF G2 w vs i2 (by rw [hvs]; exact .cons r2 (h2.mono e12))).mono ?_
    rintro z w' ⟨G', e3, i3, hz⟩
    exact ⟨G', hI.trans e12 e3, i3, hz⟩
end Go.Arm

namespace Go.Proofs.YtfjjckepnkkgjaaGreatDoor.Arm
open Go.Arm Go.Pl
theorem refsN_refsF (p : Nat) (l : List (List I)) : refsN p l = refsF (p + 1) l := by
  apply List.ext_getElem?
  intro j
  by_cases h : j < l.length
  · rw [refsN_get (List.getElem?_eq_getElem h), refsF_get (List.getElem?_eq_getElem h)]
  · rw [List.getElem?_eq_none (by rw [refsN_len]; omega), List.getElem?_eq_none (by rw [refsF_len]; omega)]
theorem r9EvalRef (l : List (List I)) (h : I) (hl : ∀ s ∈ l, allV s ∧ s ≠ [] ∧ s.length ≤ 100000) (hn : l.length ≤ 1000) (hh : vB h = true) (H X : AH) :
    Sound E 155 [.ref H.length l.length, iv h] (H ++ (outJ H.length l ++ X)) (.ret (bx (evalS l h))) (H ++ (.row false 1 (l.map bx) :: (l.map rowF ++ X))) := by
  have e0 : H ++ (outJ H.length l ++ X) = (H ++ [.row true 1 (refsF (H.length + 1) l)]) ++ (l.map rowB ++ X) := by unfold outJ; rw [refsN_refsF]; simp
  have hA : (H ++ [ABlk.row true 1 (refsF (H.length + 1) l)]).length = H.length + 1 := by simp
  have hcv := convs_refs l (H ++ [.row true 1 (refsF (H.length + 1) l)]) X
  rw [hA] at hcv
  rw [e0]
  have hln : l.length = (refsF (H.length + 1) l).length := (refsF_len l (H.length + 1)).symm
  have hg : ∀ Y : AH, (H ++ [ABlk.row true 1 (refsF (H.length + 1) l)] ++ Y)[H.length]? = some (.row true 1 (refsF (H.length + 1) l)) := fun Y => by simp
  have := (r9Eval l h hl hn hh (H ++ (.row false 1 (l.map bx) :: (l.map rowF ++ X))))
  rw [hln]
  refine Sound.deep0 (hg _) (by rw [hcv]; exact hg _) (fun x hx => ?_) (fun x hx => ?_) (by rw [hcv]) ?_ this
  · obtain ⟨j, hj⟩ := List.mem_iff_getElem?.1 hx
    have hjl : j < l.length := by rw [hln]; exact (List.getElem?_eq_some_iff.1 hj).1
    have := refsF_get (p := H.length + 1) (List.getElem?_eq_getElem hjl)
    rw [hj] at this; cases this; rfl
  · rw [hcv] at hx
    obtain ⟨q, _, rfl⟩ := List.mem_map.1 hx; rfl
  · rw [hcv]
    have := setAt (H := H) (J := .row true 1 (refsF (H.length + 1) l) :: (l.map rowF ++ X)) (b := 0) (y := .row false 1 (l.map bx))
    simp at this ⊢
def extR (p : Nat) (l : List (List I)) (i : Nat) : List AV := (List.range l.length).map fun j : Nat => .ref (p + 1 + j) (if j < i then (rowN l (j : Int)).length + 1 else (rowN l (j : Int)).length)
theorem extR_len (p : Nat) (l : List (List I)) (i : Nat) : (extR p l i).length = l.length := by simp [extR]
theorem extR_get {p : Nat} {l : List (List I)} {i j : Nat} (h : j < l.length) : (extR p l i)[j]? = some (.ref (p + 1 + j) (if j < i then (rowN l (j : Int)).length + 1 else (rowN l (j : Int)).length)) := by
  unfold extR; rw [List.getElem?_map, List.getElem?_range h]; rfl
theorem extR_set {p : Nat} {l : List (List I)} {i : Nat} (h : i < l.length) : (extR p l i).set i (.ref (p + 1 + i) ((rowN l (i : Int)).length + 1)) = extR p l (i + 1) := by
  apply List.ext_getElem?
  intro j
  by_cases hj : j < l.length
  · by_cases hij : i = j
    · subst hij; rw [List.getElem?_set_self (by rw [extR_len]; exact h), extR_get h, if_pos (by omega)]
    · rw [List.getElem?_set_ne hij, extR_get hj, extR_get hj]
      by_cases h1 : j < i
      · rw [if_pos h1, if_pos (by omega)]
      · rw [if_neg h1, if_neg (by omega)]
  · rw [List.getElem?_eq_none (by rw [List.length_set, extR_len]; omega), List.getElem?_eq_none (by rw [extR_len]; omega)]
theorem extR_zero (p : Nat) (l : List (List I)) : extR p l 0 = refsN p l := by
  apply List.ext_getElem?
  intro j
  by_cases h : j < l.length
  · rw [extR_get h, if_neg (by omega), refsN_get (List.getElem?_eq_getElem h), rowN_get (List.getElem?_eq_getElem h)]
  · rw [List.getElem?_eq_none (by rw [extR_len]; omega), List.getElem?_eq_none (by rw [refsN_len]; omega)]
theorem extR_all (p : Nat) (l : List (List I)) (r : List I) : extR p l l.length = refsN p (withRem l r) := by
  apply List.ext_getElem?
  intro j
  by_cases h : j < l.length
  · rw [extR_get h, if_pos h, refsN_get (withRem_get h)]; simp
  · rw [List.getElem?_eq_none (by rw [extR_len]; omega), List.getElem?_eq_none (by rw [refsN_len, withRem_len]; omega)]
def mR (H X : AH) (l : List (List I)) (r : List I) (i k : Nat) : AH := H ++ (.row true 1 (extR H.length l k) :: (extB l r i ++ X))
section
variable {H X : AH} {l : List (List I)} {r : List I} {i k : Nat}
theorem mR_at0 : (mR H X l r i k)[H.length]? = some (.row true 1 (extR H.length l k)) := by
  have := getAt (H := H) (J := .row true 1 (extR H.length l k) :: (extB l r i ++ X)) (b := 0)
  exact this
theorem mR_row {j : Nat} (h : j < l.length) : (mR H X l r i k)[H.length + 1 + j]? = (extB l r i)[j]? := by
  unfold mR
  rw [Nat.add_assoc, getAt, Nat.add_comm 1 j, List.getElem?_cons_succ, List.getElem?_append_left (by rw [extB_len]; exact h)]
theorem mR_set (h : i < l.length) : (mR H X l r i k).set (H.length + 1 + i) (rowB (rowN l (i : Int) ++ [atN r i])) = mR H X l r (i + 1) k := by
  unfold mR
  rw [Nat.add_assoc, setAt, Nat.add_comm 1 i, List.set_cons_succ, List.set_append_left _ _ (by rw [extB_len]; exact h), extB_set h]
theorem mR_set0 (h : k < l.length) : (mR H X l r i k).set H.length (.row true 1 ((extR H.length l k).set k (.ref (H.length + 1 + k) ((rowN l (k : Int)).length + 1)))) = mR H X l r i (k + 1) := by
  unfold mR
  have := setAt (H := H) (J := .row true 1 (extR H.length l k) :: (extB l r i ++ X)) (b := 0) (y := .row true 1 ((extR H.length l k).set k (.ref (H.length + 1 + k) ((rowN l (k : Int)).length + 1))))
  rw [Nat.add_zero] at this
  rw [this, extR_set h]; rfl
theorem mR_start : mR H X l r 0 0 = H ++ (outJ H.length l ++ X) := by unfold mR outJ; rw [extB_zero, extR_zero]; rfl
theorem mR_end : mR H X l r l.length l.length = H ++ (outJ H.length (withRem l r) ++ X) := by unfold mR outJ; rw [extB_all, extR_all _ _ r]; rfl
end
def LEn (H X : AH) (b : List I) (part : AV) (l : List (List I)) (r : List I) (i : Nat) (fr : AFr) (H' : AH) : Prop :=
  fr 2 = bx b ∧ fr 7 = .ptr (H.length + (l.length + 1 + 1)) 1 0 0 ∧ fr 9 = .ref H.length l.length ∧ fr 10 = bx r ∧ fr 11 = .int .i64 i ∧ i ≤ l.length ∧ H' = mR H X l r i i
theorem r12EnclosureAt (T : Tp) (x b : List I) (t h : Int) (part : I) (order : Nat) (hT : tpOk T) (hx : allV x) (hxn : x.length = T.n) (hn : 1 ≤ T.n) (hb : allV b) (hbn : b.length = T.n) (hh : 0 ≤ h ∧ h ≤ 1000000000) (ht : -1000000000 ≤ t ∧ t ≤ 1000000000) (hp : vB part = true) (ho : 1 ≤ order ∧ order ≤ 900) (H : AH) :
    Sound E 124 [tpA T, bx x, bx b, .agg [.int .i64 t, .int .i64 h, .int .i64 part.1, .int .i64 part.2, .int .i64 order]] H (.ret (bx (enclAt T x b t h part order))) H := by
  refine sound_of_awp_pad (T.n + 1) tabOk mixed Tryz.func124 rfl (by rfl) Tryz.ntmps124 (by kernel_rfl) (by simp) ?_
  rw [show List.replicate (T.n + 1) ABlk.dead = deadJ T.n from rfl]
  have hsm := hT.small
  have htv : vB (t, t + h) = true := vB_pair (by omega) (by omega) (by omega)
  have htp : pt t = (t, t) := pt_num (by omega)
  have htv2 : vB (t, t) = true := vB_pair (by omega) (by omega) (by omega)
  have hR := r12Remainder T b t h order hT hb hbn hn hh ht (by omega)
  have hC := r9Coef' T x (t, t) order hT hx hxn hn htv2 (by omega)
  have hl := coefS_len (order := order) hT hx htv2
  have hrows := coefS_rows (order := order) hT hx htv2
  have hrv := remS_valid (order := order) hT hb htv
  have hrl := remS_len (order := order) hT hb htv
  unfold enclAt
  generalize coefS T x (t, t) order = l at *
  generalize remS T b t h order = r at *
  simp [tpA]
  refine callD_ret0 (fun Hx => rPoint t Hx) ?_
  rw [htp]
  simp
  refine callD_all (r := .ref H.length T.n) (K := H ++ (outJ H.length l ++ [.row true 3 [tpA T], .row true 5 [.agg [.int .i64 t, .int .i64 h, .int .i64 part.1, .int .i64 part.2, .int .i64 order]]])) (by simp [outJ_len, deadJ_len, hl]) (fun Y => by
    have := hC H ([.row true 3 [tpA T], .row true 5 [.agg [.int .i64 t, .int .i64 h, .int .i64 part.1, .int .i64 part.2, .int .i64 order]]] ++ Y)
    simp [tpA] at this ⊢
    exact this) ?_
  simp
  refine endD [(0, 7), (3, 7), (6, 7)] (by rfl) (by simp [okW, note, Eff.triv, Eff.wr, Eff.none, upTo, newAt, deadJ_len, outJ_len, hl]) ?_
  simp [deadJ_len, outJ_len, hl, tpA]
  refine call_ret (by simpa [tpA] using hR _) ?_
  simp
  obtain ⟨X, hX⟩ : ∃ X : AH, X = [.row true 3 [.agg [.int .i64 T.n, .slice (T.L.map insA) false, outA T.out]], .row true 5 [.agg [.int .i64 t, .int .i64 h, .int .i64 part.1, .int .i64 part.2, .int .i64 order]]] := ⟨_, rfl⟩
  have hX1 : X[1]? = some (.row true 5 [.agg [.int .i64 t, .int .i64 h, .int .i64 part.1, .int .i64 part.2, .int .i64 order]]) := by rw [hX]; rfl
  rw [← hX]
  refine loop_count (LEn H X b (iv part) l r) (fun i => l.length - i) 0 ⟨by simp, by simp [hl], by simp [hl], by simp, by simp, by omega, by rw [mR_start]⟩ ?_
  rintro i fr H1 ⟨g2, g7, g9, g10, g11, hi, rfl⟩
  have a0 := mR_at0 (H := H) (X := X) (l := l) (r := r) (i := i) (k := i)
  have hll := extR_len H.length l i
  simp [g9, g11, a0, hll]
  refine branch (fun hc => ?_) (fun hc => ?_)
  · have hlt : i < l.length := by simpa using hc
    obtain ⟨q, hqi⟩ := get_lt hlt
    obtain ⟨z, hz⟩ := get_lt (l := r) (i := i) (by omega)
    have hzE : ∀ h, r[i]'h = z := fun h => (List.getElem?_eq_some_iff.1 hz).2
    have hrow : rowN l (i : Int) = q := rowN_get hqi
    have hza : atN r i = z := by simp [atN, hz]
    have hrg := extR_get (p := H.length) (i := i) hlt
    rw [if_neg (by omega), hrow] at hrg
    have hrE : ∀ h, (extR H.length l i)[i]'h = .ref (H.length + 1 + i) q.length := fun h => (List.getElem?_eq_some_iff.1 hrg).2
    have w2 : IntKind.i64.wrap ((i : Int) + 1) = ((i + 1 : Nat) : Int) := by rw [wrap64 (by omega) (by omega)]; omega
    have a1 := mR_row (H := H) (X := X) (l := l) (r := r) (i := i) (k := i) hlt
    rw [extB_get hlt, if_neg (by omega), hrow] at a1
    have a3 := mR_set (H := H) (X := X) (l := l) (r := r) (i := i) (k := i) hlt
    rw [hrow, hza] at a3
    have a4 := mR_at0 (H := H) (X := X) (l := l) (r := r) (i := i + 1) (k := i)
    have a5 := mR_set0 (H := H) (X := X) (l := l) (r := r) (i := i + 1) (k := i) hlt
    rw [hrow] at a5
    have hfin : ∀ fr' : AFr, fr' 2 = bx b → fr' 7 = .ptr (H.length + (l.length + 1 + 1)) 1 0 0 → fr' 9 = .ref H.length l.length → fr' 10 = bx r → fr' 11 = .int .i64 (i + 1 : Nat) → Again (LEn H X b (iv part) l r) (fun i => l.length - i) i fr' (mR H X l r (i + 1) (i + 1)) :=
      fun fr' h1 h2 h3 h4 h5 => ⟨i + 1, by show l.length - (i + 1) < l.length - i; omega, h1, h2, h3, h4, h5, by omega, rfl⟩
    rw [← a5] at hfin
    have hql := (hrows q (List.mem_of_getElem? hqi)).1
    have hirl : i < r.length := by omega
    generalize mR H X l r (i + 1) i = M1 at *
    generalize mR H X l r i i = M2 at *
    generalize extR H.length l i = C at *
    simp [g9, g10, g11, a0, hll, hlt, hrg, hrE, bx, hz, hzE, hirl]
    refine bind_some (app_rowB (by omega) a1) ?_
    rw [a3]
    simp [g9, g11, a4, hll, hlt, hrg, hrE]
    refine endD [(4, 13), (5, 13), (12, 13)] (by rfl) (by simp [okW, note, Eff.triv, Eff.wr, Eff.none, upTo, newAt]; omega) ?_
    simp [g11, w2]
    exact hfin _ (by simp [g2]) (by simp [g7]) (by simp [g9]) (by simp [g10, bx]) (by simp)
  · have hi' : i = l.length := by have : ¬ i < l.length := by simpa using hc
                                  omega
    subst hi'
    rw [mR_end] at a0 ⊢
    have hw1 := withRem_rows hrows hrv
    have hw2 := withRem_len l r
    generalize hw : withRem l r = l' at *
    have hE := r9EvalRef l' part (fun q hq => ⟨(hw1 q hq).2, by intro h; have := (hw1 q hq).1; rw [h] at this; simp at this, by rw [(hw1 q hq).1]; omega⟩) (by omega) hp H X
    have hel := evalS_len l' part
    rw [hw2] at hE
    generalize evalS l' part = e at *
    have hXg : (H ++ (outJ H.length l' ++ X))[H.length + (l.length + 1 + 1)]? = some (.row true 5 [.agg [.int .i64 t, .int .i64 h, .int .i64 part.1, .int .i64 part.2, .int .i64 order]]) := by
      rw [getAt, List.getElem?_append_right (by rw [outJ_len]; omega), outJ_len, hw2, Nat.add_sub_cancel_left]; exact hX1
    generalize H ++ (outJ H.length l' ++ X) = M3 at *
    simp [g2, g7, g9, hXg]
    refine call_ret (by simpa using hE) ?_
    simp [g2]
    refine call_ret (by simpa using r12Restricted e b (by omega) (by omega) _) ?_
    simp
    exact fin1 (rs := [.tmp 8]) (by rfl) (by simp [resA]) (by simp only [bx, noF, iv_noFs])
end Go.Proofs.YtfjjckepnkkgjaaGreatDoor.Arm

namespace Go.Proofs.YtfjjckepnkkgjaaGreatDoor.Arm
open Go.Arm Go.Pl
theorem r12IntervalStep (T : Tp) (x : List I) (t h : Int) (order : Nat) (hT : tpOk T) (hx : allV x) (hxn : x.length = T.n) (hn : 1 ≤ T.n) (hh : 0 ≤ h ∧ h ≤ 1000000000) (ht : -1000000000 ≤ t ∧ t ≤ 1000000000) (ho : 1 ≤ order ∧ order ≤ 900) (H : AH) :
    Sound E 97 [tpA T, bx x, .agg [.int .i64 t, .int .i64 h], .int .i64 order] H (.ret (sgO (istepS T x t h order))) H := by
  refine sound_of_awp tabOk mixed Tryz.func97 rfl (by rfl) Tryz.ntmps97 (by kernel_rfl) (by simp) ?_
  have hsm := hT.small
  have hE := r11Enclose T x t h hT hx hxn hh ht
  unfold istepS
  cases hr : enclS T x t h with
  | none =>
    rw [hr] at hE
    simp [tpA]
    refine call_ret (by simpa [tpA] using hE _) ?_
    simp [encA]
    exact ⟨[zsA, .bool false], [zsA, .bool false], by simp [show (Tryz.f97).results.toList = [.cell 8 47, .tmp 9] from rfl, resA, zsA], .drop (by simp [noFs, noF, zsA]), rfl⟩
  | some b =>
    rw [hr] at hE
    obtain ⟨hbv, hbl⟩ := enclS_ok hx hr
    have hp1 : vB (0, h) = true := vB_pair (by omega) (by omega) (by omega)
    have hp2 : vB (h, h) = true := vB_pair (by omega) (by omega) (by omega)
    have hph : pt h = (h, h) := pt_num (by omega)
    have k1 := enclAt_ok (order := order) hT hx hbv hh ht hp1
    have k2 := enclAt_ok (order := order) hT hx hbv hh ht hp2
    have hA := r12EnclosureAt T x b t h (0, h) order hT hx hxn hn hbv (by omega) hh ht hp1 ho
    have hB := r12EnclosureAt T x b t h (h, h) order hT hx hxn hn hbv (by omega) hh ht hp2 ho
    simp only
    generalize enclAt T x b t h (0, h) order = A at *
    generalize enclAt T x b t h (h, h) order = B at *
    simp [tpA]
    refine call_ret (by simpa [tpA] using hE _) ?_
    simp [encA]
    refine call_ret (by simpa [tpA] using hA _) ?_
    simp
    refine callD_ret0 (fun Hx => rPoint h Hx) ?_
    rw [hph]
    simp
    refine callD_ret0 (fun Hx => by simpa [tpA] using hB Hx) ?_
    simp
    refine endD [] (by rfl) (by simp [okW, note, Eff.triv, Eff.wr, Eff.none, upTo, newAt]) ?_
    simp
    refine call_ret (by simpa using r12Unbounded A (by omega) _) ?_
    simp
    cases m1 : boundedB A with
    | false =>
      simp
      exact ⟨[zsA, .bool false], [zsA, .bool false], by simp [show (Tryz.f97).results.toList = [.cell 8 47, .tmp 9] from rfl, resA, zsA], .drop (by simp [noFs, noF, zsA]), rfl⟩
    | true =>
      simp
      refine call_ret (by simpa using r12Unbounded B (by omega) _) ?_
      simp
      cases m2 : boundedB B with
      | false =>
        simp
        exact ⟨[zsA, .bool false], [zsA, .bool false], by simp [show (Tryz.f97).results.toList = [.cell 8 47, .tmp 9] from rfl, resA, zsA], .drop (by simp [noFs, noF, zsA]), rfl⟩
      | true =>
        simp [bx]
        exact ⟨[sgA ⟨t, h, x, b, A, B⟩, .bool true], [sgA ⟨t, h, x, b, A, B⟩, .bool true], by simp [show (Tryz.f97).results.toList = [.cell 8 47, .tmp 9] from rfl, resA, sgA, bx], .drop (by simp only [noFs, noF, sgA, bx, iv_noFs, Bool.and_self]), rfl⟩
end Go.Proofs.YtfjjckepnkkgjaaGreatDoor.Arm

namespace Go.Proofs.YtfjjckepnkkgjaaGreatDoor.Arm
open Go.Arm Go.Pl
def LAd (T : Tp) (x : List I) (w : Rq) (H : AH) (h : Int) (fr : AFr) (H' : AH) : Prop :=
  fr 1 = bx x ∧ fr 3 = .ptr H.length 1 0 0 ∧ fr 5 = .ptr (H.length + 1) 1 0 0 ∧ fr 6 = .ptr (H.length + 2) 1 0 0 ∧ fr 9 = .int .i64 h ∧ 1 ≤ h ∧ h ≤ firstH w ∧ fr 10 = .int .i64 (if h = firstH w then w.h else h) ∧
  (cands w.ctrl h).findSome? (accS T x w.ctrl w.t) = advS T x w ∧ ∃ J, H' = H ++ (.row true 3 [tpA T] :: .row true 8 [rqA w] :: .row true 6 [zsA] :: J)
theorem r13Advance (T : Tp) (x : List I) (w : Rq) (hT : tpOk T) (hx : allV x) (hxn : x.length = T.n) (hn : 1 ≤ T.n) (hw : rqOk w) (H : AH) :
    Sound E 58 [tpA T, bx x, rqA w] H (.ret (advO w (advS T x w))) H := by
  refine sound_of_awp tabOk mixed Tryz.func58 rfl (by rfl) Tryz.ntmps58 (by kernel_rfl) (by simp) ?_
  have hsm := hT.small
  obtain ⟨wo, wl, wt, wlast, wh⟩ := hw
  have hf1 : 1 ≤ firstH w ∧ firstH w ≤ 1000000000 := by unfold firstH; omega
  have hfe : (if w.last - w.t < w.h then w.last - w.t else w.h) = firstH w := by unfold firstH; split <;> omega
  have wsub : IntKind.i64.wrap (w.last - w.t) = w.last - w.t := wrap64 (by omega) (by omega)
  have hor : ((w.ctrl.order.toNat : Nat) : Int) = w.ctrl.order := by omega
  have hst := fun (h : Int) (h1 : 1 ≤ h ∧ h ≤ firstH w) => r12IntervalStep T x w.t h w.ctrl.order.toNat hT hx hxn hn (by omega) wt (by omega)
  have hok := fun (h : Int) (h1 : 1 ≤ h ∧ h ≤ firstH w) s (hs : istepS T x w.t h w.ctrl.order.toNat = some s) => istepS_ok hT hx hxn (by omega) wt hs
  simp [tpA, rqA, wsub, hfe]
  refine loop_count (LAd T x w H) (fun h => h.toNat) (firstH w) ⟨by simp, by simp, by simp, by simp, by simp, hf1.1, by omega, by simp, rfl, [], by simp [tpA, rqA, zsA]⟩ ?_
  rintro h fr H' ⟨g1, g3, g5, g6, g9, h1, h2, g10, hcs, J, rfl⟩
  have hS := hst h ⟨h1, h2⟩
  rw [hor] at hS
  rw [cands_cons wl h1, List.findSome?_cons] at hcs
  have e2 := tdiv2 (h := h) (by omega)
  cases hr : istepS T x w.t h w.ctrl.order.toNat with
  | none =>
    have hacc : accS T x w.ctrl w.t h = none := by unfold accS; rw [hr]
    rw [hacc] at hcs
    rw [hr] at hS
    simp [g1, g3, g5, g9, tpA, rqA, zsA]
    refine call_ret (by simpa [tpA] using hS _) ?_
    simp [sgO, zsA, g5, g9]
    refine call_ret (by simpa [ctA] using r13Shrink w.ctrl h (by omega) _) ?_
    by_cases hs : h.tdiv 2 < w.ctrl.least
    · have hs2 : shrinkS w.ctrl h = (0, 130) := by unfold shrinkS; rw [if_pos hs]
      rw [if_pos hs] at hcs
      rw [← hcs]
      simp [hs2, shA, g6]
      exact ⟨[zsA, .int .i64 0, .int .i64 130], [zsA, .int .i64 0, .int .i64 130], by simp [show (Tryz.f58).results.toList = [.cell 6 47, .tmp 7, .tmp 8] from rfl, resA, zsA, g6], .drop (by simp [noFs, noF, zsA]), rfl⟩
    · have hs2 : shrinkS w.ctrl h = (h.tdiv 2, 0) := by unfold shrinkS; rw [if_neg hs]
      rw [if_neg hs] at hcs
      simp [hs2, shA]
      exact ⟨h.tdiv 2, by show (h.tdiv 2).toNat < h.toNat; omega, by simp [g1], by simp [g3], by simp [g5], by simp [g6], by simp, by omega, by omega, by simp; intro h0; omega, hcs, _, by simp [tpA, rqA, zsA]; rfl⟩
  | some s =>
    have hso := hok h ⟨h1, h2⟩ s hr
    rw [hr] at hS
    have hA := r13Accept w.ctrl s hso.vto hso.vtube (by rw [hso.nto]; omega) (by rw [hso.ntube]; omega)
    cases ha : (narrowB w.ctrl.wide s.to && narrowB w.ctrl.wide s.tube) with
    | false =>
      have hacc : accS T x w.ctrl w.t h = none := by unfold accS; rw [hr]; simp only [ha]; rfl
      rw [hacc] at hcs
      rw [ha] at hA
      simp [g1, g3, g5, g9, tpA, rqA, zsA]
      refine call_ret (by simpa [tpA] using hS _) ?_
      simp [sgO, sgA, bx, g5]
      refine call_ret (by simpa [sgA, bx, ctA] using hA _) ?_
      simp [g5, g9]
      refine call_ret (by simpa [ctA] using r13Shrink w.ctrl h (by omega) _) ?_
      by_cases hs : h.tdiv 2 < w.ctrl.least
      · have hs2 : shrinkS w.ctrl h = (0, 130) := by unfold shrinkS; rw [if_pos hs]
        rw [if_pos hs] at hcs
        rw [← hcs]
        simp [hs2, shA, g6]
        exact ⟨[zsA, .int .i64 0, .int .i64 130], [zsA, .int .i64 0, .int .i64 130], by simp [show (Tryz.f58).results.toList = [.cell 6 47, .tmp 7, .tmp 8] from rfl, resA, zsA, g6], .drop (by simp [noFs, noF, zsA]), rfl⟩
      · have hs2 : shrinkS w.ctrl h = (h.tdiv 2, 0) := by unfold shrinkS; rw [if_neg hs]
        rw [if_neg hs] at hcs
        simp [hs2, shA]
        exact ⟨h.tdiv 2, by show (h.tdiv 2).toNat < h.toNat; omega, by simp [g1], by simp [g3], by simp [g5], by simp [g6], by simp, by omega, by omega, by simp; intro h0; omega, hcs, _, by simp [tpA, rqA, zsA]; rfl⟩
    | true =>
      have hacc : accS T x w.ctrl w.t h = some s := by unfold accS; rw [hr]; simp only [ha]; rfl
      rw [hacc] at hcs
      rw [ha] at hA
      rw [← hcs]
      simp [g1, g3, g5, g9, tpA, rqA, zsA]
      refine call_ret (by simpa [tpA] using hS _) ?_
      simp [sgO, sgA, bx, g5]
      refine call_ret (by simpa [sgA, bx, ctA] using hA _) ?_
      simp [g5, g6, g10]
      refine callD_ret0 (fun Hx => by simpa [ctA] using r13Grow w.ctrl (if h = firstH w then w.h else h) (by split <;> omega) Hx) ?_
      simp [g6]
      refine endD [] (by rfl) (by simp [okW, note, Eff.triv, Eff.wr, Eff.none, upTo, newAt]) ?_
      simp
      exact ⟨[sgA s, .int .i64 (nxC w (some s)), .int .i64 0], [sgA s, .int .i64 (nxC w (some s)), .int .i64 0], by simp [show (Tryz.f58).results.toList = [.cell 6 47, .tmp 7, .tmp 8] from rfl, resA, sgA, bx, nxC, g6, hso.hh], .drop (by simp only [noFs, noF, sgA, bx, iv_noFs, Bool.and_self]), rfl⟩
end Go.Proofs.YtfjjckepnkkgjaaGreatDoor.Arm

namespace Go.Proofs.YtfjjckepnkkgjaaGreatDoor.Arm
open Go.Arm Go.Pl
def ex2 : List Sg := [⟨0, 65536, [(0, 0)], [(0, 65536)], [(0, 65536)], [(65536, 65536)]⟩, ⟨131072, 65536, [(131072, 131072)], [(131072, 196608)], [(131072, 196608)], [(196608, 196608)]⟩]
theorem zero14 : allV [(0, 0)] := fun p hp => by simp at hp; subst hp; exact vB_pair (by omega) (by omega) (by omega)
theorem hz14 : hzOk (ctS 0) 0 3000 := ⟨by decide, by decide, by decide, by decide, by decide⟩
set_option maxHeartbeats 8000000 in
set_option maxRecDepth 100000 in
theorem lSanity14 (H : AH) : Sound E 12 [] H (.ret (.bool true)) H := by
  refine sound_of_awp tabOk mixed Tryz.func12 rfl (by rfl) Tryz.ntmps12 (by kernel_rfl) (by simp) ?_
  have p0 := lPoint 0 (by decide)
  have p1 := lPoint 1 (by decide)
  have p2 := lPoint 2 (by decide)
  have p3 := lPoint 3 (by decide)
  have s01 := lSpan 0 1 (by decide) (by decide)
  have s12 := lSpan 1 2 (by decide) (by decide)
  have s23 := lSpan 2 3 (by decide) (by decide)
  have s02 := lSpan 0 2 (by decide) (by decide)
  have hlen : exL.length = 3 := rfl
  have hAt := fun τ Hx => wAt exL 0 τ exCtg (by rw [hlen]; decide) exTm Hx
  have a1 := hAt 65536
  rw [show atS exL 65536 = some [(65536, 65536)] by kernel_rfl] at a1
  have a2 := hAt 196608
  rw [show atS exL 196608 = some [(196608, 196608)] by kernel_rfl] at a2
  have a3 := hAt 65537
  rw [show atS exL 65537 = some [(65536, 131072)] by kernel_rfl] at a3
  have a4 := hAt (-1)
  rw [show atS exL (-1) = none by kernel_rfl] at a4
  have hDu := fun u Hx => wDuring exL 0 u 1 (by decide) exCtg (by rw [hlen]; decide) exTm exN Hx
  have d1 := hDu (32768, 65536)
  rw [show durS exL (32768, 65536) = some [(0, 131072)] by kernel_rfl] at d1
  have d2 := hDu (196609, 196609)
  rw [show durS exL (196609, 196609) = none by kernel_rfl] at d2
  have hE := fun Hx => wEnd exL ⟨131072, 65536, [(131072, 131072)], [(131072, 196608)], [(131072, 196608)], [(196608, 196608)]⟩ rfl (by rw [hlen]; decide) (by decide) Hx
  have hI := fun Hx => wItems 7 exL (by rw [hlen]; decide) (fun s hs => by simp [exL] at hs; rcases hs with rfl | rfl | rfl <;> decide) Hx
  have hSt := lSteady 65536 (by decide)
  have hCt := r14Control 0 (by decide)
  have hG := fun Hx => wIntegrate exT [(0, 0)] (ctS 0) 0 3000 exT_ok zero14 rfl (by decide) hz14 (by decide) (by decide) (by decide) Hx
  rw [show initS (ctS 0) (3000 - 0) = 3000 by decide, exInt] at hG
  have hB := fun Hx => wIntegrateBad exT [(0, 0)] (ctS 0) 5 5 (.inr (.inr (.inr (Int.le_refl _)))) Hx
  have hV := fun l hl hs Hx => wValid l hl hs Hx
  have v1 := hV exL (by rw [hlen]; decide) (fun s hs b hb => by simp [exL] at hs; rcases hs with rfl | rfl | rfl <;> (simp [boxs] at hb; rcases hb with rfl | rfl | rfl | rfl <;> decide))
  rw [show flowB exL = true by kernel_rfl] at v1
  have v2 := hV [] (by decide) (by simp)
  rw [show flowB [] = false from rfl] at v2
  have v2n := fun Hx => (v2 Hx).weaken (args := [.nilslice]) (by simp only [sgL, List.map_nil]; exact ⟨Wk.nil, trivial⟩)
  have v3 := hV ex2 (by decide) (fun s hs b hb => by simp [ex2] at hs; rcases hs with rfl | rfl <;> (simp [boxs] at hb; rcases hb with rfl | rfl | rfl | rfl <;> decide))
  rw [show flowB ex2 = false by kernel_rfl] at v3
  have hs1 := fun (a : List I) (ha : a.length ≤ 1000000) Hx => r3Same a a ha ha Hx
  have e1 := hs1 [(65536, 65536)] (by decide)
  have e2 := hs1 [(0, 131072)] (by decide)
  have e3 := hs1 [(196608, 196608)] (by decide)
  have e4 := hs1 [(65536, 131072)] (by decide)
  have e5 := hs1 [(3000, 3000)] (by decide)
  have e6 := hs1 [(0, 3000)] (by decide)
  simp only [decide_true] at e1 e2 e3 e4 e5 e6
  have q1 := rSame2 (65536, 131072) (65536, 131072)
  simp
  refine call_ret (p0 _) ?_
  simp [bx]
  refine call_ret (s01 _) ?_
  simp [bx]
  refine call_ret (s01 _) ?_
  simp [bx]
  refine call_ret (p1 _) ?_
  simp [bx]
  refine call_ret (p1 _) ?_
  simp [bx]
  refine call_ret (s12 _) ?_
  simp [bx]
  refine call_ret (s12 _) ?_
  simp [bx]
  refine call_ret (p2 _) ?_
  simp [bx]
  refine call_ret (p2 _) ?_
  simp [bx]
  refine call_ret (s23 _) ?_
  simp [bx]
  refine call_ret (s23 _) ?_
  simp [bx]
  refine call_ret (p3 _) ?_
  simp [bx]
  refine call_conv0 (a1 _) (by simp [sgL, exL, sgA, bx]; rfl) ?_
  simp [atR, bx]
  refine call_conv0 (d1 _) (by simp [sgL, exL, sgA, bx]; rfl) ?_
  simp [atR, bx]
  refine call_conv0 (hE _) (by simp [sgL, exL, sgA, bx]; rfl) ?_
  simp [atR, bx]
  refine call_conv0 (a2 _) (by simp [sgL, exL, sgA, bx]; rfl) ?_
  simp [atR, bx]
  refine call_conv0 (a3 _) (by simp [sgL, exL, sgA, bx]; rfl) ?_
  simp [atR, bx]
  refine call_conv0 (a4 _) (by simp [sgL, exL, sgA, bx]; rfl) ?_
  simp [atR, bx]
  refine call_ret (rPoint 196609 _) ?_
  rw [pt_num (by decide)]
  simp
  refine call_conv0 (d2 _) (by simp [sgL, exL, sgA, bx]; rfl) ?_
  simp [atR, bx]
  refine call_conv0 (hI _) (by simp [sgL, exL, sgA, bx]; rfl) ?_
  simp [exL, itA, bx]
  refine call_ret (hSt _) ?_
  simp [tpA, insA, outA]
  refine call_ret (p0 _) ?_
  simp [bx]
  refine call_ret (hCt _) ?_
  simp [ctA]
  refine call_ret (by simpa [tpA, exT, insA, outA, bx, hzA, ctS] using hG _) ?_
  simp [intR, sgL, exS, sgA, bx]
  refine call_ret (hSt _) ?_
  simp [tpA, insA, outA]
  refine call_ret (p0 _) ?_
  simp [bx]
  refine call_ret (hCt _) ?_
  simp [ctA]
  refine call_ret (by simpa [tpA, exT, insA, outA, bx, hzA, ctS] using hB _) ?_
  simp [intR, sgL, exS, sgA, bx]
  refine callD_ret0 (fun Hx => by simpa [bx] using p1 Hx) ?_
  simp [bx]
  refine callD_ret0 (fun Hx => by simpa [bx] using e1 Hx) ?_
  simp [bx]
  refine callD_ret0 (fun Hx => by simpa [bx] using s02 Hx) ?_
  simp [bx]
  refine callD_ret0 (fun Hx => by simpa [bx] using e2 Hx) ?_
  simp [bx]
  refine callD_ret0 (fun Hx => by simpa [bx] using p3 Hx) ?_
  simp [bx]
  refine callD_ret0 (fun Hx => by simpa [bx] using e3 Hx) ?_
  simp [bx]
  refine callD_ret0 (fun Hx => by simpa [bx] using p3 Hx) ?_
  simp [bx]
  refine callD_ret0 (fun Hx => by simpa [bx] using e3 Hx) ?_
  simp [bx]
  refine callD_ret0 (fun Hx => by simpa [bx] using s12 Hx) ?_
  simp [bx]
  refine callD_ret0 (fun Hx => by simpa [bx] using e4 Hx) ?_
  simp [bx]
  refine callD_ret0 (fun Hx => by simpa [bx] using q1 Hx) ?_
  simp [bx]
  refine callD_conv0 (fun Hx => v1 Hx) (fun Hx => by simp [sgL, exL, sgA, bx]) ?_
  simp
  refine callD_ret0 (fun Hx => v2n Hx) ?_
  simp
  refine callD_ret0 (fun Hx => by simpa [sgL] using v2 Hx) ?_
  simp
  refine callD_conv0 (fun Hx => v3 Hx) (fun Hx => by simp [sgL, ex2, sgA, bx]) ?_
  simp
  refine callD_conv0 (fun Hx => e5 Hx) (fun Hx => by simp [bx]) ?_
  simp
  refine callD_conv0 (fun Hx => e6 Hx) (fun Hx => by simp [bx]) ?_
  simp
  refine endD [] (by rfl) (by simp [okW, note, Eff.triv, Eff.wr, Eff.none, upTo, newAt]) ?_
  simp
  exact fin0 (rs := [.tmp 0]) (by rfl) (by simp [resA])
end Go.Proofs.YtfjjckepnkkgjaaGreatDoor.Arm

namespace Go.Proofs.YtfjjckepnkkgjaaGreatDoor.Arm
open Go.Arm Go.Pl
def LIr (T : Tp) (c : Ct) (t last : Int) (R : Except Int (List Sg)) (H : AH) (n : Nat) (fr : AFr) (H' : AH) : Prop :=
  ∃ l x t' h, fr 3 = .ptr H.length 1 0 0 ∧ fr 5 = .ptr (H.length + 1) 1 0 0 ∧ fr 9 = .int .i64 t' ∧ fr 10 = bx x ∧ fr 11 = .int .i64 h ∧ allV x ∧ x.length = T.n ∧ hzOk c t' last ∧ t' ≤ last ∧ (1 ≤ h ∧ h ≤ 1000000000) ∧
  l.length + n = 256 ∧ R = appS l (intS T c last n x t' h) ∧ ∃ J, H' = H ++ (.row true 3 [tpA T] :: .row true 7 [hzA c t last] :: J) ∧ Acc (H ++ [.row true 3 [tpA T], .row true 7 [hzA c t last]]) J (fr 8) 6 (l.map sgA) (.slice [] true)
set_option maxHeartbeats 1000000 in
theorem r14Integrate (T : Tp) (x : List I) (c : Ct) (t last : Int) (hT : tpOk T) (hx : allV x) (hxn : x.length = T.n) (hn : 1 ≤ T.n) (hk : hzOk c t last) (hv : validC c = true) (htl : t < last) (hi : 1 ≤ initS c (last - t) ∧ initS c (last - t) ≤ 1000000000) (H : AH) :
    Sound E 15 [tpA T, bx x, hzA c t last] H (.ret (intR (intS T c last 256 x t (initS c (last - t))))) H := by
  refine sound_of_awp tabOk mixed Tryz.func15 rfl (by rfl) Tryz.ntmps15 (by kernel_rfl) (by simp) ?_
  have hV := r13Valid c
  rw [hv] at hV
  have hres : (Tryz.f15).results.toList = [.tmp 6, .tmp 7] := rfl
  have kt := hk.t
  have kl := hk.last
  have n1 : numB t = true := numB_iff.2 (by omega)
  have n2 : numB last = true := numB_iff.2 (by omega)
  have hF1 := rNumber t
  have hF2 := rNumber last
  rw [n1] at hF1
  rw [n2] at hF2
  have h4 : ¬ last ≤ t := by omega
  have wsub : IntKind.i64.wrap (last - t) = last - t := wrap64 (by omega) (by omega)
  have hI := fun Hx => r13Initial c (last - t) Hx
  have hor : ((c.order.toNat : Nat) : Int) = c.order := by have := hk.order; omega
  simp [tpA, hzA]
  refine call_ret (by simpa [ctA] using hV _) ?_
  simp
  refine call_ret (hF1 _) ?_
  simp
  refine call_ret (hF2 _) ?_
  simp [h4, wsub]
  refine callD_ret0 (fun Hx => by simpa [ctA] using hI Hx) ?_
  simp
  refine endD [] (by rfl) (by simp [okW, note, Eff.triv, Eff.wr, Eff.none, upTo, newAt]) ?_
  simp
  generalize hh0 : initS c (last - t) = h0 at *
  generalize hR : intS T c last 256 x t h0 = R
  refine loop_count (LIr T c t last R H) (fun n => n + 1) 256 ⟨[], x, t, h0, by simp, by simp, by simp, by simp [bx], by simp, hx, hxn, hk, by omega, hi, by simp, by rw [appS_nil, hR], [], by simp [tpA, hzA], .inl ⟨by simp, by simp⟩⟩ ?_
  clear hR hh0 hi hx hxn hI wsub h4 hF1 hF2 n1 n2 kt
  clear h0 x
  rintro n fr H' ⟨l, x, t', h, g3, g5, g9, g10, g11, hx, hxn, hk', htl', hh, hln, hR, J, rfl, hacc⟩
  have kt := hk'.t
  simp [g3, g5, g9, hzA]
  refine branch (fun hc => ?_) (fun hc => ?_)
  · have hlt : t' < last := by simpa using hc
    have hw := hk'.rq hlt hh
    have hA := r13Advance T x ⟨c, t', last, h⟩ hT hx hxn hn hw
    rw [advO_eq] at hA
    cases hr : advS T x ⟨c, t', last, h⟩ with
    | none =>
      rw [hr] at hA
      rw [intS_none hlt hr] at hR
      simp [g3, g5, g9, g10, g11, tpA, hzA]
      refine call_ret (by simpa [tpA, rqA] using hA _) ?_
      simp [segC, zsA, erO, nxC]
      rw [hR]
      exact ⟨[.nilslice, .int .i64 130], [.nilslice, .int .i64 130], by simp [hres, resA], .drop (by simp [noFs, noF]), rfl⟩
    | some s =>
      obtain ⟨a1, a2, a3, a4, a5⟩ := advS_ok hT hx hxn hw hr
      have hst : s.t = t' := a5.ht
      have hf : firstH ⟨c, t', last, h⟩ ≤ last - t' := by unfold firstH; simp only; omega
      rw [hr] at hA
      have w1 : IntKind.i64.wrap (s.t + s.h) = s.t + s.h := wrap64 (by omega) (by omega)
      simp [g3, g5, g9, g10, g11, tpA, hzA]
      refine call_ret (by simpa [tpA, rqA] using hA _) ?_
      simp [segC, sgA, bx, erO]
      have hl3 : l.length ≤ 256 := by omega
      have hnx := nxS_b hk' hh (s := s) a2
      have hstep := hk'.step (t' := s.t + s.h) (by omega) (by omega)
      obtain ⟨v', J', hap, hacc', hold, _, _⟩ := pushSg (s := s) (hacc.len (L := [.row true 6 [sgA s]])) rfl (by omega)
      rcases hacc with ⟨h0, hv8⟩ | ⟨kk, hv8, hJk⟩
      · have hl0 : l = [] := by simpa using h0
        subst hl0
        obtain ⟨m, rfl⟩ : ∃ m, n = m + 1 := ⟨n - 1, by simp at hln; omega⟩
        rw [intS_some hlt hr, appS_cons] at hR
        have hs6 := hold J.length (.row true 6 [sgA s]) (by simp) (by rw [hv8]; intro n hh; cases hh)
        clear hold
        simp only [sgA, bx] at hs6
        simp [hv8]
        refine bind_some (by simpa [sgA, bx, tpA, hzA, hv8] using hap) ?_
        simp [w1, hs6]
        exact ⟨m, by show m + 1 < m + 1 + 1; omega, [s], s.to, s.t + s.h, nxS ⟨c, t', last, h⟩ s, by simp [g3], by simp [g5], by simp, by simp [bx], by simp [nxC, nxS], a5.vto, a5.nto, hstep, by omega, hnx, by simp at hln ⊢; omega, hR, J', by simp [tpA, hzA], by simpa using accRebase hacc' (by simp)⟩
      · have hkl := (List.getElem?_eq_some_iff.1 hJk).1
        have hJ2 := old hJk
        have hv9 : fr 8 = .ref (H.length + (kk + 2)) l.length := by rw [hv8]; simp; omega
        by_cases hn0 : n = 0
        · subst hn0
          rw [intS_full hlt hr] at hR
          have h256 : l.length = 256 := by omega
          simp [hv9, hJ2, h256]
          rw [hR]
          exact ⟨[.nilslice, .int .i64 140], [.nilslice, .int .i64 140], by simp [hres, resA], .drop (by simp [noFs, noF]), rfl⟩
        · obtain ⟨m, rfl⟩ : ∃ m, n = m + 1 := ⟨n - 1, by omega⟩
          rw [intS_some hlt hr, appS_cons] at hR
          have h256 : ¬ (256 : Int) ≤ (l.length : Int) := by omega
          have hs6 := hold J.length (.row true 6 [sgA s]) (by simp) (by rw [hv8]; intro n hh; simp at hh; omega)
          clear hold
          simp only [sgA, bx] at hs6
          simp [hv9, hJ2, h256]
          refine bind_some (by simpa [sgA, bx, tpA, hzA, hv9] using hap) ?_
          simp [w1, hs6]
          exact ⟨m, by show m + 1 < m + 1 + 1; omega, l ++ [s], s.to, s.t + s.h, nxS ⟨c, t', last, h⟩ s, by simp [g3], by simp [g5], by simp, by simp [bx], by simp [nxC, nxS], a5.vto, a5.nto, hstep, by omega, hnx, by simp; omega, hR, J', by simp [tpA, hzA], by simpa using accRebase hacc' (by simp)⟩
  · have hlt : ¬ t' < last := by simpa using hc
    rw [intS_end hlt] at hR
    have hR2 : R = .ok l := by rw [hR]; simp [appS]
    rw [hR2]
    simp
    exact finS2 (t := 6) (u := 7) hres (by simp) (by simp) (fun H => rfl) (by simp [noF]) (accBase hacc) rfl (sgs_noFs _ _)
set_option maxRecDepth 100000 in
set_option maxHeartbeats 4000000 in
theorem lMatches (q : Fq) (hq : FqOk q) (H : AH) : Sound E 3 [fqA q] H (.ret (.bool true)) H := by
  refine sound_of_awp tabOk mixed Tryz.func3 rfl (by rfl) Tryz.ntmps3 (by kernel_rfl) (by simp) ?_
  have hM := lMade q hq
  obtain ⟨hT, hn1, hn3⟩ := fqT_ok q
  obtain ⟨hX, hXn⟩ := fqX_ok q
  obtain ⟨hk, hlt, hle, hi⟩ := fq_hz hq
  have hv := (ctS_ok hq.ho).1
  generalize fqT q = T at *
  generalize fqX q = X at *
  generalize fqF q = t0 at *
  generalize fqE q = t1 at *
  generalize ctS q.order = c at *
  have hI := fun Hx => wIntegrate T X c t0 t1 hT hX hXn hn1 hk hv hlt (by omega) Hx
  have hJ := fun Hx => r14Integrate T X c t0 t1 hT hX hXn hn1 hk hv hlt (by omega) Hx
  have hchn := fun l => intS_chn (l := l) (n := 256) hT hk (by omega) (h := initS c (t1 - t0)) (by omega) hX hXn
  have fin : ∀ {fr : AFr} {J : AH} {e : AExit}, fr 2 = .bool true → (e = .ret ∨ e = .normal) → bodyK E Tryz.f3 H (.ret (.bool true)) H e fr (H ++ J) := fun h he => fin1 (rs := [.tmp 2]) (by rfl) (by simp [resA, h]) (by simp [noF]) he
  simp [fqA]
  refine call_ret (lSanity14 _) ?_
  simp
  refine call_ret (by simpa [fqA] using hM _) ?_
  simp [tpA, outA, bx, hzA]
  cases hR : intS T c t1 256 X t0 (initS c (t1 - t0)) with
  | error e =>
    rw [hR] at hI hJ
    refine call_ret (by simpa [tpA, outA, bx, hzA] using hI _) ?_
    simp [intR]
    refine call_ret (by simpa [tpA, outA, bx, hzA] using hJ _) ?_
    simp [intR]
    refine call_ret (r14SameN _) ?_
    simp
    exact fin (by simp) (by simp)
  | ok l =>
    rw [hR] at hI hJ
    obtain ⟨hl, hc, hend, hl1⟩ := hchn l hR
    have hS := fun Hx => r14Same l (by omega) (fun s hs => by
      obtain ⟨i, hi1, hi2⟩ := List.getElem_of_mem hs
      obtain ⟨x, t, k⟩ := hc.get i s (by rw [List.getElem?_eq_getElem hi1, hi2])
      have e1 := k.ok.hx; have e2 := k.nx; have e3 := k.ok.npre; have e4 := k.ok.ntube; have e5 := k.ok.nto
      exact ⟨by rw [e1]; omega, by omega, by omega, by omega⟩) Hx
    simp only [sgL] at hS
    refine call_ret (by simpa [tpA, outA, bx, hzA, sgL] using hI _) ?_
    simp [intR]
    refine call_ret (by simpa [tpA, outA, bx, hzA, sgL] using hJ _) ?_
    simp [intR, sgL]
    refine call_ret (hS _) ?_
    simp
    exact fin (by simp) (by simp)
end Go.Proofs.YtfjjckepnkkgjaaGreatDoor.Arm
