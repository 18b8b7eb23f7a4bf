/- Part of a proof: what the functions of the program do to abstract states, step by step. -/
import Derived.Test.YtgabeieooemfeaaDoorM4
import Derived.Test.YtgabeieooemfeaaDoorTie
import Derived.Test.YtgabeieooemfeaaDoorCards
import Derived.ProofKit
import Derived.Stop.Joined
import Derived.SevenTiedAt
set_option linter.unusedVariables false
set_option linter.unusedSimpArgs false
namespace Go.Proofs.YtgabeieooemfeaaDoor.Arm
open Go.Arm Go.Pl

theorem refsN_refsF (p : Nat) (l : List (List I)) : refsN p l = refsF (p + 1) l := by
  apply List.ext_getElem?
  intro j
  by_cases h : j < l.length
  · rw [refsN_get (List.getElem?_eq_getElem h), refsF_get (List.getElem?_eq_getElem h)]
  · rw [List.getElem?_eq_none (by rw [refsN_len]; omega), List.getElem?_eq_none (by rw [refsF_len]; omega)]
def extR (p : Nat) (l : List (List I)) (i : Nat) : List AV := (List.range l.length).map fun j : Nat => .ref (p + 1 + j) (if j < i then (rowN l (j : Int)).length + 1 else (rowN l (j : Int)).length)
theorem extR_len (p : Nat) (l : List (List I)) (i : Nat) : (extR p l i).length = l.length := by simp [extR]
theorem extR_get {p : Nat} {l : List (List I)} {i j : Nat} (h : j < l.length) : (extR p l i)[j]? = some (.ref (p + 1 + j) (if j < i then (rowN l (j : Int)).length + 1 else (rowN l (j : Int)).length)) := by
  unfold extR; rw [List.getElem?_map, List.getElem?_range h]; rfl
theorem extR_set {p : Nat} {l : List (List I)} {i : Nat} (h : i < l.length) : (extR p l i).set i (.ref (p + 1 + i) ((rowN l (i : Int)).length + 1)) = extR p l (i + 1) := by
  apply List.ext_getElem?
  intro j
  by_cases hj : j < l.length
  · by_cases hij : i = j
    · subst hij; rw [List.getElem?_set_self (by rw [extR_len]; exact h), extR_get h, if_pos (by omega)]
    · rw [List.getElem?_set_ne hij, extR_get hj, extR_get hj]
      by_cases h1 : j < i
      · rw [if_pos h1, if_pos (by omega)]
      · rw [if_neg h1, if_neg (by omega)]
  · rw [List.getElem?_eq_none (by rw [List.length_set, extR_len]; omega), List.getElem?_eq_none (by rw [extR_len]; omega)]
theorem extR_zero (p : Nat) (l : List (List I)) : extR p l 0 = refsN p l := by
  apply List.ext_getElem?
  intro j
  by_cases h : j < l.length
  · rw [extR_get h, if_neg (by omega), refsN_get (List.getElem?_eq_getElem h), rowN_get (List.getElem?_eq_getElem h)]
  · rw [List.getElem?_eq_none (by rw [extR_len]; omega), List.getElem?_eq_none (by rw [refsN_len]; omega)]
theorem extR_all (p : Nat) (l : List (List I)) (r : List I) : extR p l l.length = refsN p (withRem l r) := by
  apply List.ext_getElem?
  intro j
  by_cases h : j < l.length
  · rw [extR_get h, if_pos h, refsN_get (withRem_get h)]; simp
  · rw [List.getElem?_eq_none (by rw [extR_len]; omega), List.getElem?_eq_none (by rw [refsN_len, withRem_len]; omega)]
def mR (H X : AH) (l : List (List I)) (r : List I) (i k : Nat) : AH := H ++ (.row true 1 (extR H.length l k) :: (extB l r i ++ X))
section
variable {H X : AH} {l : List (List I)} {r : List I} {i k : Nat}
theorem mR_at0 : (mR H X l r i k)[H.length]? = some (.row true 1 (extR H.length l k)) := by
  have := getAt (H := H) (J := .row true 1 (extR H.length l k) :: (extB l r i ++ X)) (b := 0)
  exact this
theorem mR_row {j : Nat} (h : j < l.length) : (mR H X l r i k)[H.length + 1 + j]? = (extB l r i)[j]? := by
  unfold mR
  rw [Nat.add_assoc, getAt, Nat.add_comm 1 j, List.getElem?_cons_succ, List.getElem?_append_left (by rw [extB_len]; exact h)]
theorem mR_set (h : i < l.length) : (mR H X l r i k).set (H.length + 1 + i) (rowB (rowN l (i : Int) ++ [atN r i])) = mR H X l r (i + 1) k := by
  unfold mR
  rw [Nat.add_assoc, setAt, Nat.add_comm 1 i, List.set_cons_succ, List.set_append_left _ _ (by rw [extB_len]; exact h), extB_set h]
theorem mR_set0 (h : k < l.length) : (mR H X l r i k).set H.length (.row true 1 ((extR H.length l k).set k (.ref (H.length + 1 + k) ((rowN l (k : Int)).length + 1)))) = mR H X l r i (k + 1) := by
  unfold mR
  have := setAt (H := H) (J := .row true 1 (extR H.length l k) :: (extB l r i ++ X)) (b := 0) (y := .row true 1 ((extR H.length l k).set k (.ref (H.length + 1 + k) ((rowN l (k : Int)).length + 1))))
  rw [Nat.add_zero] at this
  rw [this, extR_set h]; rfl
theorem mR_start : mR H X l r 0 0 = H ++ (outJ H.length l ++ X) := by unfold mR outJ; rw [extB_zero, extR_zero]; rfl
theorem mR_end : mR H X l r l.length l.length = H ++ (outJ H.length (withRem l r) ++ X) := by unfold mR outJ; rw [extB_all, extR_all _ _ r]; rfl
theorem mR_len : (mR H X l r i k).length = H.length + (l.length + 1 + X.length) := by simp [mR, extB_len]; omega
end
def LEn (H X : AH) (b : List I) (part : AV) (l : List (List I)) (r : List I) (i : Nat) (fr : AFr) (H' : AH) : Prop :=
  fr 2 = bx b ∧ fr 7 = .ptr (H.length + (l.length + 1 + 1)) 1 0 0 ∧ fr 9 = .ref H.length l.length ∧ fr 10 = bx r ∧ fr 11 = .int .i64 i ∧ i ≤ l.length ∧ H' = mR H X l r i i
end Go.Proofs.YtgabeieooemfeaaDoor.Arm

namespace Go.Proofs.YtgabeieooemfeaaDoor.Arm
open Go.Arm Go.Pl

end Go.Proofs.YtgabeieooemfeaaDoor.Arm

namespace Go.Proofs.YtgabeieooemfeaaDoor.Arm
open Go.Arm Go.Pl

def LAd (T : Tp) (x : List I) (w : Rq) (H : AH) (h : Int) (fr : AFr) (H' : AH) : Prop :=
  fr 1 = bx x ∧ fr 3 = .ptr H.length 1 0 0 ∧ fr 5 = .ptr (H.length + 1) 1 0 0 ∧ fr 6 = .ptr (H.length + 2) 1 0 0 ∧ fr 9 = .int .i64 h ∧ 1 ≤ h ∧ h ≤ firstH w ∧ fr 10 = .int .i64 (if h = firstH w then w.h else h) ∧
  (cands w.ctrl h).findSome? (accS T x w.ctrl w.t) = advS T x w ∧ ∃ J, H' = H ++ (.row true 3 [tpA T] :: .row true 8 [rqA w] :: .row true 6 [zsA] :: J)
end Go.Proofs.YtgabeieooemfeaaDoor.Arm

namespace Go.Proofs.YtgabeieooemfeaaDoor.Arm
open Go.Arm Go.Pl

def oneT : Tp := ⟨1, [⟨1, 0, 0, (65536, 65536)⟩], [0]⟩
def sC : Ct := ⟨2, 32768, 1024, 65536, 20000⟩
def sN : Ct := ⟨2, 32768, 1024, 65536, 1000⟩
def sS1 : Sg := ⟨0, 16384, [(0, 0)], [(0, 16384)], [(0, 16384)], [(16384, 16384)]⟩
def sS2 : Sg := ⟨0, 5000, [(0, 0)], [(0, 5000)], [(0, 5000)], [(5000, 5000)]⟩
theorem oneT_eq : cmpT [.num (65536, 65536)] = oneT := by kernel_rfl
theorem sAdv1 : advS oneT [(0, 0)] ⟨sC, 0, 65536, 32768⟩ = some sS1 := by kernel_rfl
theorem sAdv2 : advS oneT [(0, 0)] ⟨sC, 0, 5000, 32768⟩ = some sS2 := by kernel_rfl
theorem sAdv3 : advS oneT [(0, 0)] ⟨sN, 0, 65536, 32768⟩ = none := by kernel_rfl
theorem oneT_ok : tpOk oneT := by
  refine ⟨fun i x hx => ?_, rfl, fun k hk => ?_, by simp [oneT]⟩
  · cases i with
    | zero => simp [oneT] at hx; subst hx; exact .inl ⟨rfl, vB_pair (by omega) (by omega) (by omega)⟩
    | succ i => simp [oneT] at hx
  · simp [oneT] at hk; subst hk; simp [oneT]
theorem zeroX : allV [(0, 0)] := fun p hp => by simp at hp; subst hp; exact vB_pair (by omega) (by omega) (by omega)
theorem sReq (c : Ct) (hc : c = sC ∨ c = sN) (l : Int) (hl : 0 < l ∧ l ≤ 1000000000) : rqOk ⟨c, 0, l, 32768⟩ := by
  rcases hc with rfl | rfl <;> exact ⟨by simp [sC, sN], by simp [sC, sN], by simp, by simp; omega, by simp⟩
theorem sAdv (c : Ct) (hc : c = sC ∨ c = sN) (l : Int) (hl : 0 < l ∧ l ≤ 1000000000) (o : Option Sg) (h : advS oneT [(0, 0)] ⟨c, 0, l, 32768⟩ = o) (H : AH) :
    Sound E 14 [tpA oneT, bx [(0, 0)], rqA ⟨c, 0, l, 32768⟩] H (.ret (advO ⟨c, 0, l, 32768⟩ o)) H := by
  subst h
  exact cAdvance oneT [(0, 0)] ⟨c, 0, l, 32768⟩ oneT_ok zeroX rfl (by simp [oneT]) (sReq c hc l hl) H
set_option maxHeartbeats 4000000 in
set_option maxRecDepth 100000 in
theorem lSanity (H : AH) : Sound E 5 [] H (.ret (.bool true)) H := by
  refine sound_of_awp tabOk mixed Tryd.func5 rfl (by rfl) Tryd.ntmps5 (by kernel_rfl) (by simp) ?_
  have h1 := sAdv sC (.inl rfl) 65536 (by omega) _ sAdv1
  have h2 := sAdv sC (.inl rfl) 5000 (by omega) _ sAdv2
  have h3 := sAdv sN (.inr rfl) 65536 (by omega) _ sAdv3
  have e1 : nxC ⟨sC, 0, 65536, 32768⟩ (some sS1) = 32768 := by kernel_rfl
  have e2 : nxC ⟨sC, 0, 5000, 32768⟩ (some sS2) = 65536 := by kernel_rfl
  simp only [advO, advA, e1] at h1
  simp only [advO, advA, e2] at h2
  have hp : pt 65536 = (65536, 65536) := by kernel_rfl
  have hp2 : pt 16384 = (16384, 16384) := by kernel_rfl
  have hC := r8Compile ⟨[⟨#[120]⟩], [.num (65536, 65536)]⟩ (by simp) (fun e he => by simp at he; subst he; simp [sz, ser])
  simp only [oneT_eq] at hC
  simp
  refine call_ret (rPoint 65536 _) ?_
  rw [hp]
  simp
  refine call_ret (by simpa using r7Const (65536, 65536) _) ?_
  simp [xs]
  refine call_conv0 (hC _) (by simp [sys, xs]; rfl) ?_
  simp [tpA, oneT, outA, insA]
  refine call_conv0 (h1 _) (by simp [tpA, oneT, outA, insA, bx, rqA, sC]; rfl) ?_
  simp [sgA, sS1, bx, tpA, oneT, outA, insA]
  refine call_conv0 (h2 _) (by simp [tpA, oneT, outA, insA, bx, rqA, sC]; rfl) ?_
  simp [sgA, sS2, bx, tpA, oneT, outA, insA]
  refine call_conv0 (h3 _) (by simp [tpA, oneT, outA, insA, bx, rqA, sN]; rfl) ?_
  simp [advO, advZ, zsA]
  have hs1 := cShrink sC 4096 (by omega)
  rw [show shrinkS sC 4096 = (2048, 0) by kernel_rfl] at hs1
  have hs2 := cShrink sC 2047 (by omega)
  rw [show shrinkS sC 2047 = (0, 130) by kernel_rfl] at hs2
  refine call_ret (by simpa [ctA, sC] using hs1 _) ?_
  simp [shA]
  refine call_ret (by simpa [ctA, sC] using hs2 _) ?_
  simp [shA]
  have v1 := cValid sC
  rw [show validC sC = true by kernel_rfl] at v1
  have v2 := cValid ⟨0, 0, 0, 0, 0⟩
  rw [show validC ⟨0, 0, 0, 0, 0⟩ = false by kernel_rfl] at v2
  have v3 := cValid ⟨8, 2, 1, 3, 1⟩
  rw [show validC ⟨8, 2, 1, 3, 1⟩ = false by kernel_rfl] at v3
  have g1 := cGrow sC 40000 (by omega)
  rw [show growS sC 40000 = 65536 by kernel_rfl] at g1
  have g2 := cGrow sC 3 (by omega)
  rw [show growS sC 3 = 6 by kernel_rfl] at g2
  have n1 := cInitial sC 100
  rw [show initS sC 100 = 100 by kernel_rfl] at n1
  have n2 := cInitial sC 40000
  rw [show initS sC 40000 = 32768 by kernel_rfl] at n2
  have aT : allV sS1.to ∧ allV sS1.tube := ⟨fun p hp => by simp [sS1] at hp; subst hp; exact vB_pair (by omega) (by omega) (by omega), fun p hp => by simp [sS1] at hp; subst hp; exact vB_pair (by omega) (by omega) (by omega)⟩
  have a1 := cAccept sC sS1 aT.1 aT.2 (by simp [sS1]) (by simp [sS1])
  rw [show (narrowB sC.wide sS1.to && narrowB sC.wide sS1.tube) = true by kernel_rfl] at a1
  have a2 := cAccept sN sS1 aT.1 aT.2 (by simp [sS1]) (by simp [sS1])
  rw [show (narrowB sN.wide sS1.to && narrowB sN.wide sS1.tube) = false by kernel_rfl] at a2
  have rp := rPoint 16384
  rw [hp2] at rp
  refine callD_ret0 (fun Hx => by simpa [ctA, sC] using v1 Hx) ?_
  simp
  refine callD_ret0 (fun Hx => by simpa [ctA] using v2 Hx) ?_
  simp
  refine callD_ret0 (fun Hx => by simpa [ctA] using v3 Hx) ?_
  simp [sgA, sS1, bx]
  refine callD_ret0 (fun Hx => rp Hx) ?_
  simp [iv]
  refine callD_ret0 (fun Hx => by simpa [ctA, sC] using g1 Hx) ?_
  simp
  refine callD_ret0 (fun Hx => by simpa [ctA, sC] using g2 Hx) ?_
  simp
  refine callD_ret0 (fun Hx => by simpa [ctA, sC] using n1 Hx) ?_
  simp
  refine callD_ret0 (fun Hx => by simpa [ctA, sC] using n2 Hx) ?_
  simp
  refine callD_ret0 (fun Hx => by simpa [ctA, sC, sgA, sS1, bx, iv] using a1 Hx) ?_
  simp
  refine callD_ret0 (fun Hx => by simpa [ctA, sN, sgA, sS1, bx, iv] using a2 Hx) ?_
  simp
  refine endD [] (by rfl) (by simp [okW, note, Eff.triv, Eff.wr, Eff.none, upTo, newAt]) ?_
  simp
  exact fin1 (rs := [.tmp 0]) (by rfl) (by simp [resA]) (by simp [noFs, noF])
end Go.Proofs.YtgabeieooemfeaaDoor.Arm

/- The arguments of a law as plain data. -/
namespace Go.Arm

theorem list_of {α : Type} {f : α → AV} {p : α → Prop} : ∀ {xs : List AV}, (∀ x ∈ xs, ∃ a, x = f a ∧ p a) → ∃ l : List α, xs = l.map f ∧ ∀ a ∈ l, p a
  | [], h => ⟨[], rfl, fun a ha => by cases ha⟩
  | x :: r, h => by
    obtain ⟨a, rfl, ha⟩ := h x (by simp)
    obtain ⟨l, rfl, hl⟩ := list_of (xs := r) (fun y hy => h y (by simp [hy]))
    exact ⟨a :: l, rfl, fun b hb => by
      rcases List.mem_cons.1 hb with rfl | hb
      · exact ha
      · exact hl b hb⟩
theorem okL_cons {ok : TypeId → AV → Prop} {f : TypeId × Nat} {fs : List (TypeId × Nat)} {vs : List AV} (h : OkL ok (f :: fs) vs) : ∃ v vs', vs = v :: vs' ∧ ok f.1 v ∧ OkL ok fs vs' := by
  cases vs with
  | nil => exact h.elim
  | cons v vs' => exact ⟨v, vs', rfl, h.1, h.2⟩
theorem okL_nil {ok : TypeId → AV → Prop} {vs : List AV} (h : OkL ok [] vs) : vs = [] := by
  cases vs with
  | nil => rfl
  | cons v vs' => exact h.elim
section
variable {tab : Tab}
theorem okBool {n : Nat} {t : TypeId} {i : TI} {v : AV} (hi : tab t = some i) (hd : i.d = .bool) (h : OkA tab (n + 1) t v) : ∃ x, v = .bool x := by
  unfold OkA at h
  rw [hi] at h
  simp only [hd] at h
  exact h
theorem okInt {n : Nat} {t : TypeId} {i : TI} {k : IntKind} {v : AV} (hi : tab t = some i) (hd : i.d = .int k) (h : OkA tab (n + 1) t v) : ∃ x, v = .int k x ∧ (Lit.int k x).wf = true := by
  unfold OkA at h
  rw [hi] at h
  simp only [hd] at h
  exact h
theorem okStr {n : Nat} {t : TypeId} {i : TI} {v : AV} (hi : tab t = some i) (hd : i.d = .str) (h : OkA tab (n + 1) t v) : ∃ s, v = .str s ∧ s.size ≤ maxLen := by
  unfold OkA at h
  rw [hi] at h
  simp only [hd] at h
  exact h
theorem okSlice {n : Nat} {t e : TypeId} {i ie : TI} {v : AV} (hi : tab t = some i) (hd : i.d = .slice e) (he : tab e = some ie) (h : OkA tab (n + 1) t v) : ∃ xs, v = .slice xs false ∧ (∀ x ∈ xs, OkA tab n e x) ∧ xs.length * ie.bytes ≤ reachBytes ∧ xs.length ≤ maxLen := by
  unfold OkA at h
  rw [hi] at h
  simp only [hd] at h
  obtain ⟨xs, h1, h2, h3, h4⟩ := h
  exact ⟨xs, h1, h2, h3 ie he, h4⟩
theorem okStruct {n : Nat} {t : TypeId} {i : TI} {fs : List (TypeId × Nat)} {v : AV} (hi : tab t = some i) (hd : i.d = .struct fs) (h : OkA tab (n + 1) t v) : ∃ vs : List AV, v = .agg (vs.flatMap AV.cells) ∧ OkL (OkA tab n) fs vs := by
  unfold OkA at h
  rw [hi] at h
  simp only [hd] at h
  exact h
theorem okArr {n m : Nat} {t e : TypeId} {i : TI} {v : AV} (hi : tab t = some i) (hd : i.d = .arr m e) (h : OkA tab (n + 1) t v) : ∃ vs : List AV, vs.length = m ∧ v = .agg (vs.flatMap AV.cells) ∧ ∀ x ∈ vs, OkA tab n e x := by
  unfold OkA at h
  rw [hi] at h
  simp only [hd] at h
  exact h
/-- A slice whose elements are told by f. -/
theorem okRow {α : Type} {f : α → AV} {p : α → Prop} {n : Nat} {t e : TypeId} {i ie : TI} {v : AV} (hi : tab t = some i) (hd : i.d = .slice e) (he : tab e = some ie) (hb : 0 < ie.bytes) (hf : ∀ x, OkA tab n e x → ∃ a, x = f a ∧ p a) (h : OkA tab (n + 1) t v) :
    ∃ l : List α, v = .slice (l.map f) false ∧ (∀ a ∈ l, p a) ∧ l.length ≤ 140737488351232 := by
  obtain ⟨xs, rfl, h1, h2, h3⟩ := okSlice hi hd he h
  obtain ⟨l, rfl, hl⟩ := list_of (f := f) (p := p) (fun x hx => hf x (h1 x hx))
  refine ⟨l, rfl, hl, ?_⟩
  have e : reachBytes = 140737488351232 := rfl
  rw [e, List.length_map] at h2
  exact Nat.le_trans (Nat.le_mul_of_pos_right _ hb) h2
end
theorem okArgs1 {T : Tab} {m : Nat} {a : TypeId} {av : List AV} (h : OkArgs T m [a] av) : ∃ x, av = [x] ∧ OkA T m a x := by
  match av, h with
  | [x], h => exact ⟨x, rfl, h.1⟩
theorem okArgs2 {T : Tab} {m : Nat} {a b : TypeId} {av : List AV} (h : OkArgs T m [a, b] av) : ∃ x y, av = [x, y] ∧ OkA T m a x ∧ OkA T m b y := by
  match av, h with
  | [x, y], h => exact ⟨x, y, rfl, h.1, h.2.1⟩
theorem okArgs3 {T : Tab} {m : Nat} {a b c : TypeId} {av : List AV} (h : OkArgs T m [a, b, c] av) : ∃ x y z, av = [x, y, z] ∧ OkA T m a x ∧ OkA T m b y ∧ OkA T m c z := by
  match av, h with
  | [x, y, z], h => exact ⟨x, y, z, rfl, h.1, h.2.1, h.2.2.1⟩
theorem okArgs4 {T : Tab} {m : Nat} {a b c d : TypeId} {av : List AV} (h : OkArgs T m [a, b, c, d] av) : ∃ x y z u, av = [x, y, z, u] ∧ OkA T m a x ∧ OkA T m b y ∧ OkA T m c z ∧ OkA T m d u := by
  match av, h with
  | [x, y, z, u], h => exact ⟨x, y, z, u, rfl, h.1, h.2.1, h.2.2.1, h.2.2.2.1⟩
/-- Bounds of whole numbers. -/
theorem wfI {k : IntKind} {x : Int} (h : (Lit.int k x).wf = true) : k.min ≤ x ∧ x ≤ k.max := by
  simp [Lit.wf] at h
  exact h
theorem wfU8 {x : Int} (h : (Lit.int .u8 x).wf = true) : 0 ≤ x ∧ x ≤ 255 := by have := wfI h; simp [IntKind.min, IntKind.max, IntKind.signed, IntKind.bits] at this; exact this
theorem wfU16 {x : Int} (h : (Lit.int .u16 x).wf = true) : 0 ≤ x ∧ x ≤ 65535 := by have := wfI h; simp [IntKind.min, IntKind.max, IntKind.signed, IntKind.bits] at this; exact this
theorem wfI8 {x : Int} (h : (Lit.int .i8 x).wf = true) : -128 ≤ x ∧ x ≤ 127 := by have := wfI h; simp [IntKind.min, IntKind.max, IntKind.signed, IntKind.bits] at this; exact this
theorem wfI32 {x : Int} (h : (Lit.int .i32 x).wf = true) : -2147483648 ≤ x ∧ x ≤ 2147483647 := by have := wfI h; simp [IntKind.min, IntKind.max, IntKind.signed, IntKind.bits] at this; exact this
theorem wfI64 {x : Int} (h : (Lit.int .i64 x).wf = true) : -9223372036854775808 ≤ x ∧ x ≤ 9223372036854775807 := by have := wfI h; simp [IntKind.min, IntKind.max, IntKind.signed, IntKind.bits] at this; exact this
end Go.Arm

namespace Go.Proofs.YtgabeieooemfeaaDoor.Arm
open Go.Arm Go.Pl

theorem okCt {n : Nat} {v : AV} (h : OkA tab (n + 2) 23 v) : ∃ c : Ct, v = ctA c ∧ True := by
  obtain ⟨vs, rfl, hv⟩ := okStruct tab23 rfl h
  obtain ⟨a, vs, rfl, ha, hv⟩ := okL_cons hv
  obtain ⟨b, vs, rfl, hb, hv⟩ := okL_cons hv
  obtain ⟨c, vs, rfl, hc, hv⟩ := okL_cons hv
  obtain ⟨d, vs, rfl, hd, hv⟩ := okL_cons hv
  obtain ⟨e, vs, rfl, he, hv⟩ := okL_cons hv
  cases okL_nil hv
  obtain ⟨x1, rfl, -⟩ := okInt tab3 rfl ha
  obtain ⟨x2, rfl, -⟩ := okInt tab2 rfl hb
  obtain ⟨x3, rfl, -⟩ := okInt tab2 rfl hc
  obtain ⟨x4, rfl, -⟩ := okInt tab2 rfl hd
  obtain ⟨x5, rfl, -⟩ := okInt tab2 rfl he
  exact ⟨⟨x1, x2, x3, x4, x5⟩, rfl, trivial⟩
theorem okRq {n : Nat} {v : AV} (h : OkA tab (n + 3) 32 v) : ∃ c : Rq, v = rqA c ∧ True := by
  obtain ⟨vs, rfl, hv⟩ := okStruct tab32 rfl h
  obtain ⟨a, vs, rfl, ha, hv⟩ := okL_cons hv
  obtain ⟨b, vs, rfl, hb, hv⟩ := okL_cons hv
  obtain ⟨c, vs, rfl, hc, hv⟩ := okL_cons hv
  obtain ⟨d, vs, rfl, hd, hv⟩ := okL_cons hv
  cases okL_nil hv
  obtain ⟨x1, rfl, -⟩ := okCt ha
  obtain ⟨x3, rfl, -⟩ := okInt tab2 rfl hb
  obtain ⟨x4, rfl, -⟩ := okInt tab2 rfl hc
  obtain ⟨x5, rfl, -⟩ := okInt tab2 rfl hd
  exact ⟨⟨x1, x3, x4, x5⟩, rfl, trivial⟩
theorem flat_int {k : IntKind} (l : List Int) : (l.map (AV.int k)).flatMap AV.cells = l.map (.int k) := by
  induction l with
  | nil => rfl
  | cons a r ih => simp only [List.map_cons, List.flatMap_cons, ih]; rfl
theorem okInts {n m : Nat} {k : IntKind} {p : Int → Prop} {t e : TypeId} {i ie : TI} {v : AV} (hi : tab t = some i) (hd : i.d = .arr m e) (he : tab e = some ie) (hk : ie.d = .int k) (hp : ∀ x, (Lit.int k x).wf = true → p x) (h : OkA tab (n + 2) t v) : ∃ l : List Int, v = .agg (l.map (.int k)) ∧ l.length = m ∧ ∀ x ∈ l, p x := by
  obtain ⟨vs, hl, rfl, hv⟩ := okArr hi hd h
  obtain ⟨l, rfl, hl'⟩ := list_of (f := .int k) (p := p) (xs := vs) (fun x hx => by
    obtain ⟨a, rfl, ha⟩ := okInt he hk (hv x hx)
    exact ⟨a, rfl, hp a ha⟩)
  exact ⟨l, by rw [flat_int], by simpa using hl, hl'⟩
end Go.Proofs.YtgabeieooemfeaaDoor.Arm

namespace Go.Proofs.YtgabeieooemfeaaDoor.Arm
open Go.Arm Go.Pl Go.ChangeShapes Go.WideShapes Go.ChangeAt Go.RowKit

theorem own : ownKnob Tryd.prog.godebug = none := by kernel_rfl
theorem laidOut : laidOutB Tryd.prog = true := by kernel_rfl
def laidL : List (String × DataW Unit) := [("armillary/interval.products", Rows.laid_armillary_interval_products), ("armillary/interval.quotients", Rows.laid_armillary_interval_quotients), ("armillary/tape.ops", Rows.laid_armillary_tape_ops)]
/-- The door's own heap meets the condition. -/
theorem door_met (os : Os) (args : Array Value) : laidMetH Tryd.prog laidL ((World.doorLaid Tryd.prog 600 os).forCall (fun _ _ => 0) ⟨#[], args, []⟩).memory :=
  laidMetH_of_parts3 (fuel := 12) (laidMet_of_run' 8 (by kernel_rfl) (by kernel_rfl)) (by kernel_rfl) (by kernel_rfl)
def fnames : List (List UInt8 × FuncId) := [([97, 114, 109, 105, 108, 108, 97, 114, 121, 47, 105, 110, 116, 101, 114, 118, 97, 108, 46, 104, 104], 117), ([97, 114, 109, 105, 108, 108, 97, 114, 121, 47, 105, 110, 116, 101, 114, 118, 97, 108, 46, 108, 108], 118), ([97, 114, 109, 105, 108, 108, 97, 114, 121, 47, 105, 110, 116, 101, 114, 118, 97, 108, 46, 108, 104], 119), ([97, 114, 109, 105, 108, 108, 97, 114, 121, 47, 105, 110, 116, 101, 114, 118, 97, 108, 46, 104, 108], 120), ([97, 114, 109, 105, 108, 108, 97, 114, 121, 47, 105, 110, 116, 101, 114, 118, 97, 108, 46, 78, 101, 103], 74), ([97, 114, 109, 105, 108, 108, 97, 114, 121, 47, 105, 110, 116, 101, 114, 118, 97, 108, 46, 83, 113, 117, 97, 114, 101], 76), ([97, 114, 109, 105, 108, 108, 97, 114, 121, 47, 116, 97, 112, 101, 46, 114, 111, 111, 116], 121), ([97, 114, 109, 105, 108, 108, 97, 114, 121, 47, 105, 110, 116, 101, 114, 118, 97, 108, 46, 65, 100, 100], 68), ([97, 114, 109, 105, 108, 108, 97, 114, 121, 47, 105, 110, 116, 101, 114, 118, 97, 108, 46, 83, 117, 98], 75), ([97, 114, 109, 105, 108, 108, 97, 114, 121, 47, 105, 110, 116, 101, 114, 118, 97, 108, 46, 77, 117, 108], 67), ([97, 114, 109, 105, 108, 108, 97, 114, 121, 47, 105, 110, 116, 101, 114, 118, 97, 108, 46, 68, 105, 118], 86)]
theorem fnames_ok : ∀ p ∈ fnames, ((List.range Tryd.prog.funcs.size).filter fun f => (Tryd.prog.funcs[f]?).any (·.name.toUTF8.data.toList == p.1)) = [p.2] := by
  intro p hp
  simp only [fnames, List.mem_cons, List.not_mem_nil, or_false] at hp
  rcases hp with rfl | rfl | rfl | rfl | rfl | rfl | rfl | rfl | rfl | rfl | rfl <;> kernel_rfl
theorem fnames_ne : ∀ p ∈ fnames, p.1 ≠ [] := by
  intro p hp
  simp only [fnames, List.mem_cons, List.not_mem_nil, or_false] at hp
  rcases hp with rfl | rfl | rfl | rfl | rfl | rfl | rfl | rfl | rfl | rfl | rfl <;> exact List.cons_ne_nil _ _
theorem gProd : Tryd.prog.globalNamed "armillary/interval.products" = some 0 := by kernel_rfl
theorem gQuot : Tryd.prog.globalNamed "armillary/interval.quotients" = some 2 := by kernel_rfl
theorem gOps : Tryd.prog.globalNamed "armillary/tape.ops" = some 1 := by kernel_rfl
theorem glob_met {W : World} (h : laidMetH Tryd.prog laidL W) : ∀ g cs, E.Γ g = some cs → VR [] W (.eptr cs 0) (.pointer (some ⟨g, 0, none⟩)) := by
  intro g cs hg
  have hg' : glob g = some cs := hg
  unfold glob at hg'
  split at hg'
  · cases hg'
    exact glob_of (P := Tryd.prog) (T := tab) (L := fnames) tab_ok h (name := "armillary/interval.products") (List.mem_cons_self ..) gProd (t := 134) (by kernel_rfl) (m := 8) (by kernel_rfl) fnames_ok fnames_ne (by kernel_rfl) (by decide)
  · cases hg'
    exact glob_of (P := Tryd.prog) (T := tab) (L := fnames) tab_ok h (name := "armillary/interval.quotients") (List.mem_cons_of_mem _ (List.mem_cons_self ..)) gQuot (t := 145) (by kernel_rfl) (m := 8) (by kernel_rfl) fnames_ok fnames_ne (by kernel_rfl) (by decide)
  · cases hg'
    exact glob_of (P := Tryd.prog) (T := tab) (L := fnames) tab_ok h (name := "armillary/tape.ops") (List.mem_cons_of_mem _ (List.mem_cons_of_mem _ (List.mem_cons_self ..))) gOps (t := 137) (by kernel_rfl) (m := 8) (by kernel_rfl) fnames_ok fnames_ne (by kernel_rfl) (by decide)
  · cases hg'
end Go.Proofs.YtgabeieooemfeaaDoor.Arm

namespace Go.Proofs.YtgabeieooemfeaaDoor.Arm
open Go.Arm Go.Pl

def LSz (c D : Ct) (H : AH) (p : Nat × Int) (fr : AFr) (H' : AH) : Prop :=
  fr 5 = .bool true ∧ fr 6 = .ptr (H.length + 1) 1 0 0 ∧ fr 7 = .int .i64 p.2 ∧ fr 10 = .int .i64 (p.1 : Nat) ∧ p.1 ≤ 31 ∧ 1 ≤ p.2 ∧ p.2 ≤ 2147483647 ∧ p.2 * 2 ^ p.1 ≤ 2147483647 ∧ H' = H ++ [.row true 5 [ctA c], .row true 5 [ctA D]]
set_option maxHeartbeats 4000000 in
theorem lSizes (c : Ct) (x : Int) (hx : -9223372036854775808 ≤ x ∧ x ≤ 9223372036854775807) (H : AH) : Sound E 3 [ctA c, .int .i64 x] H (.ret (.bool true)) H := by
  refine sound_of_awp tabOk mixed Tryd.func3 rfl (by rfl) Tryd.ntmps3 (by kernel_rfl) (by simp) ?_
  have hm := madeC_ok c
  have hm2 := of_decide_eq_true hm.1
  have b1 : -2147483647 < x.tmod 2147483647 ∧ x.tmod 2147483647 < 2147483647 := by
    obtain ⟨h3, h4⟩ := tmod_bounds x (b := 2147483647) (by decide)
    by_cases h : 0 ≤ x
    · have := h3 h; omega
    · have := h4 (by omega); omega
  have b2 : 0 ≤ (x.tmod 2147483647 + 2147483647).tmod 2147483647 ∧ (x.tmod 2147483647 + 2147483647).tmod 2147483647 < 2147483647 := ⟨Int.tmod_nonneg _ (by omega), Int.tmod_lt_of_pos _ (by decide)⟩
  have w0 : IntKind.i64.wrap (x.tmod 2147483647) = x.tmod 2147483647 := wrap64 (by omega) (by omega)
  have w1 : IntKind.i64.wrap (x.tmod 2147483647 + 2147483647) = x.tmod 2147483647 + 2147483647 := wrap64 (by omega) (by omega)
  have w2 : IntKind.i64.wrap ((x.tmod 2147483647 + 2147483647).tmod 2147483647) = (x.tmod 2147483647 + 2147483647).tmod 2147483647 := wrap64 (by omega) (by omega)
  have w3 : IntKind.i64.wrap (1 + (x.tmod 2147483647 + 2147483647).tmod 2147483647) = 1 + (x.tmod 2147483647 + 2147483647).tmod 2147483647 := wrap64 (by omega) (by omega)
  obtain ⟨g, hg, hg1⟩ : ∃ g, g = 1 + (x.tmod 2147483647 + 2147483647).tmod 2147483647 ∧ 1 ≤ g ∧ g ≤ 2147483647 := ⟨_, rfl, by omega, by omega⟩
  rw [← hg] at w3
  have hM := r13Made c
  generalize madeC c = D at *
  have q3 := cGrow D g (by omega)
  have q5 := cInitial D g
  have q1 := fun h hh => cShrink D h hh
  obtain ⟨d1, hd1⟩ : ∃ d1, initS D g = d1 := ⟨_, rfl⟩
  obtain ⟨d2, hd2⟩ : ∃ d2, growS D g = d2 := ⟨_, rfl⟩
  rw [hd1] at q5
  rw [hd2] at q3
  unfold initS at hd1
  unfold growS at hd2
  have w4 : IntKind.i64.wrap (2 * g) = 2 * g := wrap64 (by omega) (by omega)
  have n0 : ¬ 2147483648 ≤ g := by omega
  have n1 : ¬ d1 < 1 := by omega
  have n2 : ¬ D.first < d1 := by omega
  have n3 : ¬ g < d1 := by omega
  have n4 : ¬ d2 < 1 := by omega
  have n5 : ¬ D.most < d2 := by omega
  have n6 : ¬ 2 * g < d2 := by omega
  have n7 : ¬ d2 < (if D.most < g then D.most else g) := by split <;> omega
  simp [ctA, w0, w1, w2, w3]
  refine call_ret (lSanity _) ?_
  simp
  refine call_ret (by simpa [ctA] using hM _) ?_
  simp [ctA, w0, w1, w2, ← hg, w3, n0]
  refine callD_ret0 (fun Hx => by simpa [ctA] using q5 Hx) ?_
  simp
  refine callD_ret0 (fun Hx => by simpa [ctA] using q3 Hx) ?_
  simp
  refine endD [] (by rfl) (by simp [okW, note, Eff.triv, Eff.wr, Eff.none, upTo, newAt]) ?_
  simp [n1, n2, n3, n4, n5, n6, n7, w4]
  refine loop_count (LSz c D H) (fun p => 32 - p.1) (0, g) ⟨by simp, by simp, by simp, by simp, by simp, by simp; omega, by simp; omega, by simp; omega, by simp [ctA]⟩ ?_
  rintro ⟨i, h⟩ fr H' ⟨g5, g6, g7, g10, h1, h2, h3, h4, rfl⟩
  simp only at g7 g10 h1 h2 h3 h4
  have hi : i < 31 := by
    rcases Nat.lt_or_ge i 31 with h5 | h5
    · exact h5
    · exfalso
      have : i = 31 := by omega
      subst this
      have h6 : (2 : Int) ^ 31 = 2147483648 := by decide
      rw [h6] at h4
      omega
  have hlt : (i : Int) < 32 := by omega
  have e2 := tdiv2 (h := h) (by omega)
  simp [g6, g7, g10, ctA, hlt]
  refine call_ret (by simpa [ctA] using q1 h (by omega) _) ?_
  by_cases hs : h.tdiv 2 < D.least
  · have hs2 : shrinkS D h = (0, 130) := by unfold shrinkS; rw [if_pos hs]
    have w5 : IntKind.i64.wrap (2 * D.least) = 2 * D.least := wrap64 (by omega) (by omega)
    have k1 : h < 2 * D.least := by omega
    simp [hs2, shA, g5, g6, g7, w5, k1]
    exact fin1 (rs := [.tmp 4]) (by rfl) (by simp [resA]) (by simp [noFs, noF])
  · have hs2 : shrinkS D h = (h.tdiv 2, 0) := by unfold shrinkS; rw [if_neg hs]
    have w5 : IntKind.i64.wrap (2 * h.tdiv 2) = 2 * h.tdiv 2 := wrap64 (by omega) (by omega)
    have w6 : IntKind.i64.wrap (h - 1) = h - 1 := wrap64 (by omega) (by omega)
    have w7 : IntKind.i64.wrap ((i : Int) + 1) = ((i + 1 : Nat) : Int) := by rw [wrap64 (by omega) (by omega)]; omega
    have k2 : ¬ h < 2 * h.tdiv 2 := by omega
    have k3 : ¬ 2 * h.tdiv 2 < h - 1 := by omega
    simp [hs2, shA, g6, g7, g10, w5, w6, w7, hs, k2, k3]
    refine ⟨(i + 1, h.tdiv 2), by show 32 - (i + 1) < 32 - i; omega, by simp [g5], by simp [g6], by simp, by simp, by show i + 1 ≤ 31; omega, by show 1 ≤ h.tdiv 2; omega, by show h.tdiv 2 ≤ _; omega, ?_, by simp [ctA]⟩
    show h.tdiv 2 * 2 ^ (i + 1) ≤ 2147483647
    have e3 : h.tdiv 2 * 2 ^ (i + 1) = (2 * h.tdiv 2) * 2 ^ i := by rw [Int.pow_succ]; rw [Int.mul_comm (2 ^ i) 2, ← Int.mul_assoc, Int.mul_comm _ 2]
    rw [e3]
    refine Int.le_trans (Int.mul_le_mul_of_nonneg_right (by omega : 2 * h.tdiv 2 ≤ h) (Int.pow_nonneg (by omega))) h4
end Go.Proofs.YtgabeieooemfeaaDoor.Arm

/- A constant field of two components: what a step computes. -/
namespace Go.Pl

def cfT (a b : Int) : Tp := cmpT [.num (a, a), .num (b, b)]
def cRow (c : Int) : Nat → List I
  | 0 => []
  | k + 1 => (c, c) :: List.replicate k (0, 0)
theorem cRow_len (c : Int) (k : Nat) : (cRow c k).length = k := by cases k <;> simp [cRow]
theorem cRow_succ (c : Int) (k : Nat) : cRow c (k + 1) = cRow c k ++ [if k = 0 then (c, c) else (0, 0)] := by
  cases k with
  | zero => rfl
  | succ k => simp [cRow, List.replicate_succ']
theorem cRow_at (c : Int) (k : Nat) : atN (cRow c (k + 1)) k = if k = 0 then (c, c) else (0, 0) := by
  rw [cRow_succ]
  have := cRow_len c k
  simp [atN, List.getElem?_append, this]
theorem smallE {c : Int} (hc : -1048576 < c ∧ c < 1048576) : entB (c, c) = false := by
  unfold entB
  simp
  omega
theorem fl_one (c : Int) : fl c 1 = c := by unfold fl; rw [if_neg (by decide), Int.ediv_one]
theorem fl_zero (k : Int) (hk : 0 < k) : fl 0 k = 0 := by unfold fl; rw [if_neg (by omega), Int.zero_ediv]
theorem mulr_c {c : Int} (hc : -1048576 < c ∧ c < 1048576) (k : Nat) : mulr (if k = 0 then (c, c) else (0, 0)) 1 ((k : Int) + 1) = if k = 0 then (c, c) else (0, 0) := by
  unfold mulr
  by_cases hk : k = 0
  · subst hk
    simp only [if_true, smallE hc]
    have : numB c = true := by unfold numB; simp; omega
    simp [ce, fl_one, mk, this]
  · simp only [if_neg hk]
    have h0 : entB (0, 0) = false := by decide
    simp only [h0]
    simp [ce, fl_zero ((k : Int) + 1) (by omega), mk, numB]
theorem nextC_num {c : Int} (l : List (List I)) (k : Nat) (t : I) : nextC ⟨1, 0, 0, (c, c)⟩ l (cRow c k) t = if k = 0 then (c, c) else (0, 0) := by
  simp [nextC, cRow_len]
theorem cfT_ne {a b : Int} (h : a ≠ b) : cfT a b = ⟨2, [⟨1, 0, 0, (a, a)⟩, ⟨1, 0, 0, (b, b)⟩], [0, 1]⟩ := by
  simp [cfT, cmpT, cmpAll, cmpS, emitS, List.findIdx?_cons, h]
theorem cfT_eq {a : Int} : cfT a a = ⟨2, [⟨1, 0, 0, (a, a)⟩], [0, 0]⟩ := by
  simp [cfT, cmpT, cmpAll, cmpS, emitS, List.findIdx?_cons]
theorem cf_exp {a b : Int} (ha : -1048576 < a ∧ a < 1048576) (hb : -1048576 < b ∧ b < 1048576) (p q t : I) (k : Nat) : (expS (cfT a b) [p, q] t k).2 = [p :: cRow a k, q :: cRow b k] := by
  by_cases hab : a = b
  · subst hab
    rw [cfT_eq]
    have : expS ⟨2, [⟨1, 0, 0, (a, a)⟩], [0, 0]⟩ [p, q] t k = ([cRow a k], [p :: cRow a k, q :: cRow a k]) := by
      induction k with
      | zero => simp [expS, cRow, List.range_succ, atN]
      | succ k ih =>
        unfold expS
        rw [ih]
        simp [stepL, stepO, rowN, nextC_num, ← cRow_succ, cRow_at, mulr_c ha]
    rw [this]
  · rw [cfT_ne hab]
    have : expS ⟨2, [⟨1, 0, 0, (a, a)⟩, ⟨1, 0, 0, (b, b)⟩], [0, 1]⟩ [p, q] t k = ([cRow a k, cRow b k], [p :: cRow a k, q :: cRow b k]) := by
      induction k with
      | zero => simp [expS, cRow, List.range_succ, atN]
      | succ k ih =>
        unfold expS
        rw [ih]
        simp [stepL, stepO, rowN, nextC_num, ← cRow_succ, cRow_at, mulr_c ha, mulr_c hb]
    rw [this]
theorem cf_eval {a b : Int} (x : List I) (t : I) : evalT (cfT a b) x t = [(a, a), (b, b)] := by
  by_cases hab : a = b
  · subst hab
    rw [cfT_eq]
    simp [evalT, valsV, insV, at0]
  · rw [cfT_ne hab]
    simp [evalT, valsV, insV, at0]
/-- The value of Horner's rule. -/
theorem mul_zero_part {r : I} (hr : entB r = false) : mul (0, 0) r = (0, 0) := by
  unfold mul
  have h0 : entB (0, 0) = false := by decide
  rw [h0, hr]
  simp [min4, max4, ce, fl_zero, mk, numB]
theorem horn_zero {r : I} (hr : entB r = false) : ∀ n, hornS (List.replicate (n + 1) (0, 0)) r = (0, 0)
  | 0 => rfl
  | n + 1 => by
    have ih := horn_zero hr n
    rw [List.replicate_succ] at ih
    rw [List.replicate_succ, List.replicate_succ]
    rw [show hornS ((0, 0) :: (0, 0) :: List.replicate n (0, 0)) r = add (mul (hornS ((0, 0) :: List.replicate n (0, 0)) r) r) (0, 0) from rfl, ih, mul_zero_part hr]
    decide
theorem add_zero_c {c : Int} (hc : -1048576 < c ∧ c < 1048576) : add (0, 0) (c, c) = (c, c) := by
  unfold add
  have h0 : entB (0, 0) = false := by decide
  rw [h0, smallE hc]
  have : numB c = true := by unfold numB; simp; omega
  simp [mk, this]
theorem horn_c {c : Int} (hc : -1048576 < c ∧ c < 1048576) {r : I} (hr : entB r = false) (p : I) (n : Nat) : hornS (p :: cRow c (n + 2)) r = add (mul (c, c) r) p := by
  have h1 : hornS (cRow c (n + 2)) r = (c, c) := by
    show hornS ((c, c) :: List.replicate (n + 1) (0, 0)) r = (c, c)
    rw [List.replicate_succ]
    rw [show hornS ((c, c) :: (0, 0) :: List.replicate n (0, 0)) r = add (mul (hornS ((0, 0) :: List.replicate n (0, 0)) r) r) (c, c) from rfl, ← List.replicate_succ, horn_zero hr, mul_zero_part hr, add_zero_c hc]
  show add (mul (hornS (cRow c (n + 2)) r) r) p = _
  rw [h1]
def loM (m : Int) : Int := min 0 m / 65536
def hiM (m : Int) : Int := -((-(max 0 m)) / 65536)
theorem prod_b {c h : Int} (hc : -1048576 < c ∧ c < 1048576) (hh : 0 ≤ h ∧ h ≤ 131072) : -137438953472 ≤ c * h ∧ c * h ≤ 137438953472 := by
  have h1 := Int.mul_le_mul_of_nonneg_right (a := c) (b := 1048576) (c := h) (by omega) hh.1
  have h2 := Int.mul_le_mul_of_nonneg_right (a := -1048576) (b := c) (c := h) (by omega) hh.1
  omega
theorem cf_mul {c h : Int} (hc : -1048576 < c ∧ c < 1048576) (hh : 0 ≤ h ∧ h ≤ 131072) : mul (c, c) (0, h) = (loM (c * h), hiM (c * h)) ∧ mul (0, h) (c, c) = (loM (c * h), hiM (c * h)) ∧ mul (c, c) (h, h) = (c * h / 65536, -((-(c * h)) / 65536)) := by
  have hb := prod_b hc hh
  have e1 : entB (0, h) = false := by unfold entB; simp
  have e2 : entB (h, h) = false := by unfold entB; simp; omega
  have e3 := smallE hc
  have f : ∀ x : Int, fl x 65536 = x / 65536 := fun x => by unfold fl; rw [if_neg (by decide)]
  have g : ∀ x : Int, ce x 65536 = -((-x) / 65536) := fun x => by unfold ce; rw [f]
  refine ⟨?_, ?_, ?_⟩
  · unfold mul
    rw [e1, e3]
    simp only [Bool.or_self, if_false, Bool.false_eq_true, Int.mul_zero, f, g]
    generalize c * h = m at *
    have n1 : min4 0 m 0 m = min 0 m := by unfold min4; omega
    have n2 : max4 0 m 0 m = max 0 m := by unfold max4; omega
    rw [n1, n2]
    unfold mk numB loM hiM
    rw [if_pos (by simp; omega)]
  · unfold mul
    rw [e1, e3]
    simp only [Bool.or_self, if_false, Bool.false_eq_true, Int.zero_mul, f, g]
    rw [Int.mul_comm h c]
    generalize c * h = m at *
    have n1 : min4 0 0 m m = min 0 m := by unfold min4; omega
    have n2 : max4 0 0 m m = max 0 m := by unfold max4; omega
    rw [n1, n2]
    unfold mk numB loM hiM
    rw [if_pos (by simp; omega)]
  · unfold mul
    rw [e2, e3]
    simp only [Bool.or_self, if_false, Bool.false_eq_true, f, g]
    generalize c * h = m at *
    have n1 : min4 m m m m = m := by unfold min4; omega
    have n2 : max4 m m m m = m := by unfold max4; omega
    rw [n1, n2]
    unfold mk numB
    rw [if_pos (by simp; omega)]
theorem add_small {a b c d : Int} (h1 : -1073741824 < a) (h2 : b < 1073741824) (h3 : -1073741824 < c) (h4 : d < 1073741824) (h5 : a ≤ b) (h6 : c ≤ d) : add (a, b) (c, d) = (a + c, b + d) := by
  unfold add
  have e1 : entB (a, b) = false := by unfold entB; simp; omega
  have e2 : entB (c, d) = false := by unfold entB; simp; omega
  rw [e1, e2]
  unfold mk numB
  simp only [Bool.or_self, Bool.false_eq_true, if_false]
  rw [if_pos (by simp; omega)]
/-- What a step hands out: the tube, the end. -/
def cfP (x m : Int) : I := (x + loM m, x + hiM m)
def cfQ (x m : Int) : I := (x + m / 65536, x + -((-m) / 65536))
def cfS (a b x y t h : Int) : Sg := ⟨t, h, [(x, x), (y, y)], [cfP x (a * h), cfP y (b * h)], [cfP x (a * h), cfP y (b * h)], [cfQ x (a * h), cfQ y (b * h)]⟩
section
variable {a b x y t h : Int} (ha : -1048576 < a ∧ a < 1048576) (hb : -1048576 < b ∧ b < 1048576) (hx : -1048576 < x ∧ x < 1048576) (hy : -1048576 < y ∧ y < 1048576) (hh : 0 ≤ h ∧ h ≤ 131072)
include ha hh hx in
theorem cf_img : add (x, x) (mul (mk 0 h) (a, a)) = cfP x (a * h) := by
  have hp := prod_b ha hh
  rw [show mk 0 h = (0, h) by unfold mk numB; rw [if_pos (by simp; omega)], (cf_mul ha hh).2.1]
  generalize a * h = m at *
  unfold loM hiM cfP
  rw [add_small (by omega) (by omega) (by omega) (by omega) (by omega) (by omega)]
  rfl
include ha hb hh hx hy in
theorem cf_image (B : List I) : imageB (cfT a b) [(x, x), (y, y)] B t h = [cfP x (a * h), cfP y (b * h)] := by
  unfold imageB
  rw [cf_eval]
  simp [List.range_succ, atN, imgI]
  exact ⟨cf_img ha hx hh, cf_img hb hy hh⟩
include ha hh hx in
theorem cfP_b : entB (cfP x (a * h)) = false ∧ entB (hull (x, x) (cfP x (a * h))) = false ∧ entB (inflI (hull (x, x) (cfP x (a * h)))) = false ∧ subB (cfP x (a * h)) (inflI (hull (x, x) (cfP x (a * h)))) = true := by
  have hp := prod_b ha hh
  generalize a * h = m at *
  have hl : -2097153 ≤ loM m ∧ loM m ≤ 0 := by unfold loM; omega
  have hi : 0 ≤ hiM m ∧ hiM m ≤ 2097153 := by unfold hiM; omega
  have e : hull (x, x) (cfP x m) = (x + loM m, x + hiM m) := by
    unfold hull cfP
    exact Prod.ext (by show min x (x + loM m) = _; omega) (by show max x (x + hiM m) = _; omega)
  rw [e]
  unfold cfP inflI
  generalize loM m = l at *
  generalize hiM m = u at *
  have e2 : mk (x + l - ((x + u - (x + l)) / 16 + 1)) (x + u + ((x + u - (x + l)) / 16 + 1)) = (x + l - ((x + u - (x + l)) / 16 + 1), x + u + ((x + u - (x + l)) / 16 + 1)) := by
    unfold mk numB; rw [if_pos (by simp; omega)]
  simp only [e2]
  unfold entB subB
  simp
  omega
include ha hb hh hx hy in
theorem cf_encl : enclS (cfT a b) [(x, x), (y, y)] t h = some [cfP x (a * h), cfP y (b * h)] := by
  obtain ⟨p1, p2, p3, p4⟩ := cfP_b ha hx hh
  obtain ⟨q1, q2, q3, q4⟩ := cfP_b hb hy hh
  have hI := fun B => cf_image (t := t) ha hb hx hy hh B
  unfold enclS encS
  simp only [hI]
  have e1 : hullB [(x, x), (y, y)] [cfP x (a * h), cfP y (b * h)] = [hull (x, x) (cfP x (a * h)), hull (y, y) (cfP y (b * h))] := by simp [hullB, List.range_succ, atN]
  rw [e1]
  generalize hull (x, x) (cfP x (a * h)) = u at *
  generalize hull (y, y) (cfP y (b * h)) = v at *
  have e2 : inflB [u, v] = [inflI u, inflI v] := by simp [inflB, List.range_succ, atN]
  rw [e2]
  generalize inflI u = u' at *
  generalize inflI v = v' at *
  have n1 : boundedB [u, v] = true := by simp [boundedB, p2, q2]
  have n2 : boundedB [u', v'] = true := by simp [boundedB, p3, q3]
  have n3 : boundedB [cfP x (a * h), cfP y (b * h)] = true := by simp [boundedB, p1, q1]
  have n4 : subI [cfP x (a * h), cfP y (b * h)] [u', v'] = true := by simp [subI, List.range_succ, atN, p4, q4]
  simp only [n1, n2, n3, n4]
  rfl
include ha hh hx in
theorem cf_tube1 : restrI (add (mul (a, a) (0, h)) (x, x)) (cfP x (a * h)) = cfP x (a * h) := by
  have hp := prod_b ha hh
  rw [(cf_mul ha hh).1]
  generalize a * h = m at *
  have hl : -2097153 ≤ loM m ∧ loM m ≤ 0 := by unfold loM; omega
  have hi : 0 ≤ hiM m ∧ hiM m ≤ 2097153 := by unfold hiM; omega
  rw [add_small (by omega) (by omega) (by omega) (by omega) (by omega) (by omega)]
  unfold restrI interB meet cfP
  generalize loM m = l at *
  generalize hiM m = u at *
  simp only
  rw [if_pos (by simp; omega)]
  exact Prod.ext (by show max _ _ = _; omega) (by show min _ _ = _; omega)
include ha hh hx in
theorem cf_to1 : restrI (add (mul (a, a) (h, h)) (x, x)) (cfP x (a * h)) = cfQ x (a * h) := by
  have hp := prod_b ha hh
  rw [(cf_mul ha hh).2.2]
  generalize a * h = m at *
  have hl : loM m ≤ m / 65536 ∧ -2097153 ≤ m / 65536 ∧ m / 65536 ≤ hiM m := by unfold loM hiM; omega
  have hi : -((-m) / 65536) ≤ hiM m ∧ -((-m) / 65536) ≤ 2097153 ∧ loM m ≤ -((-m) / 65536) ∧ m / 65536 ≤ -((-m) / 65536) := by unfold loM hiM; omega
  unfold cfP cfQ
  generalize loM m = l at *
  generalize hiM m = u at *
  generalize m / 65536 = d at *
  generalize -((-m) / 65536) = e at *
  rw [add_small (by omega) (by omega) (by omega) (by omega) (by omega) (by omega)]
  unfold restrI interB meet
  simp only
  rw [if_pos (by simp; omega)]
  exact Prod.ext (by show max _ _ = _; omega) (by show min _ _ = _; omega)
include ha hb in
theorem cf_encAt {part : I} (hpart : entB part = false) {order : Nat} (ho : 1 ≤ order) : enclAt (cfT a b) [(x, x), (y, y)] [cfP x (a * h), cfP y (b * h)] t h part order =
    [restrI (add (mul (a, a) part) (x, x)) (cfP x (a * h)), restrI (add (mul (b, b) part) (y, y)) (cfP y (b * h))] := by
  obtain ⟨n, rfl⟩ : ∃ n, order = n + 1 := ⟨order - 1, by omega⟩
  have e1 : remS (cfT a b) [cfP x (a * h), cfP y (b * h)] t h (n + 1) = [(0, 0), (0, 0)] := by
    unfold remS coefS
    rw [cf_exp ha hb]
    have e : ∀ c p, atN (p :: cRow c (n + 1 + 1)) (n + 1 + 1) = (0, 0) := fun c p => by
      have := cRow_at c (n + 1)
      simp [atN] at this ⊢
      exact this
    simp [e]
  unfold enclAt
  rw [e1]
  unfold coefS
  rw [cf_exp ha hb]
  have e2 : withRem [(x, x) :: cRow a (n + 1), (y, y) :: cRow b (n + 1)] [(0, 0), (0, 0)] = [(x, x) :: cRow a (n + 2), (y, y) :: cRow b (n + 2)] := by
    rw [cRow_succ a (n + 1), cRow_succ b (n + 1)]
    simp [withRem, List.range_succ, rowN, atN]
  rw [e2]
  unfold evalS
  simp only [List.map_cons, List.map_nil, horn_c ha hpart, horn_c hb hpart]
  simp [restrB, List.range_succ, atN]
include ha hb hh hx hy in
theorem cf_istep {order : Nat} (ho : 1 ≤ order) : istepS (cfT a b) [(x, x), (y, y)] t h order = some (cfS a b x y t h) := by
  have hpa := prod_b ha hh
  have hpb := prod_b hb hh
  have e1 : entB (0, h) = false := by unfold entB; simp
  have e2 : entB (h, h) = false := by unfold entB; simp; omega
  unfold istepS
  rw [cf_encl ha hb hx hy hh]
  simp only [cf_encAt ha hb e1 ho, cf_encAt ha hb e2 ho, cf_tube1 ha hx hh, cf_tube1 hb hy hh, cf_to1 ha hx hh, cf_to1 hb hy hh]
  have q : ∀ x m : Int, -1048576 < x ∧ x < 1048576 → -137438953472 ≤ m ∧ m ≤ 137438953472 → entB (cfQ x m) = false := fun x m h1 h2 => by
    unfold entB cfQ; simp; omega
  have n1 : boundedB [cfP x (a * h), cfP y (b * h)] = true := by simp [boundedB, (cfP_b ha hx hh).1, (cfP_b hb hy hh).1]
  have n2 : boundedB [cfQ x (a * h), cfQ y (b * h)] = true := by simp [boundedB, q _ _ hx hpa, q _ _ hy hpb]
  rw [n1, n2]
  rfl
include ha hb hh hx hy in
theorem cf_acc {c : Ct} (ho : 1 ≤ c.order) (hw : 1 ≤ c.wide ∧ c.wide ≤ 1048576) : accS (cfT a b) [(x, x), (y, y)] c t h = if max (max (a * h) (-(a * h))) (max (b * h) (-(b * h))) ≤ c.wide * 65536 then some (cfS a b x y t h) else none := by
  have hpa := prod_b ha hh
  have hpb := prod_b hb hh
  unfold accS
  rw [cf_istep ha hb hx hy hh (by omega)]
  simp only
  have e : (narrowB c.wide (cfS a b x y t h).to && narrowB c.wide (cfS a b x y t h).tube) = decide (max (max (a * h) (-(a * h))) (max (b * h) (-(b * h))) ≤ c.wide * 65536) := by
    unfold cfS narrowB cfP cfQ loM hiM
    generalize a * h = m at *
    generalize b * h = n at *
    rw [Bool.eq_iff_iff]
    simp
    omega
  rw [e]
  simp
end
/-- The field's greatest component. -/
def cfM (a b : Int) : Int := max (max 0 (max a (-a))) (max b (-b))
theorem cfM_mul (a b : Int) {h : Int} (hh : 0 ≤ h) : cfM a b * h = max (max (a * h) (-(a * h))) (max (b * h) (-(b * h))) := by
  have e1 : max a (-a) * h = max (a * h) (-(a * h)) := by
    rcases Int.le_total 0 a with k | k
    · rw [show max a (-a) = a by omega]
      have := Int.mul_nonneg k hh
      omega
    · rw [show max a (-a) = -a by omega, Int.neg_mul]
      have := Int.mul_nonneg (show 0 ≤ -a by omega) hh
      rw [Int.neg_mul] at this
      omega
  have e2 : max b (-b) * h = max (b * h) (-(b * h)) := by
    rcases Int.le_total 0 b with k | k
    · rw [show max b (-b) = b by omega]
      have := Int.mul_nonneg k hh
      omega
    · rw [show max b (-b) = -b by omega, Int.neg_mul]
      have := Int.mul_nonneg (show 0 ≤ -b by omega) hh
      rw [Int.neg_mul] at this
      omega
  rw [← e1, ← e2]
  unfold cfM
  rw [show max 0 (max a (-a)) = max a (-a) by omega]
  generalize max a (-a) = u
  generalize max b (-b) = v
  rcases Int.le_total u v with k | k
  · have := Int.mul_le_mul_of_nonneg_right k hh
    rw [show max u v = v by omega]; omega
  · have := Int.mul_le_mul_of_nonneg_right k hh
    rw [show max u v = u by omega]; omega
end Go.Pl

namespace Go.Proofs.YtgabeieooemfeaaDoor.Arm
open Go.Arm Go.Pl

theorem cf_ok (a b : Int) (ha : -1048576 < a ∧ a < 1048576) (hb : -1048576 < b ∧ b < 1048576) : tpOk (cfT a b) ∧ (cfT a b).n = 2 := by
  have va : vB (a, a) = true := vB_pair (by omega) (by omega) (by omega)
  have vb : vB (b, b) = true := vB_pair (by omega) (by omega) (by omega)
  obtain ⟨h1, h2, h3, h4⟩ := cmpAll_ok (n := 2) (F := [.num (a, a), .num (b, b)]) (s := ([], [])) (fun e he => by
    simp at he
    rcases he with rfl | rfl
    · exact va
    · exact vb) (fun i x hx => by simp at hx) (fun k hk => by simp at hk)
  exact ⟨⟨h1, by simpa [cfT, cmpT] using h3, h2, by simp [cfT, cmpT, sz, ser] at h4 ⊢; omega⟩, rfl⟩
theorem reqS_rq (w : Rq) : rqOk (reqS w) := by
  have h1 := reqS_ok w
  have h2 := madeC_ok w.ctrl
  have h3 : (reqS w).ctrl = madeC w.ctrl := rfl
  have h4 : 1 ≤ (madeC w.ctrl).order := by have := of_decide_eq_true h2.1; omega
  exact ⟨by rw [h3]; omega, by rw [h3]; omega, by omega, by omega, by omega⟩
def erO : Option Sg → Int
  | some _ => 0
  | none => 130
theorem advO_eq (w : Rq) (o : Option Sg) : advO w o = .tuple [segC o, .int .i64 (nxC w o), .int .i64 (erO o)] := by cases o <;> rfl
/-- What a request over a constant field hands out. -/
theorem cf_adv {a b x y : Int} {w : Rq} {s : Sg} (ha : -1048576 < a ∧ a < 1048576) (hb : -1048576 < b ∧ b < 1048576) (hx : -1048576 < x ∧ x < 1048576) (hy : -1048576 < y ∧ y < 1048576) (hw : rqOk w) (hh : w.h ≤ 131072) (hc : 1 ≤ w.ctrl.wide ∧ w.ctrl.wide ≤ 1048576)
    (h : advS (cfT a b) [(x, x), (y, y)] w = some s) : s = cfS a b x y w.t s.h ∧ 1 ≤ s.h ∧ s.h ≤ firstH w ∧ cfM a b * s.h ≤ w.ctrl.wide * 65536 := by
  unfold advS at h
  obtain ⟨g, hg, hs⟩ := List.exists_of_findSome?_eq_some h
  have hf : firstH w ≤ w.h := by unfold firstH; omega
  have hbd := cands_bound (c := w.ctrl) hw.least _ (by have := hw.last; have := hw.h; unfold firstH; omega) (Nat.le_refl _) g hg
  rw [cf_acc ha hb hx hy (by omega) hw.order.1 hc] at hs
  split at hs
  · rename_i hm
    cases hs
    refine ⟨rfl, hbd.1, hbd.2, ?_⟩
    show cfM a b * g ≤ _
    rw [cfM_mul a b (by omega)]
    exact hm
  · cases hs
def cLeft (T : Tp) (x : List I) (w : Rq) (h : Int) : Option Sg := if h = firstH w ∨ w.ctrl.least ≤ h then (cands w.ctrl h).findSome? (accS T x w.ctrl w.t) else none
def cInv (T : Tp) (x : List I) (w : Rq) (o : Option Sg) (h : Int) : Prop := (∃ s, o = some s ∧ h < s.h) ∨ cLeft T x w h = o
theorem cInv_step {a b x y : Int} {w : Rq} {o : Option Sg} {h : Int} (ha : -1048576 < a ∧ a < 1048576) (hb : -1048576 < b ∧ b < 1048576) (hx : -1048576 < x ∧ x < 1048576) (hy : -1048576 < y ∧ y < 1048576) (hw : rqOk w) (hh : w.h ≤ 131072) (hc : 1 ≤ w.ctrl.wide ∧ w.ctrl.wide ≤ 1048576)
    (h1 : 1 ≤ h) (h2 : h ≤ firstH w) (hg : h = firstH w ∨ w.ctrl.least ≤ h) (hi : cInv (cfT a b) [(x, x), (y, y)] w o h) :
    cInv (cfT a b) [(x, x), (y, y)] w o (h.tdiv 2) ∧ (cfM a b * h ≤ w.ctrl.wide * 65536 → ∃ s, o = some s ∧ h ≤ s.h) := by
  have hf : firstH w ≤ w.h := by unfold firstH; omega
  have e2 := tdiv2 (h := h) (by omega)
  have hacc := cf_acc (t := w.t) (h := h) ha hb hx hy (by omega) hw.order.1 hc
  rw [← cfM_mul a b (by omega)] at hacc
  rcases hi with ⟨s, hs, hlt⟩ | hi
  · exact ⟨.inl ⟨s, hs, by omega⟩, fun _ => ⟨s, hs, by omega⟩⟩
  · unfold cLeft at hi
    rw [if_pos hg, cands_cons hw.least h1, List.findSome?_cons, hacc] at hi
    by_cases hm : cfM a b * h ≤ w.ctrl.wide * 65536
    · rw [if_pos hm] at hi
      exact ⟨.inl ⟨_, hi.symm, by show h.tdiv 2 < h; omega⟩, fun _ => ⟨_, hi.symm, Int.le_refl h⟩⟩
    · rw [if_neg hm] at hi
      simp only at hi
      refine ⟨.inr ?_, fun hm2 => absurd hm2 hm⟩
      unfold cLeft
      by_cases k : h.tdiv 2 < w.ctrl.least
      · rw [if_pos k] at hi
        rw [if_neg (by omega)]
        exact hi
      · rw [if_neg k] at hi
        rw [if_pos (by omega)]
        exact hi
def ar2 (a b : Int) : AV := .agg [.int .i32 a, .int .i32 b]
def cB (w R : Rq) (u v p q : Int) : AH := [.row true 8 [rqA w], .row true 2 [ar2 u v], .row true 2 [ar2 p q], .row true 8 [rqA R]]
def LC1 (w R : Rq) (u v p q a b x y : Int) (H : AH) (i : Nat) (fr : AFr) (H' : AH) : Prop :=
  fr 7 = .bool true ∧ fr 4 = .ptr (H.length + 1) 1 0 0 ∧ fr 5 = .ptr (H.length + 2) 1 0 0 ∧ fr 8 = .ptr (H.length + 3) 1 0 0 ∧ fr 12 = .int .i64 (i : Nat) ∧
  ((i = 0 ∧ fr 9 = .slice [] true ∧ fr 10 = .slice [] true ∧ fr 11 = .int .i64 0 ∧ H' = H ++ cB w R u v p q) ∨
   (i = 1 ∧ fr 9 = .ref (H.length + 4) 1 ∧ fr 10 = .ref (H.length + 5) 1 ∧ fr 11 = .int .i64 (max 0 (max a (-a))) ∧ H' = H ++ (cB w R u v p q ++ [.row true 1 [xs (ser (.num (a, a)))], .row true 2 [iv (x, x)]])) ∨
   (i = 2 ∧ fr 9 = .ref (H.length + 4) 2 ∧ fr 10 = .ref (H.length + 5) 2 ∧ fr 11 = .int .i64 (cfM a b) ∧ H' = H ++ (cB w R u v p q ++ [.row true 1 [xs (ser (.num (a, a))), xs (ser (.num (b, b)))], .row true 2 [iv (x, x), iv (y, y)]])))
def cC (w R : Rq) (u v p q a b x y : Int) (T : Tp) (o : Option Sg) : AH := cB w R u v p q ++ [.row false 1 [xs (ser (.num (a, a))), xs (ser (.num (b, b)))], .row false 2 [iv (x, x), iv (y, y)], .row true 3 [tpA T], .row true 6 [segC o]]
def LC2 (w R : Rq) (u v p q a b x y : Int) (T : Tp) (o : Option Sg) (H : AH) (h : Int) (fr : AFr) (H' : AH) : Prop :=
  fr 7 = .bool true ∧ fr 4 = .ptr (H.length + 1) 1 0 0 ∧ fr 8 = .ptr (H.length + 3) 1 0 0 ∧ fr 10 = .ref (H.length + 5) 2 ∧ fr 11 = .int .i64 (cfM a b) ∧ fr 15 = .ptr (H.length + 7) 1 0 0 ∧ fr 17 = .int .i64 (erO o) ∧ fr 18 = .int .i64 (firstH R) ∧ fr 19 = .int .i64 h ∧
  0 ≤ h ∧ h ≤ firstH R ∧ cInv T [(x, x), (y, y)] R o h ∧ H' = H ++ cC w R u v p q a b x y T o
set_option maxHeartbeats 4000000 in
theorem lField (w : Rq) (u v p q : Int) (hu : -2147483648 ≤ u ∧ u ≤ 2147483647) (hv : -2147483648 ≤ v ∧ v ≤ 2147483647) (hp : -2147483648 ≤ p ∧ p ≤ 2147483647) (hq : -2147483648 ≤ q ∧ q ≤ 2147483647) (H : AH) :
    Sound E 4 [rqA w, ar2 u v, ar2 p q] H (.ret (.bool true)) H := by
  refine sound_of_awp tabOk mixed Tryd.func4 rfl (by rfl) Tryd.ntmps4 (by kernel_rfl) (by simp) ?_
  have tb : ∀ x : Int, -1048576 < x.tmod 1048576 ∧ x.tmod 1048576 < 1048576 := fun x => by
    obtain ⟨h3, h4⟩ := tmod_bounds x (b := 1048576) (by decide)
    by_cases h : 0 ≤ x
    · have := h3 h; omega
    · have := h4 (by omega); omega
  have ha := tb u
  have hb := tb v
  have hx := tb p
  have hy := tb q
  have wu : IntKind.i64.wrap u = u := wrap64 (by omega) (by omega)
  have wv : IntKind.i64.wrap v = v := wrap64 (by omega) (by omega)
  have wp : IntKind.i64.wrap p = p := wrap64 (by omega) (by omega)
  have wq : IntKind.i64.wrap q = q := wrap64 (by omega) (by omega)
  have wa : IntKind.i64.wrap (u.tmod 1048576) = u.tmod 1048576 := wrap64 (by omega) (by omega)
  have wb : IntKind.i64.wrap (v.tmod 1048576) = v.tmod 1048576 := wrap64 (by omega) (by omega)
  have wx : IntKind.i64.wrap (p.tmod 1048576) = p.tmod 1048576 := wrap64 (by omega) (by omega)
  have wy : IntKind.i64.wrap (q.tmod 1048576) = q.tmod 1048576 := wrap64 (by omega) (by omega)
  have hrq := reqS_rq w
  have hrs := reqS_ok w
  have hmc := madeC_ok w.ctrl
  have hmc2 := of_decide_eq_true hmc.1
  have hce : (reqS w).ctrl = madeC w.ctrl := rfl
  have hwd : 1 ≤ (reqS w).ctrl.wide ∧ (reqS w).ctrl.wide ≤ 1048576 := by rw [hce]; omega
  have hR := r13Request w
  have hh : (reqS w).h ≤ 131072 := by omega
  generalize reqS w = R at *
  generalize haE : u.tmod 1048576 = a at *
  generalize hbE : v.tmod 1048576 = b at *
  generalize hxE : p.tmod 1048576 = x at *
  generalize hyE : q.tmod 1048576 = y at *
  have pn : ∀ c : Int, -1048576 < c ∧ c < 1048576 → pt c = (c, c) := fun c hc => pt_num (by omega)
  have ra := rPoint a
  have rb := rPoint b
  have rx := rPoint x
  have ry := rPoint y
  rw [pn a ha] at ra
  rw [pn b hb] at rb
  rw [pn x hx] at rx
  rw [pn y hy] at ry
  have ca := r7Const (a, a)
  have cb := r7Const (b, b)
  have wna : IntKind.i64.wrap (-a) = -a := wrap64 (by omega) (by omega)
  have wnb : IntKind.i64.wrap (-b) = -b := wrap64 (by omega) (by omega)
  have W1 : IntKind.i64.wrap 1 = 1 := wrap64 (by omega) (by omega)
  have W2 : IntKind.i64.wrap 2 = 2 := wrap64 (by omega) (by omega)
  have m1 : (if 0 < if a < -a then -a else a then if a < -a then -a else a else 0) = max 0 (max a (-a)) := by split <;> split at * <;> omega
  have m2 : (if max 0 (max a (-a)) < (if b < -b then -b else b) then (if b < -b then -b else b) else max 0 (max a (-a))) = cfM a b := by unfold cfM; split <;> split at * <;> omega
  simp [rqA, ar2]
  refine call_ret (lSanity _) ?_
  simp
  refine call_ret (by simpa [rqA] using hR _) ?_
  simp [rqA]
  refine loop_count (LC1 w R u v p q a b x y H) (fun i => 2 - i) 0 ⟨by simp, by simp, by simp, by simp, by simp, .inl ⟨rfl, by simp, by simp, by simp, by simp [cB, rqA, ar2]⟩⟩ ?_
  rintro i fr H' ⟨g7, g4, g5, g8, g12, hcase⟩
  rcases hcase with ⟨rfl, g9, g10, g11, rfl⟩ | ⟨rfl, g9, g10, g11, rfl⟩ | ⟨rfl, g9, g10, g11, rfl⟩
  · simp [g12, g4, g5, g9, g10, g11, cB, ar2, wu, haE, wa]
    refine call_ret (by simpa using ra _) ?_
    simp
    refine call_ret (by simpa using ca _) ?_
    simp [xs, appendA, els, growA, growNew, okc, g5, g12, g10, wp, hxE, wx]
    refine call_ret (by simpa using rx _) ?_
    simp [appendA, els, growA, growNew, okc, g11, g12, wna]
    exact ⟨1, by show 2 - 1 < 2 - 0; omega, by simp [g7], by simp [g4], by simp [g5], by simp [g8], by simp [W1], .inr (.inl ⟨rfl, by simp, by simp, by simp [m1], by simp [cB, ar2, xs]⟩)⟩
  · simp [g12, g4, g5, g9, g10, g11, cB, ar2, wv, hbE, wb]
    refine call_ret (by simpa using rb _) ?_
    simp
    refine call_ret (by simpa using cb _) ?_
    simp [xs, appendA, els, growA, growNew, okc, g5, g12, g10, wq, hyE, wy]
    refine call_ret (by simpa using ry _) ?_
    simp [appendA, els, growA, growNew, okc, g11, g12, wnb]
    exact ⟨2, by show 2 - 2 < 2 - 1; omega, by simp [g7], by simp [g4], by simp [g5], by simp [g8], by simp [W2], .inr (.inr ⟨rfl, by simp, by simp, by simp [m2], by simp [cB, ar2, xs]⟩)⟩
  · have hC := r8Compile ⟨[⟨#[120]⟩, ⟨#[121]⟩], [.num (a, a), .num (b, b)]⟩ (by simp) (fun e he => by
      simp at he
      rcases he with rfl | rfl <;> simp [sz, ser])
    have hC' : ∀ H, Sound E 13 [sys ⟨[⟨#[120]⟩, ⟨#[121]⟩], [.num (a, a), .num (b, b)]⟩] H (.ret (tpA (cfT a b))) H := hC
    obtain ⟨hT, hTn⟩ := cf_ok a b ha hb
    have hX : allV [(x, x), (y, y)] := fun z hz => by
      simp at hz
      rcases hz with rfl | rfl <;> exact vB_pair (by omega) (by omega) (by omega)
    have hA := cAdvance (cfT a b) [(x, x), (y, y)] R hT hX (by rw [hTn]; rfl) (by omega) hrq
    have hadv := fun s => cf_adv (s := s) ha hb hx hy hrq hh hwd
    have hstep := fun h o => cInv_step (h := h) (o := o) ha hb hx hy hrq hh hwd
    rw [advO_eq] at hA
    have hinv0 : cInv (cfT a b) [(x, x), (y, y)] R (advS (cfT a b) [(x, x), (y, y)] R) (firstH R) := .inr (by unfold cLeft; rw [if_pos (.inl rfl)]; rfl)
    generalize advS (cfT a b) [(x, x), (y, y)] R = o at *
    generalize cfT a b = T at *
    generalize nxC R o = nx at *
    simp [g12, g4, g5, g9, g10, g11, cB]
    refine call_conv0 (hC' _) (by simp [sys, xs]; rfl) ?_
    have wsub : IntKind.i64.wrap (R.last - R.t) = R.last - R.t := wrap64 (by omega) (by omega)
    have hfe : (if R.last - R.t < R.h then R.last - R.t else R.h) = firstH R := by unfold firstH; split <;> omega
    obtain ⟨sa, sb, c, d, e, f, hseg, kc, kd, ke, kf⟩ : ∃ (sa sb : Int) (c d e f : AV), segC o = .agg [.int .i64 sa, .int .i64 sb, c, d, e, f] ∧ okc c = true ∧ okc d = true ∧ okc e = true ∧ okc f = true := by
      cases o with
      | none => exact ⟨_, _, _, _, _, _, rfl, rfl, rfl, rfl, rfl⟩
      | some s => exact ⟨_, _, _, _, _, _, rfl, rfl, rfl, rfl, rfl⟩
    have kc' := kc
    have kd' := kd
    have ke' := ke
    have kf' := kf
    unfold okc at kc' kd' ke' kf'
    simp [tpA, outA, g8, g10, rqA]
    refine call_conv0 (hA _) (by simp [tpA, outA, rqA, bx]; rfl) ?_
    simp [hseg, g8, rqA, wsub, hfe, kc', kd', ke', kf']
    have hf1 : 1 ≤ firstH R ∧ firstH R ≤ 131072 := by have := hrq.h; have := hrq.last; unfold firstH; omega
    refine loop_count (LC2 w R u v p q a b x y T o H) (fun h => h.toNat) (firstH R) ⟨by simp [g7], by simp [g4], by simp [g8], by simp [g10], by simp [g11], by simp, by simp, by simp, by simp, by omega, by omega, hinv0, by simp [cC, cB, tpA, rqA, outA, hseg, ar2, xs]⟩ ?_
    clear g7 g4 g5 g8 g12 g9 g10 g11
    rintro h fr2 H2 ⟨g7, g4, g8, g10, g11, g15, g17, g18, g19, h0, h1, hinv, rfl⟩
    have hMh : 0 ≤ cfM a b * h ∧ cfM a b * h ≤ 137438953472 := by
      rw [cfM_mul a b h0]
      have p1 := prod_b ha (h := h) (by omega)
      have p2 := prod_b hb (h := h) (by omega)
      omega
    have wm : IntKind.i64.wrap (cfM a b * h) = cfM a b * h := wrap64 (by omega) (by omega)
    have wd1 : IntKind.i64.wrap (R.ctrl.wide - 1) = R.ctrl.wide - 1 := wrap64 (by omega) (by omega)
    have wd2 : IntKind.i64.wrap ((R.ctrl.wide - 1) * 65536) = (R.ctrl.wide - 1) * 65536 := wrap64 (by omega) (by omega)
    have wd3 : IntKind.i64.wrap (R.ctrl.wide * 65536) = R.ctrl.wide * 65536 := wrap64 (by omega) (by omega)
    by_cases hg : h = firstH R ∨ R.ctrl.least ≤ h
    · have k1 : 1 ≤ h := by have := hrq.least; omega
      have e2 := tdiv2 (h := h) (by omega)
      have w2 : IntKind.i64.wrap (h.tdiv 2) = h.tdiv 2 := wrap64 (by omega) (by omega)
      obtain ⟨hn, hM⟩ := hstep h o k1 h1 hg hinv
      rcases Classical.em (h = firstH R) with hg1 | hg1
      all_goals
        first
        | have hb1 : (h == firstH R) = true := by simp [hg1]
          simp [g8, g11, g18, g19, rqA, hb1, cC, cB, wm, wd1, wd2]
        | have hb1 : (h == firstH R) = false := by simp [hg1]
          have hb2 : R.ctrl.least ≤ h := by omega
          simp [g8, g11, g18, g19, rqA, hb1, hb2, cC, cB, wm, wd1, wd2]
        cases o with
        | none =>
          have hN : ¬ cfM a b * h ≤ R.ctrl.wide * 65536 := fun hc => by obtain ⟨s, hs, _⟩ := hM hc; cases hs
          have hN1 : ¬ cfM a b * h ≤ (R.ctrl.wide - 1) * 65536 := by omega
          simp [hN1, g17, g19, erO, w2]
          exact ⟨h.tdiv 2, by show (h.tdiv 2).toNat < h.toNat; omega, by simp [g7], by simp [g4], by simp [g8], by simp [g10], by simp [g11], by simp [g15], by simp [g17], by simp [g18], by simp, by omega, by omega, hn, by simp [cC, cB, rqA]⟩
        | some s =>
          obtain ⟨hs1, hs2, hs3, hs4⟩ := hadv s rfl
          have q1 : cfM a b * h ≤ (R.ctrl.wide - 1) * 65536 → ¬ s.h < h := fun hc => by
            obtain ⟨s', hs, hle⟩ := hM (by omega)
            cases hs
            omega
          have q2 : s.h = h → ¬ R.ctrl.wide * 65536 < cfM a b * h := fun hc => by rw [← hc]; omega
          by_cases c1 : cfM a b * h ≤ (R.ctrl.wide - 1) * 65536
          · by_cases c2 : s.h = h
            · simp [c1, q1 c1, c2, q2 c2, g8, g15, g17, g19, erO, segC, sgA, w2, wd3, rqA]
              exact ⟨h.tdiv 2, by show (h.tdiv 2).toNat < h.toNat; omega, by simp [g7], by simp [g4], by simp [g8], by simp [g10], by simp [g11], by simp [g15], by simp [g17, erO], by simp [g18], by simp, by omega, by omega, hn, by simp [cC, cB, rqA, segC, sgA, c2]⟩
            · have c3 : (s.h == h) = false := by simp [c2]
              simp [c1, q1 c1, c3, g15, g17, g19, erO, segC, sgA, w2, wd3]
              exact ⟨h.tdiv 2, by show (h.tdiv 2).toNat < h.toNat; omega, by simp [g7], by simp [g4], by simp [g8], by simp [g10], by simp [g11], by simp [g15], by simp [g17, erO], by simp [g18], by simp, by omega, by omega, hn, by simp [cC, cB, rqA, segC, sgA]⟩
          · by_cases c2 : s.h = h
            · simp [c1, c2, q2 c2, g8, g15, g17, g19, erO, segC, sgA, w2, wd3, rqA]
              exact ⟨h.tdiv 2, by show (h.tdiv 2).toNat < h.toNat; omega, by simp [g7], by simp [g4], by simp [g8], by simp [g10], by simp [g11], by simp [g15], by simp [g17, erO], by simp [g18], by simp, by omega, by omega, hn, by simp [cC, cB, rqA, segC, sgA, c2]⟩
            · have c3 : (s.h == h) = false := by simp [c2]
              simp [c1, c3, g15, g17, g19, erO, segC, sgA, w2, wd3]
              exact ⟨h.tdiv 2, by show (h.tdiv 2).toNat < h.toNat; omega, by simp [g7], by simp [g4], by simp [g8], by simp [g10], by simp [g11], by simp [g15], by simp [g17, erO], by simp [g18], by simp, by omega, by omega, hn, by simp [cC, cB, rqA, segC, sgA]⟩
    · have hb1 : (h == firstH R) = false := by simp; omega
      have hb2 : ¬ R.ctrl.least ≤ h := by omega
      cases o with
      | none =>
        simp [g8, g18, g19, rqA, hb1, hb2, cC, cB, g17, erO, g7]
        exact fin1 (rs := [.tmp 6]) (by rfl) (by simp [resA]) (by simp [noFs, noF])
      | some s =>
        obtain ⟨hs1, hs2, hs3, hs4⟩ := hadv s rfl
        have hto : s.to = [cfQ x (a * s.h), cfQ y (b * s.h)] := by rw [hs1]; rfl
        have pa := prod_b ha (h := s.h) (by omega)
        have pb := prod_b hb (h := s.h) (by omega)
        have qok : ∀ z m : Int, -1048576 < z ∧ z < 1048576 → -137438953472 ≤ m ∧ m ≤ 137438953472 → ∀ r, cfQ z m = r → vB r = true ∧ IntKind.i64.wrap (r.1 * 65536) = r.1 * 65536 ∧ IntKind.i64.wrap (r.2 * 65536) = r.2 * 65536 ∧ ¬ z * 65536 + m < r.1 * 65536 ∧ ¬ r.2 * 65536 < z * 65536 + m ∧ ¬ 1 < r.2 - r.1 := fun z m h1 h2 r hr => by
          subst hr
          unfold cfQ
          exact ⟨vB_pair (by omega) (by omega) (by omega), wrap64 (by show _ ≤ (z + m / 65536) * 65536; omega) (by show (z + m / 65536) * 65536 ≤ _; omega), wrap64 (by show _ ≤ (z + -((-m) / 65536)) * 65536; omega) (by show (z + -((-m) / 65536)) * 65536 ≤ _; omega), by show ¬ _ < (z + m / 65536) * 65536; omega, by show ¬ (z + -((-m) / 65536)) * 65536 < _; omega, by show ¬ 1 < (z + -((-m) / 65536)) - (z + m / 65536); omega⟩
        obtain ⟨r1, hr1⟩ : ∃ r, cfQ x (a * s.h) = r := ⟨_, rfl⟩
        obtain ⟨r2, hr2⟩ : ∃ r, cfQ y (b * s.h) = r := ⟨_, rfl⟩
        obtain ⟨u1, u2, u3, u4, u5, u6⟩ := qok x (a * s.h) hx pa r1 hr1
        obtain ⟨v1, v2, v3, v4, v5, v6⟩ := qok y (b * s.h) hy pb r2 hr2
        rw [hr1, hr2] at hto
        clear qok
        have wa2 : IntKind.i64.wrap (a * s.h) = a * s.h := wrap64 (by omega) (by omega)
        have wb2 : IntKind.i64.wrap (b * s.h) = b * s.h := wrap64 (by omega) (by omega)
        have wx2 : IntKind.i64.wrap (x * 65536) = x * 65536 := wrap64 (by omega) (by omega)
        have wy2 : IntKind.i64.wrap (y * 65536) = y * 65536 := wrap64 (by omega) (by omega)
        have wa3 : IntKind.i64.wrap (x * 65536 + a * s.h) = x * 65536 + a * s.h := wrap64 (by omega) (by omega)
        have wb3 : IntKind.i64.wrap (y * 65536 + b * s.h) = y * 65536 + b * s.h := wrap64 (by omega) (by omega)
        simp [g8, g15, g18, g19, rqA, hb1, hb2, cC, cB, g17, erO, segC, sgA, bx, hto]
        refine loop_count (fun i fr H' => fr 7 = .bool true ∧ fr 4 = .ptr (H.length + 1) 1 0 0 ∧ fr 10 = .ref (H.length + 5) 2 ∧ fr 15 = .ptr (H.length + 7) 1 0 0 ∧ fr 21 = .int .i64 (i : Nat) ∧ (i = 0 ∨ i = 1 ∨ i = 2) ∧ H' = H ++ cC w R u v p q a b x y T (some s)) (fun i => 2 - i) 0 ⟨by simp [g7], by simp [g4], by simp [g10], by simp [g15], by simp, .inl rfl, by simp [cC, cB, rqA, segC, sgA, bx, hto]⟩ ?_
        clear g7 g4 g8 g10 g11 g15 g17 g18 g19
        rintro i fr3 H3 ⟨g7, g4, g10, g15, g21, hi, rfl⟩
        rcases hi with rfl | rfl | rfl
        · simp [g4, g10, g15, g21, cC, cB, ar2, segC, sgA, bx, hto, wu, haE, wa, wa2, wx2, wa3]
          refine endD [] (by rfl) (by simp [okW, note, Eff.triv, Eff.wr, Eff.none, upTo, newAt]) ?_
          simp [g15, g21, u2, u3, u4, u5]
          refine call_ret (rWidth r1 u1 _) ?_
          simp [u6, g21]
          exact ⟨1, by show 2 - 1 < 2 - 0; omega, by simp [g7], by simp [g4], by simp [g10], by simp [g15], by simp [W1], by omega, by simp [cC, cB, ar2, segC, sgA, bx, hto]⟩
        · simp [g4, g10, g15, g21, cC, cB, ar2, segC, sgA, bx, hto, wv, hbE, wb, wb2, wy2, wb3]
          refine endD [] (by rfl) (by simp [okW, note, Eff.triv, Eff.wr, Eff.none, upTo, newAt]) ?_
          simp [g15, g21, v2, v3, v4, v5]
          refine call_ret (rWidth r2 v1 _) ?_
          simp [v6, g21]
          exact ⟨2, by show 2 - 2 < 2 - 1; omega, by simp [g7], by simp [g4], by simp [g10], by simp [g15], by simp [W2], by omega, by simp [cC, cB, ar2, segC, sgA, bx, hto]⟩
        · simp [g7, g21]
          exact fin1 (rs := [.tmp 6]) (by rfl) (by simp [resA]) (by simp [noFs, noF])
end Go.Proofs.YtgabeieooemfeaaDoor.Arm
