/- Part of a proof: what the functions of the program do to abstract states, step by step. -/
import Derived.Test.YtgabeieooemfeaaDoorM4
import Derived.Test.YtgabeieooemfeaaDoorTie
import Derived.Test.YtgabeieooemfeaaDoorCards
import Derived.ProofKit
import Derived.Stop.Joined
import Derived.SevenTiedAt
set_option linter.unusedVariables false
set_option linter.unusedSimpArgs false
namespace Go.Proofs.YtgabeieooemfeaaDoor.Arm
open Go.Arm Go.Pl

theorem refsN_refsF (p : Nat) (l : List (List I)) : refsN p l = refsF (p + 1) l := by
  apply List.ext_getElem?
  intro j
  by_cases h : j < l.length
  · rw [refsN_get (List.getElem?_eq_getElem h), refsF_get (List.getElem?_eq_getElem h)]
  · rw [List.getElem?_eq_none (by rw [refsN_len]; omega), List.getElem?_eq_none (by rw [refsF_len]; omega)]
def extR (p : Nat) (l : List (List I)) (i : Nat) : List AV := (List.range l.length).map fun j : Nat => .ref (p + 1 + j) (if j < i then (rowN l (j : Int)).length + 1 else (rowN l (j : Int)).length)
theorem extR_len (p : Nat) (l : List (List I)) (i : Nat) : (extR p l i).length = l.length := by simp [extR]
theorem extR_get {p : Nat} {l : List (List I)} {i j : Nat} (h : j < l.length) : (extR p l i)[j]? = some (.ref (p + 1 + j) (if j < i then (rowN l (j : Int)).length + 1 else (rowN l (j : Int)).length)) := by
  unfold extR; rw [List.getElem?_map, List.getElem?_range h]; rfl
theorem extR_set {p : Nat} {l : List (List I)} {i : Nat} (h : i < l.length) : (extR p l i).set i (.ref (p + 1 + i) ((rowN l (i : Int)).length + 1)) = extR p l (i + 1) := by
  apply List.ext_getElem?
  intro j
  by_cases hj : j < l.length
  · by_cases hij : i = j
    · subst hij; rw [List.getElem?_set_self (by rw [extR_len]; exact h), extR_get h, if_pos (by omega)]
    · rw [List.getElem?_set_ne hij, extR_get hj, extR_get hj]
      by_cases h1 : j < i
      · rw [if_pos h1, if_pos (by omega)]
      · rw [if_neg h1, if_neg (by omega)]
  · rw [List.getElem?_eq_none (by rw [List.length_set, extR_len]; omega), List.getElem?_eq_none (by rw [extR_len]; omega)]
theorem extR_zero (p : Nat) (l : List (List I)) : extR p l 0 = refsN p l := by
  apply List.ext_getElem?
  intro j
  by_cases h : j < l.length
  · rw [extR_get h, if_neg (by omega), refsN_get (List.getElem?_eq_getElem h), rowN_get (List.getElem?_eq_getElem h)]
  · rw [List.getElem?_eq_none (by rw [extR_len]; omega), List.getElem?_eq_none (by rw [refsN_len]; omega)]
theorem extR_all (p : Nat) (l : List (List I)) (r : List I) : extR p l l.length = refsN p (withRem l r) := by
  apply List.ext_getElem?
  intro j
  by_cases h : j < l.length
  · rw [extR_get h, if_pos h, refsN_get (withRem_get h)]; simp
  · rw [List.getElem?_eq_none (by rw [extR_len]; omega), List.getElem?_eq_none (by rw [refsN_len, withRem_len]; omega)]
def mR (H X : AH) (l : List (List I)) (r : List I) (i k : Nat) : AH := H ++ (.row true 1 (extR H.length l k) :: (extB l r i ++ X))
section
variable {H X : AH} {l : List (List I)} {r : List I} {i k : Nat}
theorem mR_at0 : (mR H X l r i k)[H.length]? = some (.row true 1 (extR H.length l k)) := by
  have := getAt (H := H) (J := .row true 1 (extR H.length l k) :: (extB l r i ++ X)) (b := 0)
  exact this
theorem mR_row {j : Nat} (h : j < l.length) : (mR H X l r i k)[H.length + 1 + j]? = (extB l r i)[j]? := by
  unfold mR
  rw [Nat.add_assoc, getAt, Nat.add_comm 1 j, List.getElem?_cons_succ, List.getElem?_append_left (by rw [extB_len]; exact h)]
theorem mR_set (h : i < l.length) : (mR H X l r i k).set (H.length + 1 + i) (rowB (rowN l (i : Int) ++ [atN r i])) = mR H X l r (i + 1) k := by
  unfold mR
  rw [Nat.add_assoc, setAt, Nat.add_comm 1 i, List.set_cons_succ, List.set_append_left _ _ (by rw [extB_len]; exact h), extB_set h]
theorem mR_set0 (h : k < l.length) : (mR H X l r i k).set H.length (.row true 1 ((extR H.length l k).set k (.ref (H.length + 1 + k) ((rowN l (k : Int)).length + 1)))) = mR H X l r i (k + 1) := by
  unfold mR
  have := setAt (H := H) (J := .row true 1 (extR H.length l k) :: (extB l r i ++ X)) (b := 0) (y := .row true 1 ((extR H.length l k).set k (.ref (H.length + 1 + k) ((rowN l (k : Int)).length + 1))))
  rw [Nat.add_zero] at this
  rw [this, extR_set h]; rfl
theorem mR_start : mR H X l r 0 0 = H ++ (outJ H.length l ++ X) := by unfold mR outJ; rw [extB_zero, extR_zero]; rfl
theorem mR_end : mR H X l r l.length l.length = H ++ (outJ H.length (withRem l r) ++ X) := by unfold mR outJ; rw [extB_all, extR_all _ _ r]; rfl
theorem mR_len : (mR H X l r i k).length = H.length + (l.length + 1 + X.length) := by simp [mR, extB_len]; omega
end
def LEn (H X : AH) (b : List I) (part : AV) (l : List (List I)) (r : List I) (i : Nat) (fr : AFr) (H' : AH) : Prop :=
  fr 2 = bx b ∧ fr 7 = .ptr (H.length + (l.length + 1 + 1)) 1 0 0 ∧ fr 9 = .ref H.length l.length ∧ fr 10 = bx r ∧ fr 11 = .int .i64 i ∧ i ≤ l.length ∧ H' = mR H X l r i i
end Go.Proofs.YtgabeieooemfeaaDoor.Arm

namespace Go.Proofs.YtgabeieooemfeaaDoor.Arm
open Go.Arm Go.Pl

end Go.Proofs.YtgabeieooemfeaaDoor.Arm

namespace Go.Proofs.YtgabeieooemfeaaDoor.Arm
open Go.Arm Go.Pl

def LAd (T : Tp) (x : List I) (w : Rq) (H : AH) (h : Int) (fr : AFr) (H' : AH) : Prop :=
  fr 1 = bx x ∧ fr 3 = .ptr H.length 1 0 0 ∧ fr 5 = .ptr (H.length + 1) 1 0 0 ∧ fr 6 = .ptr (H.length + 2) 1 0 0 ∧ fr 9 = .int .i64 h ∧ 1 ≤ h ∧ h ≤ firstH w ∧ fr 10 = .int .i64 (if h = firstH w then w.h else h) ∧
  (cands w.ctrl h).findSome? (accS T x w.ctrl w.t) = advS T x w ∧ ∃ J, H' = H ++ (.row true 3 [tpA T] :: .row true 8 [rqA w] :: .row true 6 [zsA] :: J)
end Go.Proofs.YtgabeieooemfeaaDoor.Arm

namespace Go.Proofs.YtgabeieooemfeaaDoor.Arm
open Go.Arm Go.Pl

def oneT : Tp := ⟨1, [⟨1, 0, 0, (65536, 65536)⟩], [0]⟩
def sC : Ct := ⟨2, 32768, 1024, 65536, 20000⟩
def sN : Ct := ⟨2, 32768, 1024, 65536, 1000⟩
def sS1 : Sg := ⟨0, 16384, [(0, 0)], [(0, 16384)], [(0, 16384)], [(16384, 16384)]⟩
def sS2 : Sg := ⟨0, 5000, [(0, 0)], [(0, 5000)], [(0, 5000)], [(5000, 5000)]⟩
theorem oneT_eq : cmpT [.num (65536, 65536)] = oneT := by kernel_rfl
theorem sAdv1 : advS oneT [(0, 0)] ⟨sC, 0, 65536, 32768⟩ = some sS1 := by kernel_rfl
theorem sAdv2 : advS oneT [(0, 0)] ⟨sC, 0, 5000, 32768⟩ = some sS2 := by kernel_rfl
theorem sAdv3 : advS oneT [(0, 0)] ⟨sN, 0, 65536, 32768⟩ = none := by kernel_rfl
theorem oneT_ok : tpOk oneT := by
  refine ⟨fun i x hx => ?_, rfl, fun k hk => ?_, by simp [oneT]⟩
  · cases i with
    | zero => simp [oneT] at hx; subst hx; exact .inl ⟨rfl, vB_pair (by omega) (by omega) (by omega)⟩
    | succ i => simp [oneT] at hx
  · simp [oneT] at hk; subst hk; simp [oneT]
theorem zeroX : allV [(0, 0)] := fun p hp => by simp at hp; subst hp; exact vB_pair (by omega) (by omega) (by omega)
theorem sReq (c : Ct) (hc : c = sC ∨ c = sN) (l : Int) (hl : 0 < l ∧ l ≤ 1000000000) : rqOk ⟨c, 0, l, 32768⟩ := by
  rcases hc with rfl | rfl <;> exact ⟨by simp [sC, sN], by simp [sC, sN], by simp, by simp; omega, by simp⟩
theorem sAdv (c : Ct) (hc : c = sC ∨ c = sN) (l : Int) (hl : 0 < l ∧ l ≤ 1000000000) (o : Option Sg) (h : advS oneT [(0, 0)] ⟨c, 0, l, 32768⟩ = o) (H : AH) :
    Sound E 14 [tpA oneT, bx [(0, 0)], rqA ⟨c, 0, l, 32768⟩] H (.ret (advO ⟨c, 0, l, 32768⟩ o)) H := by
  subst h
  exact cAdvance oneT [(0, 0)] ⟨c, 0, l, 32768⟩ oneT_ok zeroX rfl (by simp [oneT]) (sReq c hc l hl) H
set_option maxHeartbeats 4000000 in
set_option maxRecDepth 100000 in
theorem lSanity (H : AH) : Sound E 5 [] H (.ret (.bool true)) H := by
  refine sound_of_awp tabOk mixed Tryd.func5 rfl (by rfl) Tryd.ntmps5 (by kernel_rfl) (by simp) ?_
  have h1 := sAdv sC (.inl rfl) 65536 (by omega) _ sAdv1
  have h2 := sAdv sC (.inl rfl) 5000 (by omega) _ sAdv2
  have h3 := sAdv sN (.inr rfl) 65536 (by omega) _ sAdv3
  have e1 : nxC ⟨sC, 0, 65536, 32768⟩ (some sS1) = 32768 := by kernel_rfl
  have e2 : nxC ⟨sC, 0, 5000, 32768⟩ (some sS2) = 65536 := by kernel_rfl
  simp only [advO, advA, e1] at h1
  simp only [advO, advA, e2] at h2
  have hp : pt 65536 = (65536, 65536) := by kernel_rfl
  have hp2 : pt 16384 = (16384, 16384) := by kernel_rfl
  have hC := r8Compile ⟨[⟨#[120]⟩], [.num (65536, 65536)]⟩ (by simp) (fun e he => by simp at he; subst he; simp [sz, ser])
  simp only [oneT_eq] at hC
  simp
  refine call_ret (rPoint 65536 _) ?_
  rw [hp]
  simp
  refine call_ret (by simpa using r7Const (65536, 65536) _) ?_
  simp [xs]
  refine call_conv0 (hC _) (by simp [sys, xs]; rfl) ?_
  simp [tpA, oneT, outA, insA]
  refine call_conv0 (h1 _) (by simp [tpA, oneT, outA, insA, bx, rqA, sC]; rfl) ?_
  simp [sgA, sS1, bx, tpA, oneT, outA, insA]
  refine call_conv0 (h2 _) (by simp [tpA, oneT, outA, insA, bx, rqA, sC]; rfl) ?_
  simp [sgA, sS2, bx, tpA, oneT, outA, insA]
  refine call_conv0 (h3 _) (by simp [tpA, oneT, outA, insA, bx, rqA, sN]; rfl) ?_
  simp [advO, advZ, zsA]
  have hs1 := cShrink sC 4096 (by omega)
  rw [show shrinkS sC 4096 = (2048, 0) by kernel_rfl] at hs1
  have hs2 := cShrink sC 2047 (by omega)
  rw [show shrinkS sC 2047 = (0, 130) by kernel_rfl] at hs2
  refine call_ret (by simpa [ctA, sC] using hs1 _) ?_
  simp [shA]
  refine call_ret (by simpa [ctA, sC] using hs2 _) ?_
  simp [shA]
  have v1 := cValid sC
  rw [show validC sC = true by kernel_rfl] at v1
  have v2 := cValid ⟨0, 0, 0, 0, 0⟩
  rw [show validC ⟨0, 0, 0, 0, 0⟩ = false by kernel_rfl] at v2
  have v3 := cValid ⟨8, 2, 1, 3, 1⟩
  rw [show validC ⟨8, 2, 1, 3, 1⟩ = false by kernel_rfl] at v3
  have g1 := cGrow sC 40000 (by omega)
  rw [show growS sC 40000 = 65536 by kernel_rfl] at g1
  have g2 := cGrow sC 3 (by omega)
  rw [show growS sC 3 = 6 by kernel_rfl] at g2
  have n1 := cInitial sC 100
  rw [show initS sC 100 = 100 by kernel_rfl] at n1
  have n2 := cInitial sC 40000
  rw [show initS sC 40000 = 32768 by kernel_rfl] at n2
  have aT : allV sS1.to ∧ allV sS1.tube := ⟨fun p hp => by simp [sS1] at hp; subst hp; exact vB_pair (by omega) (by omega) (by omega), fun p hp => by simp [sS1] at hp; subst hp; exact vB_pair (by omega) (by omega) (by omega)⟩
  have a1 := cAccept sC sS1 aT.1 aT.2 (by simp [sS1]) (by simp [sS1])
  rw [show (narrowB sC.wide sS1.to && narrowB sC.wide sS1.tube) = true by kernel_rfl] at a1
  have a2 := cAccept sN sS1 aT.1 aT.2 (by simp [sS1]) (by simp [sS1])
  rw [show (narrowB sN.wide sS1.to && narrowB sN.wide sS1.tube) = false by kernel_rfl] at a2
  have rp := rPoint 16384
  rw [hp2] at rp
  refine callD_ret0 (fun Hx => by simpa [ctA, sC] using v1 Hx) ?_
  simp
  refine callD_ret0 (fun Hx => by simpa [ctA] using v2 Hx) ?_
  simp
  refine callD_ret0 (fun Hx => by simpa [ctA] using v3 Hx) ?_
  simp [sgA, sS1, bx]
  refine callD_ret0 (fun Hx => rp Hx) ?_
  simp [iv]
  refine callD_ret0 (fun Hx => by simpa [ctA, sC] using g1 Hx) ?_
  simp
  refine callD_ret0 (fun Hx => by simpa [ctA, sC] using g2 Hx) ?_
  simp
  refine callD_ret0 (fun Hx => by simpa [ctA, sC] using n1 Hx) ?_
  simp
  refine callD_ret0 (fun Hx => by simpa [ctA, sC] using n2 Hx) ?_
  simp
  refine callD_ret0 (fun Hx => by simpa [ctA, sC, sgA, sS1, bx, iv] using a1 Hx) ?_
  simp
  refine callD_ret0 (fun Hx => by simpa [ctA, sN, sgA, sS1, bx, iv] using a2 Hx) ?_
  simp
  refine endD [] (by rfl) (by simp [okW, note, Eff.triv, Eff.wr, Eff.none, upTo, newAt]) ?_
  simp
  exact fin1 (rs := [.tmp 0]) (by rfl) (by simp [resA]) (by simp [noFs, noF])
end Go.Proofs.YtgabeieooemfeaaDoor.Arm

/- The arguments of a law as plain data. -/
namespace Go.Arm

theorem list_of {α : Type} {f : α → AV} {p : α → Prop} : ∀ {xs : List AV}, (∀ x ∈ xs, ∃ a, x = f a ∧ p a) → ∃ l : List α, xs = l.map f ∧ ∀ a ∈ l, p a
  | [], h => ⟨[], rfl, fun a ha => by cases ha⟩
  | x :: r, h => by
    obtain ⟨a, rfl, ha⟩ := h x (by simp)
    obtain ⟨l, rfl, hl⟩ := list_of (xs := r) (fun y hy => h y (by simp [hy]))
    exact ⟨a :: l, rfl, fun b hb => by
      rcases List.mem_cons.1 hb with rfl | hb
      · exact ha
      · exact hl b hb⟩
theorem okL_cons {ok : TypeId → AV → Prop} {f : TypeId × Nat} {fs : List (TypeId × Nat)} {vs : List AV} (h : OkL ok (f :: fs) vs) : ∃ v vs', vs = v :: vs' ∧ ok f.1 v ∧ OkL ok fs vs' := by
  cases vs with
  | nil => exact h.elim
  | cons v vs' => exact ⟨v, vs', rfl, h.1, h.2⟩
theorem okL_nil {ok : TypeId → AV → Prop} {vs : List AV} (h : OkL ok [] vs) : vs = [] := by
  cases vs with
  | nil => rfl
  | cons v vs' => exact h.elim
section
variable {tab : Tab}
theorem okBool {n : Nat} {t : TypeId} {i : TI} {v : AV} (hi : tab t = some i) (hd : i.d = .bool) (h : OkA tab (n + 1) t v) : ∃ x, v = .bool x := by
  unfold OkA at h
  rw [hi] at h
  simp only [hd] at h
  exact h
theorem okInt {n : Nat} {t : TypeId} {i : TI} {k : IntKind} {v : AV} (hi : tab t = some i) (hd : i.d = .int k) (h : OkA tab (n + 1) t v) : ∃ x, v = .int k x ∧ (Lit.int k x).wf = true := by
  unfold OkA at h
  rw [hi] at h
  simp only [hd] at h
  exact h
theorem okStr {n : Nat} {t : TypeId} {i : TI} {v : AV} (hi : tab t = some i) (hd : i.d = .str) (h : OkA tab (n + 1) t v) : ∃ s, v = .str s ∧ s.size ≤ maxLen := by
  unfold OkA at h
  rw [hi] at h
  simp only [hd] at h
  exact h
theorem okSlice {n : Nat} {t e : TypeId} {i ie : TI} {v : AV} (hi : tab t = some i) (hd : i.d = .slice e) (he : tab e = some ie) (h : OkA tab (n + 1) t v) : ∃ xs, v = .slice xs false ∧ (∀ x ∈ xs, OkA tab n e x) ∧ xs.length * ie.bytes ≤ reachBytes ∧ xs.length ≤ maxLen := by
  unfold OkA at h
  rw [hi] at h
  simp only [hd] at h
  obtain ⟨xs, h1, h2, h3, h4⟩ := h
  exact ⟨xs, h1, h2, h3 ie he, h4⟩
theorem okStruct {n : Nat} {t : TypeId} {i : TI} {fs : List (TypeId × Nat)} {v : AV} (hi : tab t = some i) (hd : i.d = .struct fs) (h : OkA tab (n + 1) t v) : ∃ vs : List AV, v = .agg (vs.flatMap AV.cells) ∧ OkL (OkA tab n) fs vs := by
  unfold OkA at h
  rw [hi] at h
  simp only [hd] at h
  exact h
theorem okArr {n m : Nat} {t e : TypeId} {i : TI} {v : AV} (hi : tab t = some i) (hd : i.d = .arr m e) (h : OkA tab (n + 1) t v) : ∃ vs : List AV, vs.length = m ∧ v = .agg (vs.flatMap AV.cells) ∧ ∀ x ∈ vs, OkA tab n e x := by
  unfold OkA at h
  rw [hi] at h
  simp only [hd] at h
  exact h
/-- A slice whose elements are told by f. -/
theorem okRow {α : Type} {f : α → AV} {p : α → Prop} {n : Nat} {t e : TypeId} {i ie : TI} {v : AV} (hi : tab t = some i) (hd : i.d = .slice e) (he : tab e = some ie) (hb : 0 < ie.bytes) (hf : ∀ x, OkA tab n e x → ∃ a, x = f a ∧ p a) (h : OkA tab (n + 1) t v) :
    ∃ l : List α, v = .slice (l.map f) false ∧ (∀ a ∈ l, p a) ∧ l.length ≤ 140737488351232 := by
  obtain ⟨xs, rfl, h1, h2, h3⟩ := okSlice hi hd he h
  obtain ⟨l, rfl, hl⟩ := list_of (f := f) (p := p) (fun x hx => hf x (h1 x hx))
  refine ⟨l, rfl, hl, ?_⟩
  have e : reachBytes = 140737488351232 := rfl
  rw [e, List.length_map] at h2
  exact Nat.le_trans (Nat.le_mul_of_pos_right _ hb) h2
end
theorem okArgs1 {T : Tab} {m : Nat} {a : TypeId} {av : List AV} (h : OkArgs T m [a] av) : ∃ x, av = [x] ∧ OkA T m a x := by
  match av, h with
  | [x], h => exact ⟨x, rfl, h.1⟩
theorem okArgs2 {T : Tab} {m : Nat} {a b : TypeId} {av : List AV} (h : OkArgs T m [a, b] av) : ∃ x y, av = [x, y] ∧ OkA T m a x ∧ OkA T m b y := by
  match av, h with
  | [x, y], h => exact ⟨x, y, rfl, h.1, h.2.1⟩
theorem okArgs3 {T : Tab} {m : Nat} {a b c : TypeId} {av : List AV} (h : OkArgs T m [a, b, c] av) : ∃ x y z, av = [x, y, z] ∧ OkA T m a x ∧ OkA T m b y ∧ OkA T m c z := by
  match av, h with
  | [x, y, z], h => exact ⟨x, y, z, rfl, h.1, h.2.1, h.2.2.1⟩
theorem okArgs4 {T : Tab} {m : Nat} {a b c d : TypeId} {av : List AV} (h : OkArgs T m [a, b, c, d] av) : ∃ x y z u, av = [x, y, z, u] ∧ OkA T m a x ∧ OkA T m b y ∧ OkA T m c z ∧ OkA T m d u := by
  match av, h with
  | [x, y, z, u], h => exact ⟨x, y, z, u, rfl, h.1, h.2.1, h.2.2.1, h.2.2.2.1⟩
/-- Bounds of whole numbers. -/
theorem wfI {k : IntKind} {x : Int} (h : (Lit.int k x).wf = true) : k.min ≤ x ∧ x ≤ k.max := by
  simp [Lit.wf] at h
  exact h
theorem wfU8 {x : Int} (h : (Lit.int .u8 x).wf = true) : 0 ≤ x ∧ x ≤ 255 := by have := wfI h; simp [IntKind.min, IntKind.max, IntKind.signed, IntKind.bits] at this; exact this
theorem wfU16 {x : Int} (h : (Lit.int .u16 x).wf = true) : 0 ≤ x ∧ x ≤ 65535 := by have := wfI h; simp [IntKind.min, IntKind.max, IntKind.signed, IntKind.bits] at this; exact this
theorem wfI8 {x : Int} (h : (Lit.int .i8 x).wf = true) : -128 ≤ x ∧ x ≤ 127 := by have := wfI h; simp [IntKind.min, IntKind.max, IntKind.signed, IntKind.bits] at this; exact this
theorem wfI32 {x : Int} (h : (Lit.int .i32 x).wf = true) : -2147483648 ≤ x ∧ x ≤ 2147483647 := by have := wfI h; simp [IntKind.min, IntKind.max, IntKind.signed, IntKind.bits] at this; exact this
theorem wfI64 {x : Int} (h : (Lit.int .i64 x).wf = true) : -9223372036854775808 ≤ x ∧ x ≤ 9223372036854775807 := by have := wfI h; simp [IntKind.min, IntKind.max, IntKind.signed, IntKind.bits] at this; exact this
end Go.Arm

namespace Go.Proofs.YtgabeieooemfeaaDoor.Arm
open Go.Arm Go.Pl

theorem okCt {n : Nat} {v : AV} (h : OkA tab (n + 2) 23 v) : ∃ c : Ct, v = ctA c ∧ True := by
  obtain ⟨vs, rfl, hv⟩ := okStruct tab23 rfl h
  obtain ⟨a, vs, rfl, ha, hv⟩ := okL_cons hv
  obtain ⟨b, vs, rfl, hb, hv⟩ := okL_cons hv
  obtain ⟨c, vs, rfl, hc, hv⟩ := okL_cons hv
  obtain ⟨d, vs, rfl, hd, hv⟩ := okL_cons hv
  obtain ⟨e, vs, rfl, he, hv⟩ := okL_cons hv
  cases okL_nil hv
  obtain ⟨x1, rfl, -⟩ := okInt tab3 rfl ha
  obtain ⟨x2, rfl, -⟩ := okInt tab2 rfl hb
  obtain ⟨x3, rfl, -⟩ := okInt tab2 rfl hc
  obtain ⟨x4, rfl, -⟩ := okInt tab2 rfl hd
  obtain ⟨x5, rfl, -⟩ := okInt tab2 rfl he
  exact ⟨⟨x1, x2, x3, x4, x5⟩, rfl, trivial⟩
theorem okRq {n : Nat} {v : AV} (h : OkA tab (n + 3) 32 v) : ∃ c : Rq, v = rqA c ∧ True := by
  obtain ⟨vs, rfl, hv⟩ := okStruct tab32 rfl h
  obtain ⟨a, vs, rfl, ha, hv⟩ := okL_cons hv
  obtain ⟨b, vs, rfl, hb, hv⟩ := okL_cons hv
  obtain ⟨c, vs, rfl, hc, hv⟩ := okL_cons hv
  obtain ⟨d, vs, rfl, hd, hv⟩ := okL_cons hv
  cases okL_nil hv
  obtain ⟨x1, rfl, -⟩ := okCt ha
  obtain ⟨x3, rfl, -⟩ := okInt tab2 rfl hb
  obtain ⟨x4, rfl, -⟩ := okInt tab2 rfl hc
  obtain ⟨x5, rfl, -⟩ := okInt tab2 rfl hd
  exact ⟨⟨x1, x3, x4, x5⟩, rfl, trivial⟩
theorem flat_int {k : IntKind} (l : List Int) : (l.map (AV.int k)).flatMap AV.cells = l.map (.int k) := by
  induction l with
  | nil => rfl
  | cons a r ih => simp only [List.map_cons, List.flatMap_cons, ih]; rfl
theorem okInts {n m : Nat} {k : IntKind} {p : Int → Prop} {t e : TypeId} {i ie : TI} {v : AV} (hi : tab t = some i) (hd : i.d = .arr m e) (he : tab e = some ie) (hk : ie.d = .int k) (hp : ∀ x, (Lit.int k x).wf = true → p x) (h : OkA tab (n + 2) t v) : ∃ l : List Int, v = .agg (l.map (.int k)) ∧ l.length = m ∧ ∀ x ∈ l, p x := by
  obtain ⟨vs, hl, rfl, hv⟩ := okArr hi hd h
  obtain ⟨l, rfl, hl'⟩ := list_of (f := .int k) (p := p) (xs := vs) (fun x hx => by
    obtain ⟨a, rfl, ha⟩ := okInt he hk (hv x hx)
    exact ⟨a, rfl, hp a ha⟩)
  exact ⟨l, by rw [flat_int], by simpa using hl, hl'⟩
end Go.Proofs.YtgabeieooemfeaaDoor.Arm

namespace Go.Proofs.YtgabeieooemfeaaDoor.Arm
open Go.Arm Go.Pl Go.ChangeShapes Go.WideShapes Go.ChangeAt Go.RowKit

theorem own : ownKnob Tryd.prog.godebug = none := by kernel_rfl
theorem laidOut : laidOutB Tryd.prog = true := by kernel_rfl
def laidL : List (String × DataW Unit) := [("armillary/interval.products", Rows.laid_armillary_interval_products), ("armillary/interval.quotients", Rows.laid_armillary_interval_quotients), ("armillary/tape.ops", Rows.laid_armillary_tape_ops)]
/-- The door's own heap meets the condition. -/
theorem door_met (os : Os) (args : Array Value) : laidMetH Tryd.prog laidL ((World.doorLaid Tryd.prog 600 os).forCall (fun _ _ => 0) ⟨#[], args, []⟩).memory :=
  laidMetH_of_parts3 (fuel := 12) (laidMet_of_run' 8 (by kernel_rfl) (by kernel_rfl)) (by kernel_rfl) (by kernel_rfl)
def fnames : List (List UInt8 × FuncId) := [([97, 114, 109, 105, 108, 108, 97, 114, 121, 47, 105, 110, 116, 101, 114, 118, 97, 108, 46, 104, 104], 117), ([97, 114, 109, 105, 108, 108, 97, 114, 121, 47, 105, 110, 116, 101, 114, 118, 97, 108, 46, 108, 108], 118), ([97, 114, 109, 105, 108, 108, 97, 114, 121, 47, 105, 110, 116, 101, 114, 118, 97, 108, 46, 108, 104], 119), ([97, 114, 109, 105, 108, 108, 97, 114, 121, 47, 105, 110, 116, 101, 114, 118, 97, 108, 46, 104, 108], 120), ([97, 114, 109, 105, 108, 108, 97, 114, 121, 47, 105, 110, 116, 101, 114, 118, 97, 108, 46, 78, 101, 103], 74), ([97, 114, 109, 105, 108, 108, 97, 114, 121, 47, 105, 110, 116, 101, 114, 118, 97, 108, 46, 83, 113, 117, 97, 114, 101], 76), ([97, 114, 109, 105, 108, 108, 97, 114, 121, 47, 116, 97, 112, 101, 46, 114, 111, 111, 116], 121), ([97, 114, 109, 105, 108, 108, 97, 114, 121, 47, 105, 110, 116, 101, 114, 118, 97, 108, 46, 65, 100, 100], 68), ([97, 114, 109, 105, 108, 108, 97, 114, 121, 47, 105, 110, 116, 101, 114, 118, 97, 108, 46, 83, 117, 98], 75), ([97, 114, 109, 105, 108, 108, 97, 114, 121, 47, 105, 110, 116, 101, 114, 118, 97, 108, 46, 77, 117, 108], 67), ([97, 114, 109, 105, 108, 108, 97, 114, 121, 47, 105, 110, 116, 101, 114, 118, 97, 108, 46, 68, 105, 118], 86)]
theorem fnames_ok : ∀ p ∈ fnames, ((List.range Tryd.prog.funcs.size).filter fun f => (Tryd.prog.funcs[f]?).any (·.name.toUTF8.data.toList == p.1)) = [p.2] := by
  intro p hp
  simp only [fnames, List.mem_cons, List.not_mem_nil, or_false] at hp
  rcases hp with rfl | rfl | rfl | rfl | rfl | rfl | rfl | rfl | rfl | rfl | rfl <;> kernel_rfl
theorem fnames_ne : ∀ p ∈ fnames, p.1 ≠ [] := by
  intro p hp
  simp only [fnames, List.mem_cons, List.not_mem_nil, or_false] at hp
  rcases hp with rfl | rfl | rfl | rfl | rfl | rfl | rfl | rfl | rfl | rfl | rfl <;> exact List.cons_ne_nil _ _
theorem gProd : Tryd.prog.globalNamed "armillary/interval.products" = some 0 := by kernel_rfl
theorem gQuot : Tryd.prog.globalNamed "armillary/interval.quotients" = some 2 := by kernel_rfl
theorem gOps : Tryd.prog.globalNamed "armillary/tape.ops" = some 1 := by kernel_rfl
theorem glob_met {W : World} (h : laidMetH Tryd.prog laidL W) : ∀ g cs, E.Γ g = some cs → VR [] W (.eptr cs 0) (.pointer (some ⟨g, 0, none⟩)) := by
  intro g cs hg
  have hg' : glob g = some cs := hg
  unfold glob at hg'
  split at hg'
  · cases hg'
    exact glob_of (P := Tryd.prog) (T := tab) (L := fnames) tab_ok h (name := "armillary/interval.products") (List.mem_cons_self ..) gProd (t := 134) (by kernel_rfl) (m := 8) (by kernel_rfl) fnames_ok fnames_ne (by kernel_rfl) (by decide)
  · cases hg'
    exact glob_of (P := Tryd.prog) (T := tab) (L := fnames) tab_ok h (name := "armillary/interval.quotients") (List.mem_cons_of_mem _ (List.mem_cons_self ..)) gQuot (t := 145) (by kernel_rfl) (m := 8) (by kernel_rfl) fnames_ok fnames_ne (by kernel_rfl) (by decide)
  · cases hg'
    exact glob_of (P := Tryd.prog) (T := tab) (L := fnames) tab_ok h (name := "armillary/tape.ops") (List.mem_cons_of_mem _ (List.mem_cons_of_mem _ (List.mem_cons_self ..))) gOps (t := 137) (by kernel_rfl) (m := 8) (by kernel_rfl) fnames_ok fnames_ne (by kernel_rfl) (by decide)
  · cases hg'
end Go.Proofs.YtgabeieooemfeaaDoor.Arm

namespace Go.Proofs.YtgabeieooemfeaaDoor.Arm
open Go.Arm Go.Pl

def LSz (c D : Ct) (H : AH) (p : Nat × Int) (fr : AFr) (H' : AH) : Prop :=
  fr 5 = .bool true ∧ fr 6 = .ptr (H.length + 1) 1 0 0 ∧ fr 7 = .int .i64 p.2 ∧ fr 10 = .int .i64 (p.1 : Nat) ∧ p.1 ≤ 31 ∧ 1 ≤ p.2 ∧ p.2 ≤ 2147483647 ∧ p.2 * 2 ^ p.1 ≤ 2147483647 ∧ H' = H ++ [.row true 5 [ctA c], .row true 5 [ctA D]]
set_option maxHeartbeats 4000000 in
theorem lSizes (c : Ct) (x : Int) (hx : -9223372036854775808 ≤ x ∧ x ≤ 9223372036854775807) (H : AH) : Sound E 3 [ctA c, .int .i64 x] H (.ret (.bool true)) H := by
  refine sound_of_awp tabOk mixed Tryd.func3 rfl (by rfl) Tryd.ntmps3 (by kernel_rfl) (by simp) ?_
  have hm := madeC_ok c
  have hm2 := of_decide_eq_true hm.1
  have b1 : -2147483647 < x.tmod 2147483647 ∧ x.tmod 2147483647 < 2147483647 := by
    obtain ⟨h3, h4⟩ := tmod_bounds x (b := 2147483647) (by decide)
    by_cases h : 0 ≤ x
    · have := h3 h; omega
    · have := h4 (by omega); omega
  have b2 : 0 ≤ (x.tmod 2147483647 + 2147483647).tmod 2147483647 ∧ (x.tmod 2147483647 + 2147483647).tmod 2147483647 < 2147483647 := ⟨Int.tmod_nonneg _ (by omega), Int.tmod_lt_of_pos _ (by decide)⟩
  have w0 : IntKind.i64.wrap (x.tmod 2147483647) = x.tmod 2147483647 := wrap64 (by omega) (by omega)
  have w1 : IntKind.i64.wrap (x.tmod 2147483647 + 2147483647) = x.tmod 2147483647 + 2147483647 := wrap64 (by omega) (by omega)
  have w2 : IntKind.i64.wrap ((x.tmod 2147483647 + 2147483647).tmod 2147483647) = (x.tmod 2147483647 + 2147483647).tmod 2147483647 := wrap64 (by omega) (by omega)
  have w3 : IntKind.i64.wrap (1 + (x.tmod 2147483647 + 2147483647).tmod 2147483647) = 1 + (x.tmod 2147483647 + 2147483647).tmod 2147483647 := wrap64 (by omega) (by omega)
  obtain ⟨g, hg, hg1⟩ : ∃ g, g = 1 + (x.tmod 2147483647 + 2147483647).tmod 2147483647 ∧ 1 ≤ g ∧ g ≤ 2147483647 := ⟨_, rfl, by omega, by omega⟩
  rw [← hg] at w3
  have hM := r13Made c
  generalize madeC c = D at *
  have q3 := cGrow D g (by omega)
  have q5 := cInitial D g
  have q1 := fun h hh => cShrink D h hh
  obtain ⟨d1, hd1⟩ : ∃ d1, initS D g = d1 := ⟨_, rfl⟩
  obtain ⟨d2, hd2⟩ : ∃ d2, growS D g = d2 := ⟨_, rfl⟩
  rw [hd1] at q5
  rw [hd2] at q3
  unfold initS at hd1
  unfold growS at hd2
  have w4 : IntKind.i64.wrap (2 * g) = 2 * g := wrap64 (by omega) (by omega)
  have n0 : ¬ 2147483648 ≤ g := by omega
  have n1 : ¬ d1 < 1 := by omega
  have n2 : ¬ D.first < d1 := by omega
  have n3 : ¬ g < d1 := by omega
  have n4 : ¬ d2 < 1 := by omega
  have n5 : ¬ D.most < d2 := by omega
  have n6 : ¬ 2 * g < d2 := by omega
  have n7 : ¬ d2 < (if D.most < g then D.most else g) := by split <;> omega
  simp [ctA, w0, w1, w2, w3]
  refine call_ret (lSanity _) ?_
  simp
  refine call_ret (by simpa [ctA] using hM _) ?_
  simp [ctA, w0, w1, w2, ← hg, w3, n0]
  refine callD_ret0 (fun Hx => by simpa [ctA] using q5 Hx) ?_
  simp
  refine callD_ret0 (fun Hx => by simpa [ctA] using q3 Hx) ?_
  simp
  refine endD [] (by rfl) (by simp [okW, note, Eff.triv, Eff.wr, Eff.none, upTo, newAt]) ?_
  simp [n1, n2, n3, n4, n5, n6, n7, w4]
  refine loop_count (LSz c D H) (fun p => 32 - p.1) (0, g) ⟨by simp, by simp, by simp, by simp, by simp, by simp; omega, by simp; omega, by simp; omega, by simp [ctA]⟩ ?_
  rintro ⟨i, h⟩ fr H' ⟨g5, g6, g7, g10, h1, h2, h3, h4, rfl⟩
  simp only at g7 g10 h1 h2 h3 h4
  have hi : i < 31 := by
    rcases Nat.lt_or_ge i 31 with h5 | h5
    · exact h5
    · exfalso
      have : i = 31 := by omega
      subst this
      have h6 : (2 : Int) ^ 31 = 2147483648 := by decide
      rw [h6] at h4
      omega
  have hlt : (i : Int) < 32 := by omega
  have e2 := tdiv2 (h := h) (by omega)
  simp [g6, g7, g10, ctA, hlt]
  refine call_ret (by simpa [ctA] using q1 h (by omega) _) ?_
  by_cases hs : h.tdiv 2 < D.least
  · have hs2 : shrinkS D h = (0, 130) := by unfold shrinkS; rw [if_pos hs]
    have w5 : IntKind.i64.wrap (2 * D.least) = 2 * D.least := wrap64 (by omega) (by omega)
    have k1 : h < 2 * D.least := by omega
    simp [hs2, shA, g5, g6, g7, w5, k1]
    exact fin1 (rs := [.tmp 4]) (by rfl) (by simp [resA]) (by simp [noFs, noF])
  · have hs2 : shrinkS D h = (h.tdiv 2, 0) := by unfold shrinkS; rw [if_neg hs]
    have w5 : IntKind.i64.wrap (2 * h.tdiv 2) = 2 * h.tdiv 2 := wrap64 (by omega) (by omega)
    have w6 : IntKind.i64.wrap (h - 1) = h - 1 := wrap64 (by omega) (by omega)
    have w7 : IntKind.i64.wrap ((i : Int) + 1) = ((i + 1 : Nat) : Int) := by rw [wrap64 (by omega) (by omega)]; omega
    have k2 : ¬ h < 2 * h.tdiv 2 := by omega
    have k3 : ¬ 2 * h.tdiv 2 < h - 1 := by omega
    simp [hs2, shA, g6, g7, g10, w5, w6, w7, hs, k2, k3]
    refine ⟨(i + 1, h.tdiv 2), by show 32 - (i + 1) < 32 - i; omega, by simp [g5], by simp [g6], by simp, by simp, by show i + 1 ≤ 31; omega, by show 1 ≤ h.tdiv 2; omega, by show h.tdiv 2 ≤ _; omega, ?_, by simp [ctA]⟩
    show h.tdiv 2 * 2 ^ (i + 1) ≤ 2147483647
    have e3 : h.tdiv 2 * 2 ^ (i + 1) = (2 * h.tdiv 2) * 2 ^ i := by rw [Int.pow_succ]; rw [Int.mul_comm (2 ^ i) 2, ← Int.mul_assoc, Int.mul_comm _ 2]
    rw [e3]
    refine Int.le_trans (Int.mul_le_mul_of_nonneg_right (by omega : 2 * h.tdiv 2 ≤ h) (Int.pow_nonneg (by omega))) h4
end Go.Proofs.YtgabeieooemfeaaDoor.Arm
