/- Part of a proof: what the functions of the program do to abstract states, step by step. -/
import Derived.Test.YtkghjlgpmeibhaaGreatDoorMc3
import Derived.Test.YtkghjlgpmeibhaaGreatDoorMc2
set_option linter.unusedVariables false
set_option linter.unusedSimpArgs false
namespace Go.Proofs.YtkghjlgpmeibhaaGreatDoor.Arm
open Go.Arm Go.Pl
theorem zce {H J : AH} {b : Nat} : (H ++ J)[H.length + b]? = J[b]? := by rw [List.getElem?_append_right (by omega), Nat.add_sub_cancel_left]
def rowB (q : List I) : ABlk := .row true 2 (q.map iv)
def NewV (z : AV) (s : Nat) (v : AV) (q : List I) : Prop := (q = [] ∧ v = z) ∨ (s = 0 ∧ ∃ p, q = [p] ∧ v = .slice [iv p] true)
def OwnF (z : AV) (tag : Nat → Nat) (B : Nat) (J : AH) (s c : Nat) (v : AV) (q : List I) : Prop := NewV z s v q ∨ ∃ b, v = .ref (B + b) q.length ∧ J[b]? = some (rowB q) ∧ 5 ≤ b ∧ tag b = c
def Fam (z : AV) (tag : Nat → Nat) (B : Nat) (J : AH) (s : Nat) (cells : List AV) (l : List (List I)) : Prop := cells.length = l.length ∧ ∀ (j : Nat) v q, cells[j]? = some v → l[j]? = some q → OwnF z tag B J s (2 * j + s) v q
def updT (tag : Nat → Nat) (b c : Nat) : Nat → Nat := fun i => if i = b then c else tag i
theorem Fam.ext {z : AV} {tag : Nat → Nat} {B s : Nat} {J J' : AH} {cells : List AV} {l : List (List I)} (h : Fam z tag B J s cells l) (hJ : ∀ b y, 5 ≤ b → J[b]? = some y → J'[b]? = some y) : Fam z tag B J' s cells l :=
 ⟨h.1, fun j v q hv hq => (h.2 j v q hv hq).imp id fun ⟨b, h1, h2, h3, h4⟩ => ⟨b, h1, hJ b _ h3 h2, h3, h4⟩⟩
theorem Fam.app {z : AV} {tag : Nat → Nat} {B s : Nat} {J : AH} (K : AH) {cells : List AV} {l : List (List I)} (h : Fam z tag B J s cells l) : Fam z tag B (J ++ K) s cells l := h.ext fun b y _ hb => zad hb
theorem Fam.set {z : AV} {tag : Nat → Nat} {B s c : Nat} {J : AH} {y : ABlk} {cells : List AV} {l : List (List I)} (h : Fam z tag B J s cells l) (hc : c < 5) : Fam z tag B (J.set c y) s cells l :=
 h.ext fun b z h5 hb => by rw [List.getElem?_set_ne (by omega)]; exact hb
theorem Fam.otherN {z : AV} {tag : Nat → Nat} {B s c : Nat} {J : AH} {y : ABlk} {cells : List AV} {l : List (List I)} (h : Fam z tag B J s cells l) : Fam z (updT tag J.length c) B (J ++ [y]) s cells l :=
 ⟨h.1, fun j v q hv hq => (h.2 j v q hv hq).imp id fun ⟨b, h1, h2, h3, h4⟩ => ⟨b, h1, zad h2, h3, by have := (gI.1 h2).1; unfold updT; rw [if_neg (by omega)]; exact h4⟩⟩
theorem Fam.otherR {z : AV} {tag : Nat → Nat} {B s c b : Nat} {J : AH} {y : ABlk} {cells : List AV} {l : List (List I)} (h : Fam z tag B J s cells l) (hb : tag b = c) (hc : ∀ j, 2 * j + s ≠ c) : Fam z tag B (J.set b y) s cells l :=
 ⟨h.1, fun j v q hv hq => (h.2 j v q hv hq).imp id fun ⟨b', h1, h2, h3, h4⟩ => ⟨b', h1, by rw [List.getElem?_set_ne (by intro e; subst e; exact hc j (h4.symm.trans hb))]; exact h2, h3, h4⟩⟩
theorem Fam.pushN {z : AV} {tag : Nat → Nat} {B s j : Nat} {J : AH} {cells : List AV} {l : List (List I)} {q : List I} {p : I} (h : Fam z tag B J s cells l) (h5 : 5 ≤ J.length) :
  Fam z (updT tag J.length (2 * j + s)) B (J ++ [rowB (q ++ [p])]) s (cells.set j (.ref (B + J.length) (q.length + 1))) (l.set j (q ++ [p])) := by
 refine ⟨by simpa using h.1, fun i v r hv hr => ?_⟩
 by_cases hij : j = i
 ·subst hij
  have h1 := (gI.1 hv).1
  have h2 := (gI.1 hr).1
  simp only [List.length_set] at h1 h2
  rw [List.getElem?_set_self h1] at hv
  rw [List.getElem?_set_self h2] at hr
  cases hv; cases hr
  exact .inr ⟨J.length, by simp, by simp, h5, by simp [updT]⟩
 ·rw [List.getElem?_set_ne hij] at hv hr
  exact (Fam.otherN h).2 i v r hv hr
theorem Fam.pushR {z : AV} {tag : Nat → Nat} {B s j b : Nat} {J : AH} {cells : List AV} {l : List (List I)} {q : List I} {p : I} (h : Fam z tag B J s cells l) (hJ : J[b]? = some (rowB q)) (h5 : 5 ≤ b) (ht : tag b = 2 * j + s) :
  Fam z tag B (J.set b (rowB (q ++ [p]))) s (cells.set j (.ref (B + b) (q.length + 1))) (l.set j (q ++ [p])) := by
 refine ⟨by simpa using h.1, fun i v r hv hr => ?_⟩
 by_cases hij : j = i
 ·subst hij
  have h1 := (gI.1 hv).1
  have h2 := (gI.1 hr).1
  simp only [List.length_set] at h1 h2
  rw [List.getElem?_set_self h1] at hv
  rw [List.getElem?_set_self h2] at hr
  cases hv; cases hr
  exact .inr ⟨b, by simp, zch hJ, h5, ht⟩
 ·rw [List.getElem?_set_ne hij] at hv hr
  refine (h.2 i v r hv hr).imp id fun ⟨b', g1, g2, g3, g4⟩ => ⟨b', g1, ?_, g3, g4⟩
  rw [List.getElem?_set_ne (by intro e; subst e; omega)]; exact g2
theorem Fam.rows {z : AV} {tag : Nat → Nat} {L : Nat} {H J : AH} {cells : List AV} {l : List (List I)} (h : Fam z tag H.length J 1 cells l) (hL : (H ++ J)[L]? = some (.row true 1 cells)) (hz : z = .nilslice ∨ z = .slice [] true) : zkD (H ++ J) L cells l := by
 refine ⟨hL, h.1, fun j v q hv hq => ?_⟩
 rcases h.2 j v q hv hq with (⟨h0, h1⟩ | ⟨h1, _⟩) | ⟨b, h1, h2, _, _⟩
 ·exact .inl ⟨h0, by rw [h1]; exact hz⟩
 ·cases h1
 ·exact .inr ⟨H.length + b, true, h1, by rw [zce]; exact h2⟩
theorem Fam.own {z : AV} {tag : Nat → Nat} {H J : AH} {j : Nat} {v : AV} {q : List I} {cells : List AV} {l : List (List I)} (h : Fam z tag H.length J 1 cells l) (hv : cells[j]? = some v) (hq : l[j]? = some q) (hz : z = .nilslice ∨ z = .slice [] true) : Own (H ++ J) v q := by
 rcases h.2 j v q hv hq with (⟨h0, h1⟩ | ⟨h1, _⟩) | ⟨b, h1, h2, _, _⟩
 ·exact .inl ⟨h0, by rw [h1]; exact hz⟩
 ·cases h1
 ·exact .inr ⟨H.length + b, true, h1, by rw [zce]; exact h2⟩
theorem zex {H : AH} {p : I} {f : Bool} {v : AV} (h : v = .nilslice ∨ v = .slice [] true) : zar tab H 23 v (.slice [iv p] f) = some (.ref H.length 1, H ++ [rowB ([] ++ [p])]) := by
 rcases h with rfl | rfl <;> simp [zar, els, zb7, zbz, okc, rowB]
theorem zmm {H : AH} {p a : I} {f : Bool} : zar tab H 23 (.slice [iv a] true) (.slice [iv p] f) = some (.ref H.length 2, H ++ [rowB ([a] ++ [p])]) := by
 simp [zar, els, zb7, zbz, okc, rowB]
theorem zca {H : AH} {p : I} {q : List I} {b : Nat} {f : Bool} (hn : q.length ≤ 1000000) (hH : H[b]? = some (rowB q)) : zar tab H 23 (.ref b q.length) (.slice [iv p] f) = some (.ref b (q.length + 1), H.set b (rowB (q ++ [p]))) := by
 have := zhj (H := H) (p := p) (l := q.map iv) (b := b) (n := q.length) (f := f) (by simp) (by omega) hH
 rw [this]
 simp [rowB]
theorem zdj {g : FuncId} {captured args : List AV} {next : NxD} {H : AH} {r : AV} (h : ∀ X : AH, zaf E g (args ++ captured) (H ++ X) (.ret r) (H ++ X))
  (kk : next .go r ⟨List.range H.length, [], none, true⟩ H) : zdN E (.func (.func g) [] captured) args next H := by
 refine zhi (List.range H.length) (fun c hc => List.mem_range.1 hc) (fun Hx hx => ?_) kk
 have hle : H.length ≤ Hx.length := by
  rcases Nat.lt_or_ge Hx.length H.length with h | h
  ·have := hx Hx.length (List.mem_range.2 h)
   rw [List.getElem?_eq_none (Nat.le_refl _)] at this
   rw [List.getElem?_eq_getElem h] at this
   cases this
  ·exact h
 have e : Hx = H ++ Hx.drop H.length := by
  apply List.ext_getElem?
  intro c
  by_cases hc : c < H.length
  ·rw [List.getElem?_append_left hc]; exact hx c (List.mem_range.2 hc)
  ·rw [List.getElem?_append_right (by omega), List.getElem?_drop]
   congr 1; omega
 rw [e]; exact h _
theorem zfu {g : FuncId} {captured args : List AV} {next : NxD} {H K : AH} {r : AV} (hl : K.length = H.length) (h : ∀ X : AH, zaf E g (args ++ captured) (H ++ X) (.ret r) (K ++ X))
  (kk : next .go r ⟨List.range H.length, zgb K H.length, none, true⟩ K) : zdN E (.func (.func g) [] captured) args next H := by
 refine ⟨r, List.range H.length, zgb K H.length, ⟨fun c hc => List.mem_range.1 hc, fun p hp => ?_, fun Hx hx => ?_⟩, ?_⟩
 ·unfold zgb at hp
  obtain ⟨i, hi, rfl⟩ := List.mem_map.1 hp
  exact hi
 ·have hle : H.length ≤ Hx.length := by
   rcases Nat.lt_or_ge Hx.length H.length with h | h
   ·have := hx Hx.length (List.mem_range.2 h)
    rw [List.getElem?_eq_none (Nat.le_refl _)] at this
    rw [List.getElem?_eq_getElem h] at this
    cases this
   ·exact h
  have e : Hx = H ++ Hx.drop H.length := by
   apply List.ext_getElem?
   intro c
   by_cases hc : c < H.length
   ·rw [List.getElem?_append_left hc]; exact hx c (List.mem_range.2 hc)
   ·rw [List.getElem?_append_right (by omega), List.getElem?_drop]
    congr 1; omega
  rw [e, zc0 hl]
  exact .inl (by rw [List.nil_append]; exact h _)
 ·have := zc0 (X := []) hl
  rw [List.append_nil, List.append_nil] at this
  rw [this]
  exact kk
def zbi (p : Nat) (l : List (List I)) : List AV := (List.range l.length).map fun j : Nat => .ref (p + 1 + j) (rowN l (j : Int)).length
theorem zit (m : Nat) (q : List I) : ∀ x ∈ q.map iv, noF m x = true := fun x hx => by obtain ⟨y, _, rfl⟩ := List.mem_map.1 hx; simp [noF, noFs]
theorem zka {z : AV} {tag : Nat → Nat} {H J H' : AH} {c0 p : Nat} {co : List AV} {l : List (List I)} (hF : Fam z tag H.length J 0 co l) (h3 : J[c0]? = some (.row true 1 co)) (hc0 : c0 < 5) (h2 : ∀ q ∈ l, 2 ≤ q.length)
  (hd : ∀ j, j ≤ l.length → H[p + j]? = some .dead) (hlen : H'.length = H.length) (g1 : H'[p]? = some (.row true 1 (zbi p l))) (g2 : ∀ (j : Nat) q, l[j]? = some q → H'[p + 1 + j]? = some (rowB q)) (g3 : ∀ c, c < H.length → (c < p ∨ p + l.length < c) → H'[c]? = H[c]?) :
  ∃ σ, zpp H (H ++ J) H' (.ref (H.length + c0) l.length) (.ref p l.length) σ := by
 have hb : ∀ j : Nat, ∃ b, ∀ q, l[j]? = some q → co[j]? = some (.ref (H.length + b) q.length) ∧ J[b]? = some (rowB q) ∧ 5 ≤ b ∧ tag b = 2 * j := by
  intro j
  cases hq : l[j]? with
  | none => exact ⟨0, fun q h => by cases h⟩
  | some q =>
   have hlt := (gI.1 hq).1
   have hv : co[j]? = some (co[j]'(by rw [hF.1]; exact hlt)) := by simp
   have hm := h2 q (List.mem_of_getElem? hq)
   rcases hF.2 j _ q hv hq with (⟨h1, _⟩ | ⟨_, a, h1, _⟩) | ⟨b, h1, h4, h5, h6⟩
   ·rw [h1] at hm; simp at hm
   ·rw [h1] at hm; simp at hm
   ·refine ⟨b, fun q' hq' => ?_⟩
    cases hq'
    exact ⟨by rw [hv, h1], h4, h5, by simpa using h6⟩
 let β : Nat → Nat := fun j => Classical.choose (hb j)
 have hβ : ∀ j q, l[j]? = some q → co[j]? = some (.ref (H.length + β j) q.length) ∧ J[β j]? = some (rowB q) ∧ 5 ≤ β j ∧ tag (β j) = 2 * j := fun j => Classical.choose_spec (hb j)
 have hβ' : ∀ j, j < l.length → J[β j]? = some (rowB l[j]!) ∧ 5 ≤ β j ∧ tag (β j) = 2 * j := fun j hj => by
  have := hβ j l[j] (by simp [hj])
  exact ⟨by rw [this.2.1]; simp [hj], this.2.2⟩
 refine ⟨fun c => if c = p then some (H.length + c0) else if p < c ∧ c ≤ p + l.length then some (H.length + β (c - p - 1)) else none, ?_⟩
 have hpl : ∀ j, j ≤ l.length → p + j < H.length := fun j hj => (gI.1 (hd j hj)).1
 have hcas : ∀ c k, (if c = p then some (H.length + c0) else if p < c ∧ c ≤ p + l.length then some (H.length + β (c - p - 1)) else none) = some k → (c = p ∧ k = H.length + c0) ∨ ∃ j, j < l.length ∧ c = p + 1 + j ∧ k = H.length + β j := by
  intro c k h
  split at h
  ·rename_i e; cases h; exact .inl ⟨e, rfl⟩
  ·split at h
   ·rename_i e; cases h; exact .inr ⟨c - p - 1, by omega, by omega, rfl⟩
   ·cases h
 refine ⟨?_, ?_, hlen, ?_, ?_, ?_⟩
 ·intro c k h
  rcases hcas c k h with ⟨rfl, rfl⟩ | ⟨j, hj, rfl, rfl⟩
  ·have h0 := hd 0 (by omega)
   exact ⟨hpl 0 (by omega), h0, zad h0, by omega⟩
  ·have h0 := hd (1 + j) (by omega)
   have e : p + (1 + j) = p + 1 + j := by omega
   rw [e] at h0
   exact ⟨(gI.1 h0).1, h0, zad h0, by omega⟩
 ·intro c c' k h h'
  rcases hcas c k h with ⟨rfl, rfl⟩ | ⟨j, hj, rfl, rfl⟩ <;> rcases hcas c' _ h' with ⟨h4, h5⟩ | ⟨j', hj', h4, h5⟩
  ·exact h4.symm
  ·have := (hβ' j' hj').2.1; omega
  ·have := (hβ' j hj).2.1; omega
  ·have e1 := (hβ' j hj).2.2
   have e2 := (hβ' j' hj').2.2
   have : β j = β j' := by omega
   rw [this] at e1
   omega
 ·intro c hc h
  have hn : c < p ∨ p + l.length < c := by
   split at h
   ·cases h
   ·split at h
    ·cases h
    ·omega
  exact ⟨List.getElem?_append_left hc, g3 c hc hn⟩
 ·intro c k h
  rcases hcas c k h with ⟨rfl, rfl⟩ | ⟨j, hj, rfl, rfl⟩
  ·refine ⟨true, 1, co, zbi c l, by rw [zce]; exact h3, g1, by simp [zbi, hF.1], fun i x x' hx hx' => ?_⟩
   have hlt : i < l.length := by rw [← hF.1]; exact (gI.1 hx).1
   have hq : l[i]? = some l[i] := by simp
   obtain ⟨e1, _, e3, _⟩ := hβ i _ hq
   rw [hx] at e1; cases e1
   have e2 : (zbi c l)[i]? = some (.ref (c + 1 + i) l[i].length) := by simp [zbi, hlt, rowN]
   rw [hx'] at e2; cases e2
   refine ⟨rfl, fun j a a' ha ha' => ?_⟩
   have hj0 : j = 0 := by have := (gI.1 ha).1; simp [AV.cells] at this; omega
   subst hj0
   simp [AV.cells] at ha ha'
   subst ha; subst ha'
   refine .ref (b := c + 1 + i) (k := H.length + β i) ?_ (by have := hpl (1 + i) (by omega); omega)
   rw [if_neg (by omega), if_pos (by omega), show c + 1 + i - c - 1 = i by omega]
  ·have hq : l[j]? = some l[j] := by simp
   obtain ⟨_, e2, _, _⟩ := hβ j _ hq
   refine ⟨true, 2, l[j].map iv, l[j].map iv, by rw [zce]; exact e2, g2 j _ hq, rfl, fun i x x' hx hx' => ?_⟩
   rw [hx] at hx'; cases hx'
   refine ⟨rfl, fun i a a' ha ha' => ?_⟩
   rw [ha] at ha'; cases ha'
   have := zit H.length l[j] x (List.mem_of_getElem? hx)
   exact .old (zat (zbL.2 this) ha)
 ·exact .ref (b := p) (k := H.length + c0) (by rw [if_pos rfl]) (hpl 0 (by omega))
def inC (x : List I) (n i : Nat) : List AV := (List.range n).map fun j => if j < i then .slice [iv (atN x j)] true else .nilslice
theorem zqf (x : List I) (n : Nat) : inC x n 0 = List.replicate n .nilslice := by
 unfold inC
 apply List.ext_getElem
 ·simp
 ·intro i h1 h2; simp
theorem ziT (x : List I) (n i : Nat) : (inC x n i).length = n := by simp [inC]
theorem zg6 {x : List I} {n i j : Nat} (h : j < n) : (inC x n i)[j]? = some (if j < i then .slice [iv (atN x j)] true else .nilslice) := by
 unfold inC
 rw [List.getElem?_map, List.getElem?_range h]; rfl
theorem zsu {x : List I} {n i : Nat} (h : i < n) : (inC x n i).set i (.slice [iv (atN x i)] true) = inC x n (i + 1) := by
 apply List.ext_getElem?
 intro j
 by_cases hj : j < n
 ·by_cases hij : i = j
  ·subst hij
   rw [List.getElem?_set_self (by rw [ziT]; exact h), zg6 h, if_pos (by omega)]
  ·rw [List.getElem?_set_ne hij, zg6 hj, zg6 hj]
   by_cases h1 : j < i
   ·rw [if_pos h1, if_pos (by omega)]
   ·rw [if_neg h1, if_neg (by omega)]
 ·rw [List.getElem?_eq_none (by rw [List.length_set, ziT]; omega), List.getElem?_eq_none (by rw [ziT]; omega)]
theorem zl8 {z : AV} {tag : Nat → Nat} {B : Nat} {J : AH} (x : List I) (n : Nat) : Fam z tag B J 0 (inC x n n) ((List.range n).map fun i => [atN x i]) := by
 refine ⟨by simp [inC], fun j v q hv hq => .inl (.inr ⟨rfl, atN x j, ?_⟩)⟩
 have hj : j < n := by have := (gI.1 hq).1; simpa using this
 rw [zg6 hj, if_pos hj] at hv
 rw [List.getElem?_map, List.getElem?_range hj] at hq
 cases hv; cases hq
 exact ⟨rfl, rfl⟩
theorem zrg {z : AV} {tag : Nat → Nat} {B : Nat} {J : AH} (m : Nat) : Fam z tag B J 1 (List.replicate m z) (List.replicate m []) := by
 refine ⟨by simp, fun j u q hu hq => .inl (.inl ⟨List.eq_of_mem_replicate (List.mem_of_getElem? hq), ?_⟩)⟩
 exact List.eq_of_mem_replicate (List.mem_of_getElem? hu)
structure MemX (z : AV) (T : Tp) (t : I) (B : Nat) (J : AH) (tag : Nat → Nat) (co cl : List AV) (out l : List (List I)) : Prop where
 h0 : J[0]? = some (.row true 9 [algA])
 h1 : J[1]? = some (.row true 3 [tpA T])
 h2 : J[2]? = some (.row true 2 [iv t])
 h3 : J[3]? = some (.row true 1 co)
 h4 : J[4]? = some (.row true 1 cl)
 ho : Fam z tag B J 0 co out
 hl : Fam z tag B J 1 cl l
theorem MemX.len {z : AV} {T : Tp} {t : I} {B : Nat} {J : AH} {tag : Nat → Nat} {co cl : List AV} {out l : List (List I)} (h : MemX z T t B J tag co cl out l) : 5 ≤ J.length := (gI.1 h.h4).1
theorem MemX.app {z : AV} {T : Tp} {t : I} {B : Nat} {J : AH} {tag : Nat → Nat} {co cl : List AV} {out l : List (List I)} (h : MemX z T t B J tag co cl out l) (K : AH) : MemX z T t B (J ++ K) tag co cl out l :=
 ⟨zad h.h0, zad h.h1, zad h.h2, zad h.h3, zad h.h4, h.ho.app K, h.hl.app K⟩
theorem MemX.lN {z : AV} {T : Tp} {t : I} {B i : Nat} {J : AH} {tag : Nat → Nat} {co cl : List AV} {out l : List (List I)} {q : List I} {p : I} (h : MemX z T t B J tag co cl out l) :
  MemX z T t B ((J ++ [rowB (q ++ [p])]).set 4 (.row true 1 (cl.set i (.ref (B + J.length) (q.length + 1))))) (updT tag J.length (2 * i + 1)) co (cl.set i (.ref (B + J.length) (q.length + 1))) out (l.set i (q ++ [p])) := by
 have hJ := h.len
 refine ⟨?_, ?_, ?_, ?_, ?_, ?_, ?_⟩
 ·rw [List.getElem?_set_ne (by omega)]; exact zad h.h0
 ·rw [List.getElem?_set_ne (by omega)]; exact zad h.h1
 ·rw [List.getElem?_set_ne (by omega)]; exact zad h.h2
 ·rw [List.getElem?_set_ne (by omega)]; exact zad h.h3
 ·rw [List.getElem?_set_self (by simp; omega)]
 ·exact h.ho.otherN.set (by omega)
 ·exact (h.hl.pushN (by omega)).set (by omega)
theorem MemX.lR {z : AV} {T : Tp} {t : I} {B i b : Nat} {J : AH} {tag : Nat → Nat} {co cl : List AV} {out l : List (List I)} {q : List I} {p : I} (h : MemX z T t B J tag co cl out l) (hb : J[b]? = some (rowB q)) (h5 : 5 ≤ b) (ht : tag b = 2 * i + 1) :
  MemX z T t B ((J.set b (rowB (q ++ [p]))).set 4 (.row true 1 (cl.set i (.ref (B + b) (q.length + 1))))) tag co (cl.set i (.ref (B + b) (q.length + 1))) out (l.set i (q ++ [p])) := by
 have hJ := h.len
 refine ⟨?_, ?_, ?_, ?_, ?_, ?_, ?_⟩
 ·rw [List.getElem?_set_ne (by omega), List.getElem?_set_ne (by omega)]; exact h.h0
 ·rw [List.getElem?_set_ne (by omega), List.getElem?_set_ne (by omega)]; exact h.h1
 ·rw [List.getElem?_set_ne (by omega), List.getElem?_set_ne (by omega)]; exact h.h2
 ·rw [List.getElem?_set_ne (by omega), List.getElem?_set_ne (by omega)]; exact h.h3
 ·rw [List.getElem?_set_self (by simp; omega)]
 ·exact (h.ho.otherR ht (fun j => by omega)).set (by omega)
 ·exact (h.hl.pushR hb h5 ht).set (by omega)
theorem MemX.oN {z : AV} {T : Tp} {t : I} {B i : Nat} {J : AH} {tag : Nat → Nat} {co cl : List AV} {out l : List (List I)} {q : List I} {p : I} (h : MemX z T t B J tag co cl out l) :
  MemX z T t B ((J ++ [rowB (q ++ [p])]).set 3 (.row true 1 (co.set i (.ref (B + J.length) (q.length + 1))))) (updT tag J.length (2 * i + 0)) (co.set i (.ref (B + J.length) (q.length + 1))) cl (out.set i (q ++ [p])) l := by
 have hJ := h.len
 refine ⟨?_, ?_, ?_, ?_, ?_, ?_, ?_⟩
 ·rw [List.getElem?_set_ne (by omega)]; exact zad h.h0
 ·rw [List.getElem?_set_ne (by omega)]; exact zad h.h1
 ·rw [List.getElem?_set_ne (by omega)]; exact zad h.h2
 ·rw [List.getElem?_set_self (by simp; omega)]
 ·rw [List.getElem?_set_ne (by omega)]; exact zad h.h4
 ·exact (h.ho.pushN (by omega)).set (by omega)
 ·exact h.hl.otherN.set (by omega)
theorem MemX.oR {z : AV} {T : Tp} {t : I} {B i b : Nat} {J : AH} {tag : Nat → Nat} {co cl : List AV} {out l : List (List I)} {q : List I} {p : I} (h : MemX z T t B J tag co cl out l) (hb : J[b]? = some (rowB q)) (h5 : 5 ≤ b) (ht : tag b = 2 * i + 0) :
  MemX z T t B ((J.set b (rowB (q ++ [p]))).set 3 (.row true 1 (co.set i (.ref (B + b) (q.length + 1))))) tag (co.set i (.ref (B + b) (q.length + 1))) cl (out.set i (q ++ [p])) l := by
 have hJ := h.len
 refine ⟨?_, ?_, ?_, ?_, ?_, ?_, ?_⟩
 ·rw [List.getElem?_set_ne (by omega), List.getElem?_set_ne (by omega)]; exact h.h0
 ·rw [List.getElem?_set_ne (by omega), List.getElem?_set_ne (by omega)]; exact h.h1
 ·rw [List.getElem?_set_ne (by omega), List.getElem?_set_ne (by omega)]; exact h.h2
 ·rw [List.getElem?_set_self (by simp; omega)]
 ·rw [List.getElem?_set_ne (by omega), List.getElem?_set_ne (by omega)]; exact h.h4
 ·exact (h.ho.pushR hb h5 ht).set (by omega)
 ·exact (h.hl.otherR ht (fun j => by omega)).set (by omega)
def fK (H : AH) (n m order k : Nat) (fr : AFr) : Prop := fr 5 = .ptr H.length 1 0 0 ∧ fr 6 = .ptr (H.length + 1) 1 0 0 ∧ fr 8 = .ptr (H.length + 2) 1 0 0 ∧ fr 11 = .ref (H.length + 3) n ∧ fr 12 = .ref (H.length + 4) m ∧ fr 40 = .int .i64 order ∧ fr 41 = .int .i64 k ∧ k ≤ order
def SxK (T : Tp) (x : List I) (t : I) (order : Nat) (H : AH) (k : Nat) (fr : AFr) (H' : AH) : Prop :=
 fK H T.n T.L.length order k fr ∧ ∃ J tag co cl, H' = H ++ J ∧ MemX .nilslice T t H.length J tag co cl (expS T x t k).2 (expS T x t k).1
def SxL (T : Tp) (x : List I) (t : I) (order : Nat) (H : AH) (k i : Nat) (fr : AFr) (H' : AH) : Prop :=
 fK H T.n T.L.length order k fr ∧ fr 14 = .int .i64 k ∧ fr 45 = .slice (T.L.map insA) false ∧ fr 46 = .int .i64 T.L.length ∧ fr 47 = .int .i64 i ∧ i ≤ T.L.length ∧
 ∃ J tag co cl, H' = H ++ J ∧ MemX .nilslice T t H.length J tag co cl (expS T x t k).2 (zcb T.L (expS T x t k).2 t k (expS T x t k).1 i)
def SxO (T : Tp) (x : List I) (t : I) (order : Nat) (H : AH) (k i : Nat) (fr : AFr) (H' : AH) : Prop :=
 fK H T.n T.L.length order k fr ∧ fr 14 = .int .i64 k ∧ fr 92 = outA T.out ∧ fr 93 = .int .i64 T.out.length ∧ fr 94 = .int .i64 i ∧ i ≤ T.out.length ∧
 ∃ J tag co cl, H' = H ++ J ∧ MemX .nilslice T t H.length J tag co cl (zcG T (expS T x t (k + 1)).1 k (expS T x t k).2 i) (expS T x t (k + 1)).1
def SxI (T : Tp) (x : List I) (t : I) (order : Nat) (H : AH) (i : Nat) (fr : AFr) (H' : AH) : Prop :=
 fr 2 = bx x ∧ fr 4 = .int .i64 order ∧ fr 5 = .ptr H.length 1 0 0 ∧ fr 6 = .ptr (H.length + 1) 1 0 0 ∧ fr 8 = .ptr (H.length + 2) 1 0 0 ∧ fr 11 = .ref (H.length + 3) T.n ∧ fr 12 = .ref (H.length + 4) T.L.length ∧ fr 27 = .int .i64 T.n ∧ fr 28 = .int .i64 i ∧ i ≤ T.n ∧
 H' = H ++ [.row true 9 [algA], .row true 3 [tpA T], .row true 2 [iv t], .row true 1 (inC x T.n i), .row true 1 (List.replicate T.L.length .nilslice)]
set_option maxHeartbeats 4000000 in
theorem zrO (T : Tp) (x : List I) (t : I) (order : Nat) (hT : tpOk T) (hx : allV x) (hxn : x.length = T.n) (ht : vB t = true) (ho : 1 ≤ order ∧ order ≤ 1000) (H H' : AH) (p : Nat)
  (hd : ∀ j, j ≤ T.n → H[p + j]? = some .dead) (hlen : H'.length = H.length) (g1 : H'[p]? = some (.row true 1 (zbi p (za6 T x t order)))) (g2 : ∀ (j : Nat) q, (za6 T x t order)[j]? = some q → H'[p + 1 + j]? = some (rowB q)) (g3 : ∀ c, c < H.length → (c < p ∨ p + T.n < c) → H'[c]? = H[c]?) :
  zaf E 227 [algA, tpA T, bx x, iv t, .int .i64 order] H (.ret (.ref p T.n)) H' := by
 refine ze4 zah zai Tryz.func227 rfl (by rfl) Tryz.ntmps227 (by kernel_rfl) (by simp) ?_
 have hsm := hT.small
 simp [tpA, algA, fnA]
 refine zaY (by omega) ?_
 simp
 refine zaY (by omega) ?_
 simp
 refine endD [] (by rfl) (by simp [okW, note, Eff.triv, Eff.wr, Eff.none, upTo, newAt]) ?_
 simp
 refine zag (SxI T x t order H) (fun i => T.n - i) 0 ⟨by simp, by simp, by simp, by simp, by simp, by simp [bx], by simp, by simp, by simp, by omega, by rw [zqf]; simp [algA, tpA, fnA]⟩ ?_
 rintro i fr H1 ⟨f2, f4, f5, f6, f8, f11, f12, f27, f28, hi, rfl⟩
 simp [f27, f28]
 refine zak (fun hc => ?_) (fun hc => ?_)
 ·have hlt : i < T.n := by simpa using hc
  obtain ⟨q, hq⟩ := zaj (l := x) (i := i) (by omega)
  have hqE : ∀ h, x[i]'h = q := fun h => (gI.1 hq).2
  have hqa : atN x i = q := by simp [atN, hq]
  have w2 : IntKind.i64.wrap ((i : Int) + 1) = ((i + 1 : Nat) : Int) := by rw [zae (by omega) (by omega)]; omega
  have hs := zsu (x := x) hlt
  have hl := ziT x T.n i
  have hg := zg6 (x := x) (i := i) hlt
  rw [if_neg (by omega)] at hg
  have hgE : ∀ h, (inC x T.n i)[i]'h = .nilslice := fun h => (gI.1 hg).2
  rw [hqa] at hs
  simp only [zlf] at hs
  simp [f2, f11, f12, f28, bx, hq, hqE, hl, hlt, hg, hgE, hs, w2]
  exact ⟨i + 1, by show T.n - (i + 1) < T.n - i; omega, by simp [f2, bx], by simp [f4], by simp [f5], by simp [f6], by simp [f8], by simp [f11], by simp [f12], by simp [f27], by simp, by omega, by simp⟩
 ·have hin : i = T.n := by have : ¬ i < T.n := by simpa using hc
                           omega
  subst hin
  simp [f4]
  refine zag (SxK T x t order H) (fun k => order - k) 0 ⟨⟨by simp [f5], by simp [f6], by simp [f8], by simp [f11], by simp [f12], by simp, by simp, by omega⟩, _, fun _ => 0, _, _, rfl, ⟨rfl, rfl, rfl, rfl, rfl, zl8 x T.n, zrg _⟩⟩ ?_
  clear f2 f4 f5 f6 f8 f11 f12 f27 f28
  rintro k fr H1 ⟨⟨f5, f6, f8, f11, f12, f40, f41, hk⟩, J, tag, co, cl, rfl, hM⟩
  have hJl := hM.len
  have h1 := hM.h1
  simp only [tpA] at h1
  simp [f40, f41]
  refine zak (fun hc => ?_) (fun hc => ?_)
  ·have hklt : k < order := by simpa using hc
   simp [f6, h1]
   have wk : IntKind.i64.wrap ((k : Int) + 1) = ((k + 1 : Nat) : Int) := by rw [zae (by omega) (by omega)]; omega
   refine zag (SxL T x t order H k) (fun i => T.L.length - i) 0 ⟨⟨by simp [f5], by simp [f6], by simp [f8], by simp [f11], by simp [f12], by simp [f40], by simp [f41], by omega⟩, by simp [f41], by simp, by simp, by simp, by omega, J, tag, co, cl, rfl, hM⟩ ?_
   clear f5 f6 f8 f11 f12 f40 f41 hM h1 hJl
   clear J tag co cl
   rintro i fr H1 ⟨⟨f5, f6, f8, f11, f12, f40, f41, _⟩, f14, f45, f46, f47, hi, J, tag, co, cl, rfl, hM⟩
   have hJl := hM.len
   simp [f46, f47]
   obtain ⟨e1, e2⟩ := zaX hT hx ht k
   have hrl := zee hT ht e1 e2.val i hi
   refine zak (fun hc => ?_) (fun hc => ?_)
   ·have hlt : i < T.L.length := by simpa using hc
    obtain ⟨y, hy⟩ := zaj hlt
    have hyE : ∀ h, T.L[i]'h = y := fun h => (gI.1 hy).2
    have hins := hT.ins i y hy
    have w2 : IntKind.i64.wrap ((i : Int) + 1) = ((i + 1 : Nat) : Int) := by rw [zae (by omega) (by omega)]; omega
    have hnext := zcy (out := (expS T x t k).2) (l := (expS T x t k).1) (t := t) (k := k) hy
    have hfin : ∀ (J' : AH) (tag' : Nat → Nat) (co' cl' : List AV), MemX .nilslice T t H.length J' tag' co' cl' (expS T x t k).2 (zcb T.L (expS T x t k).2 t k (expS T x t k).1 (i + 1)) → ∀ fr' : AFr, fK H T.n T.L.length order k fr' → fr' 14 = .int .i64 k → fr' 45 = .slice (T.L.map insA) false → fr' 46 = .int .i64 T.L.length → fr' 47 = .int .i64 (i + 1 : Nat) → zkG (SxL T x t order H k) (fun i => T.L.length - i) i fr' (H ++ J') :=
     fun J' tag' co' cl' hM' fr' g1 g2 g3 g4 g5 => ⟨i + 1, by show T.L.length - (i + 1) < T.L.length - i; omega, g1, g2, g3, g4, g5, by omega, J', tag', co', cl', rfl, hM'⟩
    generalize hL : zcb T.L (expS T x t k).2 t k (expS T x t k).1 i = l at *
    generalize hO : (expS T x t k).2 = out at *
    rw [hnext] at hfin
    have hil : i < l.length := by rw [hrl.len]; exact hlt
    obtain ⟨q, hq⟩ := zaj hil
    have hqr : rowN l (i : Int) = q := zbc hq
    have hqk : q.length = k := by have := hrl.row i hlt; rw [hqr, if_neg (by omega)] at this; exact this
    obtain ⟨v, hv⟩ := zaj (l := cl) (i := i) (by rw [hM.hl.1]; exact hil)
    have hvE : ∀ h, cl[i]'h = v := fun h => (gI.1 hv).2
    have hcll : cl.length = T.L.length := by rw [hM.hl.1, hrl.len]
    obtain ⟨o, a, b, c⟩ := y
    simp [f45, f47, hy, hyE, insA]
    have hM2 := hM.app [.row true 5 [.agg [.int .i64 o, .int .i64 a, .int .i64 b, .int .i64 c.1, .int .i64 c.2]]]
    have h16 : (J ++ [ABlk.row true 5 [.agg [.int .i64 o, .int .i64 a, .int .i64 b, .int .i64 c.1, .int .i64 c.2]]])[J.length]? = some (.row true 5 [.agg [.int .i64 o, .int .i64 a, .int .i64 b, .int .i64 c.1, .int .i64 c.2]]) := by simp
    generalize hJ2 : J ++ [ABlk.row true 5 [.agg [.int .i64 o, .int .i64 a, .int .i64 b, .int .i64 c.1, .int .i64 c.2]]] = J2 at *
    have hJ2l := hM2.len
    have hJ2n : J2 ≠ [] := by rintro rfl; simp at hJ2l
    have hJ2J : J2.length = J.length + 1 := by rw [← hJ2]; simp
    have m2 := hM2.h2
    have m3 := hM2.h3
    have m4 := hM2.h4
    simp only [zlf] at m2
    refine zak (fun ho2 => ?_) (fun ho2 => ?_)
    ·have ho2 : o = 2 := by simpa using ho2
     subst ho2
     have hins : 0 ≤ a ∧ a < T.n := by rcases hins with h | h | h | h | h <;> simp only at h <;> omega
     obtain ⟨ka, rfl⟩ : ∃ ka : Nat, a = ka := ⟨a.toNat, by omega⟩
     obtain ⟨r, hr⟩ := zaj (l := out) (i := ka) (by rw [e2.len]; omega)
     have hrr : rowN out (ka : Int) = r := zbc hr
     have hrk : r.length = k + 1 := by have := e2.row ka (by omega); rw [hrr, if_neg (by omega)] at this; exact this
     obtain ⟨u, hu⟩ := zaj (l := co) (i := ka) (by rw [hM.ho.1, e2.len]; omega)
     have huE : ∀ h, co[ka]'h = u := fun h => (gI.1 hu).2
     have hcol : co.length = T.n := by rw [hM.ho.1, e2.len]
     obtain ⟨z, hz⟩ := zaj (l := r) (i := k) (by omega)
     have hzE : ∀ h, r[k]'h = z := fun h => (gI.1 hz).2
     have hcv : zfr ⟨2, ka, b, c⟩ out l t k i = z := by simp [zfr, hrr, atN, hz]
     rw [hcv, hqr] at hfin
     have hka : ka < T.n := by omega
     have hkk : (k : Int) < (k : Int) + 1 := by omega
     have hkn : k < k + 1 := by omega
     have hoF := hM2.ho.2 ka u r hu hr
     have hlF := hM2.hl.2 i v q hv hq
     rcases hoF with (⟨h0, _⟩ | ⟨_, z', h0, hu'⟩) | ⟨bo, hu', g2o, g5o, gto⟩
     ·rw [h0] at hrk; simp at hrk
     ·have hk0 : k = 0 := by rw [h0] at hrk; simpa using hrk.symm
      subst hk0
      have hzz : z' = z := by rw [h0] at hz; simpa using hz
      subst hzz
      subst hu'
      rcases hlF with (hn | ⟨hn, _⟩) | ⟨bl, rfl, g2l, g5l, gtl⟩
      ·obtain ⟨h0q, rfl⟩ := hn
       subst h0q
       simp [f11, f12, f14, h16, m3, m4, hv, hvE, hu, huE, hcll, hcol, hlt, hka]
       refine bind_some (zex (.inl rfl)) ?_
       simp [f11, f12, f14, hcll, hlt, hv, hvE, m4, zad m4]
       refine endD [(4, 17), (5, 17), (16, 17)] (by rfl) (by simp [okW, note, Eff.triv, Eff.wr, Eff.none, upTo, newAt]; omega) ?_
       simp [f47, w2]
       exact hfin _ _ _ _ (hM2.lN (i := i) (q := []) (p := z')) _ ⟨by simp [f5], by simp [f6], by simp [f8], by simp [f11], by simp [f12], by simp [f40], by simp [f41], by omega⟩ (by simp [f14]) (by simp [f45]) (by simp [f46]) (by simp)
      ·cases hn
      ·simp [f11, f12, f14, h16, m3, m4, hv, hvE, hu, huE, hcll, hcol, hlt, hka]
       refine bind_some (zca (by omega) (by simpa using g2l)) ?_
       have m4b : (J2.set bl (rowB (q ++ [z'])))[4]? = some (.row true 1 cl) := by rw [List.getElem?_set_ne (by omega)]; exact m4
       have hne : bl ≠ J.length := by rintro rfl; rw [h16] at g2l; simp [rowB] at g2l
       simp [f11, f12, f14, hcll, hlt, hv, hvE, m4b]
       refine endD [(4, 17), (5, 17), (16, 17)] (by rfl) (by simp [okW, note, Eff.triv, Eff.wr, Eff.none, upTo, newAt]; omega) ?_
       simp [f47, w2]
       exact hfin _ _ _ _ (hM2.lR (i := i) (q := q) (p := z') g2l g5l gtl) _ ⟨by simp [f5], by simp [f6], by simp [f8], by simp [f11], by simp [f12], by simp [f40], by simp [f41], by omega⟩ (by simp [f14]) (by simp [f45]) (by simp [f46]) (by simp)
     ·subst hu'
      have g2o' := g2o
      have hbo := (gI.1 g2o).1
      simp only [rowB] at g2o'
      rcases hlF with (hn | ⟨hn, _⟩) | ⟨bl, rfl, g2l, g5l, gtl⟩
      ·obtain ⟨h0q, rfl⟩ := hn
       subst h0q
       simp [f11, f12, f14, h16, m3, m4, hv, hvE, hu, huE, hcll, hcol, hlt, hka, g2o', hz, hzE, hrk, hkk, hkn]
       refine bind_some (zex (.inl rfl)) ?_
       simp [f11, f12, f14, hcll, hlt, hv, hvE, m4, zad m4]
       refine endD [(4, 17), (5, 17), (16, 17)] (by rfl) (by simp [okW, note, Eff.triv, Eff.wr, Eff.none, upTo, newAt]; omega) ?_
       simp [f47, w2]
       exact hfin _ _ _ _ (hM2.lN (i := i) (q := []) (p := z)) _ ⟨by simp [f5], by simp [f6], by simp [f8], by simp [f11], by simp [f12], by simp [f40], by simp [f41], by omega⟩ (by simp [f14]) (by simp [f45]) (by simp [f46]) (by simp)
      ·cases hn
      ·simp [f11, f12, f14, h16, m3, m4, hv, hvE, hu, huE, hcll, hcol, hlt, hka, g2o', hz, hzE, hrk, hkk, hkn]
       refine bind_some (zca (by omega) (by simpa using g2l)) ?_
       have m4b : (J2.set bl (rowB (q ++ [z])))[4]? = some (.row true 1 cl) := by rw [List.getElem?_set_ne (by omega)]; exact m4
       have hne : bl ≠ J.length := by rintro rfl; rw [h16] at g2l; simp [rowB] at g2l
       have hne2 : bo ≠ bl := by rintro rfl; omega
       simp [f11, f12, f14, hcll, hlt, hv, hvE, m4b]
       refine endD [(4, 17), (5, 17), (16, 17)] (by rfl) (by simp [okW, note, Eff.triv, Eff.wr, Eff.none, upTo, newAt]; omega) ?_
       simp [f47, w2]
       exact hfin _ _ _ _ (hM2.lR (i := i) (q := q) (p := z) g2l g5l gtl) _ ⟨by simp [f5], by simp [f6], by simp [f8], by simp [f11], by simp [f12], by simp [f40], by simp [f41], by omega⟩ (by simp [f14]) (by simp [f45]) (by simp [f46]) (by simp)
    ·have ho2 : o ≠ 2 := by simpa using ho2
     have hnx : zlR ⟨o, a, b, c⟩ l q.length := by
      have hrow : ∀ z : Int, 0 ≤ z → z < i → (rowN l z).length = q.length + 1 := by
       intro z h1 h2
       obtain ⟨kz, rfl⟩ : ∃ kz : Nat, z = kz := ⟨z.toNat, by omega⟩
       have := hrl.row kz (by omega)
       rw [if_pos (by omega)] at this
       rw [this, hqk]
      rcases hins with h | h | h | h | h <;> simp only at h
      ·exact .inl h
      ·exact absurd h.1 ho2
      ·exact .inr (.inl h)
      ·exact .inr (.inr (.inl ⟨h.1, h.2.1, h.2.2.1, hrow _ h.2.2.1 h.2.2.2.1⟩))
      ·exact .inr (.inr (.inr ⟨h.1, h.2.1, h.2.2.1, h.2.2.2.2.1, hrow _ h.2.2.1 h.2.2.2.1, hrow _ h.2.2.2.2.1 h.2.2.2.2.2⟩))
     have hcv : zfr ⟨o, a, b, c⟩ out l t k i = za1 ⟨o, a, b, c⟩ l q t := by simp [zfr, ho2, hqr]
     rw [hcv, hqr] at hfin
     have hlF := hM2.hl.2 i v q hv hq
     have hqv : allV q := hrl.val q (List.mem_of_getElem? hq)
     have hS := fun X : AH => sNext ⟨o, a, b, c⟩ (H.length + 4) cl l q v t hnx hrl.val hqv ht (by omega) (H ++ (J2 ++ X)) ((hM2.app X).hl.rows (by rw [zce]; exact zad m4) (.inl rfl)) ((hM2.app X).hl.own hv hq (.inl rfl))
     rw [hrl.len] at hS
     have m0 := hM2.h0
     simp only [algA, fnA] at m0
     rcases hlF with (hn | ⟨hn, _⟩) | ⟨bl, rfl, g2l, g5l, gtl⟩
     ·obtain ⟨h0q, rfl⟩ := hn
      subst h0q
      simp [f5, f8, f11, f12, f14, h16, m0, m2, m4, hv, hvE, hcll, hlt]
      refine zdj (fun X => by simpa [algA, fnA, insA] using hS X) ?_
      generalize za1 ⟨o, a, b, c⟩ l [] t = z at *
      simp
      refine bind_some (zex (.inl rfl)) ?_
      simp [f11, f12, f14, hcll, hlt, hv, hvE, m4, zad m4]
      refine endD [(4, 18), (5, 18), (11, 18), (12, 18), (14, 18), (17, 18), (14, 16)] (by rfl) (by simp [okW, note, Eff.triv, Eff.wr, Eff.none, upTo, newAt, hJ2n]; omega) ?_
      simp [f47, w2]
      exact hfin _ _ _ _ (hM2.lN (i := i) (q := []) (p := z)) _ ⟨by simp [f5], by simp [f6], by simp [f8], by simp [f11], by simp [f12], by simp [f40], by simp [f41], by omega⟩ (by simp [f14]) (by simp [f45]) (by simp [f46]) (by simp)
     ·cases hn
     ·simp [f5, f8, f11, f12, f14, h16, m0, m2, m4, hv, hvE, hcll, hlt]
      refine zdj (fun X => by simpa [algA, fnA, insA] using hS X) ?_
      generalize za1 ⟨o, a, b, c⟩ l q t = z at *
      simp
      refine bind_some (zca (by omega) (by simpa using g2l)) ?_
      have m4b : (J2.set bl (rowB (q ++ [z])))[4]? = some (.row true 1 cl) := by rw [List.getElem?_set_ne (by omega)]; exact m4
      have hne : bl ≠ J.length := by rintro rfl; rw [h16] at g2l; simp [rowB] at g2l
      simp [f11, f12, f14, hcll, hlt, hv, hvE, m4b]
      refine endD [(4, 18), (5, 18), (11, 18), (12, 18), (14, 18), (17, 18), (14, 16)] (by rfl) (by simp [okW, note, Eff.triv, Eff.wr, Eff.none, upTo, newAt, hJ2n]; omega) ?_
      simp [f47, w2]
      exact hfin _ _ _ _ (hM2.lR (i := i) (q := q) (p := z) g2l g5l gtl) _ ⟨by simp [f5], by simp [f6], by simp [f8], by simp [f11], by simp [f12], by simp [f40], by simp [f41], by omega⟩ (by simp [f14]) (by simp [f45]) (by simp [f46]) (by simp)
   ·have hin : i = T.L.length := by have : ¬ i < T.L.length := by simpa using hc
                                    omega
    subst hin
    have h1 := hM.h1
    simp only [tpA] at h1
    simp [f6, h1, outA]
    refine zag (SxO T x t order H k) (fun i => T.out.length - i) 0 ⟨⟨by simp [f5], by simp [f6], by simp [f8], by simp [f11], by simp [f12], by simp [f40], by simp [f41], by omega⟩, by simp [f14], by simp [outA], by simp, by simp, by omega, J, tag, co, cl, rfl, hM⟩ ?_
    clear f5 f6 f8 f11 f12 f40 f41 f14 f45 f46 f47 hM h1 hJl hrl
    clear J tag co cl
    rintro i fr H1 ⟨⟨f5, f6, f8, f11, f12, f40, f41, _⟩, f14, f92, f93, f94, hi, J, tag, co, cl, rfl, hM⟩
    have hJl := hM.len
    simp [f93, f94]
    obtain ⟨e3, e4⟩ := zaX hT hx ht (k + 1)
    have hro := ze2 hT e3.val e2 i (by rw [← hT.len]; exact hi)
    refine zak (fun hc => ?_) (fun hc => ?_)
    ·have hlt : i < T.out.length := by simpa using hc
     obtain ⟨y, hy⟩ := zaj hlt
     have hyE : ∀ h, T.out[i]'h = y := fun h => (gI.1 hy).2
     have hyl := hT.out y (List.mem_of_getElem? hy)
     have hltn : i < T.n := by rw [← hT.len]; exact hlt
     have w2 : IntKind.i64.wrap ((i : Int) + 1) = ((i + 1 : Nat) : Int) := by rw [zae (by omega) (by omega)]; omega
     have hnext := zcx (l := (expS T x t (k + 1)).1) (out := (expS T x t k).2) (k := k) hy
     have hfin : ∀ (J' : AH) (tag' : Nat → Nat) (co' cl' : List AV), MemX .nilslice T t H.length J' tag' co' cl' (zcG T (expS T x t (k + 1)).1 k (expS T x t k).2 (i + 1)) (expS T x t (k + 1)).1 → ∀ fr' : AFr, fK H T.n T.L.length order k fr' → fr' 14 = .int .i64 k → fr' 92 = outA T.out → fr' 93 = .int .i64 T.out.length → fr' 94 = .int .i64 (i + 1 : Nat) → zkG (SxO T x t order H k) (fun i => T.out.length - i) i fr' (H ++ J') :=
      fun J' tag' co' cl' hM' fr' g1 g2 g3 g4 g5 => ⟨i + 1, by show T.out.length - (i + 1) < T.out.length - i; omega, g1, g2, g3, g4, g5, by omega, J', tag', co', cl', rfl, hM'⟩
     generalize hL : (expS T x t (k + 1)).1 = l at *
     generalize hO : zcG T l k (expS T x t k).2 i = out at *
     rw [hnext] at hfin
     have hil : i < out.length := by rw [hro.len]; exact hltn
     obtain ⟨q, hq⟩ := zaj hil
     have hqr : rowN out (i : Int) = q := zbc hq
     have hqk : q.length = k + 1 := by have := hro.row i hltn; rw [hqr, if_neg (by omega)] at this; exact this
     obtain ⟨v, hv⟩ := zaj (l := co) (i := i) (by rw [hM.ho.1]; exact hil)
     have hvE : ∀ h, co[i]'h = v := fun h => (gI.1 hv).2
     have hcol : co.length = T.n := by rw [hM.ho.1, hro.len]
     obtain ⟨r, hr⟩ := zaj (l := l) (i := y) (by rw [e3.len]; exact hyl)
     have hrr : rowN l (y : Int) = r := zbc hr
     have hrk : r.length = k + 1 := by have := e3.row y hyl; rw [hrr, if_neg (by omega)] at this; exact this
     obtain ⟨u, hu⟩ := zaj (l := cl) (i := y) (by rw [hM.hl.1, e3.len]; exact hyl)
     have huE : ∀ h, cl[y]'h = u := fun h => (gI.1 hu).2
     have hcll : cl.length = T.L.length := by rw [hM.hl.1, e3.len]
     obtain ⟨z, hz⟩ := zaj (l := r) (i := k) (by omega)
     have hzE : ∀ h, r[k]'h = z := fun h => (gI.1 hz).2
     have hzv : vB z = true := e3.val r (List.mem_of_getElem? hr) z (List.mem_of_getElem? hz)
     have hkk : (k : Int) < (k : Int) + 1 := by omega
     have hkn : k < k + 1 := by omega
     have hJn : J ≠ [] := by rintro rfl; simp at hJl
     rw [hrr, hqr, show atN r k = z by simp [atN, hz]] at hfin
     have hoF := hM.ho.2 i v q hv hq
     have hlF := hM.hl.2 y u r hu hr
     have m0 := hM.h0
     have m3 := hM.h3
     have m4 := hM.h4
     simp only [algA, fnA] at m0
     rcases hlF with (⟨h0, _⟩ | ⟨h0, _⟩) | ⟨bl, hu', g2l, g5l, gtl⟩
     ·rw [h0] at hrk; simp at hrk
     ·cases h0
     subst hu'
     have g2l' := g2l
     have hbl := (gI.1 g2l).1
     simp only [rowB] at g2l'
     rcases hoF with (⟨h0, _⟩ | ⟨_, a, h0, hv'⟩) | ⟨bo, hv', g2o, g5o, gto⟩
     ·rw [h0] at hqk; simp at hqk
     ·subst hv'
      subst h0
      simp [f92, f93, f94, f11, f12, f14, f5, hy, hyE, outA, m0, m3, m4, hv, hvE, hu, huE, hcll, hcol, hltn, hyl, g2l', hz, hzE, hrk, hkk, hkn, wk]
      refine zac (fun Hx => by simpa using zny z ((k + 1 : Nat) : Int) hzv (by omega) Hx) ?_
      generalize mulr z 1 (k + 1) = d at *
      simp
      refine bind_some zmm ?_
      simp [f11, f12, f14, hcol, hltn, hv, hvE, m3, zad m3]
      refine endD [(4, 21), (5, 21), (20, 21)] (by rfl) (by simp [okW, note, Eff.triv, Eff.wr, Eff.none, upTo, newAt, hJn]; omega) ?_
      simp [f94, w2]
      exact hfin _ _ _ _ (hM.oN (i := i) (q := [a]) (p := d)) _ ⟨by simp [f5], by simp [f6], by simp [f8], by simp [f11], by simp [f12], by simp [f40], by simp [f41], by omega⟩ (by simp [f14]) (by simp [f92]) (by simp [f93]) (by simp)
     ·subst hv'
      have hne2 : bo ≠ bl := by rintro rfl; omega
      simp [f92, f93, f94, f11, f12, f14, f5, hy, hyE, outA, m0, m3, m4, hv, hvE, hu, huE, hcll, hcol, hltn, hyl, g2l', hz, hzE, hrk, hkk, hkn, wk]
      refine zac (fun Hx => by simpa using zny z ((k + 1 : Nat) : Int) hzv (by omega) Hx) ?_
      generalize mulr z 1 (k + 1) = d at *
      simp
      refine bind_some (zca (by omega) (by simpa using g2o)) ?_
      have m3b : (J.set bo (rowB (q ++ [d])))[3]? = some (.row true 1 co) := by rw [List.getElem?_set_ne (by omega)]; exact m3
      simp [f11, f12, f14, hcol, hltn, hv, hvE, m3b]
      refine endD [(4, 21), (5, 21), (20, 21)] (by rfl) (by simp [okW, note, Eff.triv, Eff.wr, Eff.none, upTo, newAt, hJn]; omega) ?_
      simp [f94, w2]
      exact hfin _ _ _ _ (hM.oR (i := i) (q := q) (p := d) g2o g5o gto) _ ⟨by simp [f5], by simp [f6], by simp [f8], by simp [f11], by simp [f12], by simp [f40], by simp [f41], by omega⟩ (by simp [f14]) (by simp [f92]) (by simp [f93]) (by simp)
    ·have hin : i = T.out.length := by have : ¬ i < T.out.length := by simpa using hc
                                       omega
     subst hin
     simp [f41, wk]
     exact ⟨k + 1, by show order - (k + 1) < order - k; omega, ⟨by simp [f5], by simp [f6], by simp [f8], by simp [f11], by simp [f12], by simp [f40], by simp, by omega⟩, J, tag, co, cl, rfl, hM⟩
  ·have hkn : k = order := by have : ¬ k < order := by simpa using hc
                              omega
   subst hkn
   obtain ⟨_, e4⟩ := zaX hT hx ht k
   have hcf : za6 T x t k = (expS T x t k).2 := rfl
   rw [hcf] at g1 g2
   have hlen2 : ∀ q ∈ (expS T x t k).2, 2 ≤ q.length := fun q hq => by
    obtain ⟨j, hj⟩ := List.mem_iff_getElem?.1 hq
    have := e4.row j (by rw [← e4.len]; exact (gI.1 hj).1)
    rw [zbc hj, if_neg (by omega)] at this
    omega
   obtain ⟨σ, hσ⟩ := zka hM.ho hM.h3 (by omega) hlen2 (by rw [e4.len]; exact hd) hlen g1 g2 (by rw [e4.len]; exact g3)
   rw [e4.len] at hσ
   simp [f11]
   exact ⟨_, _, σ, hσ, finK (rs := [.tmp 10]) (vs := [.ref (H.length + 3) T.n]) (by rfl) (by simp [resA]) rfl⟩
def outJ (p : Nat) (l : List (List I)) : AH := .row true 1 (zbi p l) :: l.map rowB
theorem zaI (p : Nat) (l : List (List I)) : (outJ p l).length = l.length + 1 := by simp [outJ]
def zeD (n : Nat) : AH := List.replicate (n + 1) .dead
theorem zaK (n : Nat) : (zeD n).length = n + 1 := by simp [zeD]
theorem znV {p m : Nat} {l : List (List I)} (hm : p + l.length < m) : ∀ k ∈ outJ p l, noFB m k = true := by
 intro k hk
 simp only [outJ, List.mem_cons, List.mem_map] at hk
 rcases hk with rfl | ⟨q, _, rfl⟩
 ·simp only [noFB]
  rw [zaE]
  intro x hx
  simp only [zbi, List.mem_map, List.mem_range] at hx
  obtain ⟨j, hj, rfl⟩ := hx
  simp [noF]; omega
 ·simp only [rowB, noFB]
  rw [zaE]
  exact zit m q
theorem zg7 {H0 K K' : AH} {c : Nat} (h : c < H0.length) : (H0 ++ K)[c]? = (H0 ++ K')[c]? := by rw [List.getElem?_append_left h, List.getElem?_append_left h]
theorem zij {H0 A B X : AH} {c : Nat} (h : A.length = B.length) (hc : H0.length + A.length ≤ c) : (H0 ++ (A ++ X))[c]? = (H0 ++ (B ++ X))[c]? := by
 have h1 : H0.length ≤ c := by omega
 have h2 : A.length ≤ c - H0.length := by omega
 have h3 : B.length ≤ c - H0.length := by omega
 rw [List.getElem?_append_right h1, List.getElem?_append_right h1, List.getElem?_append_right h2, List.getElem?_append_right h3, h]
theorem zqz {n i : Nat} {k : ABlk} (h : (zeD n)[i]? = some k) : k = .dead := List.eq_of_mem_replicate (List.mem_of_getElem? h)
theorem zeO (H0 X : AH) (l : List (List I)) : alters (H0 ++ (zeD l.length ++ X)) (H0 ++ (outJ H0.length l ++ X)) := by
 refine ⟨by simp [zaI, zaK], fun c => ?_⟩
 by_cases h : c < H0.length
 ·exact .inl (zg7 h)
 ·by_cases h2 : c - H0.length < l.length + 1
  ·right; left
   refine ⟨(outJ H0.length l)[c - H0.length]'(by rw [zaI]; exact h2), ?_, ?_⟩
   ·rw [List.getElem?_append_right (by omega), List.getElem?_append_left (by rw [zaI]; exact h2)]; simp
   ·exact znV (by simp [zaK]; omega) _ (List.getElem_mem _)
  ·exact .inl (zij (by rw [zaI, zaK]) (by rw [zaI]; omega))
theorem zoZ {H0 X : AH} {n : Nat} (j : Nat) (h : j ≤ n) : (H0 ++ (zeD n ++ X))[H0.length + j]? = some .dead := by
 rw [zce, List.getElem?_append_left (by rw [zaK]; omega)]
 simp only [zeD]
 rw [List.getElem?_replicate, if_pos (by omega)]
theorem zfb {H0 X : AH} {l : List (List I)} {j : Nat} {q : List I} (h : l[j]? = some q) : (H0 ++ (outJ H0.length l ++ X))[H0.length + 1 + j]? = some (rowB q) := by
 have hlt := (gI.1 h).1
 rw [Nat.add_assoc, zce, List.getElem?_append_left (by rw [zaI]; omega)]
 rw [show 1 + j = j + 1 by omega]
 simp [outJ, h]
theorem finO {fr : AFr} {fn : Func} {rs : List ResultVar} {H0 X J : AH} {l : List (List I)} {v : AV} {e : zcj} (hr : fn.results.toList = rs) (h : resA E fr (H0 ++ (outJ H0.length l ++ X) ++ J) rs = some [v]) (hv : noF (H0 ++ (zeD l.length ++ X)).length v = true) (hx : e = .ret ∨ e = .normal := by simp) :
  zbN E fn (H0 ++ (zeD l.length ++ X)) (.ret v) (H0 ++ (outJ H0.length l ++ X)) e fr (H0 ++ (outJ H0.length l ++ X) ++ J) := by
 have ha := zeO H0 X l
 exact finU hr h ha.1 (fun b => by
  rcases ha.2 b with h | h | ⟨k, st, st', frs, h1, h2⟩
  ·exact .inl h
  ·exact .inr h
  ·rcases Nat.lt_or_ge b H0.length with h3 | h3
   ·exact .inl (zg7 h3)
   ·by_cases h4 : b - H0.length < l.length + 1
    ·exfalso
     rw [List.getElem?_append_right h3, List.getElem?_append_left (by rw [zaK]; exact h4)] at h1
     cases zqz h1
    ·exact .inl (zij (by rw [zaI, zaK]) (by rw [zaI]; omega))) hv hx
theorem za4 {T : Tp} {x : List I} {t : I} {order : Nat} (hT : tpOk T) (hx : allV x) (ht : vB t = true) : (za6 T x t order).length = T.n := (zaX hT hx ht order).2.len
theorem sExpand' (T : Tp) (x : List I) (t : I) (order : Nat) (hT : tpOk T) (hx : allV x) (hxn : x.length = T.n) (ht : vB t = true) (ho : 1 ≤ order ∧ order ≤ 1000) (H0 X : AH) :
  zaf E 227 [algA, tpA T, bx x, iv t, .int .i64 order] (H0 ++ (zeD T.n ++ X)) (.ret (.ref H0.length T.n)) (H0 ++ (outJ H0.length (za6 T x t order) ++ X)) := by
 have hl := za4 (order := order) hT hx ht
 have ha := zeO H0 X (za6 T x t order)
 rw [hl] at ha
 refine zrO T x t order hT hx hxn ht ho _ _ H0.length (fun j hj => zoZ j hj) ha.1 (by simp [outJ]) (fun j q hq => zfb hq) (fun c hc h => ?_)
 rcases Nat.lt_or_ge c H0.length with h3 | h3
 ·exact zg7 h3
 ·exact zij (by rw [zaI, zaK, hl]) (by rw [zaI, hl]; omega)
theorem ztz (T : Tp) (x : List I) (t : I) (order : Nat) (hT : tpOk T) (hx : allV x) (hxn : x.length = T.n) (ht : vB t = true) (ho : 1 ≤ order ∧ order ≤ 1000) (H0 X : AH) :
  zaf E 172 [tpA T, bx x, iv t, .int .i64 order] (H0 ++ (zeD T.n ++ X)) (.ret (.ref H0.length T.n)) (H0 ++ (outJ H0.length (za6 T x t order) ++ X)) := by
 refine zab zah zai Tryz.func172 rfl (by rfl) Tryz.ntmps172 (by kernel_rfl) (by simp) ?_
 have hS := sExpand' T x t order hT hx hxn ht ho
 have hl := za4 (order := order) hT hx ht
 generalize hc : za6 T x t order = l at *
 simp [tpA]
 refine zac (fun Hx => by simpa [algA, fnA] using zhP Hx) ?_
 simp
 refine zfu (r := .ref H0.length T.n) (K := H0 ++ (outJ H0.length l ++ (X ++ [.row true 3 [tpA T], .row true 2 [iv t]]))) (by simp [zaI, zaK, hl]) (fun Y => by
  have := hS H0 (X ++ [.row true 3 [tpA T], .row true 2 [iv t]] ++ Y)
  simp [algA, fnA, tpA] at this ⊢
  exact this) ?_
 simp
 refine endD [(1, 5), (3, 5)] (by rfl) (by simp [okW, note, Eff.triv, Eff.wr, Eff.none, upTo, newAt, zaK]) ?_
 simp
 have e : H0 ++ (outJ H0.length l ++ (X ++ [.row true 3 [tpA T], .row true 2 [.agg [.int .i64 t.1, .int .i64 t.2]]])) = H0 ++ (outJ H0.length l ++ X) ++ [.row true 3 [tpA T], .row true 2 [.agg [.int .i64 t.1, .int .i64 t.2]]] := by simp
 rw [e, ← hl]
 exact finO (rs := [.tmp 8]) (by rfl) (by simp [resA]) (by simp [noF, zaK]; omega)
theorem zdd {p : Nat} {l : List (List I)} {j : Nat} {q : List I} (h : l[j]? = some q) : (zbi p l)[j]? = some (.ref (p + 1 + j) q.length) := by
 have hlt := (gI.1 h).1
 have hE : l[j] = q := (gI.1 h).2
 simp [zbi, hlt, rowN, hE]
theorem zbw (p : Nat) (l : List (List I)) : (zbi p l).length = l.length := by simp [zbi]
theorem kRem1 (i order b c : Nat) (q : List I) (z : I) (w w2 : Bool) (ho : order ≤ 1000) (hz : q[order + 1]? = some z) (H : AH) (hc : H[c]? = some (.row w 1 [.int .i64 order])) (hb : H[b]? = some (.row w2 2 (q.map iv))) :
  zaf E 225 [.int .i64 i, .ref b q.length, .ptr c 1 0 0] H (.ret (iv z)) H := by
 refine zab zah zai Tryz.func225 rfl (by rfl) Tryz.ntmps225 (by kernel_rfl) (by simp) ?_
 have hcl := (gI.1 hc).1
 have hbl := (gI.1 hb).1
 have hlt := (gI.1 hz).1
 have hzE : ∀ h, q[order + 1]'h = z := fun h => (gI.1 hz).2
 have w1 : IntKind.i64.wrap ((order : Int) + 1) = ((order + 1 : Nat) : Int) := by rw [zae (by omega) (by omega)]; omega
 have hltI : (order : Int) + 1 < q.length := by omega
 have h0o : (0 : Int) ≤ (order : Int) + 1 := by omega
 simp [hc, zad hc, hb, zad hb, w1, hz, hzE, hlt, hltI, h0o]
 exact fin1 (rs := [.cell 5 48]) (by rfl) (by simp [resA]) (by simp [noFs, noF])
def LMr (l : List (List I)) (f : Nat → I) (g : FuncId) (caps : List AV) (p : Nat) (H : AH) (i : Nat) (fr : AFr) (H' : AH) : Prop :=
 fr 1 = .func (.func g) [] caps ∧ fr 5 = .ref H.length l.length ∧ fr 11 = .ref p l.length ∧ fr 12 = .int .i64 l.length ∧ fr 13 = .int .i64 i ∧ i ≤ l.length ∧ H' = H ++ [.row true 2 (padI ((List.range i).map f) l.length)]
theorem kMapR (l : List (List I)) (f : Nat → I) (g : FuncId) (caps : List AV) (p : Nat) (hl : l.length ≤ 1000000) (H : AH) (hp : H[p]? = some (.row true 1 (zbi p l)))
  (hf : ∀ (j : Nat) q, l[j]? = some q → ∀ X : AH, zaf E g ([.int .i64 j, .ref (p + 1 + j) q.length] ++ caps) (H ++ X) (.ret (iv (f j))) (H ++ X)) :
  zaf E 224 [.ref p l.length, .func (.func g) [] caps] H (.ret (bx ((List.range l.length).map f))) H := by
 refine zab zah zai Tryz.func224 rfl (by rfl) Tryz.ntmps224 (by kernel_rfl) (by simp) ?_
 have hpl := (gI.1 hp).1
 simp [hp, zad hp, zbw]
 refine zaY (by omega) ?_
 simp [hp, zad hp, zbw]
 refine zag (LMr l f g caps p H) (fun i => l.length - i) 0 ⟨by simp, by simp, by simp, by simp, by simp, by omega, by simp [ziC]⟩ ?_
 rintro i fr H' ⟨g1, g5, g11, g12, g13, hi, rfl⟩
 simp [g12, g13]
 refine zak (fun hc => ?_) (fun hc => ?_)
 ·have hlt : i < l.length := by simpa using hc
  obtain ⟨q, hq⟩ := zaj hlt
  have hr := zdd (p := p) hq
  have hrE : ∀ h, (zbi p l)[i]'h = .ref (p + 1 + i) q.length := fun h => (gI.1 hr).2
  have w2 : IntKind.i64.wrap ((i : Int) + 1) = ((i + 1 : Nat) : Int) := by rw [zae (by omega) (by omega)]; omega
  have hW0 : (padI ((List.range i).map f) l.length)[i]? = some (iv (0, 0)) := zgS (by simp) hlt
  have hWl : (padI ((List.range i).map f) l.length).length = l.length := ziD (by simp; omega)
  have hWset : (padI ((List.range i).map f) l.length).set i (iv (f i)) = padI ((List.range (i + 1)).map f) l.length := by
   have := ziB (l := (List.range i).map f) (n := l.length) (p := f i) (by simp; omega)
   rw [List.length_map, List.length_range] at this
   rw [this, List.range_succ, List.map_append]
   simp
  have hS := hf i q hq
  generalize padI ((List.range i).map f) l.length = W at *
  have hW0E : ∀ h, W[i]'h = iv (0, 0) := fun h => (gI.1 hW0).2
  simp [g1, g5, g11, g13, hp, zad hp, zbw, hlt, hr, hrE]
  refine zaa (by simpa using hS _) ?_
  simp [g5, g13, hWl, hlt, hW0, hW0E, w2]
  exact ⟨i + 1, by show l.length - (i + 1) < l.length - i; omega, by simp [g1], by simp [g5], by simp [g11], by simp [g12], by simp, by omega, by rw [← hWset]; simp⟩
 ·have hi' : i = l.length := by have : ¬ i < l.length := by simpa using hc
                                omega
  subst hi'
  rw [ziE (by simp)]
  simp [g5]
  exact finS (t := 4) (v := .ref (H.length + 0) l.length) (v0 := .nilslice) (sz := 2) (xs := ((List.range l.length).map f).map iv) (by rfl) (by simp) (.inr ⟨0, by simp, by simp⟩) rfl (zaJ _ _)
theorem zmV (T : Tp) (b : List I) (t h : Int) (order : Nat) (hT : tpOk T) (hb : allV b) (hbn : b.length = T.n) (hh : 0 ≤ h ∧ h ≤ 1000000000) (ht : -1000000000 ≤ t ∧ t ≤ 1000000000) (ho : order ≤ 900) (H : AH) :
  zaf E 170 [tpA T, bx b, .agg [.int .i64 t, .int .i64 h], .int .i64 order] H (.ret (bx (remS T b t h order))) H := by
 refine za8 (T.n + 1) zah zai Tryz.func170 rfl (by rfl) Tryz.ntmps170 (by kernel_rfl) (by simp) ?_
 rw [show List.replicate (T.n + 1) ABlk.dead = zeD T.n from rfl]
 have hsm := hT.small
 have htv : vB (t, t + h) = true := zas (by omega) (by omega) (by omega)
 have hS := ztz T b (t, t + h) (order + 1) hT hb hbn htv (by omega)
 have hl := za4 (order := order + 1) hT hb htv
 have he : remS T b t h order = (List.range (za6 T b (t, t + h) (order + 1)).length).map (fun j : Nat => atN (rowN (za6 T b (t, t + h) (order + 1)) (j : Int)) (order + 1)) := by
  unfold remS
  apply List.ext_getElem?
  intro j
  rw [List.getElem?_map, List.getElem?_map]
  by_cases hj : j < (za6 T b (t, t + h) (order + 1)).length
  ·rw [List.getElem?_range hj, List.getElem?_eq_getElem hj]
   simp [rowN, hj]
  ·rw [List.getElem?_eq_none (by omega), List.getElem?_eq_none (by simp; omega)]; rfl
 rw [he]
 have hrow : ∀ (j : Nat) q, (za6 T b (t, t + h) (order + 1))[j]? = some q → q.length = order + 2 := fun j q hq => by
  have := (zaX hT hb htv (order + 1)).2.row j (by rw [← hl]; exact (gI.1 hq).1)
  rw [show (expS T b (t, t + h) (order + 1)).2 = za6 T b (t, t + h) (order + 1) from rfl, zbc hq] at this
  simpa using this
 generalize hc : za6 T b (t, t + h) (order + 1) = l at *
 have w1 : IntKind.i64.wrap ((order : Int) + 1) = ((order + 1 : Nat) : Int) := by rw [zae (by omega) (by omega)]; omega
 have w2 : IntKind.i64.wrap (t + h) = t + h := zae (by omega) (by omega)
 simp [tpA, w1, w2]
 refine zaa (by
  have := hS H [.row true 3 [tpA T], .row true 2 [.agg [.int .i64 t, .int .i64 h]], .row true 1 [.int .i64 order]]
  simp [tpA] at this ⊢
  exact this) ?_
 simp
 have hM := kMapR l (fun j : Nat => atN (rowN l (j : Int)) (order + 1)) 225 [.ptr (H.length + (T.n + 1 + 2)) 1 0 0] H.length (by omega) (H ++ (outJ H.length l ++ [.row true 3 [tpA T], .row true 2 [.agg [.int .i64 t, .int .i64 h]], .row true 1 [.int .i64 order]])) (by simp [outJ]) (fun j q hq X => by
  have hql := hrow j q hq
  obtain ⟨z, hz⟩ := zaj (l := q) (i := order + 1) (by omega)
  have e : atN (rowN l (j : Int)) (order + 1) = z := by simp [zbc hq, atN, hz]
  rw [e]
  refine kRem1 j order _ _ q z true true (by omega) hz _ (zad ?_) (zad (zfb hq))
  rw [zce, List.getElem?_append_right (by rw [zaI]; omega), zaI, hl, Nat.add_sub_cancel_left]; rfl)
 rw [hl] at hM
 refine zaa (by simpa [tpA, zaK] using hM) ?_
 simp
 rw [hl]
 exact fin1 (rs := [.tmp 8]) (by rfl) (by simp [resA]) (by simp only [bx, noF, zaJ])
def rowF (q : List I) : ABlk := .row false 2 (q.map iv)
theorem kEnc1 (i b c : Nat) (q r : List I) (z : I) (w : Bool) (hz : r[i]? = some z) (hq : q.length ≤ 1000000) (H : AH) (hc : H[c]? = some (.row w 1 [bx r])) (hb : H[b]? = some (rowB q)) :
  zaf E 174 [.int .i64 i, .ref b q.length, .ptr c 1 0 0] H (.ret (.ref b (q.length + 1))) (H.set b (rowB (q ++ [z]))) := by
 refine zab zah zai Tryz.func174 rfl (by rfl) Tryz.ntmps174 (by kernel_rfl) (by simp) ?_
 have hcl := (gI.1 hc).1
 have hbl := (gI.1 hb).1
 have hlt := (gI.1 hz).1
 have hzE : ∀ h, r[i]'h = z := fun h => (gI.1 hz).2
 simp only [bx] at hc
 simp [hc, hz, hzE, hlt]
 refine bind_some (zca hq hb) ?_
 simp
 exact finK (rs := [.tmp 5]) (vs := [.ref b (q.length + 1)]) (by rfl) (by simp [resA]) rfl
def extB (l : List (List I)) (r : List I) (i : Nat) : List ABlk := (List.range l.length).map fun j : Nat => if j < i then rowB (rowN l (j : Int) ++ [atN r j]) else rowB (rowN l (j : Int))
def extC (p : Nat) (l : List (List I)) (i : Nat) : List AV := (List.range l.length).map fun j : Nat => if j < i then .ref (p + 1 + j) ((rowN l (j : Int)).length + 1) else .nilslice
theorem zbp (l : List (List I)) (r : List I) (i : Nat) : (extB l r i).length = l.length := by simp [extB]
theorem zep (p : Nat) (l : List (List I)) (i : Nat) : (extC p l i).length = l.length := by simp [extC]
theorem zdz {l : List (List I)} {r : List I} {i j : Nat} (h : j < l.length) : (extB l r i)[j]? = some (if j < i then rowB (rowN l (j : Int) ++ [atN r j]) else rowB (rowN l (j : Int))) := by
 unfold extB; rw [List.getElem?_map, List.getElem?_range h]; rfl
theorem zeq {p : Nat} {l : List (List I)} {i j : Nat} (h : j < l.length) : (extC p l i)[j]? = some (if j < i then .ref (p + 1 + j) ((rowN l (j : Int)).length + 1) else .nilslice) := by
 unfold extC; rw [List.getElem?_map, List.getElem?_range h]; rfl
theorem zkc (l : List (List I)) (r : List I) : extB l r 0 = l.map rowB := by
 apply List.ext_getElem?
 intro j
 by_cases h : j < l.length
 ·rw [zdz h, if_neg (by omega), List.getElem?_map, List.getElem?_eq_getElem h]; simp [rowN, h]
 ·rw [List.getElem?_eq_none (by rw [zbp]; omega), List.getElem?_eq_none (by simp; omega)]
theorem zoN (p : Nat) (l : List (List I)) : extC p l 0 = List.replicate l.length .nilslice := by
 apply List.ext_getElem?
 intro j
 by_cases h : j < l.length
 ·rw [zeq h, if_neg (by omega), List.getElem?_replicate, if_pos h]
 ·rw [List.getElem?_eq_none (by rw [zep]; omega), List.getElem?_eq_none (by simp; omega)]
theorem zmc {l : List (List I)} {r : List I} {i : Nat} (h : i < l.length) : (extB l r i).set i (rowB (rowN l (i : Int) ++ [atN r i])) = extB l r (i + 1) := by
 apply List.ext_getElem?
 intro j
 by_cases hj : j < l.length
 ·by_cases hij : i = j
  ·subst hij; rw [List.getElem?_set_self (by rw [zbp]; exact h), zdz h, if_pos (by omega)]
  ·rw [List.getElem?_set_ne hij, zdz hj, zdz hj]
   by_cases h1 : j < i
   ·rw [if_pos h1, if_pos (by omega)]
   ·rw [if_neg h1, if_neg (by omega)]
 ·rw [List.getElem?_eq_none (by rw [List.length_set, zbp]; omega), List.getElem?_eq_none (by rw [zbp]; omega)]
theorem zqt {p : Nat} {l : List (List I)} {i : Nat} (h : i < l.length) : (extC p l i).set i (.ref (p + 1 + i) ((rowN l (i : Int)).length + 1)) = extC p l (i + 1) := by
 apply List.ext_getElem?
 intro j
 by_cases hj : j < l.length
 ·by_cases hij : i = j
  ·subst hij; rw [List.getElem?_set_self (by rw [zep]; exact h), zeq h, if_pos (by omega)]
  ·rw [List.getElem?_set_ne hij, zeq hj, zeq hj]
   by_cases h1 : j < i
   ·rw [if_pos h1, if_pos (by omega)]
   ·rw [if_neg h1, if_neg (by omega)]
 ·rw [List.getElem?_eq_none (by rw [List.length_set, zep]; omega), List.getElem?_eq_none (by rw [zep]; omega)]
theorem zbu (l : List (List I)) (r : List I) : (zaB l r).length = l.length := by simp [zaB]
theorem zeJ {l : List (List I)} {r : List I} {j : Nat} (h : j < l.length) : (zaB l r)[j]? = some (rowN l (j : Int) ++ [atN r j]) := by
 unfold zaB; rw [List.getElem?_map, List.getElem?_range h]; rfl
theorem zmd (l : List (List I)) (r : List I) : extB l r l.length = (zaB l r).map rowB := by
 apply List.ext_getElem?
 intro j
 by_cases h : j < l.length
 ·rw [zdz h, if_pos h, List.getElem?_map, zeJ h]; rfl
 ·rw [List.getElem?_eq_none (by rw [zbp]; omega), List.getElem?_eq_none (by simp [zbu]; omega)]
def zdp (p : Nat) : List (List I) → List AV
 | [] => []
 | q :: r => .ref p q.length :: zdp (p + 1) r
theorem zdW : ∀ {l : List (List I)} {p j : Nat} {q : List I}, l[j]? = some q → (zdp p l)[j]? = some (.ref (p + j) q.length)
 | q :: r, p, 0, q', h => by simp at h; subst h; rfl
 | q :: r, p, j + 1, q', h => by
  have := zdW (p := p + 1) (l := r) (j := j) (by simpa using h)
  simpa [zdp, Nat.add_assoc, Nat.add_comm 1 j] using this
 | [], p, j, q, h => by simp at h
theorem zdV : ∀ (l : List (List I)) (p : Nat), (zdp p l).length = l.length
 | [], _ => rfl
 | q :: r, p => by simp [zdp, zdV r]
theorem zqu (p : Nat) (l : List (List I)) (r : List I) : extC p l l.length = zdp (p + 1) (zaB l r) := by
 apply List.ext_getElem?
 intro j
 by_cases h : j < l.length
 ·rw [zeq h, if_pos h, zdW (zeJ h)]; simp
 ·rw [List.getElem?_eq_none (by rw [zep]; omega), List.getElem?_eq_none (by rw [zdV, zbu]; omega)]
theorem zfT : ∀ (l : List (List I)) (A B : AH), zbW (A ++ (l.map rowB ++ B)) (zdp A.length l) = (l.map bx, A ++ (l.map rowF ++ B))
 | [], A, B => rfl
 | q :: r, A, B => by
  have h1 : zc9 (A ++ (rowB q :: (r.map rowB ++ B))) (.ref A.length q.length) = (bx q, (A ++ [rowF q]) ++ (r.map rowB ++ B)) := by
   simp [zc9, rowB, rowF, bx]
  have h2 := zfT r (A ++ [rowF q]) B
  simp only [List.length_append, List.length_cons, List.length_nil, Nat.zero_add] at h2
  simp only [List.map_cons, List.cons_append, zdp, zbW, h1, h2]
  simp
theorem zho {H J : AH} {b : Nat} {y : ABlk} : (H ++ J).set (H.length + b) y = H ++ J.set b y := by rw [List.set_append_right _ _ (by omega), Nat.add_sub_cancel_left]
def mE (H0 X : AH) (l : List (List I)) (r : List I) (i k : Nat) : AH := H0 ++ (.row true 1 (zbi H0.length l) :: (extB l r i ++ (X ++ [.row true 1 (extC H0.length l k)])))
section
variable {H0 X : AH} {l : List (List I)} {r : List I} {i k : Nat}
theorem zui : (mE H0 X l r i k)[H0.length]? = some (.row true 1 (zbi H0.length l)) := by
 have := zce (H := H0) (J := .row true 1 (zbi H0.length l) :: (extB l r i ++ (X ++ [.row true 1 (extC H0.length l k)]))) (b := 0)
 exact this
theorem zug {j : Nat} (h : j < l.length) : (mE H0 X l r i k)[H0.length + 1 + j]? = (extB l r i)[j]? := by
 unfold mE
 rw [Nat.add_assoc, zce, Nat.add_comm 1 j, List.getElem?_cons_succ, List.getElem?_append_left (by rw [zbp]; exact h)]
theorem mE_x {j : Nat} (h : j < X.length) : (mE H0 X l r i k)[H0.length + (l.length + 1 + j)]? = X[j]? := by
 unfold mE
 rw [zce, show l.length + 1 + j = (l.length + j) + 1 by omega, List.getElem?_cons_succ, List.getElem?_append_right (by rw [zbp]; omega), zbp, Nat.add_sub_cancel_left, List.getElem?_append_left h]
theorem mE_D : (mE H0 X l r i k)[H0.length + (l.length + 1 + X.length)]? = some (.row true 1 (extC H0.length l k)) := by
 unfold mE
 rw [zce, show l.length + 1 + X.length = (l.length + X.length) + 1 by omega, List.getElem?_cons_succ, List.getElem?_append_right (by rw [zbp]; omega), zbp, Nat.add_sub_cancel_left, List.getElem?_append_right (by omega), Nat.sub_self]; rfl
theorem zuf (h : i < l.length) : (mE H0 X l r i k).set (H0.length + 1 + i) (rowB (rowN l (i : Int) ++ [atN r i])) = mE H0 X l r (i + 1) k := by
 unfold mE
 rw [Nat.add_assoc, zho, Nat.add_comm 1 i, List.set_cons_succ, List.set_append_left _ _ (by rw [zbp]; exact h), zmc h]
theorem zsl (h : k < l.length) : (mE H0 X l r i k).set (H0.length + (l.length + 1 + X.length)) (.row true 1 ((extC H0.length l k).set k (.ref (H0.length + 1 + k) ((rowN l (k : Int)).length + 1)))) = mE H0 X l r i (k + 1) := by
 unfold mE
 rw [zho, show l.length + 1 + X.length = (l.length + X.length) + 1 by omega, List.set_cons_succ, List.set_append_right _ _ (by rw [zbp]; omega), zbp, Nat.add_sub_cancel_left, List.set_append_right _ _ (by omega), Nat.sub_self, List.set_cons_zero, zqt h]
theorem zqa : mE H0 X l r 0 0 = H0 ++ (outJ H0.length l ++ X) ++ [.row true 1 (List.replicate l.length .nilslice)] := by
 unfold mE outJ; rw [zkc, zoN]; simp
theorem zuh : mE H0 X l r l.length l.length = H0 ++ [.row true 1 (zbi H0.length l)] ++ ((zaB l r).map rowB ++ (X ++ [.row true 1 (zdp (H0.length + 1) (zaB l r))])) := by
 unfold mE; rw [zmd, zqu _ _ r]; simp
end
def LMe (H0 X : AH) (l : List (List I)) (r : List I) (g : FuncId) (caps : List AV) (i : Nat) (fr : AFr) (H' : AH) : Prop :=
 fr 1 = .func (.func g) [] caps ∧ fr 5 = .ref (H0.length + (l.length + 1 + X.length)) l.length ∧ fr 11 = .ref H0.length l.length ∧ fr 12 = .int .i64 l.length ∧ fr 13 = .int .i64 i ∧ i ≤ l.length ∧ H' = mE H0 X l r i i
theorem kMapE (l : List (List I)) (r : List I) (kc : Nat) (w : Bool) (hl : l.length ≤ 1000000) (hr : l.length ≤ r.length) (hq : ∀ q ∈ l, q.length ≤ 1000000) (H0 X : AH) (hX : X[kc]? = some (.row w 1 [bx r])) :
  zaf E 171 [.ref H0.length l.length, .func (.func 174) [] [.ptr (H0.length + (l.length + 1 + kc)) 1 0 0]] (H0 ++ (outJ H0.length l ++ X)) (.ret (bxs (zaB l r)))
   (H0 ++ (.row true 1 (zbi H0.length l) :: ((zaB l r).map rowF ++ X))) := by
 refine zab zah zai Tryz.func171 rfl (by rfl) Tryz.ntmps171 (by kernel_rfl) (by simp) ?_
 have hM0 : (H0 ++ (outJ H0.length l ++ X)).length = H0.length + (l.length + 1 + X.length) := by simp [zaI]
 have hM1 : (H0 ++ (outJ H0.length l ++ X))[H0.length]? = some (.row true 1 (zbi H0.length l)) := by simp [outJ]
 have hst := zqa (H0 := H0) (X := X) (l := l) (r := r)
 generalize hM : H0 ++ (outJ H0.length l ++ X) = M at *
 simp [hM1, zad hM1, zbw]
 refine zaY (by omega) ?_
 simp [hM1, zad hM1, zbw]
 refine zag (LMe H0 X l r 174 [.ptr (H0.length + (l.length + 1 + kc)) 1 0 0]) (fun i => l.length - i) 0 ⟨by simp, by simp [hM0], by simp, by simp, by simp, by omega, by rw [hst]⟩ ?_
 rintro i fr H1 ⟨g1, g5, g11, g12, g13, hi, rfl⟩
 simp [g12, g13]
 refine zak (fun hc => ?_) (fun hc => ?_)
 ·have hlt : i < l.length := by simpa using hc
  obtain ⟨q, hqi⟩ := zaj hlt
  obtain ⟨z, hz⟩ := zaj (l := r) (i := i) (by omega)
  have hrow : rowN l (i : Int) = q := zbc hqi
  have hza : atN r i = z := by simp [atN, hz]
  have hrf := zdd (p := H0.length) hqi
  have hrE : ∀ h, (zbi H0.length l)[i]'h = .ref (H0.length + 1 + i) q.length := fun h => (gI.1 hrf).2
  have w2 : IntKind.i64.wrap ((i : Int) + 1) = ((i + 1 : Nat) : Int) := by rw [zae (by omega) (by omega)]; omega
  have a0 := zui (H0 := H0) (X := X) (l := l) (r := r) (i := i) (k := i)
  have a1 := zug (H0 := H0) (X := X) (l := l) (r := r) (i := i) (k := i) hlt
  rw [zdz hlt, if_neg (by omega), hrow] at a1
  have a2 := mE_x (H0 := H0) (l := l) (r := r) (i := i) (k := i) (gI.1 hX).1
  rw [hX] at a2
  have a3 := zuf (H0 := H0) (X := X) (l := l) (r := r) (i := i) (k := i) hlt
  rw [hrow, hza] at a3
  have a4 := mE_D (H0 := H0) (X := X) (l := l) (r := r) (i := i + 1) (k := i)
  have a5 := zsl (H0 := H0) (X := X) (l := l) (r := r) (i := i + 1) (k := i) hlt
  rw [hrow] at a5
  have hcl := zep H0.length l i
  have hcg := zeq (p := H0.length) (i := i) hlt
  rw [if_neg (by omega)] at hcg
  have hcgE : ∀ h, (extC H0.length l i)[i]'h = .nilslice := fun h => (gI.1 hcg).2
  have hS := kEnc1 i (H0.length + 1 + i) _ q r z w hz (hq q (List.mem_of_getElem? hqi)) _ a2 a1
  rw [a3] at hS
  have hfin : ∀ fr' : AFr, fr' 1 = .func (.func 174) [] [.ptr (H0.length + (l.length + 1 + kc)) 1 0 0] → fr' 5 = .ref (H0.length + (l.length + 1 + X.length)) l.length → fr' 11 = .ref H0.length l.length → fr' 12 = .int .i64 l.length → fr' 13 = .int .i64 (i + 1 : Nat) →
    zkG (LMe H0 X l r 174 [.ptr (H0.length + (l.length + 1 + kc)) 1 0 0]) (fun i => l.length - i) i fr' (mE H0 X l r (i + 1) (i + 1)) := fun fr' h1 h2 h3 h4 h5 => ⟨i + 1, by show l.length - (i + 1) < l.length - i; omega, h1, h2, h3, h4, h5, by omega, rfl⟩
  rw [← a5] at hfin
  generalize mE H0 X l r (i + 1) i = M1 at *
  generalize mE H0 X l r i i = M2 at *
  generalize extC H0.length l i = C at *
  simp [g1, g5, g11, g13, a0, zbw, hlt, hrf, hrE]
  refine zaa (by simpa using hS) ?_
  simp [g5, g13, a4, hcl, hlt, hcg, hcgE, w2]
  exact hfin _ (by simp [g1]) (by simp [g5]) (by simp [g11]) (by simp [g12]) (by simp)
 ·have hi' : i = l.length := by have : ¬ i < l.length := by simpa using hc
                                omega
  subst hi'
  simp [g5]
  rw [zuh]
  have hA : (H0 ++ [ABlk.row true 1 (zbi H0.length l)]).length = H0.length + 1 := by simp
  have hlw := zbu l r
  generalize hl' : zaB l r = l' at *
  have hcv := zfT l' (H0 ++ [.row true 1 (zbi H0.length l)]) (X ++ [.row true 1 (zdp (H0.length + 1) l')])
  rw [hA] at hcv
  have hD : ∀ (f : List (List I) → List ABlk), (∀ l, (f l).length = l.length) → ∀ y, (H0 ++ [ABlk.row true 1 (zbi H0.length l)] ++ (f l' ++ (X ++ [y])))[H0.length + (l.length + 1 + X.length)]? = some y := by
   intro f hf y
   rw [List.append_assoc, zce, show l.length + 1 + X.length = 1 + (l.length + X.length) by omega]
   have := zce (H := [ABlk.row true 1 (zbi H0.length l)]) (J := f l' ++ (X ++ [y])) (b := l.length + X.length)
   rw [List.length_singleton] at this
   rw [this]
   have := zce (H := f l') (J := X ++ [y]) (b := X.length)
   rw [hf, hlw] at this
   rw [this]
   simp
  have hDs : ∀ y y', (H0 ++ [ABlk.row true 1 (zbi H0.length l)] ++ (l'.map rowF ++ (X ++ [y]))).set (H0.length + (l.length + 1 + X.length)) y' = H0 ++ [.row true 1 (zbi H0.length l)] ++ (l'.map rowF ++ (X ++ [y'])) := by
   intro y y'
   rw [List.append_assoc, zho, show l.length + 1 + X.length = 1 + (l.length + X.length) by omega]
   have := zho (H := [ABlk.row true 1 (zbi H0.length l)]) (J := l'.map rowF ++ (X ++ [y])) (b := l.length + X.length) (y := y')
   rw [List.length_singleton] at this
   rw [this]
   have := zho (H := l'.map rowF) (J := X ++ [y]) (b := X.length) (y := y')
   rw [List.length_map, hlw] at this
   rw [this]
   simp
  refine ⟨[.ref (H0.length + (l.length + 1 + X.length)) l.length], [bxs l'], by simp [show (Tryz.f171).results.toList = [.tmp 4] from rfl, resA], ?_, rfl⟩
  refine .deep (H0.length + (l.length + 1 + X.length)) true (zdp (H0.length + 1) l') (hD (fun l => l.map rowB) (fun l => by simp) _) (by rw [hcv]; exact hD (fun l => l.map rowF) (fun l => by simp) _) (fun x hx => ?_) (fun x hx => ?_) ?_
  ·obtain ⟨j, hj⟩ := List.mem_iff_getElem?.1 hx
   have hjl : j < l'.length := by rw [← zdV l' (H0.length + 1)]; exact (gI.1 hj).1
   have := zdW (p := H0.length + 1) (List.getElem?_eq_getElem hjl)
   rw [hj] at this; cases this; rfl
  ·rw [hcv] at hx
   simp only [List.mem_map] at hx
   obtain ⟨q, _, rfl⟩ := hx; rfl
  rw [hcv]
  dsimp only
  rw [hDs]
  refine .conv ?_
  have h6 := hD (fun l => l.map rowF) (fun l => by simp) (.row true 1 (l'.map bx))
  have h7 : zc8 (H0 ++ [ABlk.row true 1 (zbi H0.length l)] ++ (l'.map rowF ++ (X ++ [.row true 1 (l'.map bx)]))) [.ref (H0.length + (l.length + 1 + X.length)) l.length] = ([bxs l'], H0 ++ [.row true 1 (zbi H0.length l)] ++ (l'.map rowF ++ (X ++ [.row false 1 (l'.map bx)]))) := by
   simp only [zc8, conv, zc9, h6]
   rw [if_pos (by simp [hlw])]
   simp only [hDs]
   rfl
  rw [h7]
  dsimp only
  refine .cut M.length (Nat.le_refl _) ?_ (fun b hb => ?_) ?_
  ·rw [hM0, show H0.length + (l.length + 1 + X.length) = (H0 ++ ABlk.row true 1 (zbi H0.length l) :: (l'.map rowF ++ X)).length by simp [hlw]; omega]
   have : H0 ++ [ABlk.row true 1 (zbi H0.length l)] ++ (l'.map rowF ++ (X ++ [.row false 1 (l'.map bx)])) = (H0 ++ ABlk.row true 1 (zbi H0.length l) :: (l'.map rowF ++ X)) ++ [.row false 1 (l'.map bx)] := by simp
   rw [this, List.take_left]
  ·rw [← hM]
   rcases Nat.lt_or_ge b H0.length with h | h
   ·exact .inl (zg7 h)
   ·obtain ⟨c, rfl⟩ : ∃ c, b = H0.length + c := ⟨b - H0.length, by omega⟩
    rw [zce, zce]
    cases c with
    | zero => exact .inl rfl
    | succ c =>
     unfold outJ
     rw [List.cons_append, List.getElem?_cons_succ, List.getElem?_cons_succ]
     by_cases hcl : c < l.length
     ·right; left
      have hcl' : c < l'.length := by omega
      refine ⟨rowF l'[c], by rw [List.getElem?_append_left (by simp; exact hcl'), List.getElem?_map, List.getElem?_eq_getElem hcl']; rfl, ?_⟩
      simp only [rowF, noFB]
      rw [zaE]
      exact zit _ _
     ·left
      rw [List.getElem?_append_right (by simp; omega), List.getElem?_append_right (by simp; omega)]
      simp [hlw]
  ·simp only [noFs, bxs, noF, Bool.and_true]
   rw [zaE]
   intro x hx
   obtain ⟨q, _, rfl⟩ := List.mem_map.1 hx
   simp only [bx, noF, zaJ]
theorem zpQ (p q : I) : (if za3 p q then zeQ p q else q) = zbj p q := by
 unfold zbj zeQ
 cases za3 p q <;> rfl
theorem zso (i c : Nat) (p q : I) (b : List I) (w : Bool) (hz : b[i]? = some q) (H : AH) (hc : H[c]? = some (.row w 1 [bx b])) : zaf E 230 [.int .i64 i, iv p, .ptr c 1 0 0] H (.ret (iv (zbj p q))) H := by
 refine zab zah zai Tryz.func230 rfl (by rfl) Tryz.ntmps230 (by kernel_rfl) (by simp) ?_
 have hcl := (gI.1 hc).1
 have hlt := (gI.1 hz).1
 have hzE : ∀ h, b[i]'h = q := fun h => (gI.1 hz).2
 have he := zpQ p q
 simp only [bx] at hc
 simp [hc, zad hc, hz, hzE, hlt]
 refine zac (fun Hx => zm0 p q Hx) ?_
 simp
 refine endD [(9, 10)] (by rfl) (by simp [okW, note, Eff.triv, Eff.wr, Eff.none, upTo, newAt]; omega) ?_
 simp
 refine zak (fun m => ?_) (fun m => ?_)
 ·rw [if_pos m] at he
  simp
  exact fin1 (rs := [.cell 5 48]) (by rfl) (by simp [resA, ← he]) (by simp [noFs, noF])
 ·rw [if_neg (by simp [m])] at he
  simp [hc, zad hc, hz, hzE, hlt]
  exact fin1 (rs := [.cell 5 48]) (by rfl) (by simp [resA, ← he]) (by simp [noFs, noF])
def LMi (l : List I) (f : Nat → I) (g : FuncId) (caps : List AV) (H : AH) (i : Nat) (fr : AFr) (H' : AH) : Prop :=
 fr 1 = .func (.func g) [] caps ∧ fr 5 = .ref H.length l.length ∧ fr 11 = bx l ∧ fr 12 = .int .i64 l.length ∧ fr 13 = .int .i64 i ∧ i ≤ l.length ∧ ∃ J, H' = H ++ J ∧ J[0]? = some (.row true 2 (padI ((List.range i).map f) l.length))
theorem kMapI (l : List I) (f : Nat → I) (g : FuncId) (caps : List AV) (hl : l.length ≤ 1000000) (H : AH)
  (hf : ∀ (j : Nat) p, l[j]? = some p → ∀ X : AH, zaf E g ([.int .i64 j, iv p] ++ caps) (H ++ X) (.ret (iv (f j))) (H ++ X)) :
  zaf E 229 [bx l, .func (.func g) [] caps] H (.ret (bx ((List.range l.length).map f))) H := by
 refine zab zah zai Tryz.func229 rfl (by rfl) Tryz.ntmps229 (by kernel_rfl) (by simp) ?_
 generalize hR : (List.range l.length).map f = R
 simp [bx]
 refine zaY (by omega) ?_
 simp
 refine zag (LMi l f g caps H) (fun i => l.length - i) 0 ⟨by simp, by simp, by simp [bx], by simp, by simp, by omega, _, rfl, by simp [ziC]⟩ ?_
 rintro i fr H' ⟨g1, g5, g11, g12, g13, hi, J, rfl, hJ0⟩
 have hJl := (gI.1 hJ0).1
 simp [g12, g13]
 refine zak (fun hc => ?_) (fun hc => ?_)
 ·have hlt : i < l.length := by simpa using hc
  obtain ⟨q, hq⟩ := zaj hlt
  have hqE : ∀ h, l[i]'h = q := fun h => (gI.1 hq).2
  have w2 : IntKind.i64.wrap ((i : Int) + 1) = ((i + 1 : Nat) : Int) := by rw [zae (by omega) (by omega)]; omega
  have hW0 : (padI ((List.range i).map f) l.length)[i]? = some (iv (0, 0)) := zgS (by simp) hlt
  have hWl : (padI ((List.range i).map f) l.length).length = l.length := ziD (by simp; omega)
  have hWset : (padI ((List.range i).map f) l.length).set i (iv (f i)) = padI ((List.range (i + 1)).map f) l.length := by
   have := ziB (l := (List.range i).map f) (n := l.length) (p := f i) (by simp; omega)
   rw [List.length_map, List.length_range] at this
   rw [this, List.range_succ, List.map_append]
   simp
  have hS := hf i q hq
  generalize padI ((List.range i).map f) l.length = W at *
  have hW0E : ∀ h, W[i]'h = iv (0, 0) := fun h => (gI.1 hW0).2
  simp [g1, g5, g11, g13, bx, hlt, hq, hqE]
  refine zaa (by simpa using hS _) ?_
  simp [g5, g13, ↓old hJ0, olds hJ0, hWl, hlt, hW0, hW0E, w2]
  refine ⟨i + 1, by show l.length - (i + 1) < l.length - i; omega, by simp [g1], by simp [g5], by simp [g11], by simp [g12], by simp, by omega, _, rfl, ?_⟩
  rw [← hWset]
  exact set_get' hJ0
 ·have hi' : i = l.length := by have : ¬ i < l.length := by simpa using hc
                                omega
  subst hi'
  rw [ziE (by simp), hR] at hJ0
  have hRl : R.length = l.length := by rw [← hR]; simp
  simp [g5]
  exact finS (t := 4) (v := .ref (H.length + 0) l.length) (v0 := .nilslice) (sz := 2) (xs := R.map iv) (by rfl) (by simp) (.inr ⟨0, by simp [hRl], by simpa using hJ0⟩) rfl (zaJ _ _)
theorem zum (a b : List I) (c : Nat) (w : Bool) (hab : a.length ≤ b.length) (hl : a.length ≤ 1000000) (H : AH) (hc : H[c]? = some (.row w 1 [bx b])) : zaf E 228 [bx a, .ptr c 1 0 0] H (.ret (bx (zdH a b))) H := by
 refine zab zah zai Tryz.func228 rfl (by rfl) Tryz.ntmps228 (by kernel_rfl) (by simp) ?_
 have hS := kMapI a (fun i => zbj (atN a i) (atN b i)) 230 [.ptr c 1 0 0] hl H (fun j p hj X => by
  obtain ⟨q, hq⟩ := zaj (l := b) (i := j) (by have := (gI.1 hj).1; omega)
  have e1 : atN a j = p := by simp [atN, hj]
  have e2 : atN b j = q := by simp [atN, hq]
  rw [e1, e2]
  exact zso j c p q b w hq _ (zad hc))
 simp
 refine zaa (by simpa using hS) ?_
 simp
 exact fin0 (rs := [.tmp 3]) (by rfl) (by simp [resA, zdH])
theorem zmU (b : List I) (H : AH) : zaf E 175 [bx b] H (.ret (.func (.func 228) [] [.ptr H.length 1 0 0])) (H ++ [.row true 1 [bx b]]) := by
 refine zab zah zai Tryz.func175 rfl (by rfl) Tryz.ntmps175 (by kernel_rfl) (by simp) ?_
 simp [bx]
 exact finK (rs := [.tmp 2]) (vs := [.func (.func 228) [] [.ptr H.length 1 0 0]]) (by rfl) (by simp [resA]) rfl
theorem zok (b : List I) (p : Nat) (H : AH) (hd : H[p]? = some .dead) : zaf E 175 [bx b] H (.ret (.func (.func 228) [] [.ptr p 1 0 0])) (H.set p (.row true 1 [bx b])) := by
 have hp := (gI.1 hd).1
 refine (zmU b H).fills (σ := fun c => if c = p then some H.length else none) ⟨?_, ?_, by simp, ?_, ?_, ?_⟩
 ·intro c k h
  split at h
  ·rename_i e; cases h; subst e
   exact ⟨hp, hd, zad hd, Nat.le_refl _⟩
  ·cases h
 ·intro c c' k h h'
  split at h <;> split at h' <;> first | (cases h; done) | (cases h'; done) | skip
  rename_i e1 e2; rw [e1, e2]
 ·intro c hc h
  split at h
  ·cases h
  ·rename_i hne
   exact ⟨List.getElem?_append_left hc, List.getElem?_set_ne (Ne.symm hne)⟩
 ·intro c k h
  split at h
  ·rename_i e; cases h; subst e
   refine ⟨true, 1, [bx b], [bx b], by simp, List.getElem?_set_self hp, rfl, fun i x x' hx hx' => ?_⟩
   rw [hx] at hx'; cases hx'
   refine ⟨rfl, fun i a a' ha ha' => ?_⟩
   rw [ha] at ha'; cases ha'
   have hxe : x = bx b := by
    have := List.mem_of_getElem? hx
    simpa using this
   subst hxe
   have hae : a = bx b := by
    have := List.mem_of_getElem? ha
    simpa [AV.cells, bx] using this
   subst hae
   exact .old (by simp only [bx, noF, zaJ])
  ·cases h
 ·refine .func (by simp) (by simp [noFs]) (fun i a a' ha ha' => ?_)
  cases i with
  | zero =>
   simp at ha ha'
   subst ha; subst ha'
   exact .ptr (by simp) hp
  | succ i => simp at ha
theorem zdi {T : Tp} {x : List I} {t : I} {order : Nat} (hT : tpOk T) (hx : allV x) (ht : vB t = true) : ∀ q ∈ za6 T x t order, q.length = order + 1 ∧ allV q := fun q hq => by
 have h := (zaX hT hx ht order).2
 refine ⟨?_, h.val q hq⟩
 obtain ⟨j, hj⟩ := List.mem_iff_getElem?.1 hq
 have := h.row j (by rw [← h.len]; exact (gI.1 hj).1)
 rw [show (expS T x t order).2 = za6 T x t order from rfl, zbc hj] at this
 simpa using this
theorem zfG {T : Tp} {b : List I} {t h : Int} {order : Nat} (hT : tpOk T) (hb : allV b) (ht : vB (t, t + h) = true) : allV (remS T b t h order) := fun p hp => by
 obtain ⟨q, hq, rfl⟩ := List.mem_map.1 hp
 exact zam (zdi hT hb ht q hq).2 _
theorem zlI {T : Tp} {b : List I} {t h : Int} {order : Nat} (hT : tpOk T) (hb : allV b) (ht : vB (t, t + h) = true) : (remS T b t h order).length = T.n := by
 simp [remS, za4 hT hb ht]
theorem zdP {l : List (List I)} {r : List I} {k : Nat} (hl : ∀ q ∈ l, q.length = k ∧ allV q) (hr : allV r) : ∀ q ∈ zaB l r, q.length = k + 1 ∧ allV q := fun q hq => by
 simp only [zaB, List.mem_map, List.mem_range] at hq
 obtain ⟨j, hj, rfl⟩ := hq
 have e : rowN l (j : Int) = l[j] := zbc (List.getElem?_eq_getElem hj)
 obtain ⟨h1, h2⟩ := hl l[j] (List.getElem_mem hj)
 rw [e]
 exact ⟨by simp [h1], zfy h2 (zam hr j)⟩
theorem zha (l : List (List I)) (h : I) : (zdA l h).length = l.length := by simp [zdA]
theorem zhV {t : Int} (h : -2147483648 < t ∧ t < 2147483648) : pt t = (t, t) := by
 unfold pt mk
 rw [if_pos (by rw [Bool.and_eq_true, zdr]; exact ⟨h, h⟩)]
theorem zjR (T : Tp) (x b : List I) (t h : Int) (part : I) (order : Nat) (hT : tpOk T) (hx : allV x) (hxn : x.length = T.n) (hb : allV b) (hbn : b.length = T.n) (hh : 0 ≤ h ∧ h ≤ 1000000000) (ht : -1000000000 ≤ t ∧ t ≤ 1000000000) (hp : vB part = true) (ho : 1 ≤ order ∧ order ≤ 900) (H : AH) :
  zaf E 108 [tpA T, bx x, bx b, .agg [.int .i64 t, .int .i64 h, .int .i64 part.1, .int .i64 part.2, .int .i64 order]] H (.ret (bx (zaH T x b t h part order))) H := by
 refine za8 (T.n + 2) zah zai Tryz.func108 rfl (by rfl) Tryz.ntmps108 (by kernel_rfl) (by simp) ?_
 rw [show List.replicate (T.n + 2) ABlk.dead = zeD T.n ++ [.dead] by unfold zeD; rw [List.replicate_succ']]
 have hsm := hT.small
 have htv : vB (t, t + h) = true := zas (by omega) (by omega) (by omega)
 have htp : pt t = (t, t) := zhV (by omega)
 have htv2 : vB (t, t) = true := zas (by omega) (by omega) (by omega)
 have hR := zmV T b t h order hT hb hbn hh ht (by omega)
 have hC := ztz T x (t, t) order hT hx hxn htv2 (by omega)
 have hl := za4 (order := order) hT hx htv2
 have hrows := zdi (order := order) hT hx htv2
 have hrv := zfG (order := order) hT hb htv
 have hrl := zlI (order := order) hT hb htv
 unfold zaH
 generalize za6 T x (t, t) order = l at *
 generalize remS T b t h order = r at *
 simp [tpA]
 refine zaa (by simpa [tpA] using hR _) ?_
 simp [bx]
 refine zac (fun Hx => zlZ t Hx) ?_
 rw [htp]
 simp
 refine zfu (r := .ref H.length T.n) (K := H ++ (outJ H.length l ++ [.dead, .row true 3 [tpA T], .row true 5 [.agg [.int .i64 t, .int .i64 h, .int .i64 part.1, .int .i64 part.2, .int .i64 order]], .row true 1 [bx r]])) (by simp [zaI, zaK, hl]) (fun Y => by
  have := hC H ([.dead, .row true 3 [tpA T], .row true 5 [.agg [.int .i64 t, .int .i64 h, .int .i64 part.1, .int .i64 part.2, .int .i64 order]], .row true 1 [bx r]] ++ Y)
  simp [tpA, bx] at this ⊢
  exact this) ?_
 simp
 refine zfu (r := bxs (zaB l r)) (K := H ++ (.row true 1 (zbi H.length l) :: ((zaB l r).map rowF ++ [.dead, .row true 3 [tpA T], .row true 5 [.agg [.int .i64 t, .int .i64 h, .int .i64 part.1, .int .i64 part.2, .int .i64 order]], .row true 1 [bx r]]))) (by simp [zaI, zbu]) (fun Y => by
  have := kMapE l r 3 true (by omega) (by omega) (fun q hq => by rw [(hrows q hq).1]; omega) H ([.dead, .row true 3 [tpA T], .row true 5 [.agg [.int .i64 t, .int .i64 h, .int .i64 part.1, .int .i64 part.2, .int .i64 order]], .row true 1 [bx r]] ++ Y) rfl
  rw [hl] at this
  simp [tpA, bx, zaK] at this ⊢
  exact this) ?_
 have hwr := zdP hrows hrv
 have hwl := zbu l r
 rw [hl] at hwl
 generalize hw : zaB l r = l' at *
 generalize hJ : ABlk.row true 1 (zbi H.length l) :: l'.map rowF = J1
 have hJl : J1.length = T.n + 1 := by rw [← hJ]; simp [hwl]
 have hJa : ∀ Y, ABlk.row true 1 (zbi H.length l) :: (l'.map rowF ++ Y) = J1 ++ Y := fun Y => by rw [← hJ]; rfl
 rw [hJa]
 simp
 refine endD [(0, 7), (3, 7), (6, 7), (0, 9), (3, 9), (6, 9), (7, 9)] (by rfl) (by simp [okW, note, Eff.triv, Eff.wr, Eff.none, upTo, newAt, zaK, zaI, hl]) ?_
 simp
 have hJg : ∀ (c : Nat) (Y : AH), (H ++ (J1 ++ Y))[H.length + (T.n + 1 + c)]? = Y[c]? := fun c Y => by
  rw [zce]
  have := zce (H := J1) (J := Y) (b := c)
  rw [hJl] at this; exact this
 have hJg2 : ∀ (c : Nat) (Y : AH), (J1 ++ Y)[T.n + 1 + c]? = Y[c]? := fun c Y => by
  have := zce (H := J1) (J := Y) (b := c)
  rw [hJl] at this; exact this
 have hJs : ∀ (y : ABlk) (Y : AH), (H ++ (J1 ++ .dead :: Y)).set (H.length + (T.n + 1)) y = H ++ (J1 ++ y :: Y) := fun y Y => by
  rw [zho]
  have := zho (H := J1) (J := .dead :: Y) (b := 0) (y := y)
  rw [hJl] at this; rw [show T.n + 1 = T.n + 1 + 0 from rfl, this]; rfl
 refine zqB (b := H.length + (T.n + 1)) (k := .dead) (k' := .row true 1 [bx b]) (hJg 0 _) (fun Hx hx => by simpa [bx] using zok b _ Hx hx) ?_
 rw [hJs]
 simp [zaK, hJg2]
 refine zac (fun Hx => by simpa [bxs] using sEval l' part (fun q hq => ⟨(hwr q hq).2, by intro h; have := (hwr q hq).1; rw [h] at this; simp at this, by rw [(hwr q hq).1]; omega⟩) (by omega) hp Hx) ?_
 have hel := zha l' part
 generalize zdA l' part = e at *
 simp
 refine zhi [H.length + (T.n + 1)] (fun c hc => by simp at hc; subst hc; simp [hJl]) (fun Hx hx => by
  have hc : Hx[H.length + (T.n + 1)]? = some (.row true 1 [bx b]) := by rw [hx _ (by simp), show H.length + (T.n + 1) = H.length + (T.n + 1 + 0) from rfl, hJg]; rfl
  simpa using zum e b _ true (by omega) (by omega) Hx hc) ?_
 simp
 refine endD [(1, 6)] (by rfl) (by simp [okW, note, Eff.triv, Eff.wr, Eff.none, upTo, newAt]) ?_
 simp
 exact fin1 (rs := [.tmp 8]) (by rfl) (by simp [resA, bx]) (by simp only [noF, zaJ])
def nd (x : Nd) : AV := .agg [.int .i64 x.op, .int .i64 x.n, .int .i64 x.c.1, .int .i64 x.c.2]
@[simp] theorem nd_eq (x : Nd) : nd x = .agg [.int .i64 x.op, .int .i64 x.n, .int .i64 x.c.1, .int .i64 x.c.2] := rfl
def xs (l : List Nd) : AV := .slice (l.map nd) false
theorem zdn (l : List Nd) : xs l = .slice (l.map nd) false := rfl
@[simp] theorem bin_nd (H : AH) (a b : Int) (x y c d u v : Int) (z : Bool) : zav tab H .eql 121 (.agg [.int .i64 a, .int .i64 b, .int .i64 x, .int .i64 y]) (.agg [.int .i64 c, .int .i64 d, .int .i64 u, .int .i64 v]) z = some (.bool (a == c && b == d && (x == u && y == v)), H) := by
 simp [zav, binA, eqA, eqFs, nilI]
 by_cases h : a = c <;> by_cases h2 : b = d <;> by_cases h3 : x = u <;> by_cases h4 : y = v <;> simp [h, h2, h3, h4]
@[simp] theorem zuO (H : AH) (a b : Int) (x y c d u v : Int) (z : Bool) : zav tab H .neq 121 (.agg [.int .i64 a, .int .i64 b, .int .i64 x, .int .i64 y]) (.agg [.int .i64 c, .int .i64 d, .int .i64 u, .int .i64 v]) z = some (.bool (!(a == c && b == d && (x == u && y == v))), H) := by
 simp [zav, binA, eqA, eqFs, nilI]
 by_cases h : a = c <;> by_cases h2 : b = d <;> by_cases h3 : x = u <;> by_cases h4 : y = v <;> simp [h, h2, h3, h4]
theorem zq4 (op : Int) (H : AH) : zaf E 218 [.int .i64 op] H (.ret (.int .i64 (zbq op))) H := by
 refine zab zah zai Tryz.func218 rfl (by rfl) Tryz.ntmps218 (by kernel_rfl) (by simp) ?_
 simp
 by_cases h1 : op < 1
 ·have e : zbq op = -1 := by unfold zbq; rw [if_neg (by omega), if_neg (by omega), if_neg (by omega)]
  have e1 : ¬ 1 ≤ op := by omega
  have e2 : ¬ 4 ≤ op := by omega
  have e3 : ¬ 7 ≤ op := by omega
  simp [e1, e2, e3]
  exact fin0 (rs := [.tmp 2]) (by rfl) (by simp [resA, e])
 have e1 : 1 ≤ op := by omega
 by_cases h2 : op ≤ 3
 ·have e : zbq op = 0 := by unfold zbq; rw [if_pos (by omega)]
  simp [e1, h2]
  exact fin0 (rs := [.tmp 2]) (by rfl) (by simp [resA, e])
 have e2 : 4 ≤ op := by omega
 by_cases h3 : op ≤ 6
 ·have e : zbq op = 1 := by unfold zbq; rw [if_neg (by omega), if_pos (by omega)]
  simp [e1, h2, e2, h3]
  exact fin0 (rs := [.tmp 2]) (by rfl) (by simp [resA, e])
 have e3 : 7 ≤ op := by omega
 by_cases h4 : op ≤ 10
 ·have e : zbq op = 2 := by unfold zbq; rw [if_neg (by omega), if_neg (by omega), if_pos (by omega)]
  simp [e1, h2, e2, h3, e3, h4]
  exact fin0 (rs := [.tmp 2]) (by rfl) (by simp [resA, e])
 ·have e : zbq op = -1 := by unfold zbq; rw [if_neg (by omega), if_neg (by omega), if_neg (by omega)]
  simp [e1, h2, e2, h3, e3, h4]
  exact fin0 (rs := [.tmp 2]) (by rfl) (by simp [resA, e])
theorem zdY (op : Int) (H : AH) : zaf E 202 [.int .i64 op] H (.ret (.int .i64 (zbq op))) H := by
 refine zab zah zai Tryz.func202 rfl (by rfl) Tryz.ntmps202 (by kernel_rfl) (by simp) ?_
 simp
 by_cases h1 : op < 1
 ·have e : zbq op = -1 := by unfold zbq; rw [if_neg (by omega), if_neg (by omega), if_neg (by omega)]
  simp [h1]
  exact fin0 (rs := [.tmp 2]) (by rfl) (by simp [resA, e])
 by_cases h2 : 10 < op
 ·have e : zbq op = -1 := by unfold zbq; rw [if_neg (by omega), if_neg (by omega), if_neg (by omega)]
  simp [h1, h2]
  exact fin0 (rs := [.tmp 2]) (by rfl) (by simp [resA, e])
 by_cases h3 : op ≤ 3
 ·have e : zbq op = 0 := by unfold zbq; rw [if_pos (by omega)]
  simp [h1, h2, h3]
  exact fin0 (rs := [.tmp 2]) (by rfl) (by simp [resA, e])
 by_cases h4 : op ≤ 6
 ·have e : zbq op = 1 := by unfold zbq; rw [if_neg (by omega), if_pos (by omega)]
  simp [h1, h2, h3, h4]
  exact fin0 (rs := [.tmp 2]) (by rfl) (by simp [resA, e])
 have e : zbq op = 2 := by unfold zbq; rw [if_neg (by omega), if_neg (by omega), if_pos (by omega)]
 simp [h1, h2, h3, h4]
 exact fin0 (rs := [.tmp 2]) (by rfl) (by simp [resA, e])
theorem zd5 (e : Ex) : (kids e).length ≤ 2 := by cases e <;> simp [kids]
theorem zqd (l : List Ex) : l.length ≤ (serL l).length := by
 induction l with
 | nil => simp [serL]
 | cons a r ih =>
  have := zcE a
  simp only [serL, List.flatMap_cons, List.length_append, List.length_cons, sz] at this ih ⊢
  omega
theorem znu (t : Ex) (ts : List Ex) : serL (t :: ts) = zan t :: serL (kids t ++ ts) := by
 have h := zcl t
 simp only [serL, List.flatMap_cons, List.flatMap_append] at h ⊢
 rw [h]; simp
def LEl (l r : List Nd) (H : AH) (ts : List Ex) (fr : AFr) (H' : AH) : Prop :=
 ∃ pre : List Nd, l = pre ++ serL ts ++ r ∧ ts ≠ [] ∧ fr 0 = xs l ∧ fr 3 = .int .i64 ts.length ∧ fr 6 = xs l ∧ fr 7 = .int .i64 l.length ∧ fr 8 = .int .i64 pre.length ∧ ∃ J, H' = H ++ J
theorem zp4 (a : Ex) (r : List Nd) (hl : sz a + r.length ≤ 4611686018427387904) (H : AH) : zaf E 219 [xs (ser a ++ r)] H (.ret (.int .i64 (sz a))) H := by
 refine zab zah zai Tryz.func219 rfl (by rfl) Tryz.ntmps219 (by kernel_rfl) (by simp) ?_
 simp [zdn]
 refine zag (LEl (ser a ++ r) r H) (fun ts => (serL ts).length) [a] ⟨[], by simp [serL], by simp, by simp [xs], by simp, by simp [xs], by simp, by simp, [], by simp⟩ ?_
 rintro ts fr H' ⟨pre, hpre, hne, h0, h3, h6, h7, h8, J, rfl⟩
 have hlen : sz a + r.length = pre.length + (serL ts).length + r.length := by
  have := congrArg List.length hpre
  simp only [List.length_append, sz] at this ⊢; omega
 obtain ⟨t, ts', rfl⟩ : ∃ t ts', ts = t :: ts' := by
  cases ts with
  | nil => exact absurd rfl hne
  | cons t ts' => exact ⟨t, ts', rfl⟩
 have hts := zqd ts'
 have hk := zd5 t
 have hsc := znu t ts'
 have hscl : (serL (t :: ts')).length = (serL (kids t ++ ts')).length + 1 := by rw [hsc]; simp
 have htl : (serL (t :: ts')).length = sz t + (serL ts').length := by simp [serL, sz]
 have hget : (ser a ++ r)[pre.length]? = some (zan t) := by
  rw [hpre, hsc]; simp
 have hlt : pre.length < (ser a ++ r).length := (gI.1 hget).1
 have hlt' : pre.length < (ser a).length + r.length := by simpa using hlt
 have hmap : ((ser a ++ r).map nd)[pre.length]? = some (nd (zan t)) := by rw [List.getElem?_map, hget]; rfl
 have hc : decide ((pre.length : Int) < ((ser a ++ r).length : Int)) = true := by simp; omega
 have hmapE : ∀ h, ((ser a ++ r).map nd)[pre.length]'h = nd (zan t) := fun h => (gI.1 hmap).2
 rw [zdn] at h0 h6
 generalize hL : (ser a ++ r).map nd = L at *
 have hnode : nd (zan t) = .agg [.int .i64 (zan t).op, .int .i64 (zan t).n, .int .i64 (zan t).c.1, .int .i64 (zan t).c.2] := rfl
 simp [h7, h8]
 refine zak (fun hb => ?_) (fun hb => ?_)
 ·simp [h0, h3, h6, h8, hmap, hmapE]
  refine zaa (zq4 _ _) ?_
  rw [zdk]
  have ws : IntKind.i64.wrap (((kids t).length : Int) - 1) = (kids t).length - 1 := zae (by omega) (by omega)
  have wm : IntKind.i64.wrap ((ts'.length : Int) + 1 + ((kids t).length - 1)) = ((kids t ++ ts').length : Nat) := by
   rw [List.length_append, zae (by simp at hlen hl; omega) (by simp at hlen hl; omega)]; omega
  simp [h3, h6, h8, ws, wm]
  refine zak (fun hz => ?_) (fun hz => ?_)
  ·have hnil : kids t ++ ts' = [] := by
    apply List.eq_nil_of_length_eq_zero
    have h1 : (((kids t ++ ts').length : Nat) : Int) = 0 := by simpa using hz
    omega
   have h1 : (serL (kids t ++ ts')).length = 0 := by rw [hnil]; rfl
   have w1 : IntKind.i64.wrap ((pre.length : Int) + 1) = (sz a : Int) := by
    rw [zae (by omega) (by omega)]; omega
   simp [h8, w1]
   exact fin1 (rs := [.tmp 2]) (by rfl) (by simp [resA]) (by simp [noF])
  ·have h1 : ¬ (((kids t ++ ts').length : Nat) : Int) = 0 := by simpa using hz
   have w1 : IntKind.i64.wrap ((pre.length : Int) + 1) = ((pre ++ [zan t]).length : Nat) := by
    rw [zae (by omega) (by omega), List.length_append]; rfl
   simp [h8, w1]
   refine ⟨kids t ++ ts', by show (serL (kids t ++ ts')).length < (serL (t :: ts')).length; omega, pre ++ [zan t], ?_, ?_, by simp [h0, xs, hL], by simp, by simp [h6, xs, hL], by simp [h7], by simp, J ++ [.row true 4 [nd (zan t)]], by simp⟩
   ·rw [hpre, hsc]; simp
   ·intro e; rw [e] at h1; exact h1 rfl
 ·simp at hb; omega
theorem zf6 {a k : Ex} {i : Nat} (h : (kids a)[i]? = some k) : sz k < sz a := by
 cases a with
 | num c => simp [kids] at h
 | var c => simp [kids] at h
 | time => simp [kids] at h
 | un o a =>
  cases i with
  | zero => simp [kids] at h; subst h; rw [zdR]; omega
  | succ i => simp [kids] at h
 | bin o a b =>
  rw [zbG]
  match i, h with
  | 0, h => simp [kids] at h; subst h; omega
  | 1, h => simp [kids] at h; subst h; omega
  | i + 2, h => simp [kids] at h
theorem zdb (l : List Ex) (i : Nat) : serL l = serL (l.take i) ++ serL (l.drop i) := by
 rw [serL, serL, serL, ← List.flatMap_append, List.take_append_drop]
theorem ze5 {l : List Ex} {i : Nat} {k : Ex} (h : l[i]? = some k) : serL (l.drop i) = ser k ++ serL (l.drop (i + 1)) := by
 have hl := (gI.1 h).1
 rw [List.drop_eq_getElem_cons hl, (gI.1 h).2]; rfl
theorem zgz {l : List Ex} {i : Nat} {k : Ex} (h : l[i]? = some k) : serL (l.take (i + 1)) = serL (l.take i) ++ ser k := by
 rw [List.take_add_one, h]; simp [serL]
theorem zik (a : Ex) : sz a = 1 + (serL (kids a)).length := by rw [sz, zcl]; simp; omega
theorem zkX (a : Ex) (r : List Nd) (i : Nat) : (ser a ++ r).drop (1 + (serL ((kids a).take i)).length) = serL ((kids a).drop i) ++ r := by
 rw [zcl, zdb (kids a) i]
 rw [show 1 + (serL ((kids a).take i)).length = (zan a :: serL ((kids a).take i)).length by simp; omega]
 rw [show zan a :: (serL ((kids a).take i) ++ serL ((kids a).drop i)) ++ r = (zan a :: serL ((kids a).take i)) ++ (serL ((kids a).drop i) ++ r) by simp]
 rw [List.drop_left]
def LRl (a : Ex) (r : List Nd) (H : AH) (i : Nat) (fr : AFr) (H' : AH) : Prop :=
 fr 0 = xs (ser a ++ r) ∧ fr 3 = .int .i64 ((1 + (serL ((kids a).take i)).length : Nat) : Int) ∧ fr 4 = .int .i64 i ∧ i ≤ (kids a).length ∧ H' = H
theorem zjA : ∀ (n : Nat) (a : Ex) (r : List Nd), sz a ≤ n → sz a + r.length ≤ 4611686018427387904 → ∀ H, zaf E 243 [xs (ser a ++ r)] H (.ret (.int .i64 (sz a))) H
 | 0, a, r, hn, hl, H => by have := zcE a; omega
 | n + 1, a, r, hn, hl, H => by
  refine zab zah zai Tryz.func243 rfl (by rfl) Tryz.ntmps243 (by kernel_rfl) (by simp) ?_
  have hp := zcE a
  have hget : (ser a ++ r)[0]? = some (zan a) := by rw [zcl]; rfl
  have hmap : ((ser a ++ r).map nd)[0]? = some (nd (zan a)) := by rw [List.getElem?_map, hget]; rfl
  have hmapE : ∀ h, ((ser a ++ r).map nd)[0]'h = nd (zan a) := fun h => (gI.1 hmap).2
  have hlen : (ser a ++ r).length = sz a + r.length := by simp [sz]
  have hne : (((ser a ++ r).length : Int) == 0) = false := by rw [hlen, beq_eq_false_iff_ne]; omega
  have hk := zd5 a
  have har := zdk a
  have hsk := zik a
  have hb : ∀ i, 1 + (serL ((kids a).take i)).length ≤ sz a := fun i => by
   have := congrArg List.length (zdb (kids a) i)
   rw [List.length_append] at this; omega
  have hrest := zkX a r
  have ih : ∀ (k : Ex) (i : Nat) (r' : List Nd), (kids a)[i]? = some k → sz k + r'.length ≤ 4611686018427387904 → ∀ H, zaf E 243 [xs (ser k ++ r')] H (.ret (.int .i64 (sz k))) H := fun k i r' hi hb H =>
   zjA n k r' (by have := zf6 hi; omega) hb H
  unfold xs
  generalize hL : ser a ++ r = L at *
  simp [hne, hmap, hmapE]
  refine zaa (zdY _ _) ?_
  rw [har]
  have h0 : ¬ (((kids a).length : Nat) : Int) < 0 := by omega
  simp [h0]
  refine zag (LRl a r H) (fun i => (kids a).length - i) 0 ⟨by simp [xs, hL], by simp [serL], by simp, by omega, rfl⟩ ?_
  rintro i fr H' ⟨g0, g3, g4, hi, rfl⟩
  rw [zdn, hL] at g0
  have hbi := hb i
  simp [g0, g4, hmap, hmapE]
  refine zaa (zdY _ _) ?_
  rw [har]
  simp [g0, g4]
  refine zak (fun hc => ?_) (fun hc => ?_)
  ·have hlt : i < (kids a).length := by simpa using hc
   obtain ⟨k, hki⟩ := zaj hlt
   have hd := ze5 hki
   have htk := zgz hki
   have hszk : sz k = (ser k).length := rfl
   have hbi1 := hb (i + 1)
   rw [htk, List.length_append] at hbi1
   have hle : 1 + (serL ((kids a).take i)).length ≤ L.length := by omega
   have hdrop : L.drop (1 + (serL ((kids a).take i)).length) = ser k ++ (serL ((kids a).drop (i + 1)) ++ r) := by
    rw [hrest, hd]; simp
   have hdl := congrArg List.length hdrop
   simp only [List.length_drop, List.length_append] at hdl
   generalize hq : 1 + (serL ((kids a).take i)).length = q at *
   have hE : List.drop q (List.take L.length (L.map nd)) = (ser k ++ (serL ((kids a).drop (i + 1)) ++ r)).map nd := by
    rw [List.take_of_length_le (by simp), ← List.map_drop, hdrop]
   have w1 : IntKind.i64.wrap ((q : Int) + (sz k : Int)) = ((q + (ser k).length : Nat) : Int) := by rw [zae (by omega) (by omega)]; omega
   have w2 : IntKind.i64.wrap ((i : Int) + 1) = ((i + 1 : Nat) : Int) := by rw [zae (by omega) (by omega)]; omega
   have h00 : ¬ ((sz k : Nat) : Int) < 0 := by omega
   simp [g0, g3, g4]
   refine zaY (zcU fun _ => rfl) ?_
   refine zaY hle ?_
   rw [hE]
   simp
   have hS := ih k i (serL ((kids a).drop (i + 1)) ++ r) hki (by simp only [List.length_append]; omega) H'
   simp only [zdn, List.map_append] at hS
   refine zaa hS ?_
   simp [g0, g3, g4, h00, w1, w2]
   exact ⟨i + 1, by show (kids a).length - (i + 1) < (kids a).length - i; omega, by simp [g0, xs, hL], by simp [htk, ← hq]; omega, by simp, by omega, rfl⟩
  ·have hi' : i = (kids a).length := by have : ¬ i < (kids a).length := by simpa using hc
                                        omega
   subst hi'
   rw [List.take_length] at g3
   simp [g3]
   exact fin0 (rs := [.tmp 2]) (by rfl) (by simp [resA, g3, hsk])
theorem zn5 (l : List Nd) : (l.map nd).all (fun y => y.cells.length == 4 && y.cells.all okc) = true := by
 rw [List.all_eq_true]
 intro x hx
 obtain ⟨y, _, rfl⟩ := List.mem_map.1 hx
 rfl
theorem zey {H : AH} {l m : List Nd} (hm : m ≠ []) (hb : l.length + m.length ≤ 1000000000) {f : Bool} :
  zar tab H 26 (.slice (l.map nd) true) (.slice (m.map nd) f) = some (.ref H.length (l.length + m.length), H ++ [.row true 4 ((l ++ m).map nd)]) := by
 have h1 := zn5 m
 have h2 : (l.map nd).all (fun y => y.cells.length == 4) = true := by
  rw [List.all_eq_true]
  intro x hx
  obtain ⟨y, _, rfl⟩ := List.mem_map.1 hx
  rfl
 have h3 : (m.map nd).isEmpty = false := by simpa using hm
 simp only [zar, tab26, tab121, els, h3, zaF, AV.cells, zb7, zbz, h1, h2, List.length_map]
 simp
 omega
theorem zs0 {H : AH} {l m : List Nd} {b : Nat} {wr : Bool} (hm : m ≠ []) (hb : l.length + m.length ≤ 1000000000) {f : Bool} (hH : H[b]? = some (.row wr 4 (l.map nd))) :
  zar tab H 26 (.ref b l.length) (.slice (m.map nd) f) = some (.ref b (l.length + m.length), H.set b (.row wr 4 ((l ++ m).map nd))) := by
 have h1 := zn5 m
 have h3 : (m.map nd).isEmpty = false := by simpa using hm
 simp only [zar, tab26, tab121, els, h3, zaF, AV.cells, zb7, hH, h1, List.length_map]
 simp
 omega
theorem zfH (c : I) (H : AH) : zaf E 54 [iv c] H (.ret (xs (ser (.num c)))) H := by
 refine zab zah zai Tryz.func54 rfl (by rfl) Tryz.ntmps54 (by kernel_rfl) (by simp) ?_
 simp
 exact finC (rs := [.tmp 2]) (vs := [.slice [nd ⟨1, 0, c⟩] true]) (vs' := [.slice [nd ⟨1, 0, c⟩] false]) (by rfl) (by simp [resA]) (by simp; rfl) (by simp [noF, noFs]) rfl
theorem zrX (op : Int) (l : List Nd) (hl : l ≠ []) (hb : l.length ≤ 500000000) (H : AH) : zaf E 203 [.int .i64 op, xs l] H (.ret (xs (zap op 0 :: l))) H := by
 refine zab zah zai Tryz.func203 rfl (by rfl) Tryz.ntmps203 (by kernel_rfl) (by simp) ?_
 unfold xs
 simp
 refine bind_some (zey (l := [zap op 0]) hl (by simp; omega)) ?_
 simp
 exact finC (rs := [.tmp 4]) (vs := [.ref H.length (1 + l.length)]) (vs' := [.slice ((zap op 0 :: l).map nd) false]) (J' := [.row false 4 ((zap op 0 :: l).map nd)]) (by rfl) (by simp [resA]) (by simp [Nat.add_comm]) (by
  simp only [noFs, noF, Bool.and_true]
  exact zaE.2 fun x hx => by obtain ⟨y, _, rfl⟩ := List.mem_map.1 hx; rfl) rfl
end Go.Proofs.YtkghjlgpmeibhaaGreatDoor.Arm

namespace Go.Arm
open Go.RowKit
theorem Wk.full {xs : List AV} : Wk (.slice xs true) (.slice xs false) := fun G w v hv => by
 cases hv with
 | slice0 hf => exact .slice0 (fun h => by cases h)
 | slice vals hB hs hc hr hl hcap hf => exact .slice vals hB hs hc hr hl hcap (fun h => by cases h)
theorem znl {α : Type} {f g : α → AV} (h : ∀ a, WkL (f a).cells (g a).cells) : ∀ l : List α, WkR (l.map f) (l.map g)
 | [] => trivial
 | a :: r => ⟨h a, znl h r⟩
theorem zaf.weakR {E : Env} {f : FuncId} {args : List AV} {H H' : AH} {v v' : AV} (h : zaf E f args H (.ret v) H') (hw : Wk v v') : zaf E f args H (.ret v') H' := by
 refine ⟨h.1, fun F n hF G w vs hI hv => (h.2 F n hF G w vs hI hv).mono fun r w' ⟨G', h1, h2, h3⟩ => ⟨G', h1, h2, ?_⟩⟩
 cases r with
 | returned u => exact hw _ _ _ h3
 | _ => exact h3
end Go.Arm

namespace Go.Proofs.YtkghjlgpmeibhaaGreatDoor.Arm
open Go.Arm Go.Pl
theorem zfK (l : List Nd) (n : Nat) : noFs n (l.map nd) = true := zaE.2 fun x hx => by obtain ⟨y, _, rfl⟩ := List.mem_map.1 hx; rfl
theorem zaZ (l : List Nd) (n : Nat) : noF n (xs l) = true := by simp only [xs, noF]; exact zfK l n
theorem zpw (ls : List (List Nd)) (n : Nat) : noFs n (ls.map xs) = true := zaE.2 fun x hx => by obtain ⟨y, _, rfl⟩ := List.mem_map.1 hx; exact zaZ y n
theorem ziw (op : Int) (l m : List Nd) (hl : l ≠ []) (hm : m ≠ []) (hb : l.length + m.length ≤ 500000000) (H : AH) : zaf E 71 [.int .i64 op, xs l, xs m] H (.ret (xs (zap op 0 :: (l ++ m)))) H := by
 refine zab zah zai Tryz.func71 rfl (by rfl) Tryz.ntmps71 (by kernel_rfl) (by simp) ?_
 unfold xs
 simp
 refine bind_some (zey (l := [zap op 0]) hl (by simp; omega)) ?_
 have hr := fun Hx : AH => zs0 (H := Hx ++ [.row true 4 ((zap op 0 :: l).map nd)]) (l := zap op 0 :: l) (m := m) (b := Hx.length) (wr := true) (f := false) hm (by simp; omega) (by simp)
 have hr' := hr H
 rw [List.length_cons, Nat.add_comm l.length 1] at hr'
 simp
 simp at hr'
 refine bind_some hr' ?_
 simp
 exact finC (rs := [.tmp 6]) (vs := [.ref H.length (l.length + m.length + 1)]) (vs' := [.slice ((zap op 0 :: (l ++ m)).map nd) false]) (J' := [.row false 4 ((zap op 0 :: (l ++ m)).map nd)]) (by rfl) (by simp [resA]; omega) (by simp) (by
  simp only [noFs, noF, Bool.and_true]; exact zfK _ _) (by simp [one])
def xsT (l : List Nd) : AV := .slice (l.map nd) true
theorem zto (l : List Nd) : xsT l = .slice (l.map nd) true := rfl
theorem zni (ls : List (List Nd)) (n : Nat) : noFs n (ls.map xsT) = true := zaE.2 fun x hx => by obtain ⟨y, _, rfl⟩ := List.mem_map.1 hx; simp only [xsT, noF]; exact zfK y n
def LOp (f : List Nd → AV) (a : Ex) (v0 : AV) (ti to : Tmp) (ts : Tmp) (H : AH) (i : Nat) (fr : AFr) (H' : AH) : Prop :=
 fr 0 = xs (ser a) ∧ fr ts = .int .i64 ((1 + (serL ((kids a).take i)).length : Nat) : Int) ∧ fr ti = .int .i64 i ∧ i ≤ (kids a).length ∧ ∃ J, H' = H ++ J ∧ Acc H J (fr to) 1 (((kids a).take i).map fun k => f (ser k)) v0
theorem zjH (a : Ex) (hb : sz a ≤ 1000000000) (H : AH) : zaf E 154 [xs (ser a)] H (.ret (.slice ((kids a).map fun k => xs (ser k)) false)) H := by
 refine zaf.weakR (v := .slice ((kids a).map fun k => xsT (ser k)) false) ?_ (Wk.slice (znl (f := fun k => xsT (ser k)) (g := fun k => xs (ser k)) (fun k => (⟨Wk.full, trivial⟩ : WkL [xsT (ser k)] [xs (ser k)])) _))
 refine zab zah zai Tryz.func154 rfl (by rfl) Tryz.ntmps154 (by kernel_rfl) (by simp) ?_
 have hget : (ser a)[0]? = some (zan a) := by rw [zcl]; rfl
 have hmap : ((ser a).map nd)[0]? = some (nd (zan a)) := by rw [List.getElem?_map, hget]; rfl
 have hmapE : ∀ h, ((ser a).map nd)[0]'h = nd (zan a) := fun h => (gI.1 hmap).2
 have hk := zd5 a
 have hsk := zik a
 have hrest := fun i => zkX a [] i
 have hbk : ∀ i, 1 + (serL ((kids a).take i)).length ≤ sz a := fun i => by
  have := congrArg List.length (zdb (kids a) i)
  rw [List.length_append] at this; omega
 have hsa : (ser a).length = sz a := rfl
 unfold xs
 simp [hmap, hmapE]
 refine zaa (zq4 _ _) ?_
 rw [zdk]
 simp
 refine zag (fun i fr H' => LOp xsT a .nilslice 11 3 4 H i fr H' ∧ fr 10 = .int .i64 (kids a).length) (fun i => (kids a).length - i) 0 ⟨⟨by simp [xs], by simp [serL], by simp, by omega, [], by simp, .inl ⟨by simp, by simp⟩⟩, by simp⟩ ?_
 rintro i fr H' ⟨⟨g0, g4, g11, hi, J, rfl, hacc⟩, g10⟩
 rw [zdn] at g0
 simp [g11, g10]
 refine zak (fun hc => ?_) (fun hc => ?_)
 ·have hlt : i < (kids a).length := by simpa using hc
  obtain ⟨k, hki⟩ := zaj hlt
  have hd := ze5 hki
  have htk := zgz hki
  have hszk : sz k = (ser k).length := rfl
  have hbi := hbk i
  have hbi1 := hbk (i + 1)
  rw [htk, List.length_append] at hbi1
  have hdrop : (ser a).drop (1 + (serL ((kids a).take i)).length) = ser k ++ serL ((kids a).drop (i + 1)) := by
   have := hrest i
   rw [List.append_nil, List.append_nil] at this
   rw [this, hd]
  have hdl := congrArg List.length hdrop
  simp only [List.length_drop, List.length_append] at hdl
  generalize hq : 1 + (serL ((kids a).take i)).length = q at *
  have hE : List.drop q (List.take (ser a).length ((ser a).map nd)) = (ser k ++ serL ((kids a).drop (i + 1))).map nd := by
   rw [List.take_of_length_le (by simp), ← List.map_drop, hdrop]
  have hE2 : List.drop q (List.take (q + (ser k).length) ((ser a).map nd)) = (ser k).map nd := by
   rw [← List.map_take, ← List.map_drop, List.drop_take, hdrop, Nat.add_sub_cancel_left, List.take_left]
  have w1 : IntKind.i64.wrap ((q : Int) + (sz k : Int)) = ((q + (ser k).length : Nat) : Int) := by rw [zae (by omega) (by omega)]; omega
  have w2 : IntKind.i64.wrap ((i : Int) + 1) = ((i + 1 : Nat) : Int) := by rw [zae (by omega) (by omega)]; omega
  have hS := zp4 k (serL ((kids a).drop (i + 1))) (by omega) (H ++ J)
  simp only [zdn, List.map_append] at hS
  simp [g0, g4, g11]
  refine zaY (zcU fun _ => rfl) ?_
  refine zaY (by omega) ?_
  rw [hE]
  simp
  refine zaa hS ?_
  simp [g0, g4, g11, w1]
  refine zaY (zcU fun _ => rfl) ?_
  refine zaY (by omega) ?_
  have e2 : ((q : Int) + ((ser k).length : Int)).toNat = q + (ser k).length := by omega
  rw [e2, hE2]
  obtain ⟨v', J', hap, hacc', _⟩ := Acc.push (T := tab) (t := 22) (e := 26) (x := .slice [xsT (ser k)] true) hacc tab22 rfl tab26 rfl rfl (by simp [xsT, okc]) ⟨by decide, by simp⟩ (by simp; omega) (by simp; omega)
  simp only [zto] at hap
  simp
  refine bind_some hap ?_
  simp [g0, g10, g11, w2]
  refine ⟨i + 1, by show (kids a).length - (i + 1) < (kids a).length - i; omega, ⟨by simp [g0, xs], by simp [htk, ← hq]; omega, by simp, by omega, J', rfl, ?_⟩, by simp [g10]⟩
  rw [List.take_add_one, hki]
  simpa using hacc'
 ·have hi' : i = (kids a).length := by have : ¬ i < (kids a).length := by simpa using hc
                                       omega
  subst hi'
  rw [List.take_length] at hacc
  simp
  exact finS (t := 2) (by rfl) (by simp) hacc rfl (by have h := zni ((kids a).map ser) H.length; rw [List.map_map] at h; exact h)
theorem zmK (a : Ex) (hb : sz a ≤ 1000000000) (H : AH) : zaf E 189 [xs (ser a)] H (.ret (.slice ((kids a).map fun k => xs (ser k)) false)) H := by
 refine zab zah zai Tryz.func189 rfl (by rfl) Tryz.ntmps189 (by kernel_rfl) (by simp) ?_
 have hget : (ser a)[0]? = some (zan a) := by rw [zcl]; rfl
 have hmap : ((ser a).map nd)[0]? = some (nd (zan a)) := by rw [List.getElem?_map, hget]; rfl
 have hmapE : ∀ h, ((ser a).map nd)[0]'h = nd (zan a) := fun h => (gI.1 hmap).2
 have hk := zd5 a
 have hsk := zik a
 have hrest := fun i => zkX a [] i
 have hbk : ∀ i, 1 + (serL ((kids a).take i)).length ≤ sz a := fun i => by
  have := congrArg List.length (zdb (kids a) i)
  rw [List.length_append] at this; omega
 have hsa : (ser a).length = sz a := rfl
 unfold xs
 simp
 refine zag (fun i fr H' => LOp xs a (.slice [] true) 5 3 4 H i fr H') (fun i => (kids a).length - i) 0 ⟨by simp [xs], by simp [serL], by simp, by omega, [], by simp, .inl ⟨by simp, by simp⟩⟩ ?_
 rintro i fr H' ⟨g0, g4, g5, hi, J, rfl, hacc⟩
 rw [zdn] at g0
 simp [g0, g5, hmap, hmapE]
 refine zaa (zdY _ _) ?_
 rw [zdk]
 simp [g0, g5]
 refine zak (fun hc => ?_) (fun hc => ?_)
 ·have hlt : i < (kids a).length := by simpa using hc
  obtain ⟨k, hki⟩ := zaj hlt
  have hd := ze5 hki
  have htk := zgz hki
  have hszk : sz k = (ser k).length := rfl
  have hbi := hbk i
  have hbi1 := hbk (i + 1)
  rw [htk, List.length_append] at hbi1
  have hdrop : (ser a).drop (1 + (serL ((kids a).take i)).length) = ser k ++ serL ((kids a).drop (i + 1)) := by
   have := hrest i
   rw [List.append_nil, List.append_nil] at this
   rw [this, hd]
  have hdl := congrArg List.length hdrop
  simp only [List.length_drop, List.length_append] at hdl
  generalize hq : 1 + (serL ((kids a).take i)).length = q at *
  have hE : List.drop q (List.take (ser a).length ((ser a).map nd)) = (ser k ++ serL ((kids a).drop (i + 1))).map nd := by
   rw [List.take_of_length_le (by simp), ← List.map_drop, hdrop]
  have hE2 : List.drop q (List.take (q + (ser k).length) ((ser a).map nd)) = (ser k).map nd := by
   rw [← List.map_take, ← List.map_drop, List.drop_take, hdrop, Nat.add_sub_cancel_left, List.take_left]
  have w1 : IntKind.i64.wrap ((q : Int) + (sz k : Int)) = ((q + (ser k).length : Nat) : Int) := by rw [zae (by omega) (by omega)]; omega
  have w2 : IntKind.i64.wrap ((i : Int) + 1) = ((i + 1 : Nat) : Int) := by rw [zae (by omega) (by omega)]; omega
  have hS := zjA (sz k) k (serL ((kids a).drop (i + 1))) (Nat.le_refl _) (by omega) (H ++ J)
  simp only [zdn, List.map_append] at hS
  simp [g0, g4, g5]
  refine zaY (zcU fun _ => rfl) ?_
  refine zaY (by omega) ?_
  rw [hE]
  simp
  refine zaa hS ?_
  simp [g0, g4, g5, w1]
  refine zaY (zcU fun _ => rfl) ?_
  refine zaY (by omega) ?_
  have e2 : ((q : Int) + ((ser k).length : Int)).toNat = q + (ser k).length := by omega
  rw [e2, hE2]
  obtain ⟨v', J', hap, hacc', _⟩ := Acc.push (T := tab) (t := 22) (e := 26) (x := .slice [xs (ser k)] true) hacc tab22 rfl tab26 rfl rfl (by simp [xs, okc]) ⟨by decide, by simp⟩ (by simp; omega) (by simp; omega)
  simp only [zdn] at hap
  simp
  refine bind_some hap ?_
  simp [g0, g4, g5, w1, w2]
  refine ⟨i + 1, by show (kids a).length - (i + 1) < (kids a).length - i; omega, by simp [g0, xs], by simp [htk, ← hq]; omega, by simp, by omega, J', rfl, ?_⟩
  rw [List.take_add_one, hki]
  simpa using hacc'
 ·have hi' : i = (kids a).length := by have : ¬ i < (kids a).length := by simpa using hc
                                       omega
  subst hi'
  rw [List.take_length] at hacc
  simp
  exact finS (t := 2) (by rfl) (by simp) hacc rfl (by have h := zpw ((kids a).map ser) H.length; rw [List.map_map] at h; exact h)
theorem grow0 (H : AH) : zaf E 304 [.nilslice, .int .i64 0] H (.ret .nilslice) H := by
 refine zab zah zai Tryz.func304 rfl (by rfl) Tryz.ntmps304 (by kernel_rfl) (by simp) ?_
 have w : IntKind.i64.wrap 0 = 0 := by decide
 simp [w]
 exact fin0 (rs := [.tmp 4]) (by rfl) (by simp [resA])
theorem growN (n : Int) (hn : 0 < n ∧ n ≤ 1000000000) (H : AH) : zaf E 304 [.nilslice, .int .i64 n] H (.ret (.ref H.length 0)) (H ++ [.row true 4 []]) := by
 refine zab zah zai Tryz.func304 rfl (by rfl) Tryz.ntmps304 (by kernel_rfl) (by simp) ?_
 have w : IntKind.i64.wrap 0 = 0 := by decide
 have w2 : IntKind.i64.wrap n = n := zae (by omega) (by omega)
 have h1 : ¬ n < 0 := by omega
 simp [w, w2, h1, hn.1]
 refine zaY (by omega) ?_
 simp
 exact finK (rs := [.tmp 4]) (vs := [.ref H.length 0]) (by rfl) (by simp [resA]) rfl
def LCa (ls : List (List Nd)) (H : AH) (i : Nat) (fr : AFr) (H' : AH) : Prop :=
 fr 0 = .slice (ls.map xs) false ∧ fr 3 = .int .i64 ((ls.take i).flatten.length : Nat) ∧ fr 9 = .slice (ls.map xs) false ∧ fr 10 = .int .i64 ls.length ∧ fr 11 = .int .i64 i ∧ i ≤ ls.length ∧ H' = H
def LCb (ls : List (List Nd)) (H : AH) (i : Nat) (fr : AFr) (H' : AH) : Prop :=
 fr 25 = .slice (ls.map xs) false ∧ fr 26 = .int .i64 ls.length ∧ fr 27 = .int .i64 i ∧ i ≤ ls.length ∧ ∃ J, H' = H ++ J ∧ Acc H J (fr 6) 4 ((ls.take i).flatten.map nd) .nilslice
theorem zd8 {α : Type} (ls : List (List α)) (i : Nat) : (ls.take i).flatten.length ≤ ls.flatten.length := by
 have : ls.flatten = (ls.take i).flatten ++ (ls.drop i).flatten := by rw [← List.flatten_append, List.take_append_drop]
 rw [this]; simp
theorem zhh (ls : List (List Nd)) (hl : ls.length ≤ 1000000000) (hb : ls.flatten.length ≤ 500000000) (H : AH) :
  zaf E 283 [.slice (ls.map xs) false] H (.ret (xs ls.flatten)) H := by
 refine zab zah zai Tryz.func283 rfl (by rfl) Tryz.ntmps283 (by kernel_rfl) (by simp) ?_
 simp
 refine zag (LCa ls H) (fun i => ls.length - i) 0 ⟨by simp, by simp, by simp, by simp, by simp, by omega, rfl⟩ ?_
 rintro i fr H' ⟨g0, g3, g9, g10, g11, hi, rfl⟩
 simp [g10, g11]
 refine zak (fun hc => ?_) (fun hc => ?_)
 ·have hlt : i < ls.length := by simpa using hc
  obtain ⟨l, hli⟩ := zaj hlt
  have hliE : ∀ h, ls[i]'h = l := fun h => (gI.1 hli).2
  have hf1 := zd8 ls i
  have hf2 := zd8 ls (i + 1)
  have hft : (ls.take (i + 1)).flatten = (ls.take i).flatten ++ l := by rw [List.take_add_one, hli]; simp
  rw [hft, List.length_append] at hf2
  generalize hq : (ls.take i).flatten.length = q at *
  have w1 : IntKind.i64.wrap ((q : Int) + (l.length : Int)) = ((q + l.length : Nat) : Int) := by rw [zae (by omega) (by omega)]; omega
  have w2 : IntKind.i64.wrap ((i : Int) + 1) = ((i + 1 : Nat) : Int) := by rw [zae (by omega) (by omega)]; omega
  have h0 : ¬ ((q : Int) + (l.length : Int) < 0) := by omega
  simp [g3, g9, g11, hli, hliE, xs, w1, h0, w2]
  exact ⟨i + 1, by show ls.length - (i + 1) < ls.length - i; omega, by simp [g0], by simp [hft, hq], by simp [g9], by simp [g10], by simp, by omega, rfl⟩
 ·have hi' : i = ls.length := by have : ¬ i < ls.length := by simpa using hc
                                 omega
  subst hi'
  rw [List.take_length] at g3
  have body : ∀ (i : Nat) (fr : AFr) (J : AH), LCb ls H' i fr (H' ++ J) → i < ls.length → ∃ l v' J', ls[i]? = some l ∧ zar tab (H' ++ J) 26 (fr 6) (xs l) = some (v', H' ++ J') ∧ Acc H' J' v' 4 ((ls.take (i + 1)).flatten.map nd) .nilslice := by
   rintro i fr J ⟨_, _, _, _, J1, hJ, hacc⟩ hlt
   obtain rfl := List.append_cancel_left hJ
   obtain ⟨l, hli⟩ := zaj hlt
   have hf2 := zd8 ls (i + 1)
   have hft : (ls.take (i + 1)).flatten = (ls.take i).flatten ++ l := by rw [List.take_add_one, hli]; simp
   rw [hft, List.length_append] at hf2
   obtain ⟨v', J', hap, hacc', _⟩ := Acc.push (T := tab) (t := 26) (e := 121) (x := xs l) (ys := l.map nd) hacc tab26 rfl tab121 rfl rfl (zn5 l) ⟨by decide, by simp⟩ (by rw [List.length_map, List.length_map]; dsimp only; omega) (by rw [List.length_map, List.length_map]; omega)
   exact ⟨l, v', J', hli, hap, by rw [hft, List.map_append]; exact hacc'⟩
  by_cases hz : ls.flatten.length = 0
  ·rw [hz] at g3
   simp [g0, g3]
   refine zaa (grow0 _) ?_
   simp [g0]
   refine zag (LCb ls H') (fun i => ls.length - i) 0 ⟨by simp, by simp, by simp, by omega, [], by simp, .inl ⟨by simp, by simp⟩⟩ ?_
   rintro i fr2 H2 ⟨k25, k26, k27, hk, J, rfl, hacc⟩
   simp [k26, k27]
   refine zak (fun hc2 => ?_) (fun hc2 => ?_)
   ·have hlt : i < ls.length := by simpa using hc2
    obtain ⟨l, v', J', hli, hap, hacc'⟩ := body i fr2 J ⟨k25, k26, k27, hk, J, rfl, hacc⟩ hlt
    have hliE : ∀ h, ls[i]'h = l := fun h => (gI.1 hli).2
    have w2 : IntKind.i64.wrap ((i : Int) + 1) = ((i + 1 : Nat) : Int) := by rw [zae (by omega) (by omega)]; omega
    simp [k25, k27, hli, hliE, xs]
    simp only [zdn] at hap
    refine bind_some hap ?_
    simp [k27, w2]
    exact ⟨i + 1, by show ls.length - (i + 1) < ls.length - i; omega, by simp [k25], by simp [k26], by simp, by omega, J', rfl, by simpa using hacc'⟩
   ·have hi2 : i = ls.length := by have : ¬ i < ls.length := by simpa using hc2
                                   omega
    subst hi2
    rw [List.take_length] at hacc
    simp
    exact finS (t := 2) (by rfl) (by simp) hacc rfl (zfK _ _)
  ·have hz' : 0 < (ls.flatten.length : Int) ∧ (ls.flatten.length : Int) ≤ 1000000000 := by omega
   rw [show ((ls.flatten.length : Nat) : Int) = (ls.flatten.length : Int) from rfl] at g3
   generalize hq : (ls.flatten.length : Int) = q at g3 hz'
   simp [g0, g3]
   refine zaa (growN q hz' _) ?_
   simp [g0]
   refine zag (LCb ls H') (fun i => ls.length - i) 0 ⟨by simp, by simp, by simp, by omega, [.row true 4 []], by simp, .inr ⟨0, by simp, by simp⟩⟩ ?_
   rintro i fr2 H2 ⟨k25, k26, k27, hk, J, rfl, hacc⟩
   simp [k26, k27]
   refine zak (fun hc2 => ?_) (fun hc2 => ?_)
   ·have hlt : i < ls.length := by simpa using hc2
    obtain ⟨l, v', J', hli, hap, hacc'⟩ := body i fr2 J ⟨k25, k26, k27, hk, J, rfl, hacc⟩ hlt
    have hliE : ∀ h, ls[i]'h = l := fun h => (gI.1 hli).2
    have w2 : IntKind.i64.wrap ((i : Int) + 1) = ((i + 1 : Nat) : Int) := by rw [zae (by omega) (by omega)]; omega
    simp [k25, k27, hli, hliE, xs]
    simp only [zdn] at hap
    refine bind_some hap ?_
    simp [k27, w2]
    exact ⟨i + 1, by show ls.length - (i + 1) < ls.length - i; omega, by simp [k25], by simp [k26], by simp, by omega, J', rfl, by simpa using hacc'⟩
   ·have hi2 : i = ls.length := by have : ¬ i < ls.length := by simpa using hc2
                                   omega
    subst hi2
    rw [List.take_length] at hacc
    simp
    exact finS (t := 2) (by rfl) (by simp) hacc rfl (zfK _ _)
structure Sys where
 names : List ByteArray
 f : List Ex
def sys (s : Sys) : AV := .agg [.slice (s.names.map .str) false, .slice (s.f.map fun e => xs (ser e)) false]
theorem zoL {fn : Func} {rs : List ResultVar} {fr : AFr} {H0 : AH} {vs vs' : List AV} {v : AV} {e : zcj} (hr : fn.results.toList = rs) (h : resA E fr H0 rs = some vs) (hc : zc8 H0 vs = (vs', H0)) (hv : noFs H0.length vs' = true) (ho : one vs' = v)
  (hx : e = .ret ∨ e = .normal := by simp) : zbN E fn H0 (.ret v) H0 e fr H0 := by
 have := finC (E := E) (fr := fr) (J := []) (J' := []) (H0 := H0) (vs := vs) (vs' := vs') (e := e) hr (by rw [List.append_nil]; exact h) (by rw [List.append_nil]; exact hc) hv ho hx
 rwa [List.append_nil] at this
theorem zfP (n : Int) (hn : -1000000 ≤ n ∧ n ≤ 1000000) (H : AH) : zaf E 240 [.int .i64 n] H (.ret (xs (ser (zbm n)))) H := by
 refine zab zah zai Tryz.func240 rfl (by rfl) Tryz.ntmps240 (by kernel_rfl) (by simp) ?_
 have w : IntKind.i64.wrap (n * 65536) = n * 65536 := zae (by omega) (by omega)
 simp [w]
 refine zaa (zlZ _ _) ?_
 simp
 exact zoL (rs := [.tmp 2]) (vs := [.slice [nd ⟨1, 0, pt (n * 65536)⟩] true]) (vs' := [.slice [nd ⟨1, 0, pt (n * 65536)⟩] false]) (by rfl) (by simp [resA]) (by simp) (by simp [noF, noFs]) rfl
theorem zq9 (op : Int) (ls : List (List Nd)) (hne : ls.flatten ≠ []) (hl : ls.length ≤ 1000000000) (hb : ls.flatten.length ≤ 500000000) (H : AH) :
  zaf E 273 [.int .i64 op, .slice (ls.map xs) false] H (.ret (xs (zap op 0 :: ls.flatten))) H := by
 refine zab zah zai Tryz.func273 rfl (by rfl) Tryz.ntmps273 (by kernel_rfl) (by simp) ?_
 have hC := fun Hx => zhh ls hl hb Hx
 generalize ls.flatten = l at *
 simp
 refine zaa (hC _) ?_
 simp only [zdn]
 simp
 refine bind_some (zey (l := [zap op 0]) hne (by rw [show ([zap op 0] : List Nd).length = 1 from rfl]; omega)) ?_
 simp
 exact finC (rs := [.tmp 4]) (vs := [.ref H.length (1 + l.length)]) (vs' := [xs (zap op 0 :: l)]) (J' := [.row false 4 ((zap op 0 :: l).map nd)]) (by rfl) (by simp [resA]) (by simp [Nat.add_comm, xs]) (by
  simp only [noFs, Bool.and_true]; exact zaZ _ _) (by simp [one, xs])
def ptV (a : Ex) : Int := (isPt a).getD 0
theorem zrM {a : Ex} (h : ∀ c i, a ≠ .num c ∧ a ≠ .var i ∧ a ≠ .time) : (ser a).length ≠ 1 := by
 cases a with
 | num c => exact absurd rfl (h c 0).1
 | var i => exact absurd rfl (h (0, 0) i).2.1
 | time => exact absurd rfl (h (0, 0) 0).2.2
 | un o a => have := zcE a; simp only [sz] at this; simp [ser]; intro e; rw [e] at this; simp at this
 | bin o a b => have := zcE a; simp only [sz] at this; simp [ser]; intro e; rw [e] at this; simp at this
theorem zlX (a : Ex) (hb : sz a ≤ 1000000000) (H : AH) : zaf E 186 [xs (ser a)] H (.ret (.tuple [.int .i64 (ptV a), .bool (isPt a).isSome])) H := by
 refine zab zah zai Tryz.func186 rfl (by rfl) Tryz.ntmps186 (by kernel_rfl) (by simp) ?_
 have big : (∀ c i, a ≠ .num c ∧ a ≠ .var i ∧ a ≠ .time) → (((ser a).length : Int) != 1) = true := fun h => by
  have := zrM h
  simp only [bne_iff_ne, ne_eq]; omega
 have fin : ∀ {fr : AFr} {x : zcj} (p : Int) (q : Bool), fr 2 = .int .i64 p → fr 3 = .bool q → p = ptV a → q = (isPt a).isSome → (x = .ret ∨ x = .normal) → zbN E Tryz.f186 H (.ret (.tuple [.int .i64 (ptV a), .bool (isPt a).isSome])) H x fr H := by
  rintro fr x p q h1 h2 rfl rfl hx
  exact finK (rs := [.tmp 2, .tmp 3]) (vs := [.int .i64 (ptV a), .bool (isPt a).isSome]) (by rfl) (by simp [resA, h1, h2]) rfl hx
 unfold xs
 cases a with
 | num c =>
  simp [ser]
  by_cases hc : c.1 = c.2
  ·have h1 : (c.1 != c.2) = false := by simp [hc]
   simp [h1]
   refine endD [] (by rfl) (by simp [okW, note, Eff.triv, Eff.wr, Eff.none, upTo, newAt]) ?_
   simp
   exact fin c.1 true (by simp) (by simp) (by simp [ptV, isPt, hc]) (by simp [isPt, hc]) (by simp)
  ·have h1 : (c.1 != c.2) = true := by simp [hc]
   simp [h1]
   refine endD [] (by rfl) (by simp [okW, note, Eff.triv, Eff.wr, Eff.none, upTo, newAt]) ?_
   simp
   exact fin 0 false (by simp) (by simp) (by simp [ptV, isPt, hc]) (by simp [isPt, hc]) (by simp)
 | var i =>
  simp [ser, zap]
  refine endD [] (by rfl) (by simp [okW, note, Eff.triv, Eff.wr, Eff.none, upTo, newAt]) ?_
  simp
  exact fin 0 false (by simp) (by simp) (by simp [ptV, isPt]) (by simp [isPt]) (by simp)
 | time =>
  simp [ser, zap]
  refine endD [] (by rfl) (by simp [okW, note, Eff.triv, Eff.wr, Eff.none, upTo, newAt]) ?_
  simp
  exact fin 0 false (by simp) (by simp) (by simp [ptV, isPt]) (by simp [isPt]) (by simp)
 | un o b =>
  have h1 := big (fun c i => ⟨by simp, by simp, by simp⟩)
  generalize ser (.un o b) = L at *
  simp [h1]
  refine endD [] (by rfl) (by simp [okW, note, Eff.triv, Eff.wr, Eff.none, upTo, newAt]) ?_
  simp
  exact fin 0 false (by simp) (by simp) (by simp [ptV, isPt]) (by simp [isPt]) (by simp)
 | bin o b d =>
  have h1 := big (fun c i => ⟨by simp, by simp, by simp⟩)
  generalize ser (.bin o b d) = L at *
  simp [h1]
  refine endD [] (by rfl) (by simp [okW, note, Eff.triv, Eff.wr, Eff.none, upTo, newAt]) ?_
  simp
  exact fin 0 false (by simp) (by simp) (by simp [ptV, isPt]) (by simp [isPt]) (by simp)
theorem zux (a : Ex) (x : Int) : isK a x = ((isPt a).isSome && ptV a == x) := by
 cases a with
 | num c =>
  simp only [isK, isPt, ptV]
  by_cases hc : c.1 = c.2
  ·simp [hc]
  ·simp [hc]
   intro h1 h2; omega
 | _ => simp [isK, isPt]
theorem jIs (a : Ex) (x : Int) (hb : sz a ≤ 1000000000) (H : AH) : zaf E 117 [xs (ser a), .int .i64 x] H (.ret (.bool (isK a x))) H := by
 refine zab zah zai Tryz.func117 rfl (by rfl) Tryz.ntmps117 (by kernel_rfl) (by simp) ?_
 simp
 refine zaa (zlX a hb _) ?_
 rw [zux]
 simp
 cases (isPt a).isSome with
 | true =>
  simp
  exact fin0 (rs := [.tmp 4]) (by rfl) (by simp [resA])
 | false =>
  simp
  exact fin0 (rs := [.tmp 4]) (by rfl) (by simp [resA])
def zb0 (f : I → I → I) (a b : Ex) : Option I :=
 match a, b with
 | .num c, .num d => if c.1 = c.2 ∧ d.1 = d.2 then some (f c d) else none
 | _, _ => none
def zsC : Option I → AV
 | some r => xs (ser (.num r))
 | none => .slice [] false
def zcX : Option I → Bool
 | some r => r.1 == r.2
 | none => false
theorem ziX (f : I → I → I) (a b e : Ex) : (zfk f a b).getD e = if zcX (zb0 f a b) then (.num ((zb0 f a b).getD (0, 0))) else e := by
 cases a with
 | num c =>
  cases b with
  | num d =>
   by_cases h : c.1 = c.2 ∧ d.1 = d.2
   ·by_cases h2 : (f c d).1 = (f c d).2
    ·simp [zfk, zb0, zcX, h.1, h.2, h2]
    ·simp [zfk, zb0, zcX, h.1, h.2, h2]
   ·have h3 : ¬ (c.1 = c.2 ∧ d.1 = d.2 ∧ (f c d).1 = (f c d).2) := fun x => h ⟨x.1, x.2.1⟩
    have e1 : zb0 f (.num c) (.num d) = none := by unfold zb0; exact if_neg h
    have e2 : zfk f (.num c) (.num d) = none := by unfold zfk; exact if_neg h3
    rw [e1, e2]; rfl
  | _ => simp [zfk, zb0, zcX]
 | _ => simp [zfk, zb0, zcX]
theorem zg3 {a : Ex} {x : Int} (h : isPt a = some x) : a = .num (x, x) := by
 cases a with
 | num c =>
  obtain ⟨p, q⟩ := c
  simp only [isPt] at h
  split at h
  ·rename_i he; simp at h he; subst h he; rfl
  ·cases h
 | _ => simp [isPt] at h
theorem zsp (g : FuncId) (f : I → I → I) (hg : ∀ c d, vB c = true → vB d = true → ∀ Hx, zaf E g [iv c, iv d] Hx (.ret (iv (f c d))) Hx) (a b : Ex) {k : Nat} (ha : wf k a = true) (hb : wf k b = true) (hsa : sz a ≤ 1000000000) (hsb : sz b ≤ 1000000000) (H : AH) :
  zaf E 303 [fnA g, xs (ser a), xs (ser b)] H (.ret (.tuple [zsC (zb0 f a b), .bool (zcX (zb0 f a b))])) H := by
 refine zab zah zai Tryz.func303 rfl (by rfl) Tryz.ntmps303 (by kernel_rfl) (by simp) ?_
 have nil : ∀ {fr : AFr} {x : zcj}, fr 6 = .nilslice → fr 7 = .bool false → zb0 f a b = none → (x = .ret ∨ x = .normal) → zbN E Tryz.f303 H (.ret (.tuple [zsC (zb0 f a b), .bool (zcX (zb0 f a b))])) H x fr H := by
  rintro fr x h1 h2 h3 hx
  rw [h3]
  exact zoL (rs := [.tmp 6, .tmp 7]) (vs := [.nilslice, .bool false]) (vs' := [.slice [] false, .bool false]) (by rfl) (by simp [resA, h1, h2]) (by simp) (by simp [noF, noFs]) rfl hx
 simp
 refine zaa (zlX a hsa _) ?_
 simp
 refine zaa (zlX b hsb _) ?_
 simp
 cases h1 : isPt a with
 | none =>
  have h0 : zb0 f a b = none := by
   unfold zb0
   split
   ·rename_i c d
    simp only [isPt] at h1
    split at h1
    ·cases h1
    ·rename_i hc; rw [if_neg (fun x => hc x.1)]
   ·rfl
  simp
  exact nil (by simp) (by simp) h0 (by simp)
 | some x =>
  cases h2 : isPt b with
  | none =>
   have h0 : zb0 f a b = none := by
    unfold zb0
    split
    ·rename_i c d
     simp only [isPt] at h2
     split at h2
     ·cases h2
     ·rename_i hc; rw [if_neg (fun x => hc x.2)]
    ·rfl
   simp
   exact nil (by simp) (by simp) h0 (by simp)
  | some y =>
   obtain rfl := zg3 h1
   obtain rfl := zg3 h2
   have h0 : zb0 f (.num (x, x)) (.num (y, y)) = some (f (x, x) (y, y)) := by simp [zb0]
   rw [h0]
   simp [ser, xs]
   refine zac (hg (x, x) (y, y) ha hb) ?_
   generalize f (x, x) (y, y) = r
   simp
   refine endD [(10, 11)] (by rfl) (by simp [okW, note, Eff.triv, Eff.wr, Eff.none, upTo, newAt]) ?_
   simp
   refine endD [] (by rfl) (by simp [okW, note, Eff.triv, Eff.wr, Eff.none, upTo, newAt]) ?_
   simp
   exact finC (rs := [.tmp 6, .tmp 7]) (vs := [.slice [nd ⟨1, 0, r⟩] true, .bool (r.1 == r.2)]) (vs' := [.slice [nd ⟨1, 0, r⟩] false, .bool (r.1 == r.2)]) (by rfl) (by simp [resA]) (by simp; rfl) (by simp [noF, noFs]) rfl
theorem zon (op : Int) (a : Ex) (hb : sz a ≤ 500000000) (H : AH) : zaf E 273 [.int .i64 op, .slice [xs (ser a)] false] H (.ret (xs (zap op 0 :: ser a))) H := by
 have h := zq9 op [ser a] (by have := zcE a; simp only [sz] at this; intro e; rw [show ([ser a] : List (List Nd)).flatten = ser a by simp] at e; rw [e] at this; simp at this) (by simp) (by simpa [sz] using hb) H
 rw [show ([ser a] : List (List Nd)).flatten = ser a by simp] at h
 exact h
theorem ziS (op : Int) (a b : Ex) (hb : sz a + sz b ≤ 500000000) (H : AH) : zaf E 273 [.int .i64 op, .slice [xs (ser a), xs (ser b)] false] H (.ret (xs (zap op 0 :: (ser a ++ ser b)))) H := by
 have e : ([ser a, ser b] : List (List Nd)).flatten = ser a ++ ser b := by simp
 have h := zq9 op [ser a, ser b] (by rw [e]; have := zcE a; simp only [sz] at this; intro e; rw [List.append_eq_nil_iff] at e; rw [e.1] at this; simp at this) (by simp) (by rw [e, List.length_append]; simpa [sz] using hb) H
 rw [e] at h
 exact h
theorem zf7 (a : Ex) {k : Nat} (ha : wf k a = true) (hsa : sz a ≤ 100000000) (H : AH) : zaf E 280 [xs (ser a)] H (.ret (xs (ser (zcH a)))) H := by
 refine zab zah zai Tryz.func280 rfl (by rfl) Tryz.ntmps280 (by kernel_rfl) (by simp) ?_
 simp
 refine zaa (zlX a (by omega) _) ?_
 simp
 cases h1 : isPt a with
 | some x =>
  obtain rfl := zg3 h1
  have hv := zao (a := (x, x)) ha
  have w : IntKind.i64.wrap (-x) = -x := zae (by omega) (by omega)
  have hp : ptV (.num (x, x)) = x := by simp [ptV, isPt]
  have he : zcH (.num (x, x)) = .num (pt (-x)) := by simp [zcH, isPt]
  rw [he]
  simp [hp, w]
  refine zaa (zlZ _ _) ?_
  simp
  exact zoL (rs := [.tmp 2]) (vs := [.slice [nd ⟨1, 0, pt (-x)⟩] true]) (vs' := [.slice [nd ⟨1, 0, pt (-x)⟩] false]) (by rfl) (by simp [resA]) (by simp) (by simp [noF, noFs]) rfl
 | none =>
  simp
  have hget : (ser a)[0]? = some (zan a) := by rw [zcl]; rfl
  have hmap : ((ser a).map nd)[0]? = some (nd (zan a)) := by rw [List.getElem?_map, hget]; rfl
  have hmapE : ∀ h, ((ser a).map nd)[0]'h = nd (zan a) := fun h => (gI.1 hmap).2
  by_cases h2 : ∃ b, a = .un .neg b
  ·obtain ⟨b, rfl⟩ := h2
   have he : zcH (.un .neg b) = b := by simp [zcH, isPt]
   rw [he]
   have hr : (zan (.un .neg b)).op = 4 := rfl
   have hl : 1 ≤ (ser (.un .neg b)).length := zcE _
   have hd : (ser (.un .neg b)).drop 1 = ser b := rfl
   generalize ser (.un .neg b) = L at *
   have hE : (List.take L.length (L.map nd)).tail = (ser b).map nd := by rw [List.take_of_length_le (by simp), ← List.drop_one, ← List.map_drop, hd]
   simp [xs, hmap, hmapE, hr]
   refine zaY (zcU fun _ => rfl) ?_
   refine zaY (by omega) ?_
   simp [hE]
   exact fin0 (rs := [.tmp 2]) (by rfl) (by simp [resA])
  ·have he : zcH a = .un .neg a := by
    unfold zcH
    rw [h1]
    dsimp only
    split
    ·rename_i b; exact absurd ⟨b, rfl⟩ h2
    ·rfl
   have hr : ((zan a).op == 4) = false := by
    cases a with
    | un o b => cases o with
     | neg => exact absurd ⟨b, rfl⟩ h2
     | sqr => rfl
     | sqrt => rfl
    | bin o b c => cases o <;> rfl
    | _ => rfl
   rw [he]
   simp [xs, hmap, hmapE, hr]
   refine zba (zon 4 a (by omega) _) (by simp [xs]; rfl) ?_
   simp
   exact zoL (rs := [.tmp 2]) (vs := [xs (ser (.un .neg a))]) (vs' := [xs (ser (.un .neg a))]) (by rfl) (by simp [resA, xs, ser, U.code]) (by simp [xs]) (by simp only [noFs, Bool.and_true]; exact zaZ _ _) rfl
theorem finX {fn : Func} {t : Tmp} {fr : AFr} {H0 : AH} {l : List Nd} {e : zcj} (hr : fn.results.toList = [.tmp t]) (h : fr t = xs l) (hx : e = .ret ∨ e = .normal := by simp) : zbN E fn H0 (.ret (xs l)) H0 e fr H0 :=
 zoL (rs := [.tmp t]) (vs := [xs l]) (vs' := [xs l]) hr (by simp [resA, h]) (by simp [xs]) (by simp only [noFs, Bool.and_true]; exact zaZ _ _) rfl hx
theorem ziY {o : Option I} (h : zcX o = true) : zsC o = xs (ser (.num (o.getD (0, 0)))) := by
 cases o with
 | none => cases h
 | some r => rfl
theorem zjT (a b : Ex) {k : Nat} (ha : wf k a = true) (hb : wf k b = true) (hs : sz a + sz b ≤ 100000000) (H : AH) : zaf E 281 [.int .i64 7, xs (ser a), xs (ser b)] H (.ret (xs (ser (zeF a b)))) H := by
 refine zab zah zai Tryz.func281 rfl (by rfl) Tryz.ntmps281 (by kernel_rfl) (by simp) ?_
 simp
 refine zaa (zsp 91 add (fun c d hc hd Hx => iAdd c d hc hd Hx) a b ha hb (by omega) (by omega) _) ?_
 simp
 refine zaa (jIs a 0 (by omega) _) ?_
 cases h1 : isK a 0 with
 | true =>
  simp
  exact finX (t := 6) (by rfl) (by simp [zeF, h1])
 | false =>
 simp
 refine zaa (jIs b 0 (by omega) _) ?_
 cases h2 : isK b 0 with
 | true =>
  simp
  exact finX (t := 6) (by rfl) (by simp [zeF, h1, h2])
 | false =>
 have he : zeF a b = if zcX (zb0 add a b) then .num ((zb0 add a b).getD (0, 0)) else .bin .add a b := by simp only [zeF, h1, h2]; exact ziX _ _ _ _
 rw [he]
 simp
 cases h3 : zcX (zb0 add a b) with
 | true =>
  simp
  exact finX (t := 6) (by rfl) (by simp; exact ziY h3)
 | false =>
 simp [xs]
 refine zba (ziS 7 a b (by omega) _) (by simp [xs]; rfl) ?_
 simp
 exact finX (t := 6) (by rfl) (by simp [ser, B.code])
theorem zjS (a b : Ex) {k : Nat} (ha : wf k a = true) (hb : wf k b = true) (hs : sz a + sz b ≤ 100000000) (H : AH) : zaf E 281 [.int .i64 8, xs (ser a), xs (ser b)] H (.ret (xs (ser (zeE a b)))) H := by
 refine zab zah zai Tryz.func281 rfl (by rfl) Tryz.ntmps281 (by kernel_rfl) (by simp) ?_
 simp
 refine zaa (zsp 234 sub (fun c d hc hd Hx => iSub c d hc hd Hx) a b ha hb (by omega) (by omega) _) ?_
 simp
 refine zaa (jIs b 0 (by omega) _) ?_
 cases h2 : isK b 0 with
 | true =>
  simp
  exact finX (t := 6) (by rfl) (by simp [zeE, h2])
 | false =>
 simp
 refine zaa (jIs a 0 (by omega) _) ?_
 cases h1 : isK a 0 with
 | true =>
  simp
  refine zaa (zf7 b hb (by omega) _) ?_
  simp
  exact finX (t := 6) (by rfl) (by simp [zeE, h1, h2])
 | false =>
 have he : zeE a b = if zcX (zb0 sub a b) then .num ((zb0 sub a b).getD (0, 0)) else .bin .sub a b := by simp only [zeE, h1, h2]; exact ziX _ _ _ _
 rw [he]
 simp
 cases h3 : zcX (zb0 sub a b) with
 | true =>
  simp
  exact finX (t := 6) (by rfl) (by simp; exact ziY h3)
 | false =>
 simp [xs]
 refine zba (ziS 8 a b (by omega) _) (by simp [xs]; rfl) ?_
 simp
 exact finX (t := 6) (by rfl) (by simp [ser, B.code])
theorem zge (a b : Ex) {k : Nat} (ha : wf k a = true) (hb : wf k b = true) (hs : sz a + sz b ≤ 100000000) (H : AH) : zaf E 282 [xs (ser a), xs (ser b)] H (.ret (xs (ser (zdF a b)))) H := by
 refine zab zah zai Tryz.func282 rfl (by rfl) Tryz.ntmps282 (by kernel_rfl) (by simp) ?_
 simp
 refine zaa (zsp 118 mul (fun c d hc hd Hx => iMul c d hc hd Hx) a b ha hb (by omega) (by omega) _) ?_
 simp
 refine zaa (jIs a 0 (by omega) _) ?_
 cases h1 : isK a 0 with
 | true =>
  simp
  refine zaa (zfP 0 (by omega) _) ?_
  simp
  exact finX (t := 4) (by rfl) (by simp [zdF, h1])
 | false =>
 simp
 refine zaa (jIs b 0 (by omega) _) ?_
 cases h2 : isK b 0 with
 | true =>
  simp
  refine zaa (zfP 0 (by omega) _) ?_
  simp
  exact finX (t := 4) (by rfl) (by simp [zdF, h1, h2])
 | false =>
 simp
 refine zaa (jIs a 65536 (by omega) _) ?_
 cases h3 : isK a 65536 with
 | true =>
  simp
  exact finX (t := 4) (by rfl) (by simp [zdF, h1, h2, h3])
 | false =>
 simp
 refine zaa (jIs b 65536 (by omega) _) ?_
 cases h4 : isK b 65536 with
 | true =>
  simp
  exact finX (t := 4) (by rfl) (by simp [zdF, h1, h2, h3, h4])
 | false =>
 have he : zdF a b = if zcX (zb0 mul a b) then .num ((zb0 mul a b).getD (0, 0)) else .bin .mul a b := by simp only [zdF, h1, h2, h3, h4]; exact ziX _ _ _ _
 rw [he]
 simp
 cases h5 : zcX (zb0 mul a b) with
 | true =>
  simp
  exact finX (t := 4) (by rfl) (by simp; exact ziY h5)
 | false =>
 simp [xs]
 refine zba (ziS 9 a b (by omega) _) (by simp [xs]; rfl) ?_
 simp
 exact finX (t := 4) (by rfl) (by simp [ser, B.code])
theorem zb9 {g : FuncId} {captured args args' : List AV} {next : NxD} {H : AH} {r : AV} {b : Nat} {k k' : ABlk} (hb : H[b]? = some k) (hc : ∀ Hx : AH, Hx[b]? = some k → zc8 Hx args = (args', Hx.set b k')) (h : ∀ Hx, zaf E g (args' ++ captured) Hx (.ret r) Hx)
  (kk : next .go r ⟨[b], [(b, k')], none, true⟩ (H.set b k')) : zdN E (.func (.func g) [] captured) args next H :=
 ⟨r, [b], [(b, k')], ⟨fun c hc => by simp at hc; subst hc; exact (gI.1 hb).1, fun p hp => by simp at hp; subst hp; simp, fun Hx hx => .inr (by
  rw [List.nil_append, hc Hx ((hx b (by simp)).trans hb)]; exact h _)⟩, kk⟩
@[simp ↓] theorem cells_xs (l : List Nd) : (xs l).cells = [xs l] := rfl
@[simp ↓] theorem ztt (l : List Nd) : zaF (xs l) = some [xs l] := rfl
@[simp ↓] theorem conv1_xs (H : AH) (l : List Nd) : zc9 H (xs l) = (xs l, H) := rfl
@[simp ↓] theorem okc_xs (l : List Nd) : okc (xs l) = true := rfl
theorem zlo {H : AH} {l : List AV} {f g : Bool} : zar tab H 26 (.slice l f) (.slice [] g) = some (.slice l f, H) := by simp [zar]
def LSi (a : Ex) (H : AH) (i : Nat) (fr : AFr) (H' : AH) : Prop :=
 fr 0 = xs (ser a) ∧ fr 8 = .slice ((kids a).map fun k => xs (ser k)) false ∧ fr 9 = .int .i64 (kids a).length ∧ fr 10 = .int .i64 i ∧ i ≤ (kids a).length ∧ (i = 0 → fr 3 = .nilslice) ∧ ∃ J, H' = H ++ J ∧ Acc H J (fr 3) 1 (((kids a).take i).map fun k => xs (ser (smp k))) .nilslice
theorem zlW {n : Nat} {a k : Ex} {i : Nat} (h : (kids a)[i]? = some k) (hw : wf n a = true) : wf n k = true := by
 cases a with
 | un o a =>
  cases i with
  | zero => simp [kids] at h; subst h; exact hw
  | succ i => simp [kids] at h
 | bin o a b =>
  simp only [wf, Bool.and_eq_true] at hw
  match i, h with
  | 0, h => simp [kids] at h; subst h; exact hw.1
  | 1, h => simp [kids] at h; subst h; exact hw.2
  | i + 2, h => simp [kids] at h
 | _ => simp [kids] at h
theorem zjU {kk : Nat} : ∀ (n : Nat) (a : Ex), sz a ≤ n → wf kk a = true → sz a ≤ 100000000 → ∀ H, zaf E 241 [xs (ser a)] H (.ret (xs (ser (smp a)))) H
 | 0, a, hn, hw, hs, H => by have := zcE a; omega
 | n + 1, a, hn, hw, hs, H => by
  refine zab zah zai Tryz.func241 rfl (by rfl) Tryz.ntmps241 (by kernel_rfl) (by simp) ?_
  have ih : ∀ (k : Ex) (i : Nat), (kids a)[i]? = some k → ∀ H, zaf E 241 [xs (ser k)] H (.ret (xs (ser (smp k)))) H := fun k i hi H =>
   zjU n k (by have := zf6 hi; omega) (zlW hi hw) (by have := zf6 hi; omega) H
  have hk2 := zd5 a
  have hget : (ser a)[0]? = some (zan a) := by rw [zcl]; rfl
  have hmap : ((ser a).map nd)[0]? = some (nd (zan a)) := by rw [List.getElem?_map, hget]; rfl
  have hmapE : ∀ h, ((ser a).map nd)[0]'h = nd (zan a) := fun h => (gI.1 hmap).2
  simp
  refine zaa (zjH a (by omega) _) ?_
  simp
  refine zag (LSi a H) (fun i => (kids a).length - i) 0 ⟨by simp, by simp, by simp, by simp, by omega, fun _ => by simp, [], by simp, .inl ⟨by simp, by simp⟩⟩ ?_
  rintro i fr H' ⟨g0, g8, g9, g10, hi, hnil, J, rfl, hacc⟩
  simp [g9, g10]
  refine zak (fun hc => ?_) (fun hc => ?_)
  ·have hlt : i < (kids a).length := by simpa using hc
   obtain ⟨k, hki⟩ := zaj hlt
   have hkiE : ∀ h, (kids a)[i]'h = k := fun h => (gI.1 hki).2
   have w2 : IntKind.i64.wrap ((i : Int) + 1) = ((i + 1 : Nat) : Int) := by rw [zae (by omega) (by omega)]; omega
   have hS := ih k i hki (H ++ J)
   simp only [zdn] at hS
   simp [g0, g8, g9, g10, hki, hkiE, xs]
   refine zaa hS ?_
   obtain ⟨v', J', hap, hacc', _⟩ := Acc.push (T := tab) (t := 22) (e := 26) (x := .slice [xs (ser (smp k))] true) hacc tab22 rfl tab26 rfl rfl (by simp [xs, okc]) ⟨by decide, by simp⟩ (by simp; omega) (by simp; omega)
   simp only [zdn] at hap
   simp
   refine bind_some hap ?_
   simp [g0, g9, g10, w2]
   refine ⟨i + 1, by show (kids a).length - (i + 1) < (kids a).length - i; omega, by simp [g0], by simp [g8], by simp [g9], by simp, by omega, fun h => by omega, J', rfl, ?_⟩
   rw [List.take_add_one, hki]
   simpa using hacc'
  ·have hi' : i = (kids a).length := by have : ¬ i < (kids a).length := by simpa using hc
                                        omega
   subst hi'
   rw [List.take_length] at hacc
   rw [zdn] at g0
   have ih' := fun k i hi => ih k i hi
   simp [g0, hmap, hmapE]
   clear ih g8 g9 g10 hc hi
   cases a with
   | num c =>
    have h3 : fr 3 = .nilslice := hnil rfl
    simp [zan, zap, h3]
    simp [g0, hmap, hmapE, zan, zap]
    refine zau (args' := [.slice [] false]) (fun Hx => zhh [] (by simp) (by simp) Hx) (fun Hx => by simp [h3]) ?_
    simp [xs]
    refine bind_some zlo ?_
    simp
    refine endD [] (by rfl) (by simp [okW, note, Eff.triv, Eff.wr, Eff.none, upTo, newAt]) ?_
    simp
    exact finC (rs := [.tmp 2]) (vs := [.slice [nd (zan (.num c))] true]) (vs' := [xs (ser (.num c))]) (by rfl) (by simp [resA, zan, zap]) (by simp [xs, ser, zan, zap]; rfl) (by simp only [noFs, Bool.and_true]; exact zaZ _ _) rfl
   | var v =>
    have h3 : fr 3 = .nilslice := hnil rfl
    simp [zan, zap, h3]
    simp [g0, hmap, hmapE, zan, zap]
    refine zau (args' := [.slice [] false]) (fun Hx => zhh [] (by simp) (by simp) Hx) (fun Hx => by simp [h3]) ?_
    simp [xs]
    refine bind_some zlo ?_
    simp
    refine endD [] (by rfl) (by simp [okW, note, Eff.triv, Eff.wr, Eff.none, upTo, newAt]) ?_
    simp
    exact finC (rs := [.tmp 2]) (vs := [.slice [nd (zan (.var v))] true]) (vs' := [xs (ser (.var v))]) (by rfl) (by simp [resA, zan, zap]) (by simp [xs, ser, zan, zap]; rfl) (by simp only [noFs, Bool.and_true]; exact zaZ _ _) rfl
   | time =>
    have h3 : fr 3 = .nilslice := hnil rfl
    simp [zan, zap, h3]
    simp [g0, hmap, hmapE, zan, zap]
    refine zau (args' := [.slice [] false]) (fun Hx => zhh [] (by simp) (by simp) Hx) (fun Hx => by simp [h3]) ?_
    simp [xs]
    refine bind_some zlo ?_
    simp
    refine endD [] (by rfl) (by simp [okW, note, Eff.triv, Eff.wr, Eff.none, upTo, newAt]) ?_
    simp
    exact finC (rs := [.tmp 2]) (vs := [.slice [nd (zan (.time))] true]) (vs' := [xs (ser (.time))]) (by rfl) (by simp [resA, zan, zap]) (by simp [xs, ser, zan, zap]; rfl) (by simp only [noFs, Bool.and_true]; exact zaZ _ _) rfl
   | un o a =>
    have hacc1 : ∃ k, fr 3 = .ref (H.length + k) 1 ∧ J[k]? = some (.row true 1 [xs (ser (smp a))]) := by
     rcases hacc with ⟨h, _⟩ | ⟨k, h1, h2⟩
     ·simp [kids] at h
     ·exact ⟨k, by simpa [kids] using h1, by simpa [kids] using h2⟩
    obtain ⟨k, h3, hJ⟩ := hacc1
    have hwa : wf kk (smp a) = true := zgy a hw
    have hsa := zfZ a
    rw [zdR] at hs
    have hne : ser (smp a) ≠ [] := by rw [zcl]; simp
    have hlen : (ser (smp a)).length ≤ 500000000 := by
     have : sz (smp a) = (ser (smp a)).length := rfl
     omega
    cases o with
    | neg =>
     simp [zan, zap, U.code, h3, hJ, xs]
     refine zaa (zf7 (smp a) hwa (by omega) _) ?_
     simp
     exact finC (rs := [.tmp 2]) (vs := [xs (ser (zcH (smp a)))]) (vs' := [xs (ser (zcH (smp a)))]) (by rfl) (by simp [resA, xs]) (by simp [xs]; rfl) (by simp only [noFs, Bool.and_true]; exact zaZ _ _) rfl
    | sqr =>
     have he : smp (.un .sqr a) = if isK (smp a) 0 || isK (smp a) 65536 then smp a else .un .sqr (smp a) := rfl
     have fin0 : ∀ (fr : AFr) (J : AH) (x : zcj), fr 2 = xs (ser (smp a)) → smp (.un .sqr a) = smp a → (x = .ret ∨ x = .normal) → zbN E Tryz.f241 H (.ret (xs (ser (smp (.un .sqr a))))) H x fr (H ++ J) := by
      intro fr J x h1 h2 hx
      rw [h2]
      exact finC (rs := [.tmp 2]) (vs := [xs (ser (smp a))]) (vs' := [xs (ser (smp a))]) (by rfl) (by simp [resA, h1]) (by simp [xs]; rfl) (by simp only [noFs, Bool.and_true]; exact zaZ _ _) rfl hx
     simp [zan, zap, U.code, h3, hJ, xs]
     refine zaa (jIs (smp a) 0 (by omega) _) ?_
     cases h4 : isK (smp a) 0 with
     | true =>
      simp [h3, hJ, xs]
      exact fin0 _ _ _ (by simp [xs]) (by rw [he, h4]; rfl) (by simp)
     | false =>
     simp [h3, hJ, xs]
     refine zaa (jIs (smp a) 65536 (by omega) _) ?_
     cases h5 : isK (smp a) 65536 with
     | true =>
      simp [h3, hJ, xs]
      exact fin0 _ _ _ (by simp [xs]) (by rw [he, h4, h5]; rfl) (by simp)
     | false =>
     rw [he, h4, h5]
     simp [h3, hJ, g0, hmap, hmapE, zan, zap, U.code]
     refine zb9 (b := H.length + k) (k := .row true 1 [xs (ser (smp a))]) (k' := .row false 1 [xs (ser (smp a))]) (args' := [.slice [xs (ser (smp a))] false]) (by simp [hJ]) (fun Hx hx => by simp [hx, xs]) (fun Hx => by rw [List.append_nil]; exact zhh [ser (smp a)] (by simp) (by simpa using hlen) Hx) ?_
     rw [show ([ser (smp a)] : List (List Nd)).flatten = ser (smp a) by simp]
     simp [xs]
     refine bind_some (zey (l := [zap 5 0]) hne (by simp; omega)) ?_
     simp
     have hkJ : k < J.length := (gI.1 hJ).1
     refine endD [] (by rfl) (by simp [okW, note, Eff.triv, Eff.wr, Eff.none, upTo, newAt]; omega) ?_
     simp
     exact finC (rs := [.tmp 2]) (vs := [.ref (H.length + J.length) (1 + (ser (smp a)).length)]) (vs' := [xs (ser (.un .sqr (smp a)))]) (by rfl) (by simp [resA]) (by simp [xs, ser, U.code, Nat.add_comm]; rfl) (by simp only [noFs, Bool.and_true]; exact zaZ _ _) rfl
    | sqrt =>
     have he : smp (.un .sqrt a) = if isK (smp a) 0 || isK (smp a) 65536 then smp a else .un .sqrt (smp a) := rfl
     have fin0 : ∀ (fr : AFr) (J : AH) (x : zcj), fr 2 = xs (ser (smp a)) → smp (.un .sqrt a) = smp a → (x = .ret ∨ x = .normal) → zbN E Tryz.f241 H (.ret (xs (ser (smp (.un .sqrt a))))) H x fr (H ++ J) := by
      intro fr J x h1 h2 hx
      rw [h2]
      exact finC (rs := [.tmp 2]) (vs := [xs (ser (smp a))]) (vs' := [xs (ser (smp a))]) (by rfl) (by simp [resA, h1]) (by simp [xs]; rfl) (by simp only [noFs, Bool.and_true]; exact zaZ _ _) rfl hx
     simp [zan, zap, U.code, h3, hJ, xs]
     refine zaa (jIs (smp a) 0 (by omega) _) ?_
     cases h4 : isK (smp a) 0 with
     | true =>
      simp [h3, hJ, xs]
      exact fin0 _ _ _ (by simp [xs]) (by rw [he, h4]; rfl) (by simp)
     | false =>
     simp [h3, hJ, xs]
     refine zaa (jIs (smp a) 65536 (by omega) _) ?_
     cases h5 : isK (smp a) 65536 with
     | true =>
      simp [h3, hJ, xs]
      exact fin0 _ _ _ (by simp [xs]) (by rw [he, h4, h5]; rfl) (by simp)
     | false =>
     rw [he, h4, h5]
     simp [h3, hJ, g0, hmap, hmapE, zan, zap, U.code]
     refine zb9 (b := H.length + k) (k := .row true 1 [xs (ser (smp a))]) (k' := .row false 1 [xs (ser (smp a))]) (args' := [.slice [xs (ser (smp a))] false]) (by simp [hJ]) (fun Hx hx => by simp [hx, xs]) (fun Hx => by rw [List.append_nil]; exact zhh [ser (smp a)] (by simp) (by simpa using hlen) Hx) ?_
     rw [show ([ser (smp a)] : List (List Nd)).flatten = ser (smp a) by simp]
     simp [xs]
     refine bind_some (zey (l := [zap 6 0]) hne (by simp; omega)) ?_
     simp
     have hkJ : k < J.length := (gI.1 hJ).1
     refine endD [] (by rfl) (by simp [okW, note, Eff.triv, Eff.wr, Eff.none, upTo, newAt]; omega) ?_
     simp
     exact finC (rs := [.tmp 2]) (vs := [.ref (H.length + J.length) (1 + (ser (smp a)).length)]) (vs' := [xs (ser (.un .sqrt (smp a)))]) (by rfl) (by simp [resA]) (by simp [xs, ser, U.code, Nat.add_comm]; rfl) (by simp only [noFs, Bool.and_true]; exact zaZ _ _) rfl
   | bin o a b =>
    have hacc1 : ∃ k, fr 3 = .ref (H.length + k) 2 ∧ J[k]? = some (.row true 1 [xs (ser (smp a)), xs (ser (smp b))]) := by
     rcases hacc with ⟨h, _⟩ | ⟨k, h1, h2⟩
     ·simp [kids] at h
     ·exact ⟨k, by simpa [kids] using h1, by simpa [kids] using h2⟩
    obtain ⟨k, h3, hJ⟩ := hacc1
    simp only [wf, Bool.and_eq_true] at hw
    have hwa : wf kk (smp a) = true := zgy a hw.1
    have hwb : wf kk (smp b) = true := zgy b hw.2
    have hsa := zfZ a
    have hsb := zfZ b
    rw [zbG] at hs
    have hne : ser (smp a) ++ ser (smp b) ≠ [] := by rw [zcl (smp a)]; simp
    have hlen : (ser (smp a)).length + (ser (smp b)).length ≤ 500000000 := by
     have : sz (smp a) = (ser (smp a)).length := rfl
     have : sz (smp b) = (ser (smp b)).length := rfl
     omega
    cases o with
    | add =>
     simp [zan, zap, B.code, h3, hJ, xs]
     refine zac (fun Hx => zjT (smp a) (smp b) hwa hwb (by omega) Hx) ?_
     simp
     refine endD [] (by rfl) (by simp [okW, note, Eff.triv, Eff.wr, Eff.none, upTo, newAt]) ?_
     simp
     exact finC (rs := [.tmp 2]) (vs := [xs (ser (zeF (smp a) (smp b)))]) (vs' := [xs (ser (zeF (smp a) (smp b)))]) (by rfl) (by simp [resA, xs]) (by simp [xs]; rfl) (by simp only [noFs, Bool.and_true]; exact zaZ _ _) rfl
    | sub =>
     simp [zan, zap, B.code, h3, hJ, xs]
     refine zac (fun Hx => zjS (smp a) (smp b) hwa hwb (by omega) Hx) ?_
     simp
     refine endD [] (by rfl) (by simp [okW, note, Eff.triv, Eff.wr, Eff.none, upTo, newAt]) ?_
     simp
     exact finC (rs := [.tmp 2]) (vs := [xs (ser (zeE (smp a) (smp b)))]) (vs' := [xs (ser (zeE (smp a) (smp b)))]) (by rfl) (by simp [resA, xs]) (by simp [xs]; rfl) (by simp only [noFs, Bool.and_true]; exact zaZ _ _) rfl
    | mul =>
     simp [zan, zap, B.code, h3, hJ, xs]
     refine zac (fun Hx => zge (smp a) (smp b) hwa hwb (by omega) Hx) ?_
     simp
     refine endD [] (by rfl) (by simp [okW, note, Eff.triv, Eff.wr, Eff.none, upTo, newAt]) ?_
     simp
     exact finC (rs := [.tmp 2]) (vs := [xs (ser (zdF (smp a) (smp b)))]) (vs' := [xs (ser (zdF (smp a) (smp b)))]) (by rfl) (by simp [resA, xs]) (by simp [xs]; rfl) (by simp only [noFs, Bool.and_true]; exact zaZ _ _) rfl
    | div =>
     have he : smp (.bin .div a b) = if isK (smp a) 0 || isK (smp b) 65536 then smp a else .bin .div (smp a) (smp b) := rfl
     have fin0 : ∀ (fr : AFr) (J : AH) (x : zcj), fr 2 = xs (ser (smp a)) → smp (.bin .div a b) = smp a → (x = .ret ∨ x = .normal) → zbN E Tryz.f241 H (.ret (xs (ser (smp (.bin .div a b))))) H x fr (H ++ J) := by
      intro fr J x h1 h2 hx
      rw [h2]
      exact finC (rs := [.tmp 2]) (vs := [xs (ser (smp a))]) (vs' := [xs (ser (smp a))]) (by rfl) (by simp [resA, h1]) (by simp [xs]; rfl) (by simp only [noFs, Bool.and_true]; exact zaZ _ _) rfl hx
     simp [zan, zap, B.code, h3, hJ, xs]
     refine zaa (jIs (smp a) 0 (by omega) _) ?_
     cases h4 : isK (smp a) 0 with
     | true =>
      simp [h3, hJ, xs]
      exact fin0 _ _ _ (by simp [xs]) (by rw [he, h4]; rfl) (by simp)
     | false =>
     simp [h3, hJ, xs]
     refine zaa (jIs (smp b) 65536 (by omega) _) ?_
     cases h5 : isK (smp b) 65536 with
     | true =>
      simp [h3, hJ, xs]
      exact fin0 _ _ _ (by simp [xs]) (by rw [he, h4, h5]; rfl) (by simp)
     | false =>
     rw [he, h4, h5]
     simp [h3, hJ, g0, hmap, hmapE, zan, zap, B.code]
     refine zb9 (b := H.length + k) (k := .row true 1 [xs (ser (smp a)), xs (ser (smp b))]) (k' := .row false 1 [xs (ser (smp a)), xs (ser (smp b))]) (args' := [.slice [xs (ser (smp a)), xs (ser (smp b))] false]) (by simp [hJ]) (fun Hx hx => by simp [hx, xs]) (fun Hx => by rw [List.append_nil]; exact zhh [ser (smp a), ser (smp b)] (by simp) (by simpa using hlen) Hx) ?_
     rw [show ([ser (smp a), ser (smp b)] : List (List Nd)).flatten = ser (smp a) ++ ser (smp b) by simp]
     have hap := fun Hx : AH => zey (H := Hx) (l := [zap 10 0]) (f := false) hne (by simp; omega)
     generalize hLL : ser (smp a) ++ ser (smp b) = L at *
     simp [xs]
     refine bind_some (hap _) ?_
     simp
     have hkJ : k < J.length := (gI.1 hJ).1
     refine endD [] (by rfl) (by simp [okW, note, Eff.triv, Eff.wr, Eff.none, upTo, newAt]; omega) ?_
     simp
     exact finC (rs := [.tmp 2]) (vs := [.ref (H.length + J.length) (1 + L.length)]) (vs' := [xs (zap 10 0 :: L)]) (by rfl) (by simp [resA]) (by simp [xs, Nat.add_comm]; rfl) (by simp only [noFs, Bool.and_true]; exact zaZ _ _) (by rw [← hLL]; rfl)
def xss (l : List Ex) : AV := .slice (l.map fun k => xs (ser k)) false
theorem zom (o : U) (a : Ex) (hb : sz a ≤ 500000000) (H : AH) : zaf E 273 [.int .i64 o.code, .slice [xs (ser a)] false] H (.ret (xs (ser (.un o a)))) H := zon o.code a hb H
theorem zb5 (o : B) (a b : Ex) (hb : sz a + sz b ≤ 500000000) (H : AH) : zaf E 273 [.int .i64 o.code, .slice [xs (ser a), xs (ser b)] false] H (.ret (xs (ser (.bin o a b)))) H := ziS o.code a b hb H
theorem zuv (e a d : Ex) (hb : sz d ≤ 10000000) (H : AH) : zaf E 272 [xs (ser e), xss [a], xss [d]] H (.ret (xs (ser (.un .neg d)))) H := by
 refine zab zah zai Tryz.func272 rfl (by rfl) Tryz.ntmps272 (by kernel_rfl) (by simp) ?_
 simp [xss, xs]
 refine zba (zom .neg d (by omega) _) (by simp [xs, U.code]; rfl) ?_
 simp
 exact finX (t := 6) (by rfl) (by simp)
theorem zuu (e a d : Ex) (hb : sz a + sz d ≤ 10000000) (H : AH) : zaf E 274 [xs (ser e), xss [a], xss [d]] H (.ret (xs (ser (.bin .mul (.bin .mul (zbm 2) a) d)))) H := by
 refine zab zah zai Tryz.func274 rfl (by rfl) Tryz.ntmps274 (by kernel_rfl) (by simp) ?_
 have h1 := zbG .mul (zbm 2) a
 rw [zd1] at h1
 simp [xss, xs]
 refine zac (fun Hx => zfP 2 (by omega) Hx) ?_
 simp [xs]
 refine zau (fun Hx => zb5 .mul (zbm 2) a (by rw [zd1]; omega) Hx) (fun Hx => by simp [xs, B.code]) ?_
 simp [xs]
 refine zau (fun Hx => zb5 .mul (.bin .mul (zbm 2) a) d (by omega) Hx) (fun Hx => by simp [xs, B.code]) ?_
 simp
 refine endD [] (by rfl) (by simp [okW, note, Eff.triv, Eff.wr, Eff.none, upTo, newAt]) ?_
 simp
 exact finX (t := 6) (by rfl) (by simp)
theorem zut (e a d : Ex) (hb : sz e + sz d ≤ 10000000) (H : AH) : zaf E 275 [xs (ser e), xss [a], xss [d]] H (.ret (xs (ser (.bin .div d (.bin .mul (zbm 2) e))))) H := by
 refine zab zah zai Tryz.func275 rfl (by rfl) Tryz.ntmps275 (by kernel_rfl) (by simp) ?_
 have h1 := zbG .mul (zbm 2) e
 rw [zd1] at h1
 simp [xss, xs]
 refine zac (fun Hx => zfP 2 (by omega) Hx) ?_
 simp [xs]
 refine zau (fun Hx => zb5 .mul (zbm 2) e (by rw [zd1]; omega) Hx) (fun Hx => by simp [xs, B.code]) ?_
 simp [xs]
 refine zau (fun Hx => zb5 .div d (.bin .mul (zbm 2) e) (by omega) Hx) (fun Hx => by simp [xs, B.code]) ?_
 simp
 refine endD [] (by rfl) (by simp [okW, note, Eff.triv, Eff.wr, Eff.none, upTo, newAt]) ?_
 simp
 exact finX (t := 6) (by rfl) (by simp)
theorem zus (e a b c d : Ex) (hb : sz c + sz d ≤ 10000000) (H : AH) : zaf E 276 [xs (ser e), xss [a, b], xss [c, d]] H (.ret (xs (ser (.bin .add c d)))) H := by
 refine zab zah zai Tryz.func276 rfl (by rfl) Tryz.ntmps276 (by kernel_rfl) (by simp) ?_
 simp [xss, xs]
 refine zaa (zb5 .add c d (by omega) _) ?_
 simp
 exact finX (t := 6) (by rfl) (by simp)
theorem zur (e a b c d : Ex) (hb : sz c + sz d ≤ 10000000) (H : AH) : zaf E 277 [xs (ser e), xss [a, b], xss [c, d]] H (.ret (xs (ser (.bin .sub c d)))) H := by
 refine zab zah zai Tryz.func277 rfl (by rfl) Tryz.ntmps277 (by kernel_rfl) (by simp) ?_
 simp [xss, xs]
 refine zaa (zb5 .sub c d (by omega) _) ?_
 simp
 exact finX (t := 6) (by rfl) (by simp)
theorem zuq (e a b c d : Ex) (hb : sz a + sz b + sz c + sz d ≤ 10000000) (H : AH) : zaf E 278 [xs (ser e), xss [a, b], xss [c, d]] H (.ret (xs (ser (.bin .add (.bin .mul c b) (.bin .mul a d))))) H := by
 refine zab zah zai Tryz.func278 rfl (by rfl) Tryz.ntmps278 (by kernel_rfl) (by simp) ?_
 have h1 := zbG .mul c b
 have h2 := zbG .mul a d
 simp [xss, xs]
 refine zau (fun Hx => zb5 .mul c b (by omega) Hx) (fun Hx => by simp [xs, B.code]) ?_
 simp [xs]
 refine zau (fun Hx => zb5 .mul a d (by omega) Hx) (fun Hx => by simp [xs, B.code]) ?_
 simp [xs]
 refine zau (fun Hx => zb5 .add (.bin .mul c b) (.bin .mul a d) (by omega) Hx) (fun Hx => by simp [xs, B.code]) ?_
 simp
 refine endD [] (by rfl) (by simp [okW, note, Eff.triv, Eff.wr, Eff.none, upTo, newAt]) ?_
 simp
 exact finX (t := 6) (by rfl) (by simp)
theorem zup (e a b c d : Ex) (hb : sz a + sz b + sz c + sz d ≤ 10000000) (H : AH) : zaf E 279 [xs (ser e), xss [a, b], xss [c, d]] H (.ret (xs (ser (.bin .div (.bin .sub (.bin .mul c b) (.bin .mul a d)) (.un .sqr b))))) H := by
 refine zab zah zai Tryz.func279 rfl (by rfl) Tryz.ntmps279 (by kernel_rfl) (by simp) ?_
 have h1 := zbG .mul c b
 have h2 := zbG .mul a d
 have h3 := zbG .sub (.bin .mul c b) (.bin .mul a d)
 have h4 := zdR .sqr b
 simp [xss, xs]
 refine zau (fun Hx => zb5 .mul c b (by omega) Hx) (fun Hx => by simp [xs, B.code]) ?_
 simp [xs]
 refine zau (fun Hx => zb5 .mul a d (by omega) Hx) (fun Hx => by simp [xs, B.code]) ?_
 simp [xs]
 refine zau (fun Hx => zb5 .sub (.bin .mul c b) (.bin .mul a d) (by omega) Hx) (fun Hx => by simp [xs, B.code]) ?_
 simp [xs]
 refine zau (fun Hx => zom .sqr b (by omega) Hx) (fun Hx => by simp [xs, U.code]) ?_
 simp [xs]
 refine zau (fun Hx => zb5 .div (.bin .sub (.bin .mul c b) (.bin .mul a d)) (.un .sqr b) (by omega) Hx) (fun Hx => by simp [xs, B.code]) ?_
 simp
 refine endD [] (by rfl) (by simp [okW, note, Eff.triv, Eff.wr, Eff.none, upTo, newAt]) ?_
 simp
 exact finX (t := 6) (by rfl) (by simp)
def zhr : List (AV × AV) := [(.int .i64 4, fnA 272), (.int .i64 5, fnA 274), (.int .i64 6, fnA 275), (.int .i64 7, fnA 276), (.int .i64 8, fnA 277), (.int .i64 9, fnA 278), (.int .i64 10, fnA 279)]
theorem zuo (H : AH) : zaf E 238 [] H (.ret (.map H.length)) (H ++ [.map zhr]) := by
 refine zab zah zai Tryz.func238 rfl (by rfl) Tryz.ntmps238 (by kernel_rfl) (by simp) ?_
 simp
 exact finK (rs := [.tmp 0]) (vs := [.map H.length]) (by rfl) (by simp [resA]) rfl
theorem zo8 (rds : List Nat) {g : FuncId} {captured args : List AV} {next : NxD} {H : AH} {r : AV} (hlt : ∀ b ∈ rds, b < H.length) (h : ∀ Hx : AH, (∀ b ∈ rds, Hx[b]? = H[b]?) → zaf E g (args ++ captured) Hx (.ret r) Hx)
  (kk : next .go r ⟨rds, [], none, true⟩ H) : zdN E (.func (.func g) [] captured) args next H :=
 ⟨r, rds, [], ⟨hlt, fun p hp => by simp at hp, fun Hx hx => .inl (h Hx hx)⟩, kk⟩
def zd6 : Ex → Bool
 | .num _ | .var _ | .time => true
 | _ => false
structure DMem (v : Vr) (H : AH) (bv bd bt bm : Nat) (rv : List Nat) (gV : FuncId) (cV : List AV) : Prop where
 hv : H[bv]? = some (.row true 1 [.func (.func gV) [] cV])
 hd : H[bd]? = some (.row true 1 [.func (.func 239) [] [.ptr bv 1 0 0, .ptr bd 1 0 0, .ptr bt 1 0 0]])
 ht : H[bt]? = some (.row true 1 [.map bm])
 hm : H[bm]? = some (.map zhr)
 hr : ∀ b ∈ rv, b < H.length
 test : ∀ Hx : AH, (∀ b ∈ rv, Hx[b]? = H[b]?) → ∀ e, zd6 e = true → zaf E gV ([nd (zan e)] ++ cV) Hx (.ret (.bool (isV v e))) Hx
theorem DMem.app {v : Vr} {H : AH} {bv bd bt bm : Nat} {rv : List Nat} {gV : FuncId} {cV : List AV} (h : DMem v H bv bd bt bm rv gV cV) (J : AH) : DMem v (H ++ J) bv bd bt bm rv gV cV :=
 ⟨zad h.hv, zad h.hd, zad h.ht, zad h.hm, fun b hb => by have := h.hr b hb; simp; omega, fun Hx hx e he => h.test Hx (fun b hb => by rw [hx b hb, List.getElem?_append_left (h.hr b hb)]) e he⟩
theorem zi4 {v : Vr} {a k : Ex} {i : Nat} (h : (kids a)[i]? = some k) : sz (dif v k) ≤ sz (dif v a) := by
 cases a with
 | un o a =>
  cases i with
  | zero =>
   simp [kids] at h; subst h
   cases o <;> simp only [dif, zdR, zbG] <;> omega
  | succ i => simp [kids] at h
 | bin o a b =>
  match i, h with
  | 0, h =>
   simp [kids] at h; subst h
   cases o <;> simp only [dif, zdR, zbG] <;> omega
  | 1, h =>
   simp [kids] at h; subst h
   cases o <;> simp only [dif, zdR, zbG] <;> omega
  | i + 2, h => simp [kids] at h
 | _ => simp [kids] at h
def LDe (v : Vr) (a : Ex) (pv pd pt : AV) (H : AH) (i : Nat) (fr : AFr) (H' : AH) : Prop :=
 fr 0 = xs (ser a) ∧ fr 1 = pv ∧ fr 2 = pd ∧ fr 3 = pt ∧ fr 6 = xss (kids a) ∧ fr 22 = xss (kids a) ∧ fr 23 = .int .i64 (kids a).length ∧ fr 24 = .int .i64 i ∧ i ≤ (kids a).length ∧ ∃ J, H' = H ++ J ∧ Acc H J (fr 7) 1 (((kids a).take i).map fun k => xs (ser (dif v k))) .nilslice
theorem jD {v : Vr} {kk : Nat} {bv bd bt bm : Nat} {rv : List Nat} {gV : FuncId} {cV : List AV} : ∀ (n : Nat) (a : Ex), sz a ≤ n → wf kk a = true → sz a ≤ 1000000 → sz (dif v a) ≤ 1000000 → ∀ H, DMem v H bv bd bt bm rv gV cV →
  zaf E 239 [xs (ser a), .ptr bv 1 0 0, .ptr bd 1 0 0, .ptr bt 1 0 0] H (.ret (xs (ser (dif v a)))) H
 | 0, a, hn, hw, hs, hds, H, hM => by have := zcE a; omega
 | n + 1, a, hn, hw, hs, hds, H, hM => by
  refine zab zah zai Tryz.func239 rfl (by rfl) Tryz.ntmps239 (by kernel_rfl) (by simp) ?_
  have ih : ∀ (k : Ex) (i : Nat), (kids a)[i]? = some k → ∀ J : AH, zaf E 239 [xs (ser k), .ptr bv 1 0 0, .ptr bd 1 0 0, .ptr bt 1 0 0] (H ++ J) (.ret (xs (ser (dif v k)))) (H ++ J) := fun k i hi J =>
   jD n k (by have := zf6 hi; omega) (zlW hi hw) (by have := zf6 hi; omega) (Nat.le_trans (zi4 hi) hds) _ (hM.app J)
  have hk2 := zd5 a
  have hget : (ser a)[0]? = some (zan a) := by rw [zcl]; rfl
  have hmap : ((ser a).map nd)[0]? = some (nd (zan a)) := by rw [List.getElem?_map, hget]; rfl
  have hmapE : ∀ h, ((ser a).map nd)[0]'h = nd (zan a) := fun h => (gI.1 hmap).2
  simp
  refine zaa (zjH a (by omega) _) ?_
  simp
  by_cases hleaf : zd6 a = true
  ·have hkz : kids a = [] := by cases a <;> simp [zd6] at hleaf <;> rfl
   have hdif : dif v a = if isV v a then zbm 1 else zbm 0 := by cases a <;> simp [zd6] at hleaf <;> rfl
   rw [hdif]
   simp [hkz, hM.hv, xs, hmap, hmapE]
   refine zo8 rv hM.hr (fun Hx hx => hM.test Hx hx a hleaf) ?_
   simp
   refine endD [] (by rfl) (by by_cases hrv : rv = [] <;> simp [okW, note, Eff.triv, Eff.wr, Eff.none, upTo, newAt, hrv]) ?_
   cases hv : isV v a with
   | true =>
    simp
    refine zaa (zfP 1 (by omega) _) ?_
    simp
    exact finX (t := 5) (by rfl) (by simp)
   | false =>
    simp
    refine zaa (zfP 0 (by omega) _) ?_
    simp
    exact finX (t := 5) (by rfl) (by simp)
  ·have hkn : (((kids a).length : Int) == 0) = false := by cases a <;> simp [zd6] at hleaf <;> simp [kids]
   simp [hkn]
   refine zag (LDe v a (.ptr bv 1 0 0) (.ptr bd 1 0 0) (.ptr bt 1 0 0) H) (fun i => (kids a).length - i) 0 ⟨by simp, by simp, by simp, by simp, by simp [xss], by simp [xss], by simp, by simp, by omega, [], by simp, .inl ⟨by simp, by simp⟩⟩ ?_
   rintro i fr H' ⟨g0, g1, g2, g3, g6, g22, g23, g24, hi, J, rfl, hacc⟩
   simp [g23, g24]
   refine zak (fun hc => ?_) (fun hc => ?_)
   ·have hlt : i < (kids a).length := by simpa using hc
    obtain ⟨k, hki⟩ := zaj hlt
    have hkiE : ∀ h, (kids a)[i]'h = k := fun h => (gI.1 hki).2
    have w2 : IntKind.i64.wrap ((i : Int) + 1) = ((i + 1 : Nat) : Int) := by rw [zae (by omega) (by omega)]; omega
    have hS := ih k i hki J
    simp only [zdn] at hS
    simp [g2, g22, g24, hki, hkiE, xs, xss, old hM.hd]
    refine zaa hS ?_
    obtain ⟨v', J', hap, hacc', _⟩ := Acc.push (T := tab) (t := 22) (e := 26) (x := .slice [xs (ser (dif v k))] true) hacc tab22 rfl tab26 rfl rfl (by simp [xs, okc]) ⟨by decide, by simp⟩ (by simp; omega) (by simp; omega)
    simp only [zdn] at hap
    simp
    refine bind_some hap ?_
    simp [g24, w2]
    refine ⟨i + 1, by show (kids a).length - (i + 1) < (kids a).length - i; omega, by simp [g0], by simp [g1], by simp [g2], by simp [g3], by simp [g6], by simp [g22], by simp [g23], by simp, by omega, J', rfl, ?_⟩
    rw [List.take_add_one, hki]
    simpa using hacc'
   ·have hi' : i = (kids a).length := by have : ¬ i < (kids a).length := by simpa using hc
                                         omega
    subst hi'
    rw [List.take_length] at hacc
    rw [zdn] at g0
    clear ih g22 g23 g24 hc hi
    have hbt : bt < H.length := (gI.1 hM.ht).1
    have hbm : bm < H.length := (gI.1 hM.hm).1
    cases a with
    | un o a =>
     have hacc1 : ∃ k, fr 7 = .ref (H.length + k) 1 ∧ J[k]? = some (.row true 1 [xs (ser (dif v a))]) := by
      rcases hacc with ⟨h, _⟩ | ⟨k, h1, h2⟩
      ·simp [kids] at h
      ·exact ⟨k, by simpa [kids] using h1, by simpa [kids] using h2⟩
     obtain ⟨k, h7, hJ⟩ := hacc1
     have hkJ : k < J.length := (gI.1 hJ).1
     have hdk := zi4 (v := v) (a := .un o a) (i := 0) (k := a) rfl
     have hsu := zdR o a
     cases o with
     | neg =>
      simp [g0, g3, g6, h7, hJ, hmap, hmapE, zan, zap, U.code, old hM.ht, old hM.hm, zhr]
      refine zb9 (b := H.length + k) (k := .row true 1 [xs (ser (dif v a))]) (k' := .row false 1 [xs (ser (dif v a))]) (args' := [xs (ser (.un .neg a)), xss [a], xss [dif v a]]) (by simp [hJ]) (fun Hx hx => by simp [hx, xs, xss, kids]) (fun Hx => by rw [List.append_nil]; exact zuv (.un .neg a) a (dif v a) (by omega) Hx) ?_
      simp
      refine endD [] (by rfl) (by simp [okW, note, Eff.triv, Eff.wr, Eff.none, upTo, newAt]; omega) ?_
      simp
      exact finC (rs := [.tmp 5]) (vs := [xs (ser (dif v (.un .neg a)))]) (vs' := [xs (ser (dif v (.un .neg a)))]) (by rfl) (by simp [resA, dif]) (by simp [xs]; rfl) (by simp only [noFs, Bool.and_true]; exact zaZ _ _) rfl
     | sqr =>
      simp [g0, g3, g6, h7, hJ, hmap, hmapE, zan, zap, U.code, old hM.ht, old hM.hm, zhr]
      refine zb9 (b := H.length + k) (k := .row true 1 [xs (ser (dif v a))]) (k' := .row false 1 [xs (ser (dif v a))]) (args' := [xs (ser (.un .sqr a)), xss [a], xss [dif v a]]) (by simp [hJ]) (fun Hx hx => by simp [hx, xs, xss, kids]) (fun Hx => by rw [List.append_nil]; exact zuu (.un .sqr a) a (dif v a) (by omega) Hx) ?_
      simp
      refine endD [] (by rfl) (by simp [okW, note, Eff.triv, Eff.wr, Eff.none, upTo, newAt]; omega) ?_
      simp
      exact finC (rs := [.tmp 5]) (vs := [xs (ser (dif v (.un .sqr a)))]) (vs' := [xs (ser (dif v (.un .sqr a)))]) (by rfl) (by simp [resA, dif]) (by simp [xs]; rfl) (by simp only [noFs, Bool.and_true]; exact zaZ _ _) rfl
     | sqrt =>
      simp [g0, g3, g6, h7, hJ, hmap, hmapE, zan, zap, U.code, old hM.ht, old hM.hm, zhr]
      refine zb9 (b := H.length + k) (k := .row true 1 [xs (ser (dif v a))]) (k' := .row false 1 [xs (ser (dif v a))]) (args' := [xs (ser (.un .sqrt a)), xss [a], xss [dif v a]]) (by simp [hJ]) (fun Hx hx => by simp [hx, xs, xss, kids]) (fun Hx => by rw [List.append_nil]; exact zut (.un .sqrt a) a (dif v a) (by omega) Hx) ?_
      simp
      refine endD [] (by rfl) (by simp [okW, note, Eff.triv, Eff.wr, Eff.none, upTo, newAt]; omega) ?_
      simp
      exact finC (rs := [.tmp 5]) (vs := [xs (ser (dif v (.un .sqrt a)))]) (vs' := [xs (ser (dif v (.un .sqrt a)))]) (by rfl) (by simp [resA, dif]) (by simp [xs]; rfl) (by simp only [noFs, Bool.and_true]; exact zaZ _ _) rfl
    | bin o a b =>
     have hacc1 : ∃ k, fr 7 = .ref (H.length + k) 2 ∧ J[k]? = some (.row true 1 [xs (ser (dif v a)), xs (ser (dif v b))]) := by
      rcases hacc with ⟨h, _⟩ | ⟨k, h1, h2⟩
      ·simp [kids] at h
      ·exact ⟨k, by simpa [kids] using h1, by simpa [kids] using h2⟩
     obtain ⟨k, h7, hJ⟩ := hacc1
     have hkJ : k < J.length := (gI.1 hJ).1
     have hdk := zi4 (v := v) (a := .bin o a b) (i := 0) (k := a) rfl
     have hdk2 := zi4 (v := v) (a := .bin o a b) (i := 1) (k := b) rfl
     have hsu := zbG o a b
     cases o with
     | add =>
      simp [g0, g3, g6, h7, hJ, hmap, hmapE, zan, zap, B.code, old hM.ht, old hM.hm, zhr]
      refine zb9 (b := H.length + k) (k := .row true 1 [xs (ser (dif v a)), xs (ser (dif v b))]) (k' := .row false 1 [xs (ser (dif v a)), xs (ser (dif v b))]) (args' := [xs (ser (.bin .add a b)), xss [a, b], xss [dif v a, dif v b]]) (by simp [hJ]) (fun Hx hx => by simp [hx, xs, xss, kids]) (fun Hx => by rw [List.append_nil]; exact zus (.bin .add a b) a b (dif v a) (dif v b) (by omega) Hx) ?_
      simp
      refine endD [] (by rfl) (by simp [okW, note, Eff.triv, Eff.wr, Eff.none, upTo, newAt]; omega) ?_
      simp
      exact finC (rs := [.tmp 5]) (vs := [xs (ser (dif v (.bin .add a b)))]) (vs' := [xs (ser (dif v (.bin .add a b)))]) (by rfl) (by simp [resA, dif]) (by simp [xs]; rfl) (by simp only [noFs, Bool.and_true]; exact zaZ _ _) rfl
     | sub =>
      simp [g0, g3, g6, h7, hJ, hmap, hmapE, zan, zap, B.code, old hM.ht, old hM.hm, zhr]
      refine zb9 (b := H.length + k) (k := .row true 1 [xs (ser (dif v a)), xs (ser (dif v b))]) (k' := .row false 1 [xs (ser (dif v a)), xs (ser (dif v b))]) (args' := [xs (ser (.bin .sub a b)), xss [a, b], xss [dif v a, dif v b]]) (by simp [hJ]) (fun Hx hx => by simp [hx, xs, xss, kids]) (fun Hx => by rw [List.append_nil]; exact zur (.bin .sub a b) a b (dif v a) (dif v b) (by omega) Hx) ?_
      simp
      refine endD [] (by rfl) (by simp [okW, note, Eff.triv, Eff.wr, Eff.none, upTo, newAt]; omega) ?_
      simp
      exact finC (rs := [.tmp 5]) (vs := [xs (ser (dif v (.bin .sub a b)))]) (vs' := [xs (ser (dif v (.bin .sub a b)))]) (by rfl) (by simp [resA, dif]) (by simp [xs]; rfl) (by simp only [noFs, Bool.and_true]; exact zaZ _ _) rfl
     | mul =>
      simp [g0, g3, g6, h7, hJ, hmap, hmapE, zan, zap, B.code, old hM.ht, old hM.hm, zhr]
      refine zb9 (b := H.length + k) (k := .row true 1 [xs (ser (dif v a)), xs (ser (dif v b))]) (k' := .row false 1 [xs (ser (dif v a)), xs (ser (dif v b))]) (args' := [xs (ser (.bin .mul a b)), xss [a, b], xss [dif v a, dif v b]]) (by simp [hJ]) (fun Hx hx => by simp [hx, xs, xss, kids]) (fun Hx => by rw [List.append_nil]; exact zuq (.bin .mul a b) a b (dif v a) (dif v b) (by omega) Hx) ?_
      simp
      refine endD [] (by rfl) (by simp [okW, note, Eff.triv, Eff.wr, Eff.none, upTo, newAt]; omega) ?_
      simp
      exact finC (rs := [.tmp 5]) (vs := [xs (ser (dif v (.bin .mul a b)))]) (vs' := [xs (ser (dif v (.bin .mul a b)))]) (by rfl) (by simp [resA, dif]) (by simp [xs]; rfl) (by simp only [noFs, Bool.and_true]; exact zaZ _ _) rfl
     | div =>
      simp [g0, g3, g6, h7, hJ, hmap, hmapE, zan, zap, B.code, old hM.ht, old hM.hm, zhr]
      refine zb9 (b := H.length + k) (k := .row true 1 [xs (ser (dif v a)), xs (ser (dif v b))]) (k' := .row false 1 [xs (ser (dif v a)), xs (ser (dif v b))]) (args' := [xs (ser (.bin .div a b)), xss [a, b], xss [dif v a, dif v b]]) (by simp [hJ]) (fun Hx hx => by simp [hx, xs, xss, kids]) (fun Hx => by rw [List.append_nil]; exact zup (.bin .div a b) a b (dif v a) (dif v b) (by omega) Hx) ?_
      simp
      refine endD [] (by rfl) (by simp [okW, note, Eff.triv, Eff.wr, Eff.none, upTo, newAt]; omega) ?_
      simp
      exact finC (rs := [.tmp 5]) (vs := [xs (ser (dif v (.bin .div a b)))]) (vs' := [xs (ser (dif v (.bin .div a b)))]) (by rfl) (by simp [resA, dif]) (by simp [xs]; rfl) (by simp only [noFs, Bool.and_true]; exact zaZ _ _) rfl
    | _ => simp [zd6] at hleaf
theorem zg2 {v : Vr} {kk : Nat} (a : Ex) (hw : wf kk a = true) (hs : sz a ≤ 1000000) (hds : sz (dif v a) ≤ 1000000) (H : AH) (rv : List Nat) (gV : FuncId) (cV : List AV) (hr : ∀ b ∈ rv, b < H.length)
  (test : ∀ Hx : AH, (∀ b ∈ rv, Hx[b]? = H[b]?) → ∀ e, zd6 e = true → zaf E gV ([nd (zan e)] ++ cV) Hx (.ret (.bool (isV v e))) Hx) :
  zaf E 183 [xs (ser a), .func (.func gV) [] cV] H (.ret (xs (ser (der v a)))) H := by
 refine zab zah zai Tryz.func183 rfl (by rfl) Tryz.ntmps183 (by kernel_rfl) (by simp) ?_
 simp
 refine zaa (zuo _) ?_
 simp
 have hM : DMem v (H ++ [.row true 1 [.func (.func gV) [] cV], .map zhr, .row true 1 [.map (H.length + 1)], .row true 1 [.func (.func 239) [] [.ptr H.length 1 0 0, .ptr (H.length + 3) 1 0 0, .ptr (H.length + 2) 1 0 0]]]) H.length (H.length + 3) (H.length + 2) (H.length + 1) rv gV cV :=
  ⟨by simp, by simp, by simp, by simp, fun b hb => by have := hr b hb; simp; omega, fun Hx hx e he => test Hx (fun b hb => by rw [hx b hb, List.getElem?_append_left (hr b hb)]) e he⟩
 have hS := jD (kk := kk) (sz a) a (Nat.le_refl _) hw hs hds _ hM
 refine zaa hS ?_
 simp
 refine zaa (zjU (sz (dif v a)) (dif v a) (Nat.le_refl _) (zki (k := kk) v a hw) (by omega) _) ?_
 simp
 exact finC (rs := [.tmp 4]) (vs := [xs (ser (der v a))]) (vs' := [xs (ser (der v a))]) (by rfl) (by simp [resA, der]) (by simp [xs]; rfl) (by simp only [noFs, Bool.and_true]; exact zaZ _ _) rfl
theorem zuw (e : Ex) (he : zd6 e = true) (i : Int) (b : Nat) (H : AH) (hb : H[b]? = some (.row true 1 [.int .i64 i])) : zaf E 185 [nd (zan e), .ptr b 1 0 0] H (.ret (.bool (isV (.st i) e))) H := by
 refine zab zah zai Tryz.func185 rfl (by rfl) Tryz.ntmps185 (by kernel_rfl) (by simp) ?_
 cases e with
 | var k =>
  simp [zan, zap, old hb]
  exact fin1 (rs := [.tmp 3]) (by rfl) (by simp [resA, isV]) (by simp [noF])
 | num c =>
  simp [zan, zap, old hb]
  exact fin1 (rs := [.tmp 3]) (by rfl) (by simp [resA, isV]) (by simp [noF])
 | time =>
  simp [zan, zap, old hb]
  exact fin1 (rs := [.tmp 3]) (by rfl) (by simp [resA, isV]) (by simp [noF])
 | _ => simp [zd6] at he
theorem zun (e : Ex) (he : zd6 e = true) (H : AH) : zaf E 184 [nd (zan e)] H (.ret (.bool (isV .tm e))) H := by
 refine zab zah zai Tryz.func184 rfl (by rfl) Tryz.ntmps184 (by kernel_rfl) (by simp) ?_
 cases e with
 | var k =>
  simp [zan, zap]
  exact fin1 (rs := [.tmp 2]) (by rfl) (by simp [resA, isV]) (by simp [noF])
 | num c =>
  simp [zan, zap]
  exact fin1 (rs := [.tmp 2]) (by rfl) (by simp [resA, isV]) (by simp [noF])
 | time =>
  simp [zan, zap]
  exact fin1 (rs := [.tmp 2]) (by rfl) (by simp [resA, isV]) (by simp [noF])
 | _ => simp [zd6] at he
theorem jDiff {kk : Nat} (a : Ex) (i : Int) (hw : wf kk a = true) (hs : sz a ≤ 1000000) (hds : sz (dif (.st i) a) ≤ 1000000) (H : AH) : zaf E 116 [xs (ser a), .int .i64 i] H (.ret (xs (ser (der (.st i) a)))) H := by
 refine zab zah zai Tryz.func116 rfl (by rfl) Tryz.ntmps116 (by kernel_rfl) (by simp) ?_
 simp
 refine zaa (zg2 (v := .st i) (kk := kk) a hw hs hds _ [H.length] 185 [.ptr H.length 1 0 0] (by simp) (fun Hx hx e he => zuw e he i H.length Hx (by rw [hx H.length (by simp)]; simp))) ?_
 simp
 exact finC (rs := [.tmp 4]) (vs := [xs (ser (der (.st i) a))]) (vs' := [xs (ser (der (.st i) a))]) (by rfl) (by simp [resA]) (by simp [xs]; rfl) (by simp only [noFs, Bool.and_true]; exact zaZ _ _) rfl
theorem zg1 {kk : Nat} (a : Ex) (hw : wf kk a = true) (hs : sz a ≤ 1000000) (hds : sz (dif .tm a) ≤ 1000000) (H : AH) : zaf E 114 [xs (ser a)] H (.ret (xs (ser (der .tm a)))) H := by
 refine zab zah zai Tryz.func114 rfl (by rfl) Tryz.ntmps114 (by kernel_rfl) (by simp) ?_
 simp
 refine zaa (zg2 (v := .tm) (kk := kk) a hw hs hds _ [] 184 [] (by simp) (fun Hx hx e he => by simpa using zun e he Hx)) ?_
 simp
 exact finX (t := 2) (by rfl) (by simp)
theorem zgs (rds : List Nat) (b : Nat) (k' : ABlk) {g : FuncId} {captured args : List AV} {next : NxD} {H : AH} {r : AV} (hlt : ∀ c ∈ rds, c < H.length) (hb : b ∈ rds) (h : ∀ Hx : AH, (∀ c ∈ rds, Hx[c]? = H[c]?) → zaf E g (args ++ captured) Hx (.ret r) (Hx.set b k'))
  (kk : next .go r ⟨rds, [(b, k')], none, true⟩ (H.set b k')) : zdN E (.func (.func g) [] captured) args next H :=
 ⟨r, rds, [(b, k')], ⟨hlt, fun p hp => by simp at hp; subst hp; exact hb, fun Hx hx => .inl (h Hx hx)⟩, kk⟩
def opsT : List (AV × AV) := [(.int .i64 7, fnA 91), (.int .i64 8, fnA 234), (.int .i64 9, fnA 118), (.int .i64 10, fnA 235)]
theorem zmO (H : AH) : zaf E 178 [] H (.ret (.map H.length)) (H ++ [.map opsT]) := by
 refine zab zah zai Tryz.func178 rfl (by rfl) Tryz.ntmps178 (by kernel_rfl) (by simp) ?_
 simp
 exact finK (rs := [.tmp 0]) (vs := [.map H.length]) (by rfl) (by simp [resA]) rfl
def evF (be bi bx bt bv bb : Nat) : AV := .func (.func 179) [] [.ptr be 1 0 0, .ptr bi 1 0 0, .ptr bx 1 0 0, .ptr bt 1 0 0, .ptr bv 1 0 0, .ptr bb 1 0 0]
structure EMem (l : List Nd) (xv : List I) (t : I) (H : AH) (be bi bx bt bv bb bm : Nat) : Prop where
 he : H[be]? = some (.row true 1 [xs l])
 hx : H[bx]? = some (.row true 1 [.slice (xv.map iv) false])
 ht : H[bt]? = some (.row true 2 [iv t])
 hv : H[bv]? = some (.row true 1 [evF be bi bx bt bv bb])
 hb : H[bb]? = some (.row true 1 [.map bm])
 hm : H[bm]? = some (.map opsT)
 hi : ∃ k, H[bi]? = some (.row true 1 [.int .i64 k])
 ne : bi ≠ be ∧ bi ≠ bx ∧ bi ≠ bt ∧ bi ≠ bv ∧ bi ≠ bb ∧ bi ≠ bm
theorem EMem.app {l : List Nd} {xv : List I} {t : I} {H : AH} {be bi bx bt bv bb bm : Nat} (h : EMem l xv t H be bi bx bt bv bb bm) (J : AH) : EMem l xv t (H ++ J) be bi bx bt bv bb bm :=
 ⟨zad h.he, zad h.hx, zad h.ht, zad h.hv, zad h.hb, zad h.hm, let ⟨k, hk⟩ := h.hi; ⟨k, zad hk⟩, h.ne⟩
theorem EMem.set {l : List Nd} {xv : List I} {t : I} {H : AH} {be bi bx bt bv bb bm : Nat} (h : EMem l xv t H be bi bx bt bv bb bm) (k : Int) : EMem l xv t (H.set bi (.row true 1 [.int .i64 k])) be bi bx bt bv bb bm := by
 obtain ⟨n1, n2, n3, n4, n5, n6⟩ := h.ne
 obtain ⟨k0, hk0⟩ := h.hi
 exact ⟨by rw [List.getElem?_set_ne n1]; exact h.he, by rw [List.getElem?_set_ne n2]; exact h.hx, by rw [List.getElem?_set_ne n3]; exact h.ht, by rw [List.getElem?_set_ne n4]; exact h.hv, by rw [List.getElem?_set_ne n5]; exact h.hb, by rw [List.getElem?_set_ne n6]; exact h.hm,
  ⟨k, by rw [List.getElem?_set_self (gI.1 hk0).1]⟩, h.ne⟩
theorem EMem.like {l : List Nd} {xv : List I} {t : I} {H Hx : AH} {be bi bx bt bv bb bm : Nat} (h : EMem l xv t H be bi bx bt bv bb bm) (k : ∀ c ∈ [be, bi, bx, bt, bv, bb, bm], Hx[c]? = H[c]?) : EMem l xv t Hx be bi bx bt bv bb bm :=
 ⟨by rw [k be (by simp)]; exact h.he, by rw [k bx (by simp)]; exact h.hx, by rw [k bt (by simp)]; exact h.ht, by rw [k bv (by simp)]; exact h.hv, by rw [k bb (by simp)]; exact h.hb, by rw [k bm (by simp)]; exact h.hm, let ⟨q, hq⟩ := h.hi; ⟨q, by rw [k bi (by simp)]; exact hq⟩, h.ne⟩
theorem zhY {xv : List I} {t : I} (hxv : ∀ p ∈ xv, vB p = true) (hxl : xv.length ≤ 1000000000) (htv : vB t = true) {l : List Nd} (hl : l.length ≤ 1000000000) {be bi bx bt bv bb bm : Nat} : ∀ (n : Nat) (a : Ex), sz a ≤ n → wf xv.length a = true → ∀ (pre r : List Nd) (H : AH), l = pre ++ ser a ++ r →
  EMem l xv t H be bi bx bt bv bb bm → H[bi]? = some (.row true 1 [.int .i64 pre.length]) →
  zaf E 179 [.ptr be 1 0 0, .ptr bi 1 0 0, .ptr bx 1 0 0, .ptr bt 1 0 0, .ptr bv 1 0 0, .ptr bb 1 0 0] H (.ret (iv (ev xv t a))) (H.set bi (.row true 1 [.int .i64 ((pre.length + sz a : Nat) : Int)]))
 | 0, a, hn, hw, pre, r, H, hpre, hM, hbi => by have := zcE a; omega
 | n + 1, a, hn, hw, pre, r, H, hpre, hM, hbi => by
  refine zab zah zai Tryz.func179 rfl (by rfl) Tryz.ntmps179 (by kernel_rfl) (by simp) ?_
  have hbl : bi < H.length := (gI.1 hbi).1
  have hlen : l.length = pre.length + sz a + r.length := by rw [hpre]; simp [sz]; omega
  have hget : l[pre.length]? = some (zan a) := by rw [hpre, zcl]; simp
  have hmap : (l.map nd)[pre.length]? = some (nd (zan a)) := by rw [List.getElem?_map, hget]; rfl
  have hmapE : ∀ h, (l.map nd)[pre.length]'h = nd (zan a) := fun h => (gI.1 hmap).2
  have w1 : IntKind.i64.wrap ((pre.length : Int) + 1) = ((pre.length + 1 : Nat) : Int) := by rw [zae (by omega) (by omega)]; omega
  obtain ⟨n1, n2, n3, n4, n5, n6⟩ := hM.ne
  have hgetE : ∀ h, l[pre.length]'h = zan a := fun h => (gI.1 hget).2
  generalize hK : ((pre.length + sz a : Nat) : Int) = K
  have fin : ∀ (fr : AFr) (J : AH) (x : zcj) (k : Int), fr 6 = .ptr H.length 1 0 0 → J[0]? = some (.row true 2 [iv (ev xv t a)]) → k = K → (x = .ret ∨ x = .normal) →
    zbN E Tryz.f179 H (.ret (iv (ev xv t a))) (H.set bi (.row true 1 [.int .i64 K])) x fr (H.set bi (.row true 1 [.int .i64 k]) ++ J) := by
   intro fr J x k h6 hJ hk hx
   subst hk
   refine finU (rs := [.cell 6 48]) (by rfl) ?_ (by simp) (zfE (by simp [noFB, noF, noFs])) (by simp [noF, noFs]) hx
   have e : (H.set bi (.row true 1 [.int .i64 k]) ++ J)[H.length]? = some (.row true 2 [iv (ev xv t a)]) := by
    rw [List.getElem?_append_right (by simp), List.length_set, Nat.sub_self]; exact hJ
   simp [resA, h6, e]
  have hM1 := hM.set ((pre.length + 1 : Nat) : Int)
  have hbi1 : (H.set bi (.row true 1 [.int .i64 ((pre.length + 1 : Nat) : Int)]))[bi]? = some (.row true 1 [.int .i64 ((pre.length + 1 : Nat) : Int)]) := List.getElem?_set_self hbl
  simp [old hM.he, old hbi, olds hbi, xs, hget, hgetE, w1]
  simp at hM1 hbi1
  generalize hH1 : H.set bi (.row true 1 [.int .i64 ((pre.length : Int) + 1)]) = H1 at *
  have hl1 : H1.length = H.length := by rw [← hH1]; simp
  rw [← hl1]
  have rec1 : ∀ (k : Ex) (pre' r' : List Nd) (m m' : Int) (J0 : AH), sz k ≤ n → wf xv.length k = true → l = pre' ++ ser k ++ r' → m = (pre'.length : Int) → m' = ((pre'.length + sz k : Nat) : Int) →
    zaf E 179 [.ptr be 1 0 0, .ptr bi 1 0 0, .ptr bx 1 0 0, .ptr bt 1 0 0, .ptr bv 1 0 0, .ptr bb 1 0 0] (H.set bi (.row true 1 [.int .i64 m]) ++ J0) (.ret (iv (ev xv t k))) (H.set bi (.row true 1 [.int .i64 m']) ++ J0) := by
   rintro k pre' r' m m' J0 h1 h2 h3 rfl rfl
   have h := zhY hxv hxl htv hl n k h1 h2 pre' r' (H.set bi (.row true 1 [.int .i64 (pre'.length : Int)]) ++ J0) h3 ((hM.set _).app J0) (by rw [List.getElem?_append_left (by simpa using hbl), List.getElem?_set_self hbl])
   rwa [zb2 hbl] at h
  have hval := zaT hxv htv a hw
  cases a with
  | num c =>
   have hk1 : (pre.length : Int) + 1 = K := by rw [← hK, zdE]; omega
   simp [zan]
   rw [hl1, ← hH1]
   exact fin _ _ _ _ (by simp) rfl hk1 (by simp)
  | var v =>
   have hk1 : (pre.length : Int) + 1 = K := by rw [← hK, zhC]; omega
   simp only [wf, decide_eq_true_eq] at hw
   obtain ⟨p, hxg⟩ := zaj hw
   have hev : ev xv t (.var v) = p := by simp [ev, hxg]
   have hxgE : ∀ h, xv[v]'h = p := fun h => (gI.1 hxg).2
   simp [zan, zap, old hM1.hx, hxg, hxgE]
   rw [hl1, ← hH1]
   exact fin _ _ _ _ (by simp) (by simp [hev]) hk1 (by simp)
  | time =>
   have hk1 : (pre.length : Int) + 1 = K := by rw [← hK, zfB]; omega
   simp [zan, zap, old hM1.ht]
   rw [hl1, ← hH1]
   exact fin _ _ _ _ (by simp) (by simp [ev]) hk1 (by simp)
  | un o a =>
   rw [zdR] at hn hK
   have hva := zaT hxv htv a hw
   cases o with
   | neg =>
    simp [zan, zap, U.code, old hM1.hv, evF]
    have hS := rec1 a (pre ++ [zap 4 0]) r ((pre.length : Int) + 1) K [.row true 2 [iv (0, 0)], .row true 4 [nd (zap 4 0)]] (by omega) hw (by rw [hpre]; simp [ser, U.code]) (by simp) (by rw [← hK]; simp; omega)
    rw [hH1] at hS
    refine zaa hS ?_
    rw [hl1]
    obtain ⟨H2, hH2⟩ : ∃ H2, H2 = H.set bi (.row true 1 [.int .i64 K]) := ⟨_, rfl⟩
    have hl2 : H2.length = H.length := by rw [hH2]; simp
    rw [← hl2]
    rw [← hH2]
    simp
    refine zaa (iNeg _ hva _) ?_
    simp
    rw [hl2, hH2]
    exact fin _ _ _ _ (by simp) (by simp [ev, unV]) rfl (by simp)
   | sqr =>
    simp [zan, zap, U.code, old hM1.hv, evF]
    have hS := rec1 a (pre ++ [zap 5 0]) r ((pre.length : Int) + 1) K [.row true 2 [iv (0, 0)], .row true 4 [nd (zap 5 0)]] (by omega) hw (by rw [hpre]; simp [ser, U.code]) (by simp) (by rw [← hK]; simp; omega)
    rw [hH1] at hS
    refine zaa hS ?_
    rw [hl1]
    obtain ⟨H2, hH2⟩ : ∃ H2, H2 = H.set bi (.row true 1 [.int .i64 K]) := ⟨_, rfl⟩
    have hl2 : H2.length = H.length := by rw [hH2]; simp
    rw [← hl2]
    rw [← hH2]
    simp
    refine zaa (zoz _ hva _) ?_
    simp
    rw [hl2, hH2]
    exact fin _ _ _ _ (by simp) (by simp [ev, unV]) rfl (by simp)
   | sqrt =>
    simp [zan, zap, U.code, old hM1.hv, evF]
    have hS := rec1 a (pre ++ [zap 6 0]) r ((pre.length : Int) + 1) K [.row true 2 [iv (0, 0)], .row true 4 [nd (zap 6 0)]] (by omega) hw (by rw [hpre]; simp [ser, U.code]) (by simp) (by rw [← hK]; simp; omega)
    rw [hH1] at hS
    refine zaa hS ?_
    rw [hl1]
    obtain ⟨H2, hH2⟩ : ∃ H2, H2 = H.set bi (.row true 1 [.int .i64 K]) := ⟨_, rfl⟩
    have hl2 : H2.length = H.length := by rw [hH2]; simp
    rw [← hl2]
    rw [← hH2]
    simp
    refine zak (fun hc => ?_) (fun hc => ?_)
    ·have h0 : (ev xv t a).1 < 0 := by simpa using hc
     simp
     refine zaa (zbJ _) ?_
     simp
     rw [hl2, hH2]
     exact fin _ _ _ _ (by simp) (by simp [ev, unV, h0]) rfl (by simp)
    ·have h0 : ¬ (ev xv t a).1 < 0 := by simpa using hc
     have hb := zao hva
     simp
     refine zaa (zuB _ hva (by omega) _) ?_
     simp
     rw [hl2, hH2]
     exact fin _ _ _ _ (by simp) (by simp [ev, unV, h0]) rfl (by simp)
  | bin o a b =>
   rw [zbG] at hn hK
   simp only [wf, Bool.and_eq_true] at hw
   have hva := zaT hxv htv a hw.1
   have hvb := zaT hxv htv b hw.2
   cases o with
   | add =>
    simp [zan, zap, B.code, old hM1.hv, evF]
    have hS := rec1 a (pre ++ [zap 7 0]) (ser b ++ r) ((pre.length : Int) + 1) ((pre.length + 1 + sz a : Nat) : Int) [.row true 2 [iv (0, 0)], .row true 4 [nd (zap 7 0)]] (by omega) hw.1 (by rw [hpre]; simp [ser, B.code]) (by simp) (by simp)
    rw [hH1] at hS
    refine zaa hS ?_
    rw [hl1]
    have hM2 := hM.set ((pre.length + 1 + sz a : Nat) : Int)
    have hbi2 : (H.set bi (.row true 1 [.int .i64 ((pre.length + 1 + sz a : Nat) : Int)]))[bi]? = some (.row true 1 [.int .i64 ((pre.length + 1 + sz a : Nat) : Int)]) := List.getElem?_set_self hbl
    obtain ⟨H2, hH2⟩ : ∃ H2, H2 = H.set bi (.row true 1 [.int .i64 ((pre.length + 1 + sz a : Nat) : Int)]) := ⟨_, rfl⟩
    have hl2 : H2.length = H.length := by rw [hH2]; simp
    rw [← hH2] at hM2 hbi2
    rw [← hl2]
    rw [← hH2]
    simp [old hM2.hb, old hM2.hm, old hM2.hv, evF, opsT, zap]
    refine zgs [be, bi, bx, bt, bv, bb, bm] bi (.row true 1 [.int .i64 K]) (fun c hc => by
     have h1 := (gI.1 hM2.he).1
     have h2 := (gI.1 hM2.hx).1
     have h3 := (gI.1 hM2.ht).1
     have h4 := (gI.1 hM2.hv).1
     have h5 := (gI.1 hM2.hb).1
     have h6 := (gI.1 hM2.hm).1
     have h7 := (gI.1 hbi2).1
     have : c < H2.length := by
      simp only [List.mem_cons, List.not_mem_nil, or_false] at hc
      rcases hc with rfl | rfl | rfl | rfl | rfl | rfl | rfl <;> assumption
     simp only [List.length_append]; omega) (by simp) (fun Hx hx => by
     have hMx := (hM2.app _).like hx
     have := zhY hxv hxl htv hl n b (by omega) hw.2 (pre ++ [zap 7 0] ++ ser a) r Hx (by rw [hpre]; simp [ser, B.code]) hMx (by rw [hx bi (by simp), List.getElem?_append_left (gI.1 hbi2).1, hbi2]; simp [sz]; omega)
     have e : (((pre ++ [zap 7 0] ++ ser a).length + sz b : Nat) : Int) = K := by rw [← hK]; simp [sz]; omega
     rw [e] at this
     simpa using this) ?_
    have h1 := (gI.1 hM2.he).1
    have h2 := (gI.1 hM2.hx).1
    have h3 := (gI.1 hM2.ht).1
    have h4 := (gI.1 hM2.hv).1
    have h5 := (gI.1 hM2.hb).1
    have h6 := (gI.1 hM2.hm).1
    have h7 := (gI.1 hbi2).1
    have hset : ∀ L : AH, (H2 ++ L).set bi (.row true 1 [.int .i64 K]) = H.set bi (.row true 1 [.int .i64 K]) ++ L := fun L => by rw [hH2, zb2 hbl]
    rw [hset]
    obtain ⟨H3, hH3⟩ : ∃ H3, H3 = H.set bi (.row true 1 [.int .i64 K]) := ⟨_, rfl⟩
    have hl3 : H3.length = H2.length := by rw [hH3, hl2]; simp
    rw [← hl3, ← hH3]
    simp
    refine zac (fun Hx => iAdd _ _ hva hvb Hx) ?_
    simp
    refine endD [] (by rfl) (by simp [okW, note, Eff.triv, Eff.wr, Eff.none, upTo, newAt]; omega) ?_
    simp
    rw [hl3, hl2, hH3]
    exact fin _ _ _ _ (by simp) (by simp [ev, binV]) rfl (by simp)
   | sub =>
    simp [zan, zap, B.code, old hM1.hv, evF]
    have hS := rec1 a (pre ++ [zap 8 0]) (ser b ++ r) ((pre.length : Int) + 1) ((pre.length + 1 + sz a : Nat) : Int) [.row true 2 [iv (0, 0)], .row true 4 [nd (zap 8 0)]] (by omega) hw.1 (by rw [hpre]; simp [ser, B.code]) (by simp) (by simp)
    rw [hH1] at hS
    refine zaa hS ?_
    rw [hl1]
    have hM2 := hM.set ((pre.length + 1 + sz a : Nat) : Int)
    have hbi2 : (H.set bi (.row true 1 [.int .i64 ((pre.length + 1 + sz a : Nat) : Int)]))[bi]? = some (.row true 1 [.int .i64 ((pre.length + 1 + sz a : Nat) : Int)]) := List.getElem?_set_self hbl
    obtain ⟨H2, hH2⟩ : ∃ H2, H2 = H.set bi (.row true 1 [.int .i64 ((pre.length + 1 + sz a : Nat) : Int)]) := ⟨_, rfl⟩
    have hl2 : H2.length = H.length := by rw [hH2]; simp
    rw [← hH2] at hM2 hbi2
    rw [← hl2]
    rw [← hH2]
    simp [old hM2.hb, old hM2.hm, old hM2.hv, evF, opsT, zap]
    refine zgs [be, bi, bx, bt, bv, bb, bm] bi (.row true 1 [.int .i64 K]) (fun c hc => by
     have h1 := (gI.1 hM2.he).1
     have h2 := (gI.1 hM2.hx).1
     have h3 := (gI.1 hM2.ht).1
     have h4 := (gI.1 hM2.hv).1
     have h5 := (gI.1 hM2.hb).1
     have h6 := (gI.1 hM2.hm).1
     have h7 := (gI.1 hbi2).1
     have : c < H2.length := by
      simp only [List.mem_cons, List.not_mem_nil, or_false] at hc
      rcases hc with rfl | rfl | rfl | rfl | rfl | rfl | rfl <;> assumption
     simp only [List.length_append]; omega) (by simp) (fun Hx hx => by
     have hMx := (hM2.app _).like hx
     have := zhY hxv hxl htv hl n b (by omega) hw.2 (pre ++ [zap 8 0] ++ ser a) r Hx (by rw [hpre]; simp [ser, B.code]) hMx (by rw [hx bi (by simp), List.getElem?_append_left (gI.1 hbi2).1, hbi2]; simp [sz]; omega)
     have e : (((pre ++ [zap 8 0] ++ ser a).length + sz b : Nat) : Int) = K := by rw [← hK]; simp [sz]; omega
     rw [e] at this
     simpa using this) ?_
    have h1 := (gI.1 hM2.he).1
    have h2 := (gI.1 hM2.hx).1
    have h3 := (gI.1 hM2.ht).1
    have h4 := (gI.1 hM2.hv).1
    have h5 := (gI.1 hM2.hb).1
    have h6 := (gI.1 hM2.hm).1
    have h7 := (gI.1 hbi2).1
    have hset : ∀ L : AH, (H2 ++ L).set bi (.row true 1 [.int .i64 K]) = H.set bi (.row true 1 [.int .i64 K]) ++ L := fun L => by rw [hH2, zb2 hbl]
    rw [hset]
    obtain ⟨H3, hH3⟩ : ∃ H3, H3 = H.set bi (.row true 1 [.int .i64 K]) := ⟨_, rfl⟩
    have hl3 : H3.length = H2.length := by rw [hH3, hl2]; simp
    rw [← hl3, ← hH3]
    simp
    refine zac (fun Hx => iSub _ _ hva hvb Hx) ?_
    simp
    refine endD [] (by rfl) (by simp [okW, note, Eff.triv, Eff.wr, Eff.none, upTo, newAt]; omega) ?_
    simp
    rw [hl3, hl2, hH3]
    exact fin _ _ _ _ (by simp) (by simp [ev, binV]) rfl (by simp)
   | mul =>
    simp [zan, zap, B.code, old hM1.hv, evF]
    have hS := rec1 a (pre ++ [zap 9 0]) (ser b ++ r) ((pre.length : Int) + 1) ((pre.length + 1 + sz a : Nat) : Int) [.row true 2 [iv (0, 0)], .row true 4 [nd (zap 9 0)]] (by omega) hw.1 (by rw [hpre]; simp [ser, B.code]) (by simp) (by simp)
    rw [hH1] at hS
    refine zaa hS ?_
    rw [hl1]
    have hM2 := hM.set ((pre.length + 1 + sz a : Nat) : Int)
    have hbi2 : (H.set bi (.row true 1 [.int .i64 ((pre.length + 1 + sz a : Nat) : Int)]))[bi]? = some (.row true 1 [.int .i64 ((pre.length + 1 + sz a : Nat) : Int)]) := List.getElem?_set_self hbl
    obtain ⟨H2, hH2⟩ : ∃ H2, H2 = H.set bi (.row true 1 [.int .i64 ((pre.length + 1 + sz a : Nat) : Int)]) := ⟨_, rfl⟩
    have hl2 : H2.length = H.length := by rw [hH2]; simp
    rw [← hH2] at hM2 hbi2
    rw [← hl2]
    rw [← hH2]
    simp [old hM2.hb, old hM2.hm, old hM2.hv, evF, opsT, zap]
    refine zgs [be, bi, bx, bt, bv, bb, bm] bi (.row true 1 [.int .i64 K]) (fun c hc => by
     have h1 := (gI.1 hM2.he).1
     have h2 := (gI.1 hM2.hx).1
     have h3 := (gI.1 hM2.ht).1
     have h4 := (gI.1 hM2.hv).1
     have h5 := (gI.1 hM2.hb).1
     have h6 := (gI.1 hM2.hm).1
     have h7 := (gI.1 hbi2).1
     have : c < H2.length := by
      simp only [List.mem_cons, List.not_mem_nil, or_false] at hc
      rcases hc with rfl | rfl | rfl | rfl | rfl | rfl | rfl <;> assumption
     simp only [List.length_append]; omega) (by simp) (fun Hx hx => by
     have hMx := (hM2.app _).like hx
     have := zhY hxv hxl htv hl n b (by omega) hw.2 (pre ++ [zap 9 0] ++ ser a) r Hx (by rw [hpre]; simp [ser, B.code]) hMx (by rw [hx bi (by simp), List.getElem?_append_left (gI.1 hbi2).1, hbi2]; simp [sz]; omega)
     have e : (((pre ++ [zap 9 0] ++ ser a).length + sz b : Nat) : Int) = K := by rw [← hK]; simp [sz]; omega
     rw [e] at this
     simpa using this) ?_
    have h1 := (gI.1 hM2.he).1
    have h2 := (gI.1 hM2.hx).1
    have h3 := (gI.1 hM2.ht).1
    have h4 := (gI.1 hM2.hv).1
    have h5 := (gI.1 hM2.hb).1
    have h6 := (gI.1 hM2.hm).1
    have h7 := (gI.1 hbi2).1
    have hset : ∀ L : AH, (H2 ++ L).set bi (.row true 1 [.int .i64 K]) = H.set bi (.row true 1 [.int .i64 K]) ++ L := fun L => by rw [hH2, zb2 hbl]
    rw [hset]
    obtain ⟨H3, hH3⟩ : ∃ H3, H3 = H.set bi (.row true 1 [.int .i64 K]) := ⟨_, rfl⟩
    have hl3 : H3.length = H2.length := by rw [hH3, hl2]; simp
    rw [← hl3, ← hH3]
    simp
    refine zac (fun Hx => iMul _ _ hva hvb Hx) ?_
    simp
    refine endD [] (by rfl) (by simp [okW, note, Eff.triv, Eff.wr, Eff.none, upTo, newAt]; omega) ?_
    simp
    rw [hl3, hl2, hH3]
    exact fin _ _ _ _ (by simp) (by simp [ev, binV]) rfl (by simp)
   | div =>
    simp [zan, zap, B.code, old hM1.hv, evF]
    have hS := rec1 a (pre ++ [zap 10 0]) (ser b ++ r) ((pre.length : Int) + 1) ((pre.length + 1 + sz a : Nat) : Int) [.row true 2 [iv (0, 0)], .row true 4 [nd (zap 10 0)]] (by omega) hw.1 (by rw [hpre]; simp [ser, B.code]) (by simp) (by simp)
    rw [hH1] at hS
    refine zaa hS ?_
    rw [hl1]
    have hM2 := hM.set ((pre.length + 1 + sz a : Nat) : Int)
    have hbi2 : (H.set bi (.row true 1 [.int .i64 ((pre.length + 1 + sz a : Nat) : Int)]))[bi]? = some (.row true 1 [.int .i64 ((pre.length + 1 + sz a : Nat) : Int)]) := List.getElem?_set_self hbl
    obtain ⟨H2, hH2⟩ : ∃ H2, H2 = H.set bi (.row true 1 [.int .i64 ((pre.length + 1 + sz a : Nat) : Int)]) := ⟨_, rfl⟩
    have hl2 : H2.length = H.length := by rw [hH2]; simp
    rw [← hH2] at hM2 hbi2
    rw [← hl2]
    rw [← hH2]
    simp [old hM2.hb, old hM2.hm, old hM2.hv, evF, opsT, zap]
    refine zgs [be, bi, bx, bt, bv, bb, bm] bi (.row true 1 [.int .i64 K]) (fun c hc => by
     have h1 := (gI.1 hM2.he).1
     have h2 := (gI.1 hM2.hx).1
     have h3 := (gI.1 hM2.ht).1
     have h4 := (gI.1 hM2.hv).1
     have h5 := (gI.1 hM2.hb).1
     have h6 := (gI.1 hM2.hm).1
     have h7 := (gI.1 hbi2).1
     have : c < H2.length := by
      simp only [List.mem_cons, List.not_mem_nil, or_false] at hc
      rcases hc with rfl | rfl | rfl | rfl | rfl | rfl | rfl <;> assumption
     simp only [List.length_append]; omega) (by simp) (fun Hx hx => by
     have hMx := (hM2.app _).like hx
     have := zhY hxv hxl htv hl n b (by omega) hw.2 (pre ++ [zap 10 0] ++ ser a) r Hx (by rw [hpre]; simp [ser, B.code]) hMx (by rw [hx bi (by simp), List.getElem?_append_left (gI.1 hbi2).1, hbi2]; simp [sz]; omega)
     have e : (((pre ++ [zap 10 0] ++ ser a).length + sz b : Nat) : Int) = K := by rw [← hK]; simp [sz]; omega
     rw [e] at this
     simpa using this) ?_
    have h1 := (gI.1 hM2.he).1
    have h2 := (gI.1 hM2.hx).1
    have h3 := (gI.1 hM2.ht).1
    have h4 := (gI.1 hM2.hv).1
    have h5 := (gI.1 hM2.hb).1
    have h6 := (gI.1 hM2.hm).1
    have h7 := (gI.1 hbi2).1
    have hset : ∀ L : AH, (H2 ++ L).set bi (.row true 1 [.int .i64 K]) = H.set bi (.row true 1 [.int .i64 K]) ++ L := fun L => by rw [hH2, zb2 hbl]
    rw [hset]
    obtain ⟨H3, hH3⟩ : ∃ H3, H3 = H.set bi (.row true 1 [.int .i64 K]) := ⟨_, rfl⟩
    have hl3 : H3.length = H2.length := by rw [hH3, hl2]; simp
    rw [← hl3, ← hH3]
    simp
    refine zac (fun Hx => iDiv _ _ hva hvb Hx) ?_
    simp
    refine endD [] (by rfl) (by simp [okW, note, Eff.triv, Eff.wr, Eff.none, upTo, newAt]; omega) ?_
    simp
    rw [hl3, hl2, hH3]
    exact fin _ _ _ _ (by simp) (by simp [ev, binV]) rfl (by simp)
theorem zp5 (a : Ex) (xv : List I) (t : I) (hxv : ∀ p ∈ xv, vB p = true) (hxl : xv.length ≤ 1000000000) (htv : vB t = true) (hl : sz a ≤ 1000000000) (hw : wf xv.length a = true) (H : AH) :
  zaf E 113 [xs (ser a), bx xv, iv t] H (.ret (iv (ev xv t a))) H := by
 refine zab zah zai Tryz.func113 rfl (by rfl) Tryz.ntmps113 (by kernel_rfl) (by simp) ?_
 simp [bx, xs]
 refine zaa (zmO _) ?_
 simp
 have hM : ∀ q : AV, EMem (ser a) xv t (H ++ [.row true 1 [xs (ser a)], .row true 1 [.slice (xv.map iv) false], .row true 2 [iv t], .row true 2 [q], .map opsT, .row true 1 [.int .i64 0], .row true 1 [.map (H.length + 4)], .row true 1 [evF H.length (H.length + 5) (H.length + 1) (H.length + 2) (H.length + 7) (H.length + 6)]]) H.length (H.length + 5) (H.length + 1) (H.length + 2) (H.length + 7) (H.length + 6) (H.length + 4) := fun q =>
  ⟨by simp, by simp, by simp, by simp, by simp, by simp, ⟨0, by simp⟩, by omega⟩
 have hS := zhY hxv hxl htv (l := ser a) hl (sz a) a (Nat.le_refl _) hw [] [] _ (by simp) (hM (iv (0, 0))) (by simp)
 refine zaa hS ?_
 simp
 exact fin1 (rs := [.cell 6 48]) (by rfl) (by simp [resA]) (by simp [noF, noFs])
def LDs (s : Sys) (xv : List I) (t : I) (H : AH) (i : Nat) (fr : AFr) (H' : AH) : Prop :=
 fr 1 = bx xv ∧ fr 5 = .ptr (H.length + 1) 1 0 0 ∧ fr 11 = .slice (s.f.map fun e => xs (ser e)) false ∧ fr 12 = .int .i64 s.f.length ∧ fr 13 = .int .i64 i ∧ i ≤ s.f.length ∧ ∃ J, H' = H ++ [.row true 2 [sys s], .row true 2 [iv t]] ++ J ∧ Acc (H ++ [.row true 2 [sys s], .row true 2 [iv t]]) J (fr 7) 2 ((s.f.take i).map fun e => iv (ev xv t e)) .nilslice
theorem zjI (s : Sys) (xv : List I) (t : I) (hxv : ∀ p ∈ xv, vB p = true) (hxl : xv.length ≤ 1000000000) (htv : vB t = true) (hf : ∀ e ∈ s.f, sz e ≤ 1000000000 ∧ wf xv.length e = true) (hn : s.f.length ≤ 1000000000) (H : AH) :
  zaf E 115 [sys s, bx xv, iv t] H (.ret (bx (s.f.map (ev xv t)))) H := by
 refine zab zah zai Tryz.func115 rfl (by rfl) Tryz.ntmps115 (by kernel_rfl) (by simp) ?_
 simp [sys]
 refine zag (LDs s xv t H) (fun i => s.f.length - i) 0 ⟨by simp [bx], by simp, by simp, by simp, by simp, by omega, [], by simp [sys, iv], .inl ⟨by simp, by simp⟩⟩ ?_
 rintro i fr H' ⟨g1, g5, g11, g12, g13, hi, J, rfl, hacc⟩
 simp [g12, g13]
 refine zak (fun hc => ?_) (fun hc => ?_)
 ·have hlt : i < s.f.length := by simpa using hc
  obtain ⟨e, hei⟩ := zaj hlt
  have heE : ∀ h, s.f[i]'h = e := fun h => (gI.1 hei).2
  have hfe := hf e (List.mem_of_getElem? hei)
  have w2 : IntKind.i64.wrap ((i : Int) + 1) = ((i + 1 : Nat) : Int) := by rw [zae (by omega) (by omega)]; omega
  have hg5 : (H ++ [.row true 2 [sys s], .row true 2 [iv t]] ++ J)[H.length + 1]? = some (.row true 2 [iv t]) := by simp
  have hft : s.f.take (i + 1) = s.f.take i ++ [e] := by rw [List.take_add_one, hei]; rfl
  obtain ⟨v', J', hap, hacc', _⟩ := Acc.push (T := tab) (t := 23) (e := 48) (x := .slice [iv (ev xv t e)] true) (ys := [iv (ev xv t e)]) hacc tab23 rfl tab48 rfl rfl (by simp [okc]) ⟨by decide, by simp⟩ (by rw [List.length_map, List.length_take]; dsimp only [List.length_cons, List.length_nil]; omega) (by rw [List.length_map, List.length_take]; dsimp only [List.length_cons, List.length_nil]; omega)
  simp [g1, g5, g11, g13, hei, heE, xs, bx]
  refine zba (zp5 e xv t hxv hxl htv hfe.1 hfe.2 _) (by simp [xs, bx, iv]; rfl) ?_
  simp
  refine bind_some (by simpa [sys, iv] using hap) ?_
  simp [g13, w2]
  exact ⟨i + 1, by show s.f.length - (i + 1) < s.f.length - i; omega, by simp [g1, bx], by simp [g5], by simp [g11, xs], by simp [g12], by simp, by omega, J', by simp [sys, iv], by simpa [hft] using hacc'⟩
 ·have hi' : i = s.f.length := by have : ¬ i < s.f.length := by simpa using hc
                                  omega
  subst hi'
  rw [List.take_length] at hacc
  simp
  rw [show bx (s.f.map (ev xv t)) = .slice (s.f.map fun e => iv (ev xv t e)) false by simp [bx]]
  have hH : H ++ ABlk.row true 2 [sys s] :: ABlk.row true 2 [AV.agg [AV.int IntKind.i64 t.fst, AV.int IntKind.i64 t.snd]] :: J = H ++ ([.row true 2 [sys s], .row true 2 [iv t]] ++ J) := by simp
  rw [hH]
  exact finS (t := 6) (by rfl) (by simp) (zpn hacc) rfl (by have h := zaJ (s.f.map (ev xv t)) H.length; rw [List.map_map] at h; exact h)
end Go.Proofs.YtkghjlgpmeibhaaGreatDoor.Arm

namespace Go.Pl
def sgnI (a : I) : Int := if 0 < a.1 then 1 else if a.2 < 0 then -1 else 0
def upI (w a b : I) : Int := if a.2 < 0 ∧ 0 ≤ b.1 then 2 else if w.2 < 0 ∨ 0 ≤ w.1 then 0 else 1
def crI (dir : Int) (w a b : I) : Int :=
 if 0 < dir then upI w a b else if dir < 0 then upI (neg w) (neg a) (neg b)
 else if upI w a b = 2 ∨ upI (neg w) (neg a) (neg b) = 2 then 2 else if upI w a b = 0 ∧ upI (neg w) (neg a) (neg b) = 0 then 0 else 1
def zcu (P : I → Bool) (least : Int) : Nat → I → List I
 | 0, p => if P p then [p] else []
 | n + 1, p => if P p then (if p.2 - p.1 ≤ least then [p] else zcu P least n (p.1, (p.1 + p.2).tdiv 2) ++ zcu P least n ((p.1 + p.2).tdiv 2, p.2)) else []
def zc6 (out : List I) : I := (out.getLast?).getD (0, 0)
def zaM (out : List I) (p : I) : List I := if 0 < out.length ∧ (zc6 out).2 = p.1 then out.set (out.length - 1) ((zc6 out).1, p.2) else out ++ [p]
def zdI (P : I → Bool) (least h : Int) : List I := (zcu P least h.toNat (0, h)).foldl zaM []
theorem zp7 {p : I} {least : Int} (hl : 1 ≤ least) (h0 : 0 ≤ p.1) (h1 : least < p.2 - p.1) : (p.1 + p.2).tdiv 2 = (p.1 + p.2) / 2 ∧ p.1 < (p.1 + p.2) / 2 ∧ (p.1 + p.2) / 2 < p.2 := by
 have e : (p.1 + p.2).tdiv 2 = (p.1 + p.2) / 2 := Int.tdiv_eq_ediv_of_nonneg (by omega)
 omega
theorem zdv {P : I → Bool} {least : Int} {p : I} (hP : P p = true) (h : p.2 - p.1 ≤ least) : ∀ n, zcu P least n p = [p]
 | 0 => by simp [zcu, hP]
 | n + 1 => by simp [zcu, hP, h]
theorem ziQ {P : I → Bool} {least : Int} {p : I} (hP : P p = false) : ∀ n, zcu P least n p = []
 | 0 => by simp [zcu, hP]
 | n + 1 => by simp [zcu, hP]
theorem zfh {P : I → Bool} {least : Int} {p : I} (hP : P p = true) (h : ¬ p.2 - p.1 ≤ least) (n : Nat) : zcu P least (n + 1) p = zcu P least n (p.1, (p.1 + p.2).tdiv 2) ++ zcu P least n ((p.1 + p.2).tdiv 2, p.2) := by
 simp [zcu, hP, h]
structure zu0 (p : I) (l : List I) : Prop where
 inn : ∀ q ∈ l, p.1 ≤ q.1 ∧ q.1 < q.2 ∧ q.2 ≤ p.2
 ord : l.Pairwise fun a b => a.2 ≤ b.1
theorem ziP {P : I → Bool} {least : Int} (hl : 1 ≤ least) : ∀ (n : Nat) (p : I), 0 ≤ p.1 → p.1 < p.2 → zu0 p (zcu P least n p)
 | 0, p, h0, h1 => by
  unfold zcu
  split
  ·exact ⟨fun q hq => by simp at hq; subst hq; omega, by simp⟩
  ·exact ⟨by simp, by simp⟩
 | n + 1, p, h0, h1 => by
  cases hP : P p with
  | false => rw [ziQ hP]; exact ⟨by simp, by simp⟩
  | true =>
   by_cases h : p.2 - p.1 ≤ least
   ·rw [zdv hP h]
    exact ⟨fun q hq => by simp at hq; subst hq; omega, by simp⟩
   ·rw [zfh hP h]
    obtain ⟨e, m1, m2⟩ := zp7 hl h0 (by omega)
    rw [e]
    have a := ziP (P := P) hl n (p.1, (p.1 + p.2) / 2) h0 m1
    have b := ziP (P := P) hl n ((p.1 + p.2) / 2, p.2) (by show 0 ≤ _; omega) m2
    refine ⟨fun q hq => ?_, List.pairwise_append.2 ⟨a.ord, b.ord, fun x hx y hy => ?_⟩⟩
    ·rcases List.mem_append.1 hq with hq | hq
     ·have := a.inn q hq; simp only at this; omega
     ·have := b.inn q hq; simp only at this; omega
    ·have := a.inn x hx
     have := b.inn y hy
     simp only at *
     omega
end Go.Pl
namespace Go.Pl
theorem zgl {P : I → Bool} {least : Int} (hl : 1 ≤ least) : ∀ (n : Nat) (p : I), 0 ≤ p.1 → p.1 < p.2 → ((zcu P least n p).length : Int) ≤ p.2 - p.1
 | 0, p, h0, h1 => by
  unfold zcu
  split <;> simp <;> omega
 | n + 1, p, h0, h1 => by
  cases hP : P p with
  | false => rw [ziQ hP]; simp; omega
  | true =>
   by_cases h : p.2 - p.1 ≤ least
   ·rw [zdv hP h]; simp; omega
   ·rw [zfh hP h]
    obtain ⟨e, m1, m2⟩ := zp7 hl h0 (by omega)
    rw [e]
    have a := zgl (P := P) hl n (p.1, (p.1 + p.2) / 2) h0 m1
    have b := zgl (P := P) hl n ((p.1 + p.2) / 2, p.2) (by show 0 ≤ _; omega) m2
    simp only at a b
    rw [List.length_append]
    omega
theorem zfL (l : List I) (p : I) : (zaM l p).length ≤ l.length + 1 ∧ 1 ≤ (zaM l p).length := by
 unfold zaM
 split
 ·rename_i h; simp; omega
 ·simp
theorem zmQ (p : I) : zaM [] p = [p] := by simp [zaM]
end Go.Pl

namespace Go.Proofs.YtkghjlgpmeibhaaGreatDoor.Arm
open Go.Arm Go.Pl
theorem zuC (p : I) (H : AH) : zaf E 67 [iv p] H (.ret (.int .i64 (sgnI p))) H := by
 refine zab zah zai Tryz.func67 rfl (by rfl) Tryz.ntmps67 (by kernel_rfl) (by simp) ?_
 simp
 refine zac (fun Hx => ziU _ _ _ Hx) ?_
 simp
 refine zac (fun Hx => ziU _ _ _ Hx) ?_
 simp
 refine endD [] (by rfl) (by simp [okW, note, Eff.triv, Eff.wr, Eff.none, upTo, newAt]) ?_
 simp
 exact fin1 (rs := [.tmp 2]) (by rfl) (by simp [resA, sgnI]) (by simp [noF])
structure Gd where
 f : Ex
 dir : Int
def gdA (g : Gd) : AV := .agg [xs (ser g.f), .int .i64 g.dir]
structure GdOk (n : Nat) (g : Gd) : Prop where
 sz : sz g.f ≤ 1000000
 wf : wf n g.f = true
structure Cw where
 s : Sg
 order : Nat
 least : Int
def cwA (w : Cw) : AV := .agg [.int .i64 w.s.t, .int .i64 w.s.h, bx w.s.frm, bx w.s.pre, bx w.s.tube, bx w.s.to, .int .i64 w.order, .int .i64 w.least]
structure CwOk (T : Tp) (w : Cw) : Prop where
 vf : allV w.s.frm
 nf : w.s.frm.length = T.n
 vp : allV w.s.pre
 np : w.s.pre.length = T.n
 vt : allV w.s.tube
 nt : w.s.tube.length = T.n
 vo : allV w.s.to
 no : w.s.to.length = T.n
 tm : -1000000000 ≤ w.s.t ∧ w.s.t ≤ 1000000000 ∧ 1 ≤ w.s.h ∧ w.s.h ≤ 1000000000 ∧ w.s.t + w.s.h ≤ 1000000000
 od : 1 ≤ w.order ∧ w.order ≤ 900
 le : 1 ≤ w.least ∧ w.least ≤ 2000000000
def zbM (T : Tp) (w : Cw) (p : I) : List I := zaH T w.s.frm w.s.pre w.s.t w.s.h p w.order
def absC (w : Cw) (p : I) : I := (w.s.t + p.1, w.s.t + p.2)
theorem zuG (g : Gd) (x : List I) (t : I) (hg : GdOk x.length g) (hx : allV x) (hxl : x.length ≤ 1000000) (ht : vB t = true) (H : AH) : zaf E 163 [gdA g, bx x, iv t] H (.ret (iv (ev x t g.f))) H := by
 refine zab zah zai Tryz.func163 rfl (by rfl) Tryz.ntmps163 (by kernel_rfl) (by simp) ?_
 have hE := fun Hx => zp5 g.f x t hx (by omega) ht (by have := hg.sz; omega) hg.wf Hx
 simp [gdA]
 refine zaa (hE _) ?_
 simp
 exact fin1 (rs := [.cell 6 48]) (by rfl) (by simp [resA]) (by simp [noF, noFs])
theorem gSide (g : Gd) (x : List I) (t : I) (hg : GdOk x.length g) (hx : allV x) (hxl : x.length ≤ 1000000) (ht : vB t = true) (H : AH) : zaf E 169 [gdA g, bx x, iv t] H (.ret (.int .i64 (sgnI (ev x t g.f)))) H := by
 refine zab zah zai Tryz.func169 rfl (by rfl) Tryz.ntmps169 (by kernel_rfl) (by simp) ?_
 have hE := zuG g x t hg hx hxl ht
 simp [gdA]
 refine zaa (by simpa [gdA] using hE _) ?_
 simp
 refine zaa (zuC _ _) ?_
 simp
 exact fin1 (rs := [.tmp 6]) (by rfl) (by simp [resA]) (by simp [noF])
theorem xAbs (w : Cw) (p : I) (hw : -1000000000 ≤ w.s.t ∧ w.s.t ≤ 1000000000) (hp : -1000000000 ≤ p.1 ∧ p.1 ≤ 1000000000 ∧ -1000000000 ≤ p.2 ∧ p.2 ≤ 1000000000) (H : AH) : zaf E 62 [cwA w, iv p] H (.ret (iv (absC w p))) H := by
 refine zab zah zai Tryz.func62 rfl (by rfl) Tryz.ntmps62 (by kernel_rfl) (by simp) ?_
 have w1 : IntKind.i64.wrap (w.s.t + p.1) = w.s.t + p.1 := zae (by omega) (by omega)
 have w2 : IntKind.i64.wrap (w.s.t + p.2) = w.s.t + p.2 := zae (by omega) (by omega)
 simp [cwA, bx, w1, w2]
 exact fin1 (rs := [.cell 4 48]) (by rfl) (by simp [resA, absC]) (by simp [noF, noFs])
theorem ztr (T : Tp) (w : Cw) (p : I) (hT : tpOk T) (hw : CwOk T w) (hp : vB p = true) (H : AH) : zaf E 61 [tpA T, cwA w, iv p] H (.ret (bx (zbM T w p))) H := by
 refine zab zah zai Tryz.func61 rfl (by rfl) Tryz.ntmps61 (by kernel_rfl) (by simp) ?_
 have tm := hw.tm
 have hE := fun Hx => zjR T w.s.frm w.s.pre w.s.t w.s.h p w.order hT hw.vf hw.nf hw.vp hw.np (by omega) (by omega) hp hw.od Hx
 have e : zaH T w.s.frm w.s.pre w.s.t w.s.h p w.order = zbM T w p := rfl
 rw [e] at hE
 generalize zbM T w p = R at *
 simp [tpA, outA, cwA, bx]
 refine zaa (by simpa [tpA, outA, bx] using hE _) ?_
 simp
 exact fin1 (rs := [.tmp 6]) (by rfl) (by simp [resA, bx]) (by simp [noF, bx, zaJ])
theorem gAt (g : Gd) (b : Nat) (x : List I) (t u : Int) (hg : GdOk x.length g) (hx : allV x) (hxl : x.length ≤ 1000000) (ht : vB (t, u) = true) (wr : Bool) (H : AH) (hb : H[b]? = some (.row wr 2 [gdA g])) : zaf E 162 [bx x, .int .i64 t, .int .i64 u, .ptr b 1 0 0] H (.ret (iv (ev x (t, u) g.f))) H := by
 refine zab zah zai Tryz.func162 rfl (by rfl) Tryz.ntmps162 (by kernel_rfl) (by simp) ?_
 have hE := zuG g x (t, u) hg hx hxl ht
 have hb' := old hb
 simp only [gdA] at hb hb'
 simp [hb, hb', bx]
 refine zaa (by simpa [gdA, bx] using hE _) ?_
 simp
 exact fin1 (rs := [.cell 7 48]) (by rfl) (by simp [resA]) (by simp [noF, noFs])
def vlA (w a b : I) : AV := .agg [.int .i64 w.1, .int .i64 w.2, .int .i64 a.1, .int .i64 a.2, .int .i64 b.1, .int .i64 b.2]
theorem gUp (w a b : I) (H : AH) : zaf E 164 [vlA w a b] H (.ret (.int .i64 (upI w a b))) H := by
 refine zab zah zai Tryz.func164 rfl (by rfl) Tryz.ntmps164 (by kernel_rfl) (by simp) ?_
 by_cases h1 : a.2 < 0
 ·by_cases h2 : 0 ≤ b.1
  ·have e : upI w a b = 2 := by unfold upI; simp [h1, h2]
   simp [vlA, h1, h2, e]
   exact fin1 (rs := [.tmp 2]) (by rfl) (by simp [resA]) (by simp [noF])
  ·by_cases h3 : w.2 < 0
   ·have e : upI w a b = 0 := by unfold upI; simp [h1, h2, h3]
    simp [vlA, h1, h2, h3, e]
    exact fin1 (rs := [.tmp 2]) (by rfl) (by simp [resA]) (by simp [noF])
   ·by_cases h4 : 0 ≤ w.1
    ·have e : upI w a b = 0 := by unfold upI; simp [h1, h2, h3, h4]
     simp [vlA, h1, h2, h3, h4, e]
     exact fin1 (rs := [.tmp 2]) (by rfl) (by simp [resA]) (by simp [noF])
    ·have e : upI w a b = 1 := by unfold upI; simp [h1, h2, h3, h4]
     simp [vlA, h1, h2, h3, h4, e]
     exact fin1 (rs := [.tmp 2]) (by rfl) (by simp [resA]) (by simp [noF])
 ·by_cases h3 : w.2 < 0
  ·have e : upI w a b = 0 := by unfold upI; simp [h1, h3]
   simp [vlA, h1, h3, e]
   exact fin1 (rs := [.tmp 2]) (by rfl) (by simp [resA]) (by simp [noF])
  ·by_cases h4 : 0 ≤ w.1
   ·have e : upI w a b = 0 := by unfold upI; simp [h1, h3, h4]
    simp [vlA, h1, h3, h4, e]
    exact fin1 (rs := [.tmp 2]) (by rfl) (by simp [resA]) (by simp [noF])
   ·have e : upI w a b = 1 := by unfold upI; simp [h1, h3, h4]
    simp [vlA, h1, h3, h4, e]
    exact fin1 (rs := [.tmp 2]) (by rfl) (by simp [resA]) (by simp [noF])
theorem gNegd (w a b : I) (hw : vB w = true) (ha : vB a = true) (hb : vB b = true) (H : AH) : zaf E 165 [vlA w a b] H (.ret (vlA (neg w) (neg a) (neg b))) H := by
 refine zab zah zai Tryz.func165 rfl (by rfl) Tryz.ntmps165 (by kernel_rfl) (by simp) ?_
 simp [vlA]
 refine zac (fun Hx => iNeg w hw Hx) ?_
 simp
 refine zac (fun Hx => iNeg a ha Hx) ?_
 simp
 refine zac (fun Hx => iNeg b hb Hx) ?_
 simp
 refine endD [] (by rfl) (by simp [okW, note, Eff.triv, Eff.wr, Eff.none, upTo, newAt]) ?_
 simp
 exact fin1 (rs := [.cell 2 219]) (by rfl) (by simp [resA, vlA]) (by simp [noF, noFs])
def LIx (x : Int) (l : List Int) (H : AH) (i : Nat) (fr : AFr) (H' : AH) : Prop :=
 fr 0 = .slice (l.map (.int .i64)) false ∧ fr 1 = .int .i64 x ∧ fr 7 = .int .i64 l.length ∧ fr 8 = .int .i64 i ∧ i ≤ l.length ∧ (∀ k : Nat, k < i → l[k]? ≠ some x) ∧ H' = H
theorem znx (l : List Int) (x : Int) (hl : l.length ≤ 1000000) (H : AH) : ∃ k : Int, zaf E 223 [.slice (l.map (.int .i64)) false, .int .i64 x] H (.ret (.int .i64 k)) H ∧ (0 ≤ k ↔ x ∈ l) := by
 by_cases hx : x ∈ l
 ·obtain ⟨j, hj, hjm⟩ : ∃ j : Nat, l[j]? = some x ∧ ∀ k : Nat, k < j → l[k]? ≠ some x := by
   have hex : ∃ j : Nat, l[j]? = some x := List.mem_iff_getElem?.1 hx
   have hp : ∀ m : Nat, (∃ j : Nat, j ≤ m ∧ l[j]? = some x) → ∃ j : Nat, l[j]? = some x ∧ ∀ k : Nat, k < j → l[k]? ≠ some x := by
    intro m
    induction m with
    | zero => rintro ⟨j, hj, h⟩; exact ⟨j, h, fun k hk => by omega⟩
    | succ m ih =>
     rintro ⟨j, hj, h⟩
     by_cases h2 : ∃ j : Nat, j ≤ m ∧ l[j]? = some x
     ·exact ih h2
     ·exact ⟨j, h, fun k hk h3 => h2 ⟨k, by omega, h3⟩⟩
   obtain ⟨j, h⟩ := hex
   exact hp j ⟨j, Nat.le_refl _, h⟩
  refine ⟨j, ?_, ⟨fun _ => hx, fun _ => by omega⟩⟩
  refine zab zah zai Tryz.func223 rfl (by rfl) Tryz.ntmps223 (by kernel_rfl) (by simp) ?_
  have hjl := (gI.1 hj).1
  simp
  refine zag (LIx x l H) (fun i => l.length - i) 0 ⟨by simp, by simp, by simp, by simp, by omega, fun k hk => by omega, by simp⟩ ?_
  rintro i fr H' ⟨g0, g1, g7, g8, hi, hno, rfl⟩
  simp [g7, g8]
  refine zak (fun hc => ?_) (fun hc => ?_)
  ·have hlt : i < l.length := by simpa using hc
   obtain ⟨y, hy⟩ := zaj hlt
   have hyE : ∀ h, l[i]'h = y := fun h => (gI.1 hy).2
   have w2 : IntKind.i64.wrap ((i : Int) + 1) = ((i + 1 : Nat) : Int) := by rw [zae (by omega) (by omega)]; omega
   simp [g0, g1, g8, hy, hyE]
   by_cases he : x = y
   ·subst he
    have : i = j := by
     rcases Nat.lt_trichotomy i j with h | h | h
     ·exact absurd hy (hjm i h)
     ·exact h
     ·exact absurd hj (hno j h)
    subst this
    simp
    exact fin0 (rs := [.tmp 4]) (by rfl) (by simp [resA])
   ·have he2 : (x == y) = false := by rw [beq_eq_false_iff_ne]; exact he
    simp [he2, g8, w2]
    exact ⟨i + 1, by show l.length - (i + 1) < l.length - i; omega, by simp [g0], by simp [g1], by simp [g7], by simp, by omega, fun k hk h => by
     rcases Nat.lt_or_ge k i with h2 | h2
     ·exact hno k h2 h
     ·have : k = i := by omega
      subst this; rw [hy] at h; cases h; exact he rfl, rfl⟩
  ·have : ¬ i < l.length := by simpa using hc
   exact absurd hj (hno j (by omega))
 ·refine ⟨-1, ?_, ⟨fun h => by omega, fun h => absurd h hx⟩⟩
  refine zab zah zai Tryz.func223 rfl (by rfl) Tryz.ntmps223 (by kernel_rfl) (by simp) ?_
  simp
  refine zag (LIx x l H) (fun i => l.length - i) 0 ⟨by simp, by simp, by simp, by simp, by omega, fun k hk => by omega, by simp⟩ ?_
  rintro i fr H' ⟨g0, g1, g7, g8, hi, hno, rfl⟩
  simp [g7, g8]
  refine zak (fun hc => ?_) (fun hc => ?_)
  ·have hlt : i < l.length := by simpa using hc
   obtain ⟨y, hy⟩ := zaj hlt
   have hyE : ∀ h, l[i]'h = y := fun h => (gI.1 hy).2
   have w2 : IntKind.i64.wrap ((i : Int) + 1) = ((i + 1 : Nat) : Int) := by rw [zae (by omega) (by omega)]; omega
   have he : x ≠ y := fun h => hx (by rw [h]; exact List.mem_of_getElem? hy)
   have he2 : (x == y) = false := by rw [beq_eq_false_iff_ne]; exact he
   simp [g0, g1, g8, hy, hyE, he2, w2]
   exact ⟨i + 1, by show l.length - (i + 1) < l.length - i; omega, by simp [g0], by simp [g1], by simp [g7], by simp, by omega, fun k hk h => hx (List.mem_of_getElem? h), rfl⟩
  ·simp
   exact fin0 (rs := [.tmp 4]) (by rfl) (by simp [resA])
theorem zju (l : List Int) (x : Int) (hl : l.length ≤ 1000000) (H : AH) : zaf E 166 [.slice (l.map (.int .i64)) false, .int .i64 x] H (.ret (.bool (decide (x ∈ l)))) H := by
 obtain ⟨k, hk, hki⟩ := znx l x hl H
 refine zab zah zai Tryz.func166 rfl (by rfl) Tryz.ntmps166 (by kernel_rfl) (by simp) ?_
 simp
 refine zaa hk ?_
 simp
 exact fin0 (rs := [.tmp 4]) (by rfl) (by simp [resA, hki])
def zcn (g : Gd) (s : Sg) : Int := crI g.dir (ev s.tube (s.t, s.t + s.h) g.f) (ev s.frm (s.t, s.t) g.f) (ev s.to (s.t + s.h, s.t + s.h) g.f)
theorem zje (H : AH) (a b c d : Int) (z : Bool) : zav tab H .eql 166 (.agg [.int .i64 a, .int .i64 b]) (.agg [.int .i64 c, .int .i64 d]) z = some (.bool (a == c && b == d), H) := by
 simp [zav, binA, eqA, eqEs, zeA, nilI]
 by_cases h1 : a = c <;> by_cases h2 : b = d <;> simp [h1, h2]
set_option maxHeartbeats 1000000 in
theorem zoI (T : Tp) (g : Gd) (s : Sg) (hg : GdOk T.n g) (hn : T.n ≤ 1000000) (vt : allV s.tube) (nt : s.tube.length = T.n) (vf : allV s.frm) (nf : s.frm.length = T.n) (vo : allV s.to) (no : s.to.length = T.n)
  (tm : -1000000000 ≤ s.t ∧ s.t ≤ 1000000000 ∧ 1 ≤ s.h ∧ s.h ≤ 1000000000 ∧ s.t + s.h ≤ 1000000000) (H : AH) : zaf E 106 [gdA g, sgA s] H (.ret (.int .i64 (zcn g s))) H := by
 refine zab zah zai Tryz.func106 rfl (by rfl) Tryz.ntmps106 (by kernel_rfl) (by simp) ?_
 have v1 : vB (s.t, s.t + s.h) = true := zas (by omega) (by omega) (by omega)
 have v2 : vB (s.t, s.t) = true := zas (by omega) (by omega) (by omega)
 have v3 : vB (s.t + s.h, s.t + s.h) = true := zas (by omega) (by omega) (by omega)
 have w1 : IntKind.i64.wrap (s.t + s.h) = s.t + s.h := zae (by omega) (by omega)
 have e1 := fun (Hx : AH) (b : Nat) (hb : Hx[b]? = some (.row true 2 [gdA g])) => gAt g b s.tube s.t (s.t + s.h) (by rw [nt]; exact hg) vt (by omega) v1 true Hx hb
 have e2 := fun (Hx : AH) (b : Nat) (hb : Hx[b]? = some (.row true 2 [gdA g])) => gAt g b s.frm s.t s.t (by rw [nf]; exact hg) vf (by omega) v2 true Hx hb
 have e3 := fun (Hx : AH) (b : Nat) (hb : Hx[b]? = some (.row true 2 [gdA g])) => gAt g b s.to (s.t + s.h) (s.t + s.h) (by rw [no]; exact hg) vo (by omega) v3 true Hx hb
 have u1 := zaT vt v1 g.f (by rw [nt]; exact hg.wf)
 have u2 := zaT vf v2 g.f (by rw [nf]; exact hg.wf)
 have u3 := zaT vo v3 g.f (by rw [no]; exact hg.wf)
 unfold zcn
 generalize ev s.tube (s.t, s.t + s.h) g.f = w at *
 generalize ev s.frm (s.t, s.t) g.f = a at *
 generalize ev s.to (s.t + s.h, s.t + s.h) g.f = b at *
 have hU := fun Hx => gUp w a b Hx
 have hN := fun Hx => gNegd w a b u1 u2 u3 Hx
 have hD := fun Hx => gUp (neg w) (neg a) (neg b) Hx
 unfold crI
 generalize upI w a b = c0 at *
 generalize upI (neg w) (neg a) (neg b) = c1 at *
 have hC := fun Hx => zju [c0, c1] 2 (by simp) Hx
 simp only [gdA, bx] at e1 e2 e3
 simp [gdA, sgA, bx, w1]
 refine zdj (fun X => e1 _ H.length (by simp [gdA, bx])) ?_
 simp
 refine zdj (fun X => e2 _ H.length (by simp [gdA, bx])) ?_
 simp
 refine zdj (fun X => e3 _ H.length (by simp [gdA, bx])) ?_
 simp
 refine endD [(22, 23)] (by rfl) (by simp [okW, note, Eff.triv, Eff.wr, Eff.none, upTo, newAt]; omega) ?_
 simp
 refine zac (fun Hx => hU Hx) ?_
 simp
 refine zac (fun Hx => hN Hx) ?_
 simp [vlA]
 refine zac (fun Hx => hD Hx) ?_
 simp
 refine endD [(6, 7)] (by rfl) (by simp [okW, note, Eff.triv, Eff.wr, Eff.none, upTo, newAt]) ?_
 simp
 by_cases d1 : 0 < g.dir
 ·simp [d1]
  exact fin1 (rs := [.tmp 4]) (by rfl) (by simp [resA]) (by simp [noF])
 ·by_cases d2 : g.dir < 0
  ·simp [d1, d2]
   exact fin1 (rs := [.tmp 4]) (by rfl) (by simp [resA]) (by simp [noF])
  ·simp [d1, d2]
   refine zaa (hC _) ?_
   simp
   by_cases k0 : c0 = 2
   ·simp [k0]
    exact fin1 (rs := [.tmp 4]) (by rfl) (by simp [resA]) (by simp [noF])
   ·have k0' : ¬ 2 = c0 := fun h => k0 h.symm
    by_cases k1 : c1 = 2
    ·simp [k1]
     exact fin1 (rs := [.tmp 4]) (by rfl) (by simp [resA]) (by simp [noF])
    ·have k1' : ¬ 2 = c1 := fun h => k1 h.symm
     by_cases z0 : c0 = 0
     ·by_cases z1 : c1 = 0
      ·simp [z0, z1, zje]
       exact fin1 (rs := [.tmp 4]) (by rfl) (by simp [resA]) (by simp [noF])
      ·have b1 : (c1 == 0) = false := by rw [beq_eq_false_iff_ne]; exact z1
       simp [k0, k1, k0', k1', z0, z1, b1, zje]
       exact fin1 (rs := [.tmp 4]) (by rfl) (by simp [resA]) (by simp [noF])
     ·have b0 : (c0 == 0) = false := by rw [beq_eq_false_iff_ne]; exact z0
      simp [k0, k1, k0', k1', z0, b0, zje]
      exact fin1 (rs := [.tmp 4]) (by rfl) (by simp [resA]) (by simp [noF])
end Go.Proofs.YtkghjlgpmeibhaaGreatDoor.Arm

namespace Go.Arm
open Go.RowKit
theorem zn3 {m m' : Nat} (hm : m ≤ m') {k : ABlk} (h : noFB m k = true) : noFB m' k = true := by
 cases k with
 | dead => rfl
 | row wr sz xs => simp only [noFB] at h ⊢; rw [zaE] at h ⊢; exact fun x hx => zbC hm (h x hx)
 | map es =>
  simp only [noFB, List.all_eq_true, Bool.and_eq_true] at h ⊢
  exact fun e hx => ⟨zbC hm (h e hx).1, zbC hm (h e hx).2⟩
 | loop k st frs => simp only [noFB] at h ⊢; rw [zaE] at h ⊢; exact fun x hx => zbC hm (h x hx)
theorem alters.set (H : AH) (b : Nat) {k : ABlk} (hk : noFB H.length k = true) : alters H (H.set b k) := by
 refine ⟨by simp, fun c => ?_⟩
 by_cases h : b = c
 ·subst h
  by_cases hlt : b < H.length
  ·exact .inr (.inl ⟨k, by simp [hlt], hk⟩)
  ·left; rw [List.set_eq_of_length_le (by omega)]
 ·left; rw [List.getElem?_set_ne h]
inductive zhk (E : Env) (b : Nat) (C : List Nat) : List (List AV × (AH → AH)) → AH → AH → Prop
 | nil (H : AH) : zhk E b C [] H H
 | stop {a : List AV} {f : AH → AH} {r : List (List AV × (AH → AH))} {H H' : AH} (h1 : alters H H') (h2 : ∀ c ∈ C, H'[c]? = H[c]?) (h3 : ∀ J : AH, zbX E b a (H ++ J) (.bool false) (H' ++ J)) : zhk E b C ((a, f) :: r) H H'
 | go {a : List AV} {f : AH → AH} {r : List (List AV × (AH → AH))} {H H1 H' : AH} (h1 : alters H H1) (h2 : ∀ c ∈ C, H1[c]? = H[c]?) (h3 : ∀ J : AH, zbX E b a (H ++ J) (.bool true) (H1 ++ J)) (h4 : zhk E b C r (f H1) H') : zhk E b C ((a, f) :: r) H H'
theorem zhk.cases_cons {E : Env} {b : Nat} {C : List Nat} {a : List AV} {f : AH → AH} {r : List (List AV × (AH → AH))} {H H' : AH} (h : zhk E b C ((a, f) :: r) H H') :
  ∃ (go : Bool) (H1 : AH), Arm.alters H H1 ∧ (∀ c ∈ C, H1[c]? = H[c]?) ∧ (∀ J : AH, zbX E b a (H ++ J) (.bool go) (H1 ++ J)) ∧ (go = false → H1 = H') ∧ (go = true → zhk E b C r (f H1) H') := by
 cases h with
 | stop h1 h2 h3 => exact ⟨false, _, h1, h2, h3, fun _ => rfl, nofun⟩
 | go h1 h2 h3 h4 => exact ⟨true, _, h1, h2, h3, nofun, fun _ => h4⟩
end Go.Arm

namespace Go.Pl
end Go.Pl

namespace Go.Pl
structure SgOk (T : Tp) (x : List I) (t h : Int) (s : Sg) : Prop where
 ht : s.t = t
 hh : s.h = h
 hx : s.frm = x
 vpre : allV s.pre
 npre : s.pre.length = T.n
 vtube : allV s.tube
 ntube : s.tube.length = T.n
 vto : allV s.to
 nto : s.to.length = T.n
theorem zqi {h : I} : ∀ {s : List I}, allV s → vB (zaV s h) = true
 | [], _ => (by decide : vB (0, 0) = true)
 | [a], hs => hs a (by simp)
 | a :: b :: r, hs => zbB zaz (hs a (by simp))
theorem zkk {T : Tp} {x : List I} {t : I} {order : Nat} (hT : tpOk T) (hx : allV x) (ht : vB t = true) : (za6 T x t order).length = T.n ∧ ∀ q ∈ za6 T x t order, allV q :=
 ⟨(zaX hT hx ht order).2.len, (zaX hT hx ht order).2.val⟩
theorem zcA {T : Tp} {x b : List I} {t h : Int} {part : I} {order : Nat} (hT : tpOk T) (hx : allV x) (hb : allV b) (hh : 0 ≤ h ∧ h ≤ 1000000000) (ht : -1000000000 ≤ t ∧ t ≤ 1000000000) :
  allV (zaH T x b t h part order) ∧ (zaH T x b t h part order).length = T.n := by
 have htv : vB (t, t + h) = true := zas (by omega) (by omega) (by omega)
 have htv2 : vB (t, t) = true := zas (by omega) (by omega) (by omega)
 obtain ⟨c1, c2⟩ := zkk (order := order) hT hx htv2
 obtain ⟨d1, d2⟩ := zkk (order := order + 1) hT hb htv
 have hR : allV (remS T b t h order) := fun p hp => by
  obtain ⟨q, hq, rfl⟩ := List.mem_map.1 hp
  exact zam (d2 q hq) _
 unfold zaH
 refine ⟨zjx fun i => zf3 (zam (fun p hp => ?_) i) (zam hb i), by simp [zdH, zdA, zaB, c1]⟩
 obtain ⟨q, hq, rfl⟩ := List.mem_map.1 hp
 simp only [zaB, List.mem_map, List.mem_range] at hq
 obtain ⟨j, hj, rfl⟩ := hq
 exact zqi (zfy (za9 c2 j) (zam hR j))
theorem zoP {T : Tp} {x d : List I} {t h : Int} (hx : allV x) (h0 : zeU T x t h = some d) : allV d ∧ d.length = x.length := by
 rw [show zeU T x t h = (zkn T x t h 8 (zdM x (zaq T x x t h))).findSome? hitP from zhd T x t h 8 _] at h0
 obtain ⟨p, hp, hpd⟩ := List.exists_of_findSome?_eq_some h0
 have := zi9 hx 8 _ (zby hx (zaN hx)) (by rw [zbV]) p hp
 unfold hitP at hpd
 split at hpd
 ·cases hpd; exact this.2.2
 ·cases hpd
theorem zjW {T : Tp} {x : List I} {t h : Int} {order : Nat} {s : Sg} (hT : tpOk T) (hx : allV x) (hxn : x.length = T.n) (hh : 0 ≤ h ∧ h ≤ 1000000000) (ht : -1000000000 ≤ t ∧ t ≤ 1000000000) (hs : zcW T x t h order = some s) : SgOk T x t h s := by
 unfold zcW at hs
 cases hr : zeU T x t h with
 | none => rw [hr] at hs; cases hs
 | some b =>
  rw [hr] at hs
  obtain ⟨hbv, hbl⟩ := zoP hx hr
  have k1 := zcA (part := (0, h)) (order := order) hT hx hbv hh ht
  have k2 := zcA (part := (h, h)) (order := order) hT hx hbv hh ht
  simp only at hs
  split at hs
  ·cases hs
   exact ⟨rfl, rfl, rfl, hbv, by simp only; omega, k1.1, k1.2, k2.1, k2.2⟩
  ·cases hs
end Go.Pl

namespace Go.Proofs.YtkghjlgpmeibhaaGreatDoor.Arm
open Go.Arm Go.Pl
inductive YGo (E : Env) (b : Nat) (P : AH → Prop) : List (List AV) → AH → AH → Prop
 | nil (H : AH) : YGo E b P [] H H
 | go {a : List AV} {r : List (List AV)} {H H1 H' : AH} (h1 : alters H H1) (h2 : P H1) (h3 : ∀ J : AH, zbX E b a (H ++ J) (.bool true) (H1 ++ J)) (h4 : YGo E b P r H1 H') : YGo E b P (a :: r) H H'
theorem YGo.alt {b : Nat} {P : AH → Prop} {L : List (List AV)} {H H' : AH} (h : YGo E b P L H H') : alters H H' := by
 induction h with
 | nil H => exact .refl H
 | go h1 _ _ _ ih => exact h1.trans ih
theorem YGo.keep {b : Nat} {P : AH → Prop} {L : List (List AV)} {H H' : AH} (h : YGo E b P L H H') (h0 : P H) : P H' := by
 induction h with
 | nil H => exact h0
 | go _ h2 _ _ ih => exact ih h2
theorem YGo.app {b : Nat} {P : AH → Prop} : ∀ {L1 L2 : List (List AV)} {H H' : AH}, YGo E b P (L1 ++ L2) H H' → ∃ H1, YGo E b P L1 H H1 ∧ YGo E b P L2 H1 H'
 | [], L2, H, H', h => ⟨H, .nil H, h⟩
 | a :: r, L2, H, H', h => by
  cases h with
  | go h1 h2 h3 h4 =>
   obtain ⟨H1, k1, k2⟩ := YGo.app h4
   exact ⟨H1, .go h1 h2 h3 k1, k2⟩
theorem finYb {fr : AFr} {fn : Func} {H0 H1 J : AH} {e : zcj} {rs : List ResultVar} {v : Bool} (hr : fn.results.toList = rs) (h : resA E fr (H1 ++ J) rs = some [.bool v]) (ha : alters H0 H1) (hx : e = .ret ∨ e = .normal := by simp) : zbN E fn H0 (.ret (.bool v)) H1 e fr (H1 ++ J) := by
 have hL : Go.Arm.Leaves H0 [.bool v] (H1 ++ J) [.bool v] H1 := .cut H0.length (Nat.le_refl _) (by rw [← ha.1]; simp) (fun b _ => ha.2 b) (by simp [noFs, noF])
 rcases hx with rfl | rfl <;> exact ⟨[.bool v], [.bool v], by rw [hr]; exact h, hL, rfl⟩
theorem zs3 {H H1 : AH} (h : alters H H1) (J : AH) : alters (H ++ J) (H1 ++ J) := by
 refine ⟨by simp [h.1], fun c => ?_⟩
 by_cases hc : c < H.length
 ·rw [List.getElem?_append_left hc, List.getElem?_append_left (by rw [h.1]; exact hc)]
  rcases h.2 c with k | ⟨k, k1, k2⟩ | k
  ·exact .inl k
  ·exact .inr (.inl ⟨k, k1, zn3 (by simp) k2⟩)
  ·exact .inr (.inr k)
 ·left
  have hl := h.1
  rw [List.getElem?_append_right (by omega), List.getElem?_append_right (by omega), hl]
def zdw (T : Tp) (g : Gd) (w : Cw) (p : I) : Bool := decide (sgnI (ev (zbM T w p) (absC w p) g.f) = 0)
def zoj (T : Tp) (g : Gd) (w : Cw) (n : Nat) (p : I) : List (List AV) := (zcu (zdw T g w) w.least n p).map fun q => [iv q]
def ExM (T : Tp) (g : Gd) (w : Cw) (cg cc cw : Nat) (M : AH) : Prop := (∃ u, M[cg]? = some (.row u 2 [gdA g])) ∧ (∃ u, M[cc]? = some (.row u 3 [tpA T])) ∧ ∃ u, M[cw]? = some (.row u 8 [cwA w])
def exF (cg cc cw b : Nat) : AV := .func (.func 168) [] [.ptr cg 1 0 0, .ptr cc 1 0 0, .ptr cw 1 0 0, .ptr b 1 0 0, .ptr (b + 1) 1 0 0]
def exJ (cg cc cw bl b : Nat) : AH := [.row true 1 [.yld bl], .row true 1 [exF cg cc cw b]]
set_option maxHeartbeats 2000000 in
theorem zrr (T : Tp) (g : Gd) (w : Cw) (cg cc cw bl : Nat) (hT : tpOk T) (hn : T.n ≤ 1000000) (hw : CwOk T w) (hg : GdOk T.n g) : ∀ (n : Nat) (p : I), 0 ≤ p.1 → p.1 < p.2 → p.2 ≤ w.s.h → p.2 - p.1 ≤ n → ∀ (M M1 J : AH), ExM T g w cg cc cw M → YGo E bl (ExM T g w cg cc cw) (zoj T g w n p) M M1 →
  zaf E 168 [iv p, .ptr cg 1 0 0, .ptr cc 1 0 0, .ptr cw 1 0 0, .ptr M.length 1 0 0, .ptr (M.length + 1) 1 0 0] (M ++ (exJ cg cc cw bl M.length ++ J)) (.ret (.bool true)) (M1 ++ (exJ cg cc cw bl M.length ++ J))
 | 0, p, h0, h1, h2, h3, M, M1, J, hM, hY => by omega
 | n + 1, p, h0, h1, h2, h3, M, M1, J, hM, hY => by
  refine zab zah zai Tryz.func168 rfl (by rfl) Tryz.ntmps168 (by kernel_rfl) (by simp) ?_
  have fin : ∀ {fr : AFr} {M1 : AH} {e : zcj}, alters M M1 → fr 7 = .bool true → (e = .ret ∨ e = .normal) →
    zbN E Tryz.f168 (M ++ (exJ cg cc cw bl M.length ++ J)) (.ret (.bool true)) (M1 ++ (exJ cg cc cw bl M.length ++ J)) e fr (M1 ++ (ABlk.row true 1 [.yld bl] :: ABlk.row true 1 [exF cg cc cw M.length] :: (J ++ [ABlk.row true 2 [iv p]]))) := fun {fr M1 e} ha hf he => by
   rw [show M1 ++ (ABlk.row true 1 [.yld bl] :: ABlk.row true 1 [exF cg cc cw M.length] :: (J ++ [ABlk.row true 2 [iv p]])) = (M1 ++ (exJ cg cc cw bl M.length ++ J)) ++ [ABlk.row true 2 [iv p]] by simp [exJ]]
   exact finYb (rs := [.tmp 7]) (by rfl) (by simp [resA, hf]) (zs3 ha _) he
  have tm := hw.tm
  obtain ⟨⟨u1, m1⟩, ⟨u2, m2⟩, ⟨u3, m3⟩⟩ := hM
  have vp : vB p = true := zas (x := p.1) (y := p.2) (by omega) (by omega) (by omega)
  have va : vB (absC w p) = true := zas (x := w.s.t + p.1) (y := w.s.t + p.2) (by omega) (by omega) (by omega)
  have hE := fun Hx => ztr T w p hT hw vp Hx
  have hA := fun Hx => xAbs w p (by omega) (by omega) Hx
  have hk := zcA (T := T) (x := w.s.frm) (b := w.s.pre) (t := w.s.t) (h := w.s.h) (part := p) (order := w.order) hT hw.vf hw.vp (by omega) (by omega)
  have hS := fun Hx => gSide g (zbM T w p) (absC w p) (by rw [show (zbM T w p).length = T.n from hk.2]; exact hg) hk.1 (by rw [show (zbM T w p).length = T.n from hk.2]; exact hn) va Hx
  have hkp : zdw T g w p = decide (sgnI (ev (zbM T w p) (absC w p) g.f) = 0) := rfl
  generalize hsv : sgnI (ev (zbM T w p) (absC w p) g.f) = sv at *
  generalize zbM T w p = En at *
  generalize hab : absC w p = ab at *
  have a1 := fun L => zad (L := L) m1
  have a2 := fun L => zad (L := L) m2
  have a3 := fun L => zad (L := L) m3
  simp only [gdA, tpA, outA, cwA, bx] at a1 a2 a3 hE hA hS
  simp [exJ, a1, a2, a3]
  refine zac (fun Hx => by simpa [cwA, tpA, outA, bx] using hE Hx) ?_
  simp [exJ, a1, a2, a3]
  refine zac (fun Hx => by simpa [cwA, bx] using hA Hx) ?_
  simp
  refine zac (fun Hx => by simpa [gdA, bx] using hS Hx) ?_
  simp
  refine endD [] (by rfl) (by simp [okW, note, Eff.triv, Eff.wr, Eff.none, upTo, newAt]) ?_
  simp
  have ws : IntKind.i64.wrap (p.2 - p.1) = p.2 - p.1 := zae (by omega) (by omega)
  by_cases hs0 : sv = 0
  ·have hP : zdw T g w p = true := by rw [hkp]; simp [hs0]
   have hb0 : (sv != 0) = false := by simp [hs0]
   simp only [hb0]
   by_cases hwd : p.2 - p.1 ≤ w.least
   ·unfold zoj at hY
    rw [zdv hP hwd] at hY
    cases hY with
    | go k1 k2 k3 k4 =>
     cases k4
     simp [exJ, a3, ws, hwd]
     refine zqA (by
      have := k3 (exJ cg cc cw bl M.length ++ J ++ [.row true 2 [iv p]])
      simpa [exJ, exF] using this) ?_
     simp
     exact fin k1 (by simp) (by simp)
   ·unfold zoj at hY
    rw [zfh hP hwd, List.map_append] at hY
    obtain ⟨em, em1, em2⟩ := zp7 hw.le.1 h0 (by omega)
    rw [em] at hY
    have wm : IntKind.i64.wrap (p.1 + p.2) = p.1 + p.2 := zae (by omega) (by omega)
    have wq : IntKind.i64.wrap ((p.1 + p.2).tdiv 2) = (p.1 + p.2) / 2 := by rw [em]; exact zae (by omega) (by omega)
    generalize hmm : (p.1 + p.2) / 2 = m at *
    obtain ⟨M2, y1, y2⟩ := YGo.app hY
    have ih1 := zrr T g w cg cc cw bl hT hn hw hg n (p.1, m) h0 em1 (by show m ≤ _; omega) (by show m - p.1 ≤ _; omega) M M2 (J ++ [.row true 2 [iv p]]) ⟨⟨u1, m1⟩, ⟨u2, m2⟩, ⟨u3, m3⟩⟩ y1
    have hl2 := y1.alt.1
    have ih2 := zrr T g w cg cc cw bl hT hn hw hg n (m, p.2) (by show 0 ≤ m; omega) em2 h2 (by show p.2 - m ≤ _; omega) M2 M1 (J ++ [.row true 2 [iv p]]) (y1.keep ⟨⟨u1, m1⟩, ⟨u2, m2⟩, ⟨u3, m3⟩⟩) y2
    simp [exJ, exF, a3, ws, hwd, wm, wq]
    simp only [exJ, exF] at ih1 ih2
    refine zaa (by simpa using ih1) ?_
    simp only [← hl2]
    simp
    refine zaa (by simpa using ih2) ?_
    simp
    simp only [hl2]
    exact fin (y1.alt.trans y2.alt) (by simp) (by simp)
  ·have hP : zdw T g w p = false := by rw [hkp]; simp [hs0]
   have hb0 : (sv != 0) = true := by simp [hs0]
   unfold zoj at hY
   rw [ziQ hP] at hY
   cases hY
   simp only [hb0]
   simp
   exact fin (.refl _) (by simp) (by simp)
set_option maxHeartbeats 1000000 in
theorem ztq (T : Tp) (g : Gd) (w : Cw) (cg cc cw bl : Nat) (hT : tpOk T) (hn : T.n ≤ 1000000) (hw : CwOk T w) (hg : GdOk T.n g) (M M1 : AH) (hM : ExM T g w cg cc cw M) (hY : YGo E bl (ExM T g w cg cc cw) (zoj T g w w.s.h.toNat (0, w.s.h)) M M1) :
  zaf E 167 [.yld bl, .ptr cg 1 0 0, .ptr cc 1 0 0, .ptr cw 1 0 0] M (.ret (.tuple [])) M1 := by
 refine zab zah zai Tryz.func167 rfl (by rfl) Tryz.ntmps167 (by kernel_rfl) (by simp) ?_
 have tm := hw.tm
 have hE := zrr T g w cg cc cw bl hT hn hw hg w.s.h.toNat (0, w.s.h) (Int.le_refl 0) (by show 0 < w.s.h; omega) (Int.le_refl _) (by show w.s.h - 0 ≤ _; omega) M M1 [] hM hY
 have ha := hY.alt
 obtain ⟨⟨u1, m1⟩, ⟨u2, m2⟩, ⟨u3, m3⟩⟩ := hM
 have a3 := fun L => zad (L := L) m3
 simp only [cwA, bx] at a3
 simp only [exJ, exF] at hE
 simp [a3]
 refine zaa (by simpa using hE) ?_
 simp
 exact finY (by rfl) ha
theorem xKept (T : Tp) (g : Gd) (w : Cw) (H : AH) : zaf E 107 [tpA T, gdA g, cwA w] H (.ret (.func (.func 167) [] [.ptr (H.length + 1) 1 0 0, .ptr H.length 1 0 0, .ptr (H.length + 2) 1 0 0])) (H ++ [.row true 3 [tpA T], .row true 2 [gdA g], .row true 8 [cwA w]]) := by
 refine zab zah zai Tryz.func107 rfl (by rfl) Tryz.ntmps107 (by kernel_rfl) (by simp) ?_
 simp [tpA, outA, gdA, cwA]
 exact finK (rs := [.tmp 6]) (vs := [.func (.func 167) [] [.ptr (H.length + 1) 1 0 0, .ptr H.length 1 0 0, .ptr (H.length + 2) 1 0 0]]) (by rfl) (by simp [resA]) rfl
def znh (a b : List I) (ca cb : Nat) (M : AH) : Prop := (∃ w, M[ca]? = some (.row w 1 [bx a])) ∧ ∃ w, M[cb]? = some (.row w 1 [bx b])
def zf5 (a b : List I) (i : Nat) : List (List AV) := (List.range (a.length - i)).map fun k => [iv (atN a (i + k)), iv (atN b (i + k))]
theorem zgR {a b : List I} {i : Nat} (h : i < a.length) : zf5 a b i = [iv (atN a i), iv (atN b i)] :: zf5 a b (i + 1) := by
 unfold zf5
 rw [show a.length - i = a.length - (i + 1) + 1 by omega, List.range_succ_eq_map, List.map_cons, List.map_map]
 congr 1
 apply List.map_congr_left
 intro k _
 simp only [Function.comp]
 rw [show i + 1 + k = i + k.succ by omega]
theorem zhX {a b : List I} {i : Nat} (h : a.length ≤ i) : zf5 a b i = [] := by simp [zf5, show a.length - i = 0 by omega]
def LPr (a b : List I) (ca cb bl : Nat) (H H1 : AH) (i : Nat) (fr : AFr) (H' : AH) : Prop :=
 fr 0 = .yld bl ∧ fr 2 = .ptr cb 1 0 0 ∧ fr 6 = bx a ∧ fr 7 = .int .i64 a.length ∧ fr 8 = .int .i64 i ∧ i ≤ a.length ∧
 ∃ M J, H' = M ++ J ∧ alters H M ∧ znh a b ca cb M ∧ zfA E bl (znh a b ca cb) (zf5 a b i) M H1
theorem zsV (a b : List I) (ca cb bl : Nat) (H H1 : AH) (hab : a.length ≤ b.length) (hl : a.length ≤ 1000000) (hM : znh a b ca cb H) (hY : zfA E bl (znh a b ca cb) (zf5 a b 0) H H1) :
  zaf E 177 [.yld bl, .ptr ca 1 0 0, .ptr cb 1 0 0] H (.ret (.tuple [])) H1 := by
 refine zab zah zai Tryz.func177 rfl (by rfl) Tryz.ntmps177 (by kernel_rfl) (by simp) ?_
 obtain ⟨⟨wa, ha⟩, ⟨wb, hb⟩⟩ := hM
 have hal := (gI.1 ha).1
 simp only [bx] at ha hb
 simp [ha, zad ha]
 refine zag (LPr a b ca cb bl H H1) (fun i => a.length - i) 0 ⟨by simp, by simp, by simp [bx], by simp, by simp, by omega, H, [], by simp, .refl H, ⟨⟨wa, ha⟩, ⟨wb, hb⟩⟩, hY⟩ ?_
 clear ha hb hal hY
 rintro i fr H' ⟨g0, g2, g6, g7, g8, hi, M, J, rfl, hal, hM, hY⟩
 simp [g7, g8]
 refine zak (fun hc => ?_) (fun hc => ?_)
 ·have hlt : i < a.length := by simpa using hc
  obtain ⟨p, hp⟩ := zaj hlt
  obtain ⟨q, hq⟩ := zaj (l := b) (i := i) (by omega)
  have hpE : ∀ h, a[i]'h = p := fun h => (gI.1 hp).2
  have hqE : ∀ h, b[i]'h = q := fun h => (gI.1 hq).2
  have w2 : IntKind.i64.wrap ((i : Int) + 1) = ((i + 1 : Nat) : Int) := by rw [zae (by omega) (by omega)]; omega
  rw [zgR hlt, show atN a i = p by simp [atN, hp], show atN b i = q by simp [atN, hq]] at hY
  obtain ⟨go, M1, h1, h2, h3, h4, h5⟩ := hY.cases_cons
  obtain ⟨⟨wa, ha⟩, ⟨wb, hb⟩⟩ := hM
  have hbl := (gI.1 hb).1
  simp only [bx] at ha hb
  simp [g0, g2, g6, g8, bx, hp, hpE, hq, hqE, hb, zad hb]
  refine zo7 (K := M1 ++ (J ++ [.row true 2 [iv p]])) (v := .bool go) (by simp [h1.1]) (fun X => by
   have := h3 (J ++ [.row true 2 [iv p]] ++ X)
   simp at this ⊢
   exact this) ?_
  simp
  refine endD [(1, 6), (2, 6)] (by rfl) (by simp [okW, note, Eff.triv, Eff.wr, Eff.none, upTo, newAt]) ?_
  simp
  refine zak (fun hg => ?_) (fun hg => ?_)
  ·have hg : go = false := by simpa using hg
   rw [h4 hg]
   simp
   exact finY (by rfl) (hal.trans (by rw [← h4 hg]; exact h1))
  ·have hg : go = true := by simpa using hg
   simp [g8, w2]
   exact ⟨i + 1, by show a.length - (i + 1) < a.length - i; omega, by simp [g0], by simp [g2], by simp [g6, bx], by simp [g7], by simp, by omega, M1, J ++ [.row true 2 [iv p]], by simp, hal.trans h1, h2, h5 hg⟩
 ·have hi' : i = a.length := by have : ¬ i < a.length := by simpa using hc
                                omega
  subst hi'
  rw [zhX (by omega)] at hY
  cases hY
  simp
  exact finY (by rfl) hal
def zsA : AV := .agg [.int .i64 0, .int .i64 0, .nilslice, .nilslice, .nilslice, .nilslice]
def sgO : Option Sg → AV
 | some s => .tuple [sgA s, .bool true]
 | none => .tuple [zsA, .bool false]
theorem zjw {a b : List I} (ha : allV a) (hb : allV b) : allV (zdH a b) := zjx fun i => zf3 (zam ha i) (zam hb i)
theorem zmG (a b : List I) : (zdH a b).length = a.length := by simp [zdH]
theorem zke {T : Tp} {x b : List I} {t h : Int} {part : I} {order : Nat} (hT : tpOk T) (hx : allV x) (hb : allV b) (hh : 0 ≤ h ∧ h ≤ 1000000000) (ht : -1000000000 ≤ t ∧ t ≤ 1000000000) (hp : vB part = true) :
  allV (zaH T x b t h part order) ∧ (zaH T x b t h part order).length = T.n := by
 have htv : vB (t, t + h) = true := zas (by omega) (by omega) (by omega)
 have htv2 : vB (t, t) = true := zas (by omega) (by omega) (by omega)
 have hr := zdP (zdi (order := order) hT hx htv2) (zfG (order := order) hT hb htv)
 unfold zaH
 refine ⟨zjw (fun p hp => ?_) hb, by rw [zmG, zha, zbu, za4 hT hx htv2]⟩
 obtain ⟨q, hq, rfl⟩ := List.mem_map.1 hp
 exact zeT (hr q hq).2
theorem zqx {T : Tp} {x d : List I} {t h : Int} (hx : allV x) (h0 : zeU T x t h = some d) : allV d ∧ d.length = x.length := by
 rw [show zeU T x t h = (zkn T x t h 8 (zdM x (zaq T x x t h))).findSome? hitP from zhd T x t h 8 _] at h0
 obtain ⟨p, hp, hpd⟩ := List.exists_of_findSome?_eq_some h0
 have := zi9 hx 8 _ (zby hx (zaN hx)) (by rw [zbV]) p hp
 unfold hitP at hpd
 split at hpd
 ·cases hpd; exact this.2.2
 ·cases hpd
end Go.Proofs.YtkghjlgpmeibhaaGreatDoor.Arm

namespace Go.Pl
theorem ztx {a b : Sg} (h1 : a.t = b.t) (h2 : a.h = b.h) (h3 : a.frm = b.frm) (h4 : a.pre = b.pre) (h5 : a.tube = b.tube) (h6 : a.to = b.to) : a = b := by
 cases a; cases b; simp only at h1 h2 h3 h4 h5 h6; subst h1 h2 h3 h4 h5 h6; rfl
instance : DecidableEq Sg := fun a b => decidable_of_decidable_of_iff (p := a.t = b.t ∧ a.h = b.h ∧ a.frm = b.frm ∧ a.pre = b.pre ∧ a.tube = b.tube ∧ a.to = b.to) ⟨fun ⟨h1, h2, h3, h4, h5, h6⟩ => ztx h1 h2 h3 h4 h5 h6, fun h => by subst h; exact ⟨rfl, rfl, rfl, rfl, rfl, rfl⟩⟩
def Chn (Q : List I → Int → Sg → Prop) : List I → Int → List Sg → Prop
 | _, _, [] => True
 | x, t, s :: l => Q x t s ∧ Chn Q s.to (s.t + s.h) l
theorem Chn.mono {Q R : List I → Int → Sg → Prop} (h : ∀ x t s, Q x t s → R x t s) : ∀ {x : List I} {t : Int} {l : List Sg}, Chn Q x t l → Chn R x t l
 | _, _, [], _ => trivial
 | _, _, _ :: _, hc => ⟨h _ _ _ hc.1, hc.2.mono h⟩
theorem Chn.get {Q : List I → Int → Sg → Prop} : ∀ {x : List I} {t : Int} {l : List Sg}, Chn Q x t l → ∀ (i : Nat) s, l[i]? = some s → ∃ x' t', Q x' t' s
 | _, _, [], _, i, s, h => by simp at h
 | x, t, a :: l, hc, 0, s, h => by simp at h; subst h; exact ⟨x, t, hc.1⟩
 | x, t, a :: l, hc, i + 1, s, h => hc.2.get i s (by simpa using h)
theorem Chn.next {Q : List I → Int → Sg → Prop} : ∀ {x : List I} {t : Int} {l : List Sg}, Chn Q x t l → ∀ (i : Nat) s s', l[i]? = some s → l[i + 1]? = some s' → Q s.to (s.t + s.h) s'
 | _, _, [], _, i, s, s', h, _ => by simp at h
 | x, t, a :: [], hc, i, s, s', h, h' => by simp at h'
 | x, t, a :: b :: l, hc, 0, s, s', h, h' => by simp at h h'; subst h; subst h'; exact hc.2.1
 | x, t, a :: b :: l, hc, i + 1, s, s', h, h' => hc.2.next i s s' (by simpa using h) (by simpa using h')
structure hzOk (c : Ct) (t last : Int) : Prop where
 order : 1 ≤ c.order ∧ c.order ≤ 900
 least : 1 ≤ c.least
 most : 1 ≤ c.most ∧ c.most ≤ 1000000000
 t : -1000000000 ≤ t ∧ t ≤ 1000000000
 last : last ≤ 1000000000
theorem hzOk.step {c : Ct} {t last t' : Int} (k : hzOk c t last) (h1 : t ≤ t') (h2 : t' ≤ last) : hzOk c t' last := ⟨k.order, k.least, k.most, ⟨by have := k.t; omega, by have := k.last; omega⟩, k.last⟩
end Go.Pl

namespace Go.Proofs.YtkghjlgpmeibhaaGreatDoor.Arm
open Go.Arm Go.Pl
end Go.Proofs.YtkghjlgpmeibhaaGreatDoor.Arm

namespace Go.Arm
open Go.RowKit
section
variable {G : Gh} {w : World} {m : Nat} {σ : Nat → Option Nat}
theorem zb1.moveRow0 (hd : ∀ c k, σ c = some k → ownr G c = none) {c : Nat} (hc : c < m) (hs : σ c = none) {wr : Bool} {sz : Nat} {xs xs' : List AV} (h : zb1 G w c (.row wr sz xs)) (hl : xs'.length = xs.length)
  (hx : ∀ (i : Nat) x x', xs[i]? = some x → xs'[i]? = some x' → RenX m σ x x') : zb1 (mvG G m σ) w c (.row wr sz xs') := by
 have ho : ownr (mvG G m σ) c = ownr G c := by rw [zfd, if_pos hc, hs]
 obtain ⟨L, h1, h2, h3, h4, h5, h6, h7, c', e, h8, h9, hv⟩ := h
 have hget : ∀ (i : Nat) x', xs'[i]? = some x' → ∃ x, xs[i]? = some x ∧ RenX m σ x x' := fun i x' hi => by
  have hlt := (gI.1 hi).1
  exact ⟨xs[i], by simp, hx i _ x' (by simp) hi⟩
 refine ⟨L, ho.trans h1, by rw [h2, hl], h3, fun x' hx' => ?_, by rw [hl]; exact h5, h6, by rw [hl]; exact h7, c', e, h8, h9, fun i x' j a' hi hj => ?_⟩
 ·obtain ⟨i, hi⟩ := List.mem_iff_getElem?.1 hx'
  obtain ⟨x, hx1, hx2⟩ := hget i x' hi
  rw [← hx2.1]; exact h4 x (List.mem_of_getElem? hx1)
 ·obtain ⟨x, hx1, hx2⟩ := hget i x' hi
  have hjl : j < x.cells.length := by rw [hx2.1]; exact (gI.1 hj).1
  obtain ⟨v, g1, g2⟩ := hv i x j x.cells[j] hx1 (by simp)
  exact ⟨v, g1, (hx2.2 j _ a' (by simp) hj).vr hd g2⟩
end
structure zls (H HJ H' : AH) (r r' : AV) (σ : Nat → Option Nat) : Prop where
 dead : ∀ c k, σ c = some k → c < H.length ∧ H[c]? = some .dead ∧ HJ[c]? = some .dead ∧ H.length ≤ k
 inj : ∀ c c' k, σ c = some k → σ c' = some k → c = c'
 len : H'.length = H.length
 keep : ∀ c, c < H.length → σ c = none → (HJ[c]? = H[c]? ∧ H'[c]? = H[c]?) ∨ (∃ k, HJ[c]? = some k ∧ H'[c]? = some k ∧ noFB H.length k = true) ∨
  (∃ k st st' frs, H[c]? = some (.loop k st frs) ∧ HJ[c]? = some (.loop k st' frs) ∧ H'[c]? = some (.loop k st' frs)) ∨
  ∃ wr sz xs xs', HJ[c]? = some (.row wr sz xs) ∧ H'[c]? = some (.row wr sz xs') ∧ xs'.length = xs.length ∧ ∀ (i : Nat) x x', xs[i]? = some x → xs'[i]? = some x' → RenX H.length σ x x'
 fill : ∀ c k, σ c = some k → ∃ wr sz xs xs', HJ[k]? = some (.row wr sz xs) ∧ H'[c]? = some (.row wr sz xs') ∧ xs'.length = xs.length ∧ ∀ (i : Nat) x x', xs[i]? = some x → xs'[i]? = some x' → RenX H.length σ x x'
 res : RenV H.length σ r r'
theorem zls.ok {Γ : Nat → Option (List AV)} {G G' : Gh} {w w' : World} {H HJ H' : AH} {r r' : AV} {σ : Nat → Option Nat} (h : zls H HJ H' r r' σ) (hI : Inv Γ G w H) (e : Ext G w G' w') (i : Inv Γ G' w' HJ) {u : Value} (hu : VR G' w' r u) :
  ∃ G'', Ext G w G'' w' ∧ Inv Γ G'' w' H' ∧ VR G'' w' r' u := by
 obtain ⟨hd, hi, hl, hk, hf, hr⟩ := h
 have hd' : ∀ c k, σ c = some k → ownr G' c = none := fun c k hs => i.blk c _ (hd c k hs).2.2.1
 have e1 : Ext G w (mvG G' H.length σ) w' := by
  refine ⟨e.os, e.tape, e.output, e.size, e.keep, fun c L hc => ?_, fun c L' hc hlt => ?_⟩
  ·obtain ⟨L', h1, h2⟩ := e.own c L hc
   have hc0 := zbH hc
   rw [hI.len] at hc0
   cases hs : σ c with
   | some k => have := hI.blk c _ (hd c k hs).2.1; rw [show ownr G c = none from this] at hc; cases hc
   | none => exact ⟨L', by rw [zfd, if_pos hc0, hs]; exact h1, h2⟩
  ·rcases (zeP hc).2 with ⟨k, hs, h1⟩ | ⟨_, h1⟩
   ·obtain ⟨L, h2, _⟩ := e.back k L' h1 hlt
    have := zbH h2
    rw [hI.len] at this
    have := (hd c k hs).2.2.2
    omega
   ·exact e.back c L' h1 hlt
 refine ⟨_, e1, ⟨by simp [mvG, hl], fun c x hx => ?_, ?_, fun g cs hg => (hI.glob g cs hg).mono e1⟩, hr.vr hd' hu⟩
 ·have hc : c < H.length := by rw [← hl]; exact (gI.1 hx).1
  cases hs : σ c with
  | none =>
   rcases hk c hc hs with ⟨h1, h2⟩ | ⟨k, h1, h2, hn⟩ | ⟨k, st, st', frs, h0, h1, h2⟩ | ⟨wr, sz, xs, xs', h1, h2, h3, h4⟩
   ·rw [h2] at hx
    have hn := (hI.blk c x hx).noF
    rw [hI.len] at hn
    exact (i.blk c x (h1.trans hx)).move hd' hc hs hn
   ·rw [h2] at hx; cases hx
    exact (i.blk c _ h1).move hd' hc hs hn
   ·rw [h2] at hx; cases hx
    have hn := (hI.blk c _ h0).noF
    rw [hI.len] at hn
    exact (i.blk c _ h1).move hd' hc hs hn
   ·rw [h2] at hx; cases hx
    exact (i.blk c _ h1).moveRow0 hd' hc hs h3 h4
  | some k =>
   obtain ⟨wr, sz, xs, xs', h1, h2, h3, h4⟩ := hf c k hs
   rw [h2] at hx; cases hx
   exact (i.blk k _ h1).moveRow hd' hc hs h3 h4
 ·intro c c' L L' h1 h2 h3
  obtain ⟨g0, g1⟩ := zeP h1
  obtain ⟨q0, q1⟩ := zeP h2
  rcases g1 with ⟨k, s1, g1⟩ | ⟨s1, g1⟩ <;> rcases q1 with ⟨k', s2, q1⟩ | ⟨s2, q1⟩
  ·have := i.inj k k' L L' g1 q1 h3; subst this; exact hi c c' k s1 s2
  ·have := i.inj k c' L L' g1 q1 h3; have := (hd c k s1).2.2.2; omega
  ·have := i.inj c k' L L' g1 q1 h3; have := (hd c' k' s2).2.2.2; omega
  ·exact i.inj c c' L L' g1 q1 h3
theorem zbX.fillw {E : Env} {b : Nat} {args : List AV} {H HJ H' : AH} {v v' : AV} {σ : Nat → Option Nat} (h : zbX E b args H v HJ) (hs : zls H HJ H' v v' σ) : zbX E b args H v' H' := by
 intro F n hF G w vs L hI hv hL hfx
 obtain ⟨fn, tmps, assign, body, h1, h2⟩ := h F n hF G w vs L hI hv hL hfx
 refine ⟨fn, tmps, assign, body, h1, h2.mono ?_⟩
 rintro r w1 ⟨u, rfl, G', e, i, hu⟩
 obtain ⟨G'', e2, i2, r2⟩ := hs.ok hI e i hu
 exact ⟨u, rfl, G'', e2, i2, r2⟩
theorem zls.one {H0 H HJ H' : AH} {v : AV} {pl k oc sz n : Nat} {xs : List AV} (hp : H[pl]? = some .dead) (hpJ : HJ[pl]? = some .dead) (hkl : H.length ≤ k) (hk : HJ[k]? = some (.row true sz xs)) (hl : H'.length = H.length)
  (ho : HJ[oc]? = some (.row true 1 [.ref k n])) (ho' : H'[oc]? = some (.row true 1 [.ref pl n])) (hp' : H'[pl]? = some (.row true sz xs)) (hne : oc ≠ pl) (hn : noFs H.length xs = true) (hv : noF H.length v = true)
  (hc : ∀ c, c < H.length → c ≠ pl → c ≠ oc → (HJ[c]? = H[c]? ∧ H'[c]? = H[c]?) ∨ (∃ k, HJ[c]? = some k ∧ H'[c]? = some k ∧ noFB H.length k = true) ∨ (∃ k st st' frs, H[c]? = some (.loop k st frs) ∧ HJ[c]? = some (.loop k st' frs) ∧ H'[c]? = some (.loop k st' frs))) :
  zls H HJ H' v v (fun c => if c = pl then some k else none) := by
 have hpl := (gI.1 hp).1
 have σp : ∀ c j, (fun c => if c = pl then some k else none) c = some j → c = pl ∧ j = k := fun c j h => by
  simp only at h
  split at h
  ·rename_i e; cases h; exact ⟨e, rfl⟩
  ·cases h
 have hrow : ∀ (i : Nat) x x', xs[i]? = some x → xs[i]? = some x' → RenX H.length (fun c => if c = pl then some k else none) x x' := fun i x x' h1 h2 => by
  rw [h1] at h2; cases h2
  refine ⟨rfl, fun j a a' ha ha' => ?_⟩
  rw [ha] at ha'; cases ha'
  exact .old (zat (zbL.2 (zat hn h1)) ha)
 refine ⟨fun c j h => ?_, fun c c' j h h' => ?_, hl, fun c hcl hs => ?_, fun c j h => ?_, .old hv⟩
 ·obtain ⟨rfl, rfl⟩ := σp c j h
  exact ⟨hpl, hp, hpJ, hkl⟩
 ·rw [(σp c j h).1, (σp c' j h').1]
 ·have hcp : c ≠ pl := by intro e; subst e; simp at hs
  by_cases hco : c = oc
  ·subst hco
   refine .inr (.inr (.inr ⟨true, 1, _, _, ho, ho', rfl, fun i x x' h1 h2 => ?_⟩))
   cases i with
   | zero =>
    simp at h1 h2; subst h1; subst h2
    refine ⟨rfl, fun j a a' ha ha' => ?_⟩
    cases j with
    | zero => simp [AV.cells] at ha ha'; subst ha; subst ha'; exact .ref (by simp) hpl
    | succ j => simp [AV.cells] at ha
   | succ i => simp at h1
  ·rcases hc c hcl hcp hco with h | h | h
   ·exact .inl h
   ·exact .inr (.inl h)
   ·exact .inr (.inr (.inl h))
 ·obtain ⟨rfl, rfl⟩ := σp c j h
  exact ⟨true, sz, xs, xs, hk, hp', rfl, hrow⟩
end Go.Arm

namespace Go.Proofs.YtkghjlgpmeibhaaGreatDoor.Arm
open Go.Arm Go.Pl
theorem zpf {H : AH} {p : I} {f : Bool} : zar tab H 23 .nilslice (.slice [iv p] f) = some (.ref H.length 1, H ++ [.row true 2 [iv p]]) := by
 have h2 : zar tab H 23 .nilslice (.slice [iv p] f) = zb7 i48 H .nilslice [iv p] := by
  simp only [zar, tab23, tab48, els]
  rfl
 rw [h2]
 rfl
def zeS (a b : List I) (i : Nat) : List I := (List.range i).map fun j => hull (atN a j) (atN b j)
theorem zm2 (a b : List I) (i : Nat) : zeS a b (i + 1) = zeS a b i ++ [hull (atN a i) (atN b i)] := by simp [zeS, List.range_succ]
theorem zoD (a b : List I) (i : Nat) : (zeS a b i).length = i := by simp [zeS]
def HuP (a b : List I) (i : Nat) : ABlk := if i = 0 then .dead else .row true 2 ((zeS a b i).map iv)
def HuC (B i : Nat) : AV := if i = 0 then .nilslice else .ref B i
theorem bHull (a b : List I) (hab : a.length ≤ b.length) (hl : a.length ≤ 1000000) (ha : 1 ≤ a.length) (H : AH) : zaf E 63 [bx a, bx b] H (.ret (bx (zdM a b))) H := by
 refine za8 (1) zah zai Tryz.func63 rfl (by rfl) Tryz.ntmps63 (by kernel_rfl) (by simp) ?_
 rw [show List.replicate 1 ABlk.dead = [.dead] from rfl]
 simp
 refine zaa (by simpa using zuR a b _) ?_
 simp
 refine zlJ 6 (by rfl) (fun N hN => ?_)
 generalize hk : (LK.mk N _ _ _) = k at hN ⊢
 generalize hf : List.map _ (List.range 6) = frs
 have h5 : frs[5]? = some (.ptr (H.length + 1) 1 0 0) := by rw [← hf]; simp
 let MM : Nat → AH := fun i => H ++ [HuP a b i, .row true 1 [HuC H.length i], .row true 1 [bx a], .row true 1 [bx b], .loop k .ready frs]
 have hP : ∀ i, znh a b (H.length + 2) (H.length + 3) (MM i) := fun i => ⟨⟨true, by simp [MM]⟩, ⟨true, by simp [MM]⟩⟩
 have nC : ∀ i, noF (H.length + 5) (HuC H.length i) = true := fun i => by unfold HuC; split <;> simp [noF]
 have nP : ∀ i, noFB (H.length + 5) (HuP a b i) = true := fun i => by unfold HuP; split <;> simp only [noFB, zaJ]
 have halt : ∀ i j, alters (MM i) (MM j) := fun i j => zkv ⟨.inr (.inl (by simpa using nP j)), .inr (.inl (by simp [noFB, noFs, nC])), .same _, .same _, .same _, trivial⟩
 have hround : ∀ (i : Nat) (p q : I), i < a.length → atN a i = p → atN b i = q → ∀ (J : AH), zbX E (H.length + 4) [iv p, iv q] (MM i ++ J) (.bool true) (MM (i + 1) ++ J) := by
  intro i p q hi hp hq J
  have hs : zeS a b (i + 1) = zeS a b i ++ [hull p q] := by rw [zm2, hp, hq]
  have hln := zoD a b i
  rcases Nat.eq_zero_or_pos i with h0 | h0
  ·subst h0
   rw [show MM 0 = H ++ [.dead, .row true 1 [.nilslice], .row true 1 [bx a], .row true 1 [bx b], .loop k .ready frs] from rfl]
   have hs1 : zeS a b 1 = [hull p q] := by rw [hs]; simp [zeS]
   have eP : HuP a b 1 = .row true 2 [iv (hull p q)] := by unfold HuP; rw [hs1]; rfl
   refine zbX.fillw (HJ := H ++ [.dead, .row true 1 [.ref (H.length + 5 + J.length + 2) 1], .row true 1 [bx a], .row true 1 [bx b], .loop k .ready frs] ++ J ++ [.row true 2 [iv p], .row true 2 [iv q], .row true 2 [iv (hull p q)]]) (v := .bool true) ?_
    (zls.one (H0 := H) (pl := H.length) (k := H.length + 5 + J.length + 2) (oc := H.length + 1) (sz := 2) (n := 1) (xs := [iv (hull p q)]) ?_ ?_ ?_ ?_ ?_ ?_ ?_ ?_ ?_ ?_ ?_ ?_)
   ·refine zdm zah zai (k := k) (frs := frs) (by simp) (by rw [← hk]; rfl) hN ?_
    have ka := congrArg LK.assign hk
    have kb := congrArg LK.body hk
    have kp := congrArg LK.ps hk
    dsimp only at ka kb kp
    rw [← ka, ← kb, ← kp]
    clear ka kb kp hk hf hN
    simp [zdU]
    rw [zbO]
    refine ⟨by simp, ?_⟩
    simp [h5]
    refine zac (fun Hx => zsw p q Hx) ?_
    simp
    refine bind_some (zpf (p := hull p q)) ?_
    simp [h5]
    refine endD [(0, 6)] (by rfl) (by simp [okW, note, Eff.triv, Eff.wr, Eff.none, upTo, newAt]) ?_
    simp
    rw [zbT]
    refine ⟨by simp, rfl, ?_⟩
    have e : H.length + 5 + J.length + 2 = H.length + (J.length + 2 + 5) := by omega
    rw [e]
    simp
    exact .keep _ _
   ·simp
   ·simp
   ·simp; omega
   ·rw [List.getElem?_append_right (by simp; omega)]
    rw [show H.length + 5 + J.length + 2 - (H ++ [ABlk.dead, .row true 1 [.ref (H.length + 5 + J.length + 2) 1], .row true 1 [bx a], .row true 1 [bx b], .loop k .ready frs] ++ J).length = 2 by simp; omega]
    rfl
   ·simp [MM]
   ·simp
   ·simp [MM, HuC]
   ·simp [MM, eP]
   ·omega
   ·simp [noFs, noF]
   ·simp [noF]
   ·intro c hc h1 h2
    left
    have eJ : (H ++ [ABlk.dead, .row true 1 [.ref (H.length + 5 + J.length + 2) 1], .row true 1 [bx a], .row true 1 [bx b], .loop k .ready frs] ++ J ++ [.row true 2 [iv p], .row true 2 [iv q], .row true 2 [iv (hull p q)]]) = ((H ++ [ABlk.dead, .row true 1 [.nilslice], .row true 1 [bx a], .row true 1 [bx b], .loop k .ready frs] ++ J).set (H.length + 1) (.row true 1 [.ref (H.length + 5 + J.length + 2) 1])) ++ [.row true 2 [iv p], .row true 2 [iv q], .row true 2 [iv (hull p q)]] := by simp
    have eH : MM (0 + 1) ++ J = ((H ++ [ABlk.dead, .row true 1 [.nilslice], .row true 1 [bx a], .row true 1 [bx b], .loop k .ready frs] ++ J).set H.length (HuP a b 1)).set (H.length + 1) (.row true 1 [.ref H.length 1]) := by simp [MM, HuC]
    rw [eJ, eH]
    generalize hM : H ++ [ABlk.dead, .row true 1 [.nilslice], .row true 1 [bx a], .row true 1 [bx b], .loop k .ready frs] ++ J = M0 at hc ⊢
    refine ⟨?_, ?_⟩
    ·rw [List.getElem?_append_left (by simpa using hc), List.getElem?_set_ne (Ne.symm h2)]
    ·rw [List.getElem?_set_ne (Ne.symm h2), List.getElem?_set_ne (Ne.symm h1)]
  ·have eM : MM i = H ++ [.row true 2 ((zeS a b i).map iv), .row true 1 [.ref H.length i], .row true 1 [bx a], .row true 1 [bx b], .loop k .ready frs] := by
    simp only [MM, HuP, HuC, if_neg (show ¬ i = 0 by omega)]
   have eM2 : MM (i + 1) = H ++ [.row true 2 ((zeS a b i ++ [hull p q]).map iv), .row true 1 [.ref H.length (i + 1)], .row true 1 [bx a], .row true 1 [bx b], .loop k .ready frs] := by
    simp only [MM, HuP, HuC, if_neg (show ¬ i + 1 = 0 by omega), hs]
   have ha2 := halt i (i + 1)
   rw [eM, eM2] at *
   refine zdm zah zai (k := k) (frs := frs) (by simp) (by rw [← hk]; rfl) hN ?_
   have ka := congrArg LK.assign hk
   have kb := congrArg LK.body hk
   have kp := congrArg LK.ps hk
   dsimp only at ka kb kp
   rw [← ka, ← kb, ← kp]
   clear ka kb kp hk hf hN
   generalize zeS a b i = W at *
   simp [zdU]
   rw [zbO]
   refine ⟨by simp, ?_⟩
   simp [h5]
   refine zac (fun Hx => zsw p q Hx) ?_
   simp
   refine bind_some (zhj (p := hull p q) (l := W.map iv) (by simp [hln]) (by omega) (by simp)) ?_
   simp [h5]
   refine endD [(0, 6)] (by rfl) (by simp [okW, note, Eff.triv, Eff.wr, Eff.none, upTo, newAt]) ?_
   simp
   rw [zbT]
   refine ⟨by simp, rfl, ?_⟩
   have := Leaves.alters (J := J) (X := [.row true 2 [iv p], .row true 2 [iv q]]) ha2
   simpa using this
 have hrun : ∀ n i, a.length - i = n → i ≤ a.length → zfA E (H.length + 4) (znh a b (H.length + 2) (H.length + 3)) (zf5 a b i) (MM i) (MM a.length) := by
  intro n
  induction n with
  | zero => intro i hi hle; rw [zhX (by omega), show i = a.length by omega]; exact .nil _
  | succ n ih =>
   intro i hi hle
   rw [zgR (by omega)]
   exact .go (halt _ _) (hP _) (hround i _ _ (by omega) rfl rfl) (ih (i + 1) (by omega) (by omega))
 have hS := zsV a b _ _ (H.length + 4) _ _ hab hl (hP 0) (hrun a.length 0 rfl (by omega))
 have e0 : MM 0 = H ++ [.dead, .row true 1 [.nilslice], .row true 1 [bx a], .row true 1 [bx b], .loop k .ready frs] := rfl
 have e1 : MM a.length = H ++ [.row true 2 ((zeS a b a.length).map iv), .row true 1 [.ref H.length a.length], .row true 1 [bx a], .row true 1 [bx b], .loop k .ready frs] := by
  simp only [MM, HuP, HuC, if_neg (show ¬ a.length = 0 by omega)]
 rw [e0, e1] at hS
 refine ⟨_, _, k, .ready, frs, by simpa using hS, by simp, ?_⟩
 simp [zol]
 exact finS (t := 4) (v := .ref (H.length + 0) a.length) (v0 := .nilslice) (sz := 2) (xs := (zdM a b).map iv) (by rfl) (by simp) (.inr ⟨0, by simp [zdM], by simp [zdM, zeS]⟩) rfl (zaJ _ _)
def OuP (l : List I) : ABlk := if l = [] then .dead else .row true 2 (l.map iv)
def OuC (B : Nat) (l : List I) : AV := if l = [] then .nilslice else .ref B l.length
def rwN (l : List I) : AV := if l = [] then .nilslice else bx l
set_option maxHeartbeats 4000000 in
theorem znj (T : Tp) (g : Gd) (w : Cw) (hT : tpOk T) (hn : T.n ≤ 1000000) (hw : CwOk T w) (hg : GdOk T.n g) (H : AH) :
  zaf E 60 [tpA T, gdA g, cwA w] H (.ret (rwN (if zcn g w.s = 0 then [] else zdI (zdw T g w) w.least w.s.h))) H := by
 refine za8 (1) zah zai Tryz.func60 rfl (by rfl) Tryz.ntmps60 (by kernel_rfl) (by simp) ?_
 rw [show List.replicate 1 ABlk.dead = [.dead] from rfl]
 have tm := hw.tm
 have hC := fun Hx => zoI T g w.s hg hn hw.vt hw.nt hw.vf hw.nf hw.vo hw.no tm Hx
 have hK := fun Hx => xKept T g w Hx
 simp only [gdA, sgA, bx, tpA, outA, cwA] at hC
 simp [gdA, cwA, tpA, outA, bx]
 refine zaa (hC _) ?_
 by_cases hz : zcn g w.s = 0
 ·simp [hz]
  rw [show rwN [] = .nilslice from rfl]
  exact fin1 (rs := [.tmp 6]) (by rfl) (by simp [resA]) (by simp [noF])
 ·have hb : (zcn g w.s == 0) = false := by rw [beq_eq_false_iff_ne]; exact hz
  simp [hz, hb]
  refine zaa (by simpa [tpA, outA, gdA, cwA, bx] using hK _) ?_
  simp
  refine zlJ 8 (by rfl) (fun N hN => ?_)
  generalize hk : (LK.mk N _ _ _) = k at hN ⊢
  generalize hf : List.map _ (List.range 8) = frs
  have h7 : frs[7]? = some (.ptr (H.length + 4) 1 0 0) := by rw [← hf]; simp
  let MM : List I → AH := fun l => H ++ [OuP l, .row true 3 [tpA T], .row true 2 [gdA g], .row true 8 [cwA w], .row true 1 [OuC H.length l], .row true 3 [tpA T], .row true 2 [gdA g], .row true 8 [cwA w], .loop k .ready frs]
  have hP : ∀ l, ExM T g w (H.length + 6) (H.length + 5) (H.length + 7) (MM l) := fun l => ⟨⟨true, by simp [MM]⟩, ⟨true, by simp [MM]⟩, ⟨true, by simp [MM]⟩⟩
  have nC : ∀ l, noF (H.length + 9) (OuC H.length l) = true := fun l => by unfold OuC; split <;> simp [noF]
  have nP : ∀ l, noFB (H.length + 9) (OuP l) = true := fun l => by unfold OuP; split <;> simp only [noFB, zaJ]
  have halt : ∀ l l2, alters (MM l) (MM l2) := fun l l2 => zkv ⟨.inr (.inl (by simpa using nP l2)), .same _, .same _, .same _, .inr (.inl (by simp [noFB, noFs, nC])), .same _, .same _, .same _, .same _, trivial⟩
  have hround : ∀ (l : List I) (p : I), l.length ≤ 1000000000 → ∀ (J : AH), zbX E (H.length + 8) [iv p] (MM l ++ J) (.bool true) (MM (zaM l p) ++ J) := by
   intro l p hl J
   by_cases h0 : l = []
   ·subst h0
    rw [zmQ]
    rw [show MM [] = H ++ [.dead, .row true 3 [tpA T], .row true 2 [gdA g], .row true 8 [cwA w], .row true 1 [.nilslice], .row true 3 [tpA T], .row true 2 [gdA g], .row true 8 [cwA w], .loop k .ready frs] from rfl]
    have eP : OuP [p] = .row true 2 [iv p] := rfl
    refine zbX.fillw (HJ := H ++ [.dead, .row true 3 [tpA T], .row true 2 [gdA g], .row true 8 [cwA w], .row true 1 [.ref (H.length + 9 + J.length + 1) 1], .row true 3 [tpA T], .row true 2 [gdA g], .row true 8 [cwA w], .loop k .ready frs] ++ J ++ [.row true 2 [iv p], .row true 2 [iv p]]) (v := .bool true) ?_
     (zls.one (H0 := H) (pl := H.length) (k := H.length + 9 + J.length + 1) (oc := H.length + 4) (sz := 2) (n := 1) (xs := [iv p]) ?_ ?_ ?_ ?_ ?_ ?_ ?_ ?_ ?_ ?_ ?_ ?_)
    ·refine zdm zah zai (k := k) (frs := frs) (by simp) (by rw [← hk]; rfl) hN ?_
     have ka := congrArg LK.assign hk
     have kb := congrArg LK.body hk
     have kp := congrArg LK.ps hk
     dsimp only at ka kb kp
     rw [← ka, ← kb, ← kp]
     clear ka kb kp hk hf hN
     simp [zdU]
     rw [zbO]
     refine ⟨by simp, ?_⟩
     simp [h7]
     refine endD [] (by rfl) (by simp [okW, note, Eff.triv, Eff.wr, Eff.none, upTo, newAt]) ?_
     simp [h7]
     refine bind_some (zpf (p := p)) ?_
     simp [h7]
     rw [zbT]
     refine ⟨by simp, rfl, ?_⟩
     have e : H.length + 9 + J.length + 1 = H.length + (J.length + 1 + 9) := by omega
     rw [e]
     simp
     exact .keep _ _
    ·simp
    ·simp
    ·simp; omega
    ·rw [List.getElem?_append_right (by simp; omega)]
     rw [show H.length + 9 + J.length + 1 - (H ++ [ABlk.dead, .row true 3 [tpA T], .row true 2 [gdA g], .row true 8 [cwA w], .row true 1 [.ref (H.length + 9 + J.length + 1) 1], .row true 3 [tpA T], .row true 2 [gdA g], .row true 8 [cwA w], .loop k .ready frs] ++ J).length = 1 by simp; omega]
     rfl
    ·simp [MM]
    ·simp
    ·simp [MM, OuC]
    ·simp [MM, eP]
    ·omega
    ·simp [noFs, noF]
    ·simp [noF]
    ·intro c hc h1 h2
     left
     have eJ : (H ++ [ABlk.dead, .row true 3 [tpA T], .row true 2 [gdA g], .row true 8 [cwA w], .row true 1 [.ref (H.length + 9 + J.length + 1) 1], .row true 3 [tpA T], .row true 2 [gdA g], .row true 8 [cwA w], .loop k .ready frs] ++ J ++ [.row true 2 [iv p], .row true 2 [iv p]]) = ((H ++ [ABlk.dead, .row true 3 [tpA T], .row true 2 [gdA g], .row true 8 [cwA w], .row true 1 [.nilslice], .row true 3 [tpA T], .row true 2 [gdA g], .row true 8 [cwA w], .loop k .ready frs] ++ J).set (H.length + 4) (.row true 1 [.ref (H.length + 9 + J.length + 1) 1])) ++ [.row true 2 [iv p], .row true 2 [iv p]] := by simp
     have eH : MM [p] ++ J = ((H ++ [ABlk.dead, .row true 3 [tpA T], .row true 2 [gdA g], .row true 8 [cwA w], .row true 1 [.nilslice], .row true 3 [tpA T], .row true 2 [gdA g], .row true 8 [cwA w], .loop k .ready frs] ++ J).set H.length (OuP [p])).set (H.length + 4) (.row true 1 [.ref H.length 1]) := by simp [MM, OuC]
     rw [eJ, eH]
     generalize hM : H ++ [ABlk.dead, .row true 3 [tpA T], .row true 2 [gdA g], .row true 8 [cwA w], .row true 1 [.nilslice], .row true 3 [tpA T], .row true 2 [gdA g], .row true 8 [cwA w], .loop k .ready frs] ++ J = M0 at hc ⊢
     refine ⟨?_, ?_⟩
     ·rw [List.getElem?_append_left (by simpa using hc), List.getElem?_set_ne (Ne.symm h2)]
     ·rw [List.getElem?_set_ne (Ne.symm h2), List.getElem?_set_ne (Ne.symm h1)]
   ·have hpos : 0 < l.length := by
     cases l with
     | nil => exact absurd rfl h0
     | cons a r => simp
    have eP : OuP l = .row true 2 (l.map iv) := by unfold OuP; rw [if_neg h0]
    have eC : OuC H.length l = .ref H.length l.length := by unfold OuC; rw [if_neg h0]
    have hne : zaM l p ≠ [] := fun h => by have := (zfL l p).2; rw [h] at this; simp at this
    have eP2 : OuP (zaM l p) = .row true 2 ((zaM l p).map iv) := by unfold OuP; rw [if_neg hne]
    have eC2 : OuC H.length (zaM l p) = .ref H.length (zaM l p).length := by unfold OuC; rw [if_neg hne]
    have ha2 := halt l (zaM l p)
    have eM : MM l = H ++ [.row true 2 (l.map iv), .row true 3 [tpA T], .row true 2 [gdA g], .row true 8 [cwA w], .row true 1 [.ref H.length l.length], .row true 3 [tpA T], .row true 2 [gdA g], .row true 8 [cwA w], .loop k .ready frs] := by simp only [MM, eP, eC]
    have eM2 : MM (zaM l p) = H ++ [.row true 2 ((zaM l p).map iv), .row true 3 [tpA T], .row true 2 [gdA g], .row true 8 [cwA w], .row true 1 [.ref H.length (zaM l p).length], .row true 3 [tpA T], .row true 2 [gdA g], .row true 8 [cwA w], .loop k .ready frs] := by simp only [MM, eP2, eC2]
    obtain ⟨z, hz2⟩ : ∃ z, l[l.length - 1]? = some z := ⟨l[l.length - 1], by rw [List.getElem?_eq_getElem]⟩
    have hzE : ∀ h, l[l.length - 1]'h = z := fun h => (gI.1 hz2).2
    have hlast : zc6 l = z := by unfold zc6; rw [List.getLast?_eq_getElem?, hz2]; rfl
    have wl : IntKind.i64.wrap ((l.length : Int) - 1) = ((l.length - 1 : Nat) : Int) := by rw [zae (by omega) (by omega)]; omega
    have hlt : l.length - 1 < l.length := by omega
    rw [eM, eM2] at ha2 ⊢
    clear eM eM2 halt nP nC hP
    refine zdm zah zai (k := k) (frs := frs) (by simp) (by rw [← hk]; rfl) hN ?_
    have ka := congrArg LK.assign hk
    have kb := congrArg LK.body hk
    have kp := congrArg LK.ps hk
    dsimp only at ka kb kp
    rw [← ka, ← kb, ← kp]
    clear ka kb kp hk hf hN
    by_cases hm : z.2 = p.1
    ·have em : zaM l p = l.set (l.length - 1) (z.1, p.2) := by unfold zaM; rw [hlast, if_pos ⟨hpos, hm⟩]
     rw [em] at ha2 ⊢
     simp [zdU]
     rw [zbO]
     refine ⟨by simp, ?_⟩
     simp [h7, hpos, wl, hz2, hzE, hlt, hm]
     refine endD [] (by rfl) (by simp [okW, note, Eff.triv, Eff.wr, Eff.none, upTo, newAt]) ?_
     simp [h7, wl, hz2, hzE, hlt]
     rw [zbT]
     refine ⟨by simp, rfl, ?_⟩
     have := Leaves.alters (J := J) (X := [.row true 2 [iv p]]) ha2
     simpa [List.map_set] using this
    ·have em : zaM l p = l ++ [p] := by unfold zaM; rw [hlast, if_neg (by simp [hm])]
     rw [em] at ha2 ⊢
     have hm2 : (z.2 == p.1) = false := by rw [beq_eq_false_iff_ne]; exact hm
     simp [zdU]
     rw [zbO]
     refine ⟨by simp, ?_⟩
     simp [h7, hpos, wl, hz2, hzE, hlt, hm2]
     refine endD [] (by rfl) (by simp [okW, note, Eff.triv, Eff.wr, Eff.none, upTo, newAt]) ?_
     simp [h7]
     refine bind_some (zhj (p := p) (l := l.map iv) (by simp) (by omega) (by simp)) ?_
     simp [h7]
     rw [zbT]
     refine ⟨by simp, rfl, ?_⟩
     have := Leaves.alters (J := J) (X := [.row true 2 [iv p]]) ha2
     simpa using this
  have hrun : ∀ (L l : List I), l.length + L.length ≤ 1000000000 → YGo E (H.length + 8) (ExM T g w (H.length + 6) (H.length + 5) (H.length + 7)) (L.map fun q => [iv q]) (MM l) (MM (L.foldl zaM l)) := by
   intro L
   induction L with
   | nil => intro l _; exact .nil _
   | cons q r ih =>
    intro l hl
    have h1 := zfL l q
    rw [List.length_cons] at hl
    exact .go (halt _ _) (hP _) (hround l q (by omega)) (ih (zaM l q) (by omega))
  have hkl := zgl (P := zdw T g w) hw.le.1 w.s.h.toNat (0, w.s.h) (Int.le_refl 0) (by show 0 < w.s.h; omega)
  have hS := ztq T g w _ _ _ (H.length + 8) hT hn hw hg _ _ (hP []) (hrun (zcu (zdw T g w) w.least w.s.h.toNat (0, w.s.h)) [] (by simp only at hkl; simp; omega))
  have eF : (zcu (zdw T g w) w.least w.s.h.toNat (0, w.s.h)).foldl zaM [] = zdI (zdw T g w) w.least w.s.h := rfl
  rw [eF] at hS
  clear hround hrun hP halt nC nP
  generalize zdI (zdw T g w) w.least w.s.h = F at *
  have e0 : MM [] = H ++ [.dead, .row true 3 [tpA T], .row true 2 [gdA g], .row true 8 [cwA w], .row true 1 [.nilslice], .row true 3 [tpA T], .row true 2 [gdA g], .row true 8 [cwA w], .loop k .ready frs] := rfl
  by_cases hF : F = []
  ·subst hF
   rw [e0] at hS
   refine ⟨_, _, k, .ready, frs, by simpa [gdA, tpA, outA, cwA, bx] using hS, by simp, ?_⟩
   simp [zol]
   rw [show rwN [] = .nilslice from rfl]
   exact fin1 (rs := [.tmp 6]) (by rfl) (by simp [resA]) (by simp [noF])
  ·have e1 : MM F = H ++ [.row true 2 (F.map iv), .row true 3 [tpA T], .row true 2 [gdA g], .row true 8 [cwA w], .row true 1 [.ref H.length F.length], .row true 3 [tpA T], .row true 2 [gdA g], .row true 8 [cwA w], .loop k .ready frs] := by
    simp only [MM, OuP, OuC, if_neg hF]
   rw [e0, e1] at hS
   refine ⟨_, _, k, .ready, frs, by simpa [gdA, tpA, outA, cwA, bx] using hS, by simp, ?_⟩
   simp [zol]
   rw [show rwN F = bx F from by unfold rwN; rw [if_neg hF]]
   exact finS (t := 6) (v := .ref (H.length + 0) F.length) (v0 := .nilslice) (sz := 2) (xs := F.map iv) (by rfl) (by simp) (.inr ⟨0, by simp, by simp⟩) rfl (zaJ _ _)
theorem zs1 {H : AH} {p : I} {l : List AV} {b n : Nat} {wr f : Bool} (hb : n ≤ 1000000000) (hn : l.length = n) (hH : H[b]? = some (.row wr 2 l)) :
  zar tab H 23 (.ref b n) (.slice [iv p] f) = some (.ref b (n + 1), H.set b (.row wr 2 (l ++ [iv p]))) := by
 subst hn
 simp only [zar, tab23, tab48, els, zaF, AV.cells, zb7, hH]
 simp [okc]
 omega
def zcm (xv : List I) (t : I) (g : Ex) (f : List I) : Nat → I
 | 0 => ev xv t (der .tm g)
 | i + 1 => if isK (der (.st i) g) 0 then zcm xv t g f i else add (zcm xv t g f i) (mul (ev xv t (der (.st i) g)) (f.getD i (0, 0)))
def LLi (s : Sys) (g : Ex) (xv : List I) (t : I) (H : AH) (i : Nat) (fr : AFr) (H' : AH) : Prop :=
 fr 1 = xs (ser g) ∧ fr 2 = bx xv ∧ fr 7 = .ptr (H.length + 1) 1 0 0 ∧ fr 8 = .ptr (H.length + 2) 1 0 0 ∧ fr 9 = .ptr (H.length + 3) 1 0 0 ∧ fr 21 = bx (s.f.map (ev xv t)) ∧ fr 22 = .int .i64 s.f.length ∧ fr 23 = .int .i64 i ∧ i ≤ s.f.length ∧ ∃ J, H' = H ++ ([.row true 2 [sys s], .row true 2 [iv t], .row true 2 [iv (0, 0)], .row true 2 [iv (zcm xv t g (s.f.map (ev xv t)) i)]] ++ J)
theorem zd2 {xv : List I} {t : I} {g : Ex} {f : List I} (hxv : ∀ p ∈ xv, vB p = true) (htv : vB t = true) (hw : wf xv.length g = true) (hf : ∀ p ∈ f, vB p = true) : ∀ i, vB (zcm xv t g f i) = true
 | 0 => zaT hxv htv _ (zmg hw)
 | i + 1 => by
  simp only [zcm]
  split
  ·exact zd2 hxv htv hw hf i
  ·exact zbB (zd2 hxv htv hw hf i) zaz
theorem zhu (s : Sys) (g : Ex) (xv : List I) (t : I) (hxv : ∀ p ∈ xv, vB p = true) (hxl : xv.length ≤ 1000000000) (htv : vB t = true) (hf : ∀ e ∈ s.f, sz e ≤ 1000000000 ∧ wf xv.length e = true) (hn : s.f.length ≤ 1000000000) (hgs : sz g ≤ 1000000) (hgw : wf xv.length g = true) (hgt : sz (dif .tm g) ≤ 1000000) (hgd : ∀ j : Nat, j < s.f.length → sz (dif (.st j) g) ≤ 1000000) (H : AH) :
  zaf E 68 [sys s, xs (ser g), bx xv, iv t] H (.ret (iv (zcm xv t g (s.f.map (ev xv t)) s.f.length))) H := by
 refine zab zah zai Tryz.func68 rfl (by rfl) Tryz.ntmps68 (by kernel_rfl) (by simp) ?_
 simp [sys, xs]
 have hst : sz (der .tm g) ≤ 1000000 := Nat.le_trans (zfZ _) hgt
 refine zac (fun Hx => zg1 g hgw hgs hgt Hx) ?_
 simp [bx]
 refine zac (fun Hx => zp5 (der .tm g) xv t hxv hxl htv (by omega) (zmg hgw) Hx) ?_
 simp
 refine endD [(5, 6)] (by rfl) (by simp [okW, note, Eff.triv, Eff.wr, Eff.none, upTo, newAt]) ?_
 simp
 refine zba (zjI s xv t hxv hxl htv hf hn _) (by simp [sys, bx, iv, xs]; rfl) ?_
 simp [bx]
 have hfv : ∀ p ∈ s.f.map (ev xv t), vB p = true := fun p hp => by obtain ⟨e, he, rfl⟩ := List.mem_map.1 hp; exact zaT hxv htv e (hf e he).2
 refine zag (LLi s g xv t H) (fun i => s.f.length - i) 0 ⟨by simp [xs], by simp [bx], by simp, by simp, by simp, by simp [bx], by simp, by simp, by omega, [], by simp [sys, iv, xs, zcm]⟩ ?_
 rintro i fr H' ⟨g1, g2, g7, g8, g9, g21, g22, g23, hi, J, rfl⟩
 simp [g22, g23]
 refine zak (fun hc => ?_) (fun hc => ?_)
 ·have hlt : i < s.f.length := by simpa using hc
  obtain ⟨e, hei⟩ := zaj hlt
  have heE : ∀ h, s.f[i]'h = e := fun h => (gI.1 hei).2
  have w2 : IntKind.i64.wrap ((i : Int) + 1) = ((i + 1 : Nat) : Int) := by rw [zae (by omega) (by omega)]; omega
  have hda := hgd i hlt
  have hsd : sz (der (.st i) g) ≤ 1000000 := Nat.le_trans (zfZ _) hda
  have hls : zcm xv t g (s.f.map (ev xv t)) (i + 1) = if isK (der (.st i) g) 0 then zcm xv t g (s.f.map (ev xv t)) i else add (zcm xv t g (s.f.map (ev xv t)) i) (mul (ev xv t (der (.st i) g)) (ev xv t e)) := by
   simp only [zcm, List.getD_eq_getElem?_getD, List.getElem?_map, hei, Option.map_some, Option.getD_some]
  have hsv := zd2 (f := s.f.map (ev xv t)) hxv htv hgw hfv i
  have hev := zaT hxv htv e (hf e (List.mem_of_getElem? hei)).2
  generalize hS : zcm xv t g (s.f.map (ev xv t)) i = S at *
  simp [g1, g2, g7, g8, g9, g21, g23, hei, heE, xs, bx]
  refine zba (jDiff g i hgw hgs hda _) (by simp [xs]; rfl) ?_
  simp
  refine zaa (jIs (der (.st i) g) 0 (by omega) _) ?_
  simp
  cases hk : isK (der (.st i) g) 0 with
  | true =>
   simp [g23, w2]
   exact ⟨i + 1, by show s.f.length - (i + 1) < s.f.length - i; omega, by simp [g1, xs], by simp [g2, bx], by simp [g7], by simp [g8], by simp [g9], by simp [g21, bx], by simp [g22], by simp, by omega, J ++ [.row true 2 [iv (ev xv t e)]], by simp [sys, iv, hls, hk]⟩
  | false =>
   simp [g2, g7, g9, bx]
   refine zac (fun Hx => zp5 (der (.st i) g) xv t hxv hxl htv (by omega) (zmg hgw) Hx) ?_
   simp [g2, g7, g9]
   refine zac (fun Hx => iMul _ _ (zaT hxv htv _ (zmg hgw)) hev Hx) ?_
   simp [g9]
   refine zac (fun Hx => iAdd _ _ hsv zaz Hx) ?_
   simp [g9]
   refine endD [(0, 8)] (by rfl) (by simp [okW, note, Eff.triv, Eff.wr, Eff.none, upTo, newAt]) ?_
   simp [g23, w2]
   exact ⟨i + 1, by show s.f.length - (i + 1) < s.f.length - i; omega, by simp [g1, xs], by simp [g2, bx], by simp [g7], by simp [g8], by simp [g9], by simp [g21, bx], by simp [g22], by simp, by omega, J ++ [.row true 2 [iv (ev xv t e)]], by simp [sys, iv, hls, hk]⟩
 ·have hi' : i = s.f.length := by have : ¬ i < s.f.length := by simpa using hc
                                  omega
  subst hi'
  simp [g8, g9]
  exact fin1 (rs := [.cell 8 48]) (by rfl) (by simp [resA, g8]) (by simp [noF, noFs])
end Go.Proofs.YtkghjlgpmeibhaaGreatDoor.Arm
