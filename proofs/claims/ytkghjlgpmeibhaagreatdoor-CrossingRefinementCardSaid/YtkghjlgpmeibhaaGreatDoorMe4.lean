/- Part of a proof: what the functions of the program do to abstract states, step by step. -/
import Derived.Test.YtkghjlgpmeibhaaGreatDoorMe3
import Derived.Test.YtkghjlgpmeibhaaGreatDoorMe2
set_option linter.unusedVariables false
set_option linter.unusedSimpArgs false
namespace Go.Proofs.YtkghjlgpmeibhaaGreatDoor.Arm
open Go.Arm Go.Pl
theorem jI {H J : AH} {b : Nat} : (H ++ J)[H.length + b]? = J[b]? := by rw [List.getElem?_append_right (by omega), Nat.add_sub_cancel_left]
def zX (q : List I) : zE := .row true 2 (q.map iv)
def NewV (z : AV) (s : Nat) (v : AV) (q : List I) : Prop := (q = [] ∧ v = z) ∨ (s = 0 ∧ ∃ p, q = [p] ∧ v = .slice [iv p] true)
def OwnF (z : AV) (tag : Nat → Nat) (B : Nat) (J : AH) (s c : Nat) (v : AV) (q : List I) : Prop := NewV z s v q ∨ ∃ b, v = .ref (B + b) q.length ∧ J[b]? = some (zX q) ∧ 5 ≤ b ∧ tag b = c
def je (z : AV) (tag : Nat → Nat) (B : Nat) (J : AH) (s : Nat) (cells : List AV) (l : List (List I)) : Prop := cells.length = l.length ∧ ∀ (j : Nat) v q, cells[j]? = some v → l[j]? = some q → OwnF z tag B J s (2 * j + s) v q
def VU (tag : Nat → Nat) (b c : Nat) : Nat → Nat := fun i => if i = b then c else tag i
theorem je.ext {z : AV} {tag : Nat → Nat} {B s : Nat} {J J' : AH} {cells : List AV} {l : List (List I)} (h : je z tag B J s cells l) (hJ : ∀ b y, 5 ≤ b → J[b]? = some y → J'[b]? = some y) : je z tag B J' s cells l :=
 ⟨h.1, fun j v q hv hq => (h.2 j v q hv hq).imp id fun ⟨b, h1, h2, h3, h4⟩ => ⟨b, h1, hJ b _ h3 h2, h3, h4⟩⟩
theorem je.app {z : AV} {tag : Nat → Nat} {B s : Nat} {J : AH} (K : AH) {cells : List AV} {l : List (List I)} (h : je z tag B J s cells l) : je z tag B (J ++ K) s cells l := h.ext fun b y _ hb => zi hb
theorem je.set {z : AV} {tag : Nat → Nat} {B s c : Nat} {J : AH} {y : zE} {cells : List AV} {l : List (List I)} (h : je z tag B J s cells l) (hc : c < 5) : je z tag B (J.set c y) s cells l :=
 h.ext fun b z h5 hb => by rw [List.getElem?_set_ne (by omega)]; exact hb
theorem je.otherN {z : AV} {tag : Nat → Nat} {B s c : Nat} {J : AH} {y : zE} {cells : List AV} {l : List (List I)} (h : je z tag B J s cells l) : je z (VU tag J.length c) B (J ++ [y]) s cells l :=
 ⟨h.1, fun j v q hv hq => (h.2 j v q hv hq).imp id fun ⟨b, h1, h2, h3, h4⟩ => ⟨b, h1, zi h2, h3, by have := (gI.1 h2).1; unfold VU; rw [if_neg (by omega)]; exact h4⟩⟩
theorem je.otherR {z : AV} {tag : Nat → Nat} {B s c b : Nat} {J : AH} {y : zE} {cells : List AV} {l : List (List I)} (h : je z tag B J s cells l) (hb : tag b = c) (hc : ∀ j, 2 * j + s ≠ c) : je z tag B (J.set b y) s cells l :=
 ⟨h.1, fun j v q hv hq => (h.2 j v q hv hq).imp id fun ⟨b', h1, h2, h3, h4⟩ => ⟨b', h1, by rw [List.getElem?_set_ne (by intro e; subst e; exact hc j (h4.symm.trans hb))]; exact h2, h3, h4⟩⟩
theorem je.pushN {z : AV} {tag : Nat → Nat} {B s j : Nat} {J : AH} {cells : List AV} {l : List (List I)} {q : List I} {p : I} (h : je z tag B J s cells l) (h5 : 5 ≤ J.length) :
  je z (VU tag J.length (2 * j + s)) B (J ++ [zX (q ++ [p])]) s (cells.set j (.ref (B + J.length) (q.length + 1))) (l.set j (q ++ [p])) := by
 refine ⟨by simpa using h.1, fun i v r hv hr => ?_⟩
 by_cases hij : j = i
 ·subst hij
  have h1 := (gI.1 hv).1
  have h2 := (gI.1 hr).1
  simp only [List.length_set] at h1 h2
  rw [List.getElem?_set_self h1] at hv
  rw [List.getElem?_set_self h2] at hr
  cases hv; cases hr
  exact .inr ⟨J.length, by simp, by simp, h5, by simp [VU]⟩
 ·rw [List.getElem?_set_ne hij] at hv hr
  exact (je.otherN h).2 i v r hv hr
theorem je.pushR {z : AV} {tag : Nat → Nat} {B s j b : Nat} {J : AH} {cells : List AV} {l : List (List I)} {q : List I} {p : I} (h : je z tag B J s cells l) (hJ : J[b]? = some (zX q)) (h5 : 5 ≤ b) (ht : tag b = 2 * j + s) :
  je z tag B (J.set b (zX (q ++ [p]))) s (cells.set j (.ref (B + b) (q.length + 1))) (l.set j (q ++ [p])) := by
 refine ⟨by simpa using h.1, fun i v r hv hr => ?_⟩
 by_cases hij : j = i
 ·subst hij
  have h1 := (gI.1 hv).1
  have h2 := (gI.1 hr).1
  simp only [List.length_set] at h1 h2
  rw [List.getElem?_set_self h1] at hv
  rw [List.getElem?_set_self h2] at hr
  cases hv; cases hr
  exact .inr ⟨b, by simp, Jh hJ, h5, ht⟩
 ·rw [List.getElem?_set_ne hij] at hv hr
  refine (h.2 i v r hv hr).imp id fun ⟨b', g1, g2, g3, g4⟩ => ⟨b', g1, ?_, g3, g4⟩
  rw [List.getElem?_set_ne (by intro e; subst e; omega)]; exact g2
theorem je.rows {z : AV} {tag : Nat → Nat} {L : Nat} {H J : AH} {cells : List AV} {l : List (List I)} (h : je z tag H.length J 1 cells l) (hL : (H ++ J)[L]? = some (.row true 1 cells)) (hz : z = .nilslice ∨ z = .slice [] true) : WR (H ++ J) L cells l := by
 refine ⟨hL, h.1, fun j v q hv hq => ?_⟩
 rcases h.2 j v q hv hq with (⟨h0, h1⟩ | ⟨h1, _⟩) | ⟨b, h1, h2, _, _⟩
 ·exact .inl ⟨h0, by rw [h1]; exact hz⟩
 ·cases h1
 ·exact .inr ⟨H.length + b, true, h1, by rw [jI]; exact h2⟩
theorem je.own {z : AV} {tag : Nat → Nat} {H J : AH} {j : Nat} {v : AV} {q : List I} {cells : List AV} {l : List (List I)} (h : je z tag H.length J 1 cells l) (hv : cells[j]? = some v) (hq : l[j]? = some q) (hz : z = .nilslice ∨ z = .slice [] true) : VN (H ++ J) v q := by
 rcases h.2 j v q hv hq with (⟨h0, h1⟩ | ⟨h1, _⟩) | ⟨b, h1, h2, _, _⟩
 ·exact .inl ⟨h0, by rw [h1]; exact hz⟩
 ·cases h1
 ·exact .inr ⟨H.length + b, true, h1, by rw [jI]; exact h2⟩
theorem Uo {H : AH} {p : I} {f : Bool} {v : AV} (h : v = .nilslice ∨ v = .slice [] true) : qn zp H 23 v (.slice [iv p] f) = some (.ref H.length 1, H ++ [zX ([] ++ [p])]) := by
 rcases h with rfl | rfl <;> simp [qn, jk, jO, Qc, qo, zX]
theorem app_new1 {H : AH} {p a : I} {f : Bool} : qn zp H 23 (.slice [iv a] true) (.slice [iv p] f) = some (.ref H.length 2, H ++ [zX ([a] ++ [p])]) := by
 simp [qn, jk, jO, Qc, qo, zX]
theorem Vh {H : AH} {p : I} {q : List I} {b : Nat} {f : Bool} (hn : q.length ≤ 1000000) (hH : H[b]? = some (zX q)) : qn zp H 23 (.ref b q.length) (.slice [iv p] f) = some (.ref b (q.length + 1), H.set b (zX (q ++ [p]))) := by
 have := X8 (H := H) (p := p) (l := q.map iv) (b := b) (n := q.length) (f := f) (by simp) (by omega) hH
 rw [this]
 simp [zX]
theorem Ui {g : FuncId} {captured args : List AV} {next : ZA} {H : AH} {r : AV} (h : ∀ X : AH, zg E g (args ++ captured) (H ++ X) (.ret r) (H ++ X))
  (kk : next .go r ⟨List.range H.length, [], none, true⟩ H) : ZP E (.func (.func g) [] captured) args next H := by
 refine zbL (List.range H.length) (fun c hc => List.mem_range.1 hc) (fun Hx hx => ?_) kk
 have hle : H.length ≤ Hx.length := by
  rcases Nat.lt_or_ge Hx.length H.length with h | h
  ·have := hx Hx.length (List.mem_range.2 h)
   rw [List.getElem?_eq_none (Nat.le_refl _)] at this
   rw [List.getElem?_eq_getElem h] at this
   cases this
  ·exact h
 have e : Hx = H ++ Hx.drop H.length := by
  apply List.ext_getElem?
  intro c
  by_cases hc : c < H.length
  ·rw [List.getElem?_append_left hc]; exact hx c (List.mem_range.2 hc)
  ·rw [List.getElem?_append_right (by omega), List.getElem?_drop]
   congr 1; omega
 rw [e]; exact h _
theorem za1 {g : FuncId} {captured args : List AV} {next : ZA} {H K : AH} {r : AV} (hl : K.length = H.length) (h : ∀ X : AH, zg E g (args ++ captured) (H ++ X) (.ret r) (K ++ X))
  (kk : next .go r ⟨List.range H.length, Xl K H.length, none, true⟩ K) : ZP E (.func (.func g) [] captured) args next H := by
 refine ⟨r, List.range H.length, Xl K H.length, ⟨fun c hc => List.mem_range.1 hc, fun p hp => ?_, fun Hx hx => ?_⟩, ?_⟩
 ·unfold Xl at hp
  obtain ⟨i, hi, rfl⟩ := List.mem_map.1 hp
  exact hi
 ·have hle : H.length ≤ Hx.length := by
   rcases Nat.lt_or_ge Hx.length H.length with h | h
   ·have := hx Hx.length (List.mem_range.2 h)
    rw [List.getElem?_eq_none (Nat.le_refl _)] at this
    rw [List.getElem?_eq_getElem h] at this
    cases this
   ·exact h
  have e : Hx = H ++ Hx.drop H.length := by
   apply List.ext_getElem?
   intro c
   by_cases hc : c < H.length
   ·rw [List.getElem?_append_left hc]; exact hx c (List.mem_range.2 hc)
   ·rw [List.getElem?_append_right (by omega), List.getElem?_drop]
    congr 1; omega
  rw [e, zaf hl]
  exact .inl (by rw [List.nil_append]; exact h _)
 ·have := zaf (X := []) hl
  rw [List.append_nil, List.append_nil] at this
  rw [this]
  exact kk
def qC (p : Nat) (l : List (List I)) : List AV := (List.range l.length).map fun j : Nat => .ref (p + 1 + j) (zu l (j : Int)).length
theorem zbS (m : Nat) (q : List I) : ∀ x ∈ q.map iv, noF m x = true := fun x hx => by obtain ⟨y, _, rfl⟩ := List.mem_map.1 hx; simp [noF, zh]
theorem fam_fills {z : AV} {tag : Nat → Nat} {H J H' : AH} {c0 p : Nat} {co : List AV} {l : List (List I)} (hF : je z tag H.length J 0 co l) (h3 : J[c0]? = some (.row true 1 co)) (hc0 : c0 < 5) (h2 : ∀ q ∈ l, 2 ≤ q.length)
  (hd : ∀ j, j ≤ l.length → H[p + j]? = some .dead) (hlen : H'.length = H.length) (g1 : H'[p]? = some (.row true 1 (qC p l))) (g2 : ∀ (j : Nat) q, l[j]? = some q → H'[p + 1 + j]? = some (zX q)) (g3 : ∀ c, c < H.length → (c < p ∨ p + l.length < c) → H'[c]? = H[c]?) :
  ∃ σ, WS H (H ++ J) H' (.ref (H.length + c0) l.length) (.ref p l.length) σ := by
 have hb : ∀ j : Nat, ∃ b, ∀ q, l[j]? = some q → co[j]? = some (.ref (H.length + b) q.length) ∧ J[b]? = some (zX q) ∧ 5 ≤ b ∧ tag b = 2 * j := by
  intro j
  cases hq : l[j]? with
  | none => exact ⟨0, fun q h => by cases h⟩
  | some q =>
   have hlt := (gI.1 hq).1
   have hv : co[j]? = some (co[j]'(by rw [hF.1]; exact hlt)) := by simp
   have hm := h2 q (List.mem_of_getElem? hq)
   rcases hF.2 j _ q hv hq with (⟨h1, _⟩ | ⟨_, a, h1, _⟩) | ⟨b, h1, h4, h5, h6⟩
   ·rw [h1] at hm; simp at hm
   ·rw [h1] at hm; simp at hm
   ·refine ⟨b, fun q' hq' => ?_⟩
    cases hq'
    exact ⟨by rw [hv, h1], h4, h5, by simpa using h6⟩
 let β : Nat → Nat := fun j => Classical.choose (hb j)
 have hβ : ∀ j q, l[j]? = some q → co[j]? = some (.ref (H.length + β j) q.length) ∧ J[β j]? = some (zX q) ∧ 5 ≤ β j ∧ tag (β j) = 2 * j := fun j => Classical.choose_spec (hb j)
 have hβ' : ∀ j, j < l.length → J[β j]? = some (zX l[j]!) ∧ 5 ≤ β j ∧ tag (β j) = 2 * j := fun j hj => by
  have := hβ j l[j] (by simp [hj])
  exact ⟨by rw [this.2.1]; simp [hj], this.2.2⟩
 refine ⟨fun c => if c = p then some (H.length + c0) else if p < c ∧ c ≤ p + l.length then some (H.length + β (c - p - 1)) else none, ?_⟩
 have hpl : ∀ j, j ≤ l.length → p + j < H.length := fun j hj => (gI.1 (hd j hj)).1
 have hcas : ∀ c k, (if c = p then some (H.length + c0) else if p < c ∧ c ≤ p + l.length then some (H.length + β (c - p - 1)) else none) = some k → (c = p ∧ k = H.length + c0) ∨ ∃ j, j < l.length ∧ c = p + 1 + j ∧ k = H.length + β j := by
  intro c k h
  split at h
  ·rename_i e; cases h; exact .inl ⟨e, rfl⟩
  ·split at h
   ·rename_i e; cases h; exact .inr ⟨c - p - 1, by omega, by omega, rfl⟩
   ·cases h
 refine ⟨?_, ?_, hlen, ?_, ?_, ?_⟩
 ·intro c k h
  rcases hcas c k h with ⟨rfl, rfl⟩ | ⟨j, hj, rfl, rfl⟩
  ·have h0 := hd 0 (by omega)
   exact ⟨hpl 0 (by omega), h0, zi h0, by omega⟩
  ·have h0 := hd (1 + j) (by omega)
   have e : p + (1 + j) = p + 1 + j := by omega
   rw [e] at h0
   exact ⟨(gI.1 h0).1, h0, zi h0, by omega⟩
 ·intro c c' k h h'
  rcases hcas c k h with ⟨rfl, rfl⟩ | ⟨j, hj, rfl, rfl⟩ <;> rcases hcas c' _ h' with ⟨h4, h5⟩ | ⟨j', hj', h4, h5⟩
  ·exact h4.symm
  ·have := (hβ' j' hj').2.1; omega
  ·have := (hβ' j hj).2.1; omega
  ·have e1 := (hβ' j hj).2.2
   have e2 := (hβ' j' hj').2.2
   have : β j = β j' := by omega
   rw [this] at e1
   omega
 ·intro c hc h
  have hn : c < p ∨ p + l.length < c := by
   split at h
   ·cases h
   ·split at h
    ·cases h
    ·omega
  exact ⟨List.getElem?_append_left hc, g3 c hc hn⟩
 ·intro c k h
  rcases hcas c k h with ⟨rfl, rfl⟩ | ⟨j, hj, rfl, rfl⟩
  ·refine ⟨true, 1, co, qC c l, by rw [jI]; exact h3, g1, by simp [qC, hF.1], fun i x x' hx hx' => ?_⟩
   have hlt : i < l.length := by rw [← hF.1]; exact (gI.1 hx).1
   have hq : l[i]? = some l[i] := by simp
   obtain ⟨e1, _, e3, _⟩ := hβ i _ hq
   rw [hx] at e1; cases e1
   have e2 : (qC c l)[i]? = some (.ref (c + 1 + i) l[i].length) := by simp [qC, hlt, zu]
   rw [hx'] at e2; cases e2
   refine ⟨rfl, fun j a a' ha ha' => ?_⟩
   have hj0 : j = 0 := by have := (gI.1 ha).1; simp [AV.cells] at this; omega
   subst hj0
   simp [AV.cells] at ha ha'
   subst ha; subst ha'
   refine .ref (b := c + 1 + i) (k := H.length + β i) ?_ (by have := hpl (1 + i) (by omega); omega)
   rw [if_neg (by omega), if_pos (by omega), show c + 1 + i - c - 1 = i by omega]
  ·have hq : l[j]? = some l[j] := by simp
   obtain ⟨_, e2, _, _⟩ := hβ j _ hq
   refine ⟨true, 2, l[j].map iv, l[j].map iv, by rw [jI]; exact e2, g2 j _ hq, rfl, fun i x x' hx hx' => ?_⟩
   rw [hx] at hx'; cases hx'
   refine ⟨rfl, fun i a a' ha ha' => ?_⟩
   rw [ha] at ha'; cases ha'
   have := zbS H.length l[j] x (List.mem_of_getElem? hx)
   exact .old (qT (J5.2 this) ha)
 ·exact .ref (b := p) (k := H.length + c0) (by rw [if_pos rfl]) (hpl 0 (by omega))
def Qa (x : List I) (n i : Nat) : List AV := (List.range n).map fun j => if j < i then .slice [iv (zf x j)] true else .nilslice
theorem inC_zero (x : List I) (n : Nat) : Qa x n 0 = List.replicate n .nilslice := by
 unfold Qa
 apply List.ext_getElem
 ·simp
 ·intro i h1 h2; simp
theorem zb8 (x : List I) (n i : Nat) : (Qa x n i).length = n := by simp [Qa]
theorem Wl {x : List I} {n i j : Nat} (h : j < n) : (Qa x n i)[j]? = some (if j < i then .slice [iv (zf x j)] true else .nilslice) := by
 unfold Qa
 rw [List.getElem?_map, List.getElem?_range h]; rfl
theorem inC_set {x : List I} {n i : Nat} (h : i < n) : (Qa x n i).set i (.slice [iv (zf x i)] true) = Qa x n (i + 1) := by
 apply List.ext_getElem?
 intro j
 by_cases hj : j < n
 ·by_cases hij : i = j
  ·subst hij
   rw [List.getElem?_set_self (by rw [zb8]; exact h), Wl h, if_pos (by omega)]
  ·rw [List.getElem?_set_ne hij, Wl hj, Wl hj]
   by_cases h1 : j < i
   ·rw [if_pos h1, if_pos (by omega)]
   ·rw [if_neg h1, if_neg (by omega)]
 ·rw [List.getElem?_eq_none (by rw [List.length_set, zb8]; omega), List.getElem?_eq_none (by rw [zb8]; omega)]
theorem fam_out0 {z : AV} {tag : Nat → Nat} {B : Nat} {J : AH} (x : List I) (n : Nat) : je z tag B J 0 (Qa x n n) ((List.range n).map fun i => [zf x i]) := by
 refine ⟨by simp [Qa], fun j v q hv hq => .inl (.inr ⟨rfl, zf x j, ?_⟩)⟩
 have hj : j < n := by have := (gI.1 hq).1; simpa using this
 rw [Wl hj, if_pos hj] at hv
 rw [List.getElem?_map, List.getElem?_range hj] at hq
 cases hv; cases hq
 exact ⟨rfl, rfl⟩
theorem fam_l0 {z : AV} {tag : Nat → Nat} {B : Nat} {J : AH} (m : Nat) : je z tag B J 1 (List.replicate m z) (List.replicate m []) := by
 refine ⟨by simp, fun j u q hu hq => .inl (.inl ⟨List.eq_of_mem_replicate (List.mem_of_getElem? hq), ?_⟩)⟩
 exact List.eq_of_mem_replicate (List.mem_of_getElem? hu)
structure Zo (z : AV) (T : Tp) (t : I) (B : Nat) (J : AH) (tag : Nat → Nat) (co cl : List AV) (out l : List (List I)) : Prop where
 h0 : J[0]? = some (.row true 9 [qP])
 h1 : J[1]? = some (.row true 3 [zr T])
 h2 : J[2]? = some (.row true 2 [iv t])
 h3 : J[3]? = some (.row true 1 co)
 h4 : J[4]? = some (.row true 1 cl)
 ho : je z tag B J 0 co out
 hl : je z tag B J 1 cl l
theorem Zo.len {z : AV} {T : Tp} {t : I} {B : Nat} {J : AH} {tag : Nat → Nat} {co cl : List AV} {out l : List (List I)} (h : Zo z T t B J tag co cl out l) : 5 ≤ J.length := (gI.1 h.h4).1
theorem Zo.app {z : AV} {T : Tp} {t : I} {B : Nat} {J : AH} {tag : Nat → Nat} {co cl : List AV} {out l : List (List I)} (h : Zo z T t B J tag co cl out l) (K : AH) : Zo z T t B (J ++ K) tag co cl out l :=
 ⟨zi h.h0, zi h.h1, zi h.h2, zi h.h3, zi h.h4, h.ho.app K, h.hl.app K⟩
theorem Zo.lN {z : AV} {T : Tp} {t : I} {B i : Nat} {J : AH} {tag : Nat → Nat} {co cl : List AV} {out l : List (List I)} {q : List I} {p : I} (h : Zo z T t B J tag co cl out l) :
  Zo z T t B ((J ++ [zX (q ++ [p])]).set 4 (.row true 1 (cl.set i (.ref (B + J.length) (q.length + 1))))) (VU tag J.length (2 * i + 1)) co (cl.set i (.ref (B + J.length) (q.length + 1))) out (l.set i (q ++ [p])) := by
 have hJ := h.len
 refine ⟨?_, ?_, ?_, ?_, ?_, ?_, ?_⟩
 ·rw [List.getElem?_set_ne (by omega)]; exact zi h.h0
 ·rw [List.getElem?_set_ne (by omega)]; exact zi h.h1
 ·rw [List.getElem?_set_ne (by omega)]; exact zi h.h2
 ·rw [List.getElem?_set_ne (by omega)]; exact zi h.h3
 ·rw [List.getElem?_set_self (by simp; omega)]
 ·exact h.ho.otherN.set (by omega)
 ·exact (h.hl.pushN (by omega)).set (by omega)
theorem Zo.lR {z : AV} {T : Tp} {t : I} {B i b : Nat} {J : AH} {tag : Nat → Nat} {co cl : List AV} {out l : List (List I)} {q : List I} {p : I} (h : Zo z T t B J tag co cl out l) (hb : J[b]? = some (zX q)) (h5 : 5 ≤ b) (ht : tag b = 2 * i + 1) :
  Zo z T t B ((J.set b (zX (q ++ [p]))).set 4 (.row true 1 (cl.set i (.ref (B + b) (q.length + 1))))) tag co (cl.set i (.ref (B + b) (q.length + 1))) out (l.set i (q ++ [p])) := by
 have hJ := h.len
 refine ⟨?_, ?_, ?_, ?_, ?_, ?_, ?_⟩
 ·rw [List.getElem?_set_ne (by omega), List.getElem?_set_ne (by omega)]; exact h.h0
 ·rw [List.getElem?_set_ne (by omega), List.getElem?_set_ne (by omega)]; exact h.h1
 ·rw [List.getElem?_set_ne (by omega), List.getElem?_set_ne (by omega)]; exact h.h2
 ·rw [List.getElem?_set_ne (by omega), List.getElem?_set_ne (by omega)]; exact h.h3
 ·rw [List.getElem?_set_self (by simp; omega)]
 ·exact (h.ho.otherR ht (fun j => by omega)).set (by omega)
 ·exact (h.hl.pushR hb h5 ht).set (by omega)
theorem Zo.oN {z : AV} {T : Tp} {t : I} {B i : Nat} {J : AH} {tag : Nat → Nat} {co cl : List AV} {out l : List (List I)} {q : List I} {p : I} (h : Zo z T t B J tag co cl out l) :
  Zo z T t B ((J ++ [zX (q ++ [p])]).set 3 (.row true 1 (co.set i (.ref (B + J.length) (q.length + 1))))) (VU tag J.length (2 * i + 0)) (co.set i (.ref (B + J.length) (q.length + 1))) cl (out.set i (q ++ [p])) l := by
 have hJ := h.len
 refine ⟨?_, ?_, ?_, ?_, ?_, ?_, ?_⟩
 ·rw [List.getElem?_set_ne (by omega)]; exact zi h.h0
 ·rw [List.getElem?_set_ne (by omega)]; exact zi h.h1
 ·rw [List.getElem?_set_ne (by omega)]; exact zi h.h2
 ·rw [List.getElem?_set_self (by simp; omega)]
 ·rw [List.getElem?_set_ne (by omega)]; exact zi h.h4
 ·exact (h.ho.pushN (by omega)).set (by omega)
 ·exact h.hl.otherN.set (by omega)
theorem Zo.oR {z : AV} {T : Tp} {t : I} {B i b : Nat} {J : AH} {tag : Nat → Nat} {co cl : List AV} {out l : List (List I)} {q : List I} {p : I} (h : Zo z T t B J tag co cl out l) (hb : J[b]? = some (zX q)) (h5 : 5 ≤ b) (ht : tag b = 2 * i + 0) :
  Zo z T t B ((J.set b (zX (q ++ [p]))).set 3 (.row true 1 (co.set i (.ref (B + b) (q.length + 1))))) tag (co.set i (.ref (B + b) (q.length + 1))) cl (out.set i (q ++ [p])) l := by
 have hJ := h.len
 refine ⟨?_, ?_, ?_, ?_, ?_, ?_, ?_⟩
 ·rw [List.getElem?_set_ne (by omega), List.getElem?_set_ne (by omega)]; exact h.h0
 ·rw [List.getElem?_set_ne (by omega), List.getElem?_set_ne (by omega)]; exact h.h1
 ·rw [List.getElem?_set_ne (by omega), List.getElem?_set_ne (by omega)]; exact h.h2
 ·rw [List.getElem?_set_self (by simp; omega)]
 ·rw [List.getElem?_set_ne (by omega), List.getElem?_set_ne (by omega)]; exact h.h4
 ·exact (h.ho.pushR hb h5 ht).set (by omega)
 ·exact (h.hl.otherR ht (fun j => by omega)).set (by omega)
def fK (H : AH) (n m order k : Nat) (fr : zx) : Prop := fr 5 = .ptr H.length 1 0 0 ∧ fr 6 = .ptr (H.length + 1) 1 0 0 ∧ fr 8 = .ptr (H.length + 2) 1 0 0 ∧ fr 11 = .ref (H.length + 3) n ∧ fr 12 = .ref (H.length + 4) m ∧ fr 40 = .int .i64 order ∧ fr 41 = .int .i64 k ∧ k ≤ order
def SxK (T : Tp) (x : List I) (t : I) (order : Nat) (H : AH) (k : Nat) (fr : zx) (H' : AH) : Prop :=
 fK H T.n T.L.length order k fr ∧ ∃ J tag co cl, H' = H ++ J ∧ Zo .nilslice T t H.length J tag co cl (zH T x t k).2 (zH T x t k).1
def SxL (T : Tp) (x : List I) (t : I) (order : Nat) (H : AH) (k i : Nat) (fr : zx) (H' : AH) : Prop :=
 fK H T.n T.L.length order k fr ∧ fr 14 = .int .i64 k ∧ fr 45 = .slice (T.L.map zG) false ∧ fr 46 = .int .i64 T.L.length ∧ fr 47 = .int .i64 i ∧ i ≤ T.L.length ∧
 ∃ J tag co cl, H' = H ++ J ∧ Zo .nilslice T t H.length J tag co cl (zH T x t k).2 (jG T.L (zH T x t k).2 t k (zH T x t k).1 i)
def SxO (T : Tp) (x : List I) (t : I) (order : Nat) (H : AH) (k i : Nat) (fr : zx) (H' : AH) : Prop :=
 fK H T.n T.L.length order k fr ∧ fr 14 = .int .i64 k ∧ fr 92 = qx T.out ∧ fr 93 = .int .i64 T.out.length ∧ fr 94 = .int .i64 i ∧ i ≤ T.out.length ∧
 ∃ J tag co cl, H' = H ++ J ∧ Zo .nilslice T t H.length J tag co cl (j5 T (zH T x t (k + 1)).1 k (zH T x t k).2 i) (zH T x t (k + 1)).1
def SxI (T : Tp) (x : List I) (t : I) (order : Nat) (H : AH) (i : Nat) (fr : zx) (H' : AH) : Prop :=
 fr 2 = bx x ∧ fr 4 = .int .i64 order ∧ fr 5 = .ptr H.length 1 0 0 ∧ fr 6 = .ptr (H.length + 1) 1 0 0 ∧ fr 8 = .ptr (H.length + 2) 1 0 0 ∧ fr 11 = .ref (H.length + 3) T.n ∧ fr 12 = .ref (H.length + 4) T.L.length ∧ fr 27 = .int .i64 T.n ∧ fr 28 = .int .i64 i ∧ i ≤ T.n ∧
 H' = H ++ [.row true 9 [qP], .row true 3 [zr T], .row true 2 [iv t], .row true 1 (Qa x T.n i), .row true 1 (List.replicate T.L.length .nilslice)]
set_option maxHeartbeats 4000000 in
theorem sExpand (T : Tp) (x : List I) (t : I) (order : Nat) (hT : z8 T) (hx : zq x) (hxn : x.length = T.n) (ht : vB t = true) (ho : 1 ≤ order ∧ order ≤ 1000) (H H' : AH) (p : Nat)
  (hd : ∀ j, j ≤ T.n → H[p + j]? = some .dead) (hlen : H'.length = H.length) (g1 : H'[p]? = some (.row true 1 (qC p (qw T x t order)))) (g2 : ∀ (j : Nat) q, (qw T x t order)[j]? = some q → H'[p + 1 + j]? = some (zX q)) (g3 : ∀ c, c < H.length → (c < p ∨ p + T.n < c) → H'[c]? = H[c]?) :
  zg E 227 [qP, zr T, bx x, iv t, .int .i64 order] H (.ret (.ref p T.n)) H' := by
 refine soundX_of_awp zn zo Tryz.func227 rfl (by rfl) Tryz.ntmps227 (by kernel_rfl) (by simp) ?_
 have hsm := hT.small
 simp [zr, qP, zS]
 refine ZQ (by omega) ?_
 simp
 refine ZQ (by omega) ?_
 simp
 refine zm [] (by rfl) (by simp [zl, zk, za.triv, za.wr, za.none, upTo, newAt]) ?_
 simp
 refine zZ (SxI T x t order H) (fun i => T.n - i) 0 ⟨by simp, by simp, by simp, by simp, by simp, by simp [bx], by simp, by simp, by simp, by omega, by rw [inC_zero]; simp [qP, zr, zS]⟩ ?_
 rintro i fr H1 ⟨f2, f4, f5, f6, f8, f11, f12, f27, f28, hi, rfl⟩
 simp [f27, f28]
 refine zL (fun hc => ?_) (fun hc => ?_)
 ·have hlt : i < T.n := by simpa using hc
  obtain ⟨q, hq⟩ := zD (l := x) (i := i) (by omega)
  have hqE : ∀ h, x[i]'h = q := fun h => (gI.1 hq).2
  have hqa : zf x i = q := by simp [zf, hq]
  have w2 : IntKind.i64.wrap ((i : Int) + 1) = ((i + 1 : Nat) : Int) := by rw [zj (by omega) (by omega)]; omega
  have hs := inC_set (x := x) hlt
  have hl := zb8 x T.n i
  have hg := Wl (x := x) (i := i) hlt
  rw [if_neg (by omega)] at hg
  have hgE : ∀ h, (Qa x T.n i)[i]'h = .nilslice := fun h => (gI.1 hg).2
  rw [hqa] at hs
  simp only [XN] at hs
  simp [f2, f11, f12, f28, bx, hq, hqE, hl, hlt, hg, hgE, hs, w2]
  exact ⟨i + 1, by show T.n - (i + 1) < T.n - i; omega, by simp [f2, bx], by simp [f4], by simp [f5], by simp [f6], by simp [f8], by simp [f11], by simp [f12], by simp [f27], by simp, by omega, by simp⟩
 ·have hin : i = T.n := by have : ¬ i < T.n := by simpa using hc
                           omega
  subst hin
  simp [f4]
  refine zZ (SxK T x t order H) (fun k => order - k) 0 ⟨⟨by simp [f5], by simp [f6], by simp [f8], by simp [f11], by simp [f12], by simp, by simp, by omega⟩, _, fun _ => 0, _, _, rfl, ⟨rfl, rfl, rfl, rfl, rfl, fam_out0 x T.n, fam_l0 _⟩⟩ ?_
  clear f2 f4 f5 f6 f8 f11 f12 f27 f28
  rintro k fr H1 ⟨⟨f5, f6, f8, f11, f12, f40, f41, hk⟩, J, tag, co, cl, rfl, hM⟩
  have hJl := hM.len
  have h1 := hM.h1
  simp only [zr] at h1
  simp [f40, f41]
  refine zL (fun hc => ?_) (fun hc => ?_)
  ·have hklt : k < order := by simpa using hc
   simp [f6, h1]
   have wk : IntKind.i64.wrap ((k : Int) + 1) = ((k + 1 : Nat) : Int) := by rw [zj (by omega) (by omega)]; omega
   refine zZ (SxL T x t order H k) (fun i => T.L.length - i) 0 ⟨⟨by simp [f5], by simp [f6], by simp [f8], by simp [f11], by simp [f12], by simp [f40], by simp [f41], by omega⟩, by simp [f41], by simp, by simp, by simp, by omega, J, tag, co, cl, rfl, hM⟩ ?_
   clear f5 f6 f8 f11 f12 f40 f41 hM h1 hJl
   clear J tag co cl
   rintro i fr H1 ⟨⟨f5, f6, f8, f11, f12, f40, f41, _⟩, f14, f45, f46, f47, hi, J, tag, co, cl, rfl, hM⟩
   have hJl := hM.len
   simp [f46, f47]
   obtain ⟨e1, e2⟩ := j0 hT hx ht k
   have hrl := Yv hT ht e1 e2.val i hi
   refine zL (fun hc => ?_) (fun hc => ?_)
   ·have hlt : i < T.L.length := by simpa using hc
    obtain ⟨y, hy⟩ := zD hlt
    have hyE : ∀ h, T.L[i]'h = y := fun h => (gI.1 hy).2
    have hins := hT.ins i y hy
    have w2 : IntKind.i64.wrap ((i : Int) + 1) = ((i + 1 : Nat) : Int) := by rw [zj (by omega) (by omega)]; omega
    have hnext := Yu (out := (zH T x t k).2) (l := (zH T x t k).1) (t := t) (k := k) hy
    have hfin : ∀ (J' : AH) (tag' : Nat → Nat) (co' cl' : List AV), Zo .nilslice T t H.length J' tag' co' cl' (zH T x t k).2 (jG T.L (zH T x t k).2 t k (zH T x t k).1 (i + 1)) → ∀ fr' : zx, fK H T.n T.L.length order k fr' → fr' 14 = .int .i64 k → fr' 45 = .slice (T.L.map zG) false → fr' 46 = .int .i64 T.L.length → fr' 47 = .int .i64 (i + 1 : Nat) → Xt (SxL T x t order H k) (fun i => T.L.length - i) i fr' (H ++ J') :=
     fun J' tag' co' cl' hM' fr' g1 g2 g3 g4 g5 => ⟨i + 1, by show T.L.length - (i + 1) < T.L.length - i; omega, g1, g2, g3, g4, g5, by omega, J', tag', co', cl', rfl, hM'⟩
    generalize hL : jG T.L (zH T x t k).2 t k (zH T x t k).1 i = l at *
    generalize hO : (zH T x t k).2 = out at *
    rw [hnext] at hfin
    have hil : i < l.length := by rw [hrl.len]; exact hlt
    obtain ⟨q, hq⟩ := zD hil
    have hqr : zu l (i : Int) = q := ZT hq
    have hqk : q.length = k := by have := hrl.row i hlt; rw [hqr, if_neg (by omega)] at this; exact this
    obtain ⟨v, hv⟩ := zD (l := cl) (i := i) (by rw [hM.hl.1]; exact hil)
    have hvE : ∀ h, cl[i]'h = v := fun h => (gI.1 hv).2
    have hcll : cl.length = T.L.length := by rw [hM.hl.1, hrl.len]
    obtain ⟨o, a, b, c⟩ := y
    simp [f45, f47, hy, hyE, zG]
    have hM2 := hM.app [.row true 5 [.agg [.int .i64 o, .int .i64 a, .int .i64 b, .int .i64 c.1, .int .i64 c.2]]]
    have h16 : (J ++ [zE.row true 5 [.agg [.int .i64 o, .int .i64 a, .int .i64 b, .int .i64 c.1, .int .i64 c.2]]])[J.length]? = some (.row true 5 [.agg [.int .i64 o, .int .i64 a, .int .i64 b, .int .i64 c.1, .int .i64 c.2]]) := by simp
    generalize hJ2 : J ++ [zE.row true 5 [.agg [.int .i64 o, .int .i64 a, .int .i64 b, .int .i64 c.1, .int .i64 c.2]]] = J2 at *
    have hJ2l := hM2.len
    have hJ2n : J2 ≠ [] := by rintro rfl; simp at hJ2l
    have hJ2J : J2.length = J.length + 1 := by rw [← hJ2]; simp
    have m2 := hM2.h2
    have m3 := hM2.h3
    have m4 := hM2.h4
    simp only [XN] at m2
    refine zL (fun ho2 => ?_) (fun ho2 => ?_)
    ·have ho2 : o = 2 := by simpa using ho2
     subst ho2
     have hins : 0 ≤ a ∧ a < T.n := by rcases hins with h | h | h | h | h <;> simp only at h <;> omega
     obtain ⟨ka, rfl⟩ : ∃ ka : Nat, a = ka := ⟨a.toNat, by omega⟩
     obtain ⟨r, hr⟩ := zD (l := out) (i := ka) (by rw [e2.len]; omega)
     have hrr : zu out (ka : Int) = r := ZT hr
     have hrk : r.length = k + 1 := by have := e2.row ka (by omega); rw [hrr, if_neg (by omega)] at this; exact this
     obtain ⟨u, hu⟩ := zD (l := co) (i := ka) (by rw [hM.ho.1, e2.len]; omega)
     have huE : ∀ h, co[ka]'h = u := fun h => (gI.1 hu).2
     have hcol : co.length = T.n := by rw [hM.ho.1, e2.len]
     obtain ⟨z, hz⟩ := zD (l := r) (i := k) (by omega)
     have hzE : ∀ h, r[k]'h = z := fun h => (gI.1 hz).2
     have hcv : QQ ⟨2, ka, b, c⟩ out l t k i = z := by simp [QQ, hrr, zf, hz]
     rw [hcv, hqr] at hfin
     have hka : ka < T.n := by omega
     have hkk : (k : Int) < (k : Int) + 1 := by omega
     have hkn : k < k + 1 := by omega
     have hoF := hM2.ho.2 ka u r hu hr
     have hlF := hM2.hl.2 i v q hv hq
     rcases hoF with (⟨h0, _⟩ | ⟨_, z', h0, hu'⟩) | ⟨bo, hu', g2o, g5o, gto⟩
     ·rw [h0] at hrk; simp at hrk
     ·have hk0 : k = 0 := by rw [h0] at hrk; simpa using hrk.symm
      subst hk0
      have hzz : z' = z := by rw [h0] at hz; simpa using hz
      subst hzz
      subst hu'
      rcases hlF with (hn | ⟨hn, _⟩) | ⟨bl, rfl, g2l, g5l, gtl⟩
      ·obtain ⟨h0q, rfl⟩ := hn
       subst h0q
       simp [f11, f12, f14, h16, m3, m4, hv, hvE, hu, huE, hcll, hcol, hlt, hka]
       refine bind_some (Uo (.inl rfl)) ?_
       simp [f11, f12, f14, hcll, hlt, hv, hvE, m4, zi m4]
       refine zm [(4, 17), (5, 17), (16, 17)] (by rfl) (by simp [zl, zk, za.triv, za.wr, za.none, upTo, newAt]; omega) ?_
       simp [f47, w2]
       exact hfin _ _ _ _ (hM2.lN (i := i) (q := []) (p := z')) _ ⟨by simp [f5], by simp [f6], by simp [f8], by simp [f11], by simp [f12], by simp [f40], by simp [f41], by omega⟩ (by simp [f14]) (by simp [f45]) (by simp [f46]) (by simp)
      ·cases hn
      ·simp [f11, f12, f14, h16, m3, m4, hv, hvE, hu, huE, hcll, hcol, hlt, hka]
       refine bind_some (Vh (by omega) (by simpa using g2l)) ?_
       have m4b : (J2.set bl (zX (q ++ [z'])))[4]? = some (.row true 1 cl) := by rw [List.getElem?_set_ne (by omega)]; exact m4
       have hne : bl ≠ J.length := by rintro rfl; rw [h16] at g2l; simp [zX] at g2l
       simp [f11, f12, f14, hcll, hlt, hv, hvE, m4b]
       refine zm [(4, 17), (5, 17), (16, 17)] (by rfl) (by simp [zl, zk, za.triv, za.wr, za.none, upTo, newAt]; omega) ?_
       simp [f47, w2]
       exact hfin _ _ _ _ (hM2.lR (i := i) (q := q) (p := z') g2l g5l gtl) _ ⟨by simp [f5], by simp [f6], by simp [f8], by simp [f11], by simp [f12], by simp [f40], by simp [f41], by omega⟩ (by simp [f14]) (by simp [f45]) (by simp [f46]) (by simp)
     ·subst hu'
      have g2o' := g2o
      have hbo := (gI.1 g2o).1
      simp only [zX] at g2o'
      rcases hlF with (hn | ⟨hn, _⟩) | ⟨bl, rfl, g2l, g5l, gtl⟩
      ·obtain ⟨h0q, rfl⟩ := hn
       subst h0q
       simp [f11, f12, f14, h16, m3, m4, hv, hvE, hu, huE, hcll, hcol, hlt, hka, g2o', hz, hzE, hrk, hkk, hkn]
       refine bind_some (Uo (.inl rfl)) ?_
       simp [f11, f12, f14, hcll, hlt, hv, hvE, m4, zi m4]
       refine zm [(4, 17), (5, 17), (16, 17)] (by rfl) (by simp [zl, zk, za.triv, za.wr, za.none, upTo, newAt]; omega) ?_
       simp [f47, w2]
       exact hfin _ _ _ _ (hM2.lN (i := i) (q := []) (p := z)) _ ⟨by simp [f5], by simp [f6], by simp [f8], by simp [f11], by simp [f12], by simp [f40], by simp [f41], by omega⟩ (by simp [f14]) (by simp [f45]) (by simp [f46]) (by simp)
      ·cases hn
      ·simp [f11, f12, f14, h16, m3, m4, hv, hvE, hu, huE, hcll, hcol, hlt, hka, g2o', hz, hzE, hrk, hkk, hkn]
       refine bind_some (Vh (by omega) (by simpa using g2l)) ?_
       have m4b : (J2.set bl (zX (q ++ [z])))[4]? = some (.row true 1 cl) := by rw [List.getElem?_set_ne (by omega)]; exact m4
       have hne : bl ≠ J.length := by rintro rfl; rw [h16] at g2l; simp [zX] at g2l
       have hne2 : bo ≠ bl := by rintro rfl; omega
       simp [f11, f12, f14, hcll, hlt, hv, hvE, m4b]
       refine zm [(4, 17), (5, 17), (16, 17)] (by rfl) (by simp [zl, zk, za.triv, za.wr, za.none, upTo, newAt]; omega) ?_
       simp [f47, w2]
       exact hfin _ _ _ _ (hM2.lR (i := i) (q := q) (p := z) g2l g5l gtl) _ ⟨by simp [f5], by simp [f6], by simp [f8], by simp [f11], by simp [f12], by simp [f40], by simp [f41], by omega⟩ (by simp [f14]) (by simp [f45]) (by simp [f46]) (by simp)
    ·have ho2 : o ≠ 2 := by simpa using ho2
     have hnx : zcW ⟨o, a, b, c⟩ l q.length := by
      have hrow : ∀ z : Int, 0 ≤ z → z < i → (zu l z).length = q.length + 1 := by
       intro z h1 h2
       obtain ⟨kz, rfl⟩ : ∃ kz : Nat, z = kz := ⟨z.toNat, by omega⟩
       have := hrl.row kz (by omega)
       rw [if_pos (by omega)] at this
       rw [this, hqk]
      rcases hins with h | h | h | h | h <;> simp only at h
      ·exact .inl h
      ·exact absurd h.1 ho2
      ·exact .inr (.inl h)
      ·exact .inr (.inr (.inl ⟨h.1, h.2.1, h.2.2.1, hrow _ h.2.2.1 h.2.2.2.1⟩))
      ·exact .inr (.inr (.inr ⟨h.1, h.2.1, h.2.2.1, h.2.2.2.2.1, hrow _ h.2.2.1 h.2.2.2.1, hrow _ h.2.2.2.2.1 h.2.2.2.2.2⟩))
     have hcv : QQ ⟨o, a, b, c⟩ out l t k i = qq ⟨o, a, b, c⟩ l q t := by simp [QQ, ho2, hqr]
     rw [hcv, hqr] at hfin
     have hlF := hM2.hl.2 i v q hv hq
     have hqv : zq q := hrl.val q (List.mem_of_getElem? hq)
     have hS := fun X : AH => sNext ⟨o, a, b, c⟩ (H.length + 4) cl l q v t hnx hrl.val hqv ht (by omega) (H ++ (J2 ++ X)) ((hM2.app X).hl.rows (by rw [jI]; exact zi m4) (.inl rfl)) ((hM2.app X).hl.own hv hq (.inl rfl))
     rw [hrl.len] at hS
     have m0 := hM2.h0
     simp only [qP, zS] at m0
     rcases hlF with (hn | ⟨hn, _⟩) | ⟨bl, rfl, g2l, g5l, gtl⟩
     ·obtain ⟨h0q, rfl⟩ := hn
      subst h0q
      simp [f5, f8, f11, f12, f14, h16, m0, m2, m4, hv, hvE, hcll, hlt]
      refine Ui (fun X => by simpa [qP, zS, zG] using hS X) ?_
      generalize qq ⟨o, a, b, c⟩ l [] t = z at *
      simp
      refine bind_some (Uo (.inl rfl)) ?_
      simp [f11, f12, f14, hcll, hlt, hv, hvE, m4, zi m4]
      refine zm [(4, 18), (5, 18), (11, 18), (12, 18), (14, 18), (17, 18), (14, 16)] (by rfl) (by simp [zl, zk, za.triv, za.wr, za.none, upTo, newAt, hJ2n]; omega) ?_
      simp [f47, w2]
      exact hfin _ _ _ _ (hM2.lN (i := i) (q := []) (p := z)) _ ⟨by simp [f5], by simp [f6], by simp [f8], by simp [f11], by simp [f12], by simp [f40], by simp [f41], by omega⟩ (by simp [f14]) (by simp [f45]) (by simp [f46]) (by simp)
     ·cases hn
     ·simp [f5, f8, f11, f12, f14, h16, m0, m2, m4, hv, hvE, hcll, hlt]
      refine Ui (fun X => by simpa [qP, zS, zG] using hS X) ?_
      generalize qq ⟨o, a, b, c⟩ l q t = z at *
      simp
      refine bind_some (Vh (by omega) (by simpa using g2l)) ?_
      have m4b : (J2.set bl (zX (q ++ [z])))[4]? = some (.row true 1 cl) := by rw [List.getElem?_set_ne (by omega)]; exact m4
      have hne : bl ≠ J.length := by rintro rfl; rw [h16] at g2l; simp [zX] at g2l
      simp [f11, f12, f14, hcll, hlt, hv, hvE, m4b]
      refine zm [(4, 18), (5, 18), (11, 18), (12, 18), (14, 18), (17, 18), (14, 16)] (by rfl) (by simp [zl, zk, za.triv, za.wr, za.none, upTo, newAt, hJ2n]; omega) ?_
      simp [f47, w2]
      exact hfin _ _ _ _ (hM2.lR (i := i) (q := q) (p := z) g2l g5l gtl) _ ⟨by simp [f5], by simp [f6], by simp [f8], by simp [f11], by simp [f12], by simp [f40], by simp [f41], by omega⟩ (by simp [f14]) (by simp [f45]) (by simp [f46]) (by simp)
   ·have hin : i = T.L.length := by have : ¬ i < T.L.length := by simpa using hc
                                    omega
    subst hin
    have h1 := hM.h1
    simp only [zr] at h1
    simp [f6, h1, qx]
    refine zZ (SxO T x t order H k) (fun i => T.out.length - i) 0 ⟨⟨by simp [f5], by simp [f6], by simp [f8], by simp [f11], by simp [f12], by simp [f40], by simp [f41], by omega⟩, by simp [f14], by simp [qx], by simp, by simp, by omega, J, tag, co, cl, rfl, hM⟩ ?_
    clear f5 f6 f8 f11 f12 f40 f41 f14 f45 f46 f47 hM h1 hJl hrl
    clear J tag co cl
    rintro i fr H1 ⟨⟨f5, f6, f8, f11, f12, f40, f41, _⟩, f14, f92, f93, f94, hi, J, tag, co, cl, rfl, hM⟩
    have hJl := hM.len
    simp [f93, f94]
    obtain ⟨e3, e4⟩ := j0 hT hx ht (k + 1)
    have hro := UC hT e3.val e2 i (by rw [← hT.len]; exact hi)
    refine zL (fun hc => ?_) (fun hc => ?_)
    ·have hlt : i < T.out.length := by simpa using hc
     obtain ⟨y, hy⟩ := zD hlt
     have hyE : ∀ h, T.out[i]'h = y := fun h => (gI.1 hy).2
     have hyl := hT.out y (List.mem_of_getElem? hy)
     have hltn : i < T.n := by rw [← hT.len]; exact hlt
     have w2 : IntKind.i64.wrap ((i : Int) + 1) = ((i + 1 : Nat) : Int) := by rw [zj (by omega) (by omega)]; omega
     have hnext := Yt (l := (zH T x t (k + 1)).1) (out := (zH T x t k).2) (k := k) hy
     have hfin : ∀ (J' : AH) (tag' : Nat → Nat) (co' cl' : List AV), Zo .nilslice T t H.length J' tag' co' cl' (j5 T (zH T x t (k + 1)).1 k (zH T x t k).2 (i + 1)) (zH T x t (k + 1)).1 → ∀ fr' : zx, fK H T.n T.L.length order k fr' → fr' 14 = .int .i64 k → fr' 92 = qx T.out → fr' 93 = .int .i64 T.out.length → fr' 94 = .int .i64 (i + 1 : Nat) → Xt (SxO T x t order H k) (fun i => T.out.length - i) i fr' (H ++ J') :=
      fun J' tag' co' cl' hM' fr' g1 g2 g3 g4 g5 => ⟨i + 1, by show T.out.length - (i + 1) < T.out.length - i; omega, g1, g2, g3, g4, g5, by omega, J', tag', co', cl', rfl, hM'⟩
     generalize hL : (zH T x t (k + 1)).1 = l at *
     generalize hO : j5 T l k (zH T x t k).2 i = out at *
     rw [hnext] at hfin
     have hil : i < out.length := by rw [hro.len]; exact hltn
     obtain ⟨q, hq⟩ := zD hil
     have hqr : zu out (i : Int) = q := ZT hq
     have hqk : q.length = k + 1 := by have := hro.row i hltn; rw [hqr, if_neg (by omega)] at this; exact this
     obtain ⟨v, hv⟩ := zD (l := co) (i := i) (by rw [hM.ho.1]; exact hil)
     have hvE : ∀ h, co[i]'h = v := fun h => (gI.1 hv).2
     have hcol : co.length = T.n := by rw [hM.ho.1, hro.len]
     obtain ⟨r, hr⟩ := zD (l := l) (i := y) (by rw [e3.len]; exact hyl)
     have hrr : zu l (y : Int) = r := ZT hr
     have hrk : r.length = k + 1 := by have := e3.row y hyl; rw [hrr, if_neg (by omega)] at this; exact this
     obtain ⟨u, hu⟩ := zD (l := cl) (i := y) (by rw [hM.hl.1, e3.len]; exact hyl)
     have huE : ∀ h, cl[y]'h = u := fun h => (gI.1 hu).2
     have hcll : cl.length = T.L.length := by rw [hM.hl.1, e3.len]
     obtain ⟨z, hz⟩ := zD (l := r) (i := k) (by omega)
     have hzE : ∀ h, r[k]'h = z := fun h => (gI.1 hz).2
     have hzv : vB z = true := e3.val r (List.mem_of_getElem? hr) z (List.mem_of_getElem? hz)
     have hkk : (k : Int) < (k : Int) + 1 := by omega
     have hkn : k < k + 1 := by omega
     have hJn : J ≠ [] := by rintro rfl; simp at hJl
     rw [hrr, hqr, show zf r k = z by simp [zf, hz]] at hfin
     have hoF := hM.ho.2 i v q hv hq
     have hlF := hM.hl.2 y u r hu hr
     have m0 := hM.h0
     have m3 := hM.h3
     have m4 := hM.h4
     simp only [qP, zS] at m0
     rcases hlF with (⟨h0, _⟩ | ⟨h0, _⟩) | ⟨bl, hu', g2l, g5l, gtl⟩
     ·rw [h0] at hrk; simp at hrk
     ·cases h0
     subst hu'
     have g2l' := g2l
     have hbl := (gI.1 g2l).1
     simp only [zX] at g2l'
     rcases hoF with (⟨h0, _⟩ | ⟨_, a, h0, hv'⟩) | ⟨bo, hv', g2o, g5o, gto⟩
     ·rw [h0] at hqk; simp at hqk
     ·subst hv'
      subst h0
      simp [f92, f93, f94, f11, f12, f14, f5, hy, hyE, qx, m0, m3, m4, hv, hvE, hu, huE, hcll, hcol, hltn, hyl, g2l', hz, hzE, hrk, hkk, hkn, wk]
      refine zB (fun Hx => by simpa using sDivide z ((k + 1 : Nat) : Int) hzv (by omega) Hx) ?_
      generalize jM z 1 (k + 1) = d at *
      simp
      refine bind_some app_new1 ?_
      simp [f11, f12, f14, hcol, hltn, hv, hvE, m3, zi m3]
      refine zm [(4, 21), (5, 21), (20, 21)] (by rfl) (by simp [zl, zk, za.triv, za.wr, za.none, upTo, newAt, hJn]; omega) ?_
      simp [f94, w2]
      exact hfin _ _ _ _ (hM.oN (i := i) (q := [a]) (p := d)) _ ⟨by simp [f5], by simp [f6], by simp [f8], by simp [f11], by simp [f12], by simp [f40], by simp [f41], by omega⟩ (by simp [f14]) (by simp [f92]) (by simp [f93]) (by simp)
     ·subst hv'
      have hne2 : bo ≠ bl := by rintro rfl; omega
      simp [f92, f93, f94, f11, f12, f14, f5, hy, hyE, qx, m0, m3, m4, hv, hvE, hu, huE, hcll, hcol, hltn, hyl, g2l', hz, hzE, hrk, hkk, hkn, wk]
      refine zB (fun Hx => by simpa using sDivide z ((k + 1 : Nat) : Int) hzv (by omega) Hx) ?_
      generalize jM z 1 (k + 1) = d at *
      simp
      refine bind_some (Vh (by omega) (by simpa using g2o)) ?_
      have m3b : (J.set bo (zX (q ++ [d])))[3]? = some (.row true 1 co) := by rw [List.getElem?_set_ne (by omega)]; exact m3
      simp [f11, f12, f14, hcol, hltn, hv, hvE, m3b]
      refine zm [(4, 21), (5, 21), (20, 21)] (by rfl) (by simp [zl, zk, za.triv, za.wr, za.none, upTo, newAt, hJn]; omega) ?_
      simp [f94, w2]
      exact hfin _ _ _ _ (hM.oR (i := i) (q := q) (p := d) g2o g5o gto) _ ⟨by simp [f5], by simp [f6], by simp [f8], by simp [f11], by simp [f12], by simp [f40], by simp [f41], by omega⟩ (by simp [f14]) (by simp [f92]) (by simp [f93]) (by simp)
    ·have hin : i = T.out.length := by have : ¬ i < T.out.length := by simpa using hc
                                       omega
     subst hin
     simp [f41, wk]
     exact ⟨k + 1, by show order - (k + 1) < order - k; omega, ⟨by simp [f5], by simp [f6], by simp [f8], by simp [f11], by simp [f12], by simp [f40], by simp, by omega⟩, J, tag, co, cl, rfl, hM⟩
  ·have hkn : k = order := by have : ¬ k < order := by simpa using hc
                              omega
   subst hkn
   obtain ⟨_, e4⟩ := j0 hT hx ht k
   have hcf : qw T x t k = (zH T x t k).2 := rfl
   rw [hcf] at g1 g2
   have hlen2 : ∀ q ∈ (zH T x t k).2, 2 ≤ q.length := fun q hq => by
    obtain ⟨j, hj⟩ := List.mem_iff_getElem?.1 hq
    have := e4.row j (by rw [← e4.len]; exact (gI.1 hj).1)
    rw [ZT hj, if_neg (by omega)] at this
    omega
   obtain ⟨σ, hσ⟩ := fam_fills hM.ho hM.h3 (by omega) hlen2 (by rw [e4.len]; exact hd) hlen g1 g2 (by rw [e4.len]; exact g3)
   rw [e4.len] at hσ
   simp [f11]
   exact ⟨_, _, σ, hσ, Zx (rs := [.tmp 10]) (vs := [.ref (H.length + 3) T.n]) (by rfl) (by simp [ze]) rfl⟩
def qG (p : Nat) (l : List (List I)) : AH := .row true 1 (qC p l) :: l.map zX
theorem jS (p : Nat) (l : List (List I)) : (qG p l).length = l.length + 1 := by simp [qG]
def Qg (n : Nat) : AH := List.replicate (n + 1) .dead
theorem ZF (n : Nat) : (Qg n).length = n + 1 := by simp [Qg]
theorem outJ_noFB {p m : Nat} {l : List (List I)} (hm : p + l.length < m) : ∀ k ∈ qG p l, qh m k = true := by
 intro k hk
 simp only [qG, List.mem_cons, List.mem_map] at hk
 rcases hk with rfl | ⟨q, _, rfl⟩
 ·simp only [qh]
  rw [jL]
  intro x hx
  simp only [qC, List.mem_map, List.mem_range] at hx
  obtain ⟨j, hj, rfl⟩ := hx
  simp [noF]; omega
 ·simp only [zX, qh]
  rw [jL]
  exact zbS m q
theorem Wn {H0 K K' : AH} {c : Nat} (h : c < H0.length) : (H0 ++ K)[c]? = (H0 ++ K')[c]? := by rw [List.getElem?_append_left h, List.getElem?_append_left h]
theorem W8 {H0 A B X : AH} {c : Nat} (h : A.length = B.length) (hc : H0.length + A.length ≤ c) : (H0 ++ (A ++ X))[c]? = (H0 ++ (B ++ X))[c]? := by
 have h1 : H0.length ≤ c := by omega
 have h2 : A.length ≤ c - H0.length := by omega
 have h3 : B.length ≤ c - H0.length := by omega
 rw [List.getElem?_append_right h1, List.getElem?_append_right h1, List.getElem?_append_right h2, List.getElem?_append_right h3, h]
theorem dead_get {n i : Nat} {k : zE} (h : (Qg n)[i]? = some k) : k = .dead := List.eq_of_mem_replicate (List.mem_of_getElem? h)
theorem zaH (H0 X : AH) (l : List (List I)) : alters (H0 ++ (Qg l.length ++ X)) (H0 ++ (qG H0.length l ++ X)) := by
 refine ⟨by simp [jS, ZF], fun c => ?_⟩
 by_cases h : c < H0.length
 ·exact .inl (Wn h)
 ·by_cases h2 : c - H0.length < l.length + 1
  ·right; left
   refine ⟨(qG H0.length l)[c - H0.length]'(by rw [jS]; exact h2), ?_, ?_⟩
   ·rw [List.getElem?_append_right (by omega), List.getElem?_append_left (by rw [jS]; exact h2)]; simp
   ·exact outJ_noFB (by simp [ZF]; omega) _ (List.getElem_mem _)
  ·exact .inl (W8 (by rw [jS, ZF]) (by rw [jS]; omega))
theorem dead_at {H0 X : AH} {n : Nat} (j : Nat) (h : j ≤ n) : (H0 ++ (Qg n ++ X))[H0.length + j]? = some .dead := by
 rw [jI, List.getElem?_append_left (by rw [ZF]; omega)]
 simp only [Qg]
 rw [List.getElem?_replicate, if_pos (by omega)]
theorem zaT {H0 X : AH} {l : List (List I)} {j : Nat} {q : List I} (h : l[j]? = some q) : (H0 ++ (qG H0.length l ++ X))[H0.length + 1 + j]? = some (zX q) := by
 have hlt := (gI.1 h).1
 rw [Nat.add_assoc, jI, List.getElem?_append_left (by rw [jS]; omega)]
 rw [show 1 + j = j + 1 by omega]
 simp [qG, h]
theorem finO {fr : zx} {fn : Func} {rs : List ResultVar} {H0 X J : AH} {l : List (List I)} {v : AV} {e : jJ} (hr : fn.results.toList = rs) (h : ze E fr (H0 ++ (qG H0.length l ++ X) ++ J) rs = some [v]) (hv : noF (H0 ++ (Qg l.length ++ X)).length v = true) (hx : e = .ret ∨ e = .normal := by simp) :
  jd E fn (H0 ++ (Qg l.length ++ X)) (.ret v) (H0 ++ (qG H0.length l ++ X)) e fr (H0 ++ (qG H0.length l ++ X) ++ J) := by
 have ha := zaH H0 X l
 exact finU hr h ha.1 (fun b => by
  rcases ha.2 b with h | h | ⟨k, st, st', frs, h1, h2⟩
  ·exact .inl h
  ·exact .inr h
  ·rcases Nat.lt_or_ge b H0.length with h3 | h3
   ·exact .inl (Wn h3)
   ·by_cases h4 : b - H0.length < l.length + 1
    ·exfalso
     rw [List.getElem?_append_right h3, List.getElem?_append_left (by rw [ZF]; exact h4)] at h1
     cases dead_get h1
    ·exact .inl (W8 (by rw [jS, ZF]) (by rw [jS]; omega))) hv hx
theorem Qv {T : Tp} {x : List I} {t : I} {order : Nat} (hT : z8 T) (hx : zq x) (ht : vB t = true) : (qw T x t order).length = T.n := (j0 hT hx ht order).2.len
theorem sExpand' (T : Tp) (x : List I) (t : I) (order : Nat) (hT : z8 T) (hx : zq x) (hxn : x.length = T.n) (ht : vB t = true) (ho : 1 ≤ order ∧ order ≤ 1000) (H0 X : AH) :
  zg E 227 [qP, zr T, bx x, iv t, .int .i64 order] (H0 ++ (Qg T.n ++ X)) (.ret (.ref H0.length T.n)) (H0 ++ (qG H0.length (qw T x t order) ++ X)) := by
 have hl := Qv (order := order) hT hx ht
 have ha := zaH H0 X (qw T x t order)
 rw [hl] at ha
 refine sExpand T x t order hT hx hxn ht ho _ _ H0.length (fun j hj => dead_at j hj) ha.1 (by simp [qG]) (fun j q hq => zaT hq) (fun c hc h => ?_)
 rcases Nat.lt_or_ge c H0.length with h3 | h3
 ·exact Wn h3
 ·exact W8 (by rw [jS, ZF, hl]) (by rw [jS, hl]; omega)
theorem sCoef (T : Tp) (x : List I) (t : I) (order : Nat) (hT : z8 T) (hx : zq x) (hxn : x.length = T.n) (ht : vB t = true) (ho : 1 ≤ order ∧ order ≤ 1000) (H0 X : AH) :
  zg E 172 [zr T, bx x, iv t, .int .i64 order] (H0 ++ (Qg T.n ++ X)) (.ret (.ref H0.length T.n)) (H0 ++ (qG H0.length (qw T x t order) ++ X)) := by
 refine zt zn zo Tryz.func172 rfl (by rfl) Tryz.ntmps172 (by kernel_rfl) (by simp) ?_
 have hS := sExpand' T x t order hT hx hxn ht ho
 have hl := Qv (order := order) hT hx ht
 generalize hc : qw T x t order = l at *
 simp [zr]
 refine zB (fun Hx => by simpa [qP, zS] using sIntervals Hx) ?_
 simp
 refine za1 (r := .ref H0.length T.n) (K := H0 ++ (qG H0.length l ++ (X ++ [.row true 3 [zr T], .row true 2 [iv t]]))) (by simp [jS, ZF, hl]) (fun Y => by
  have := hS H0 (X ++ [.row true 3 [zr T], .row true 2 [iv t]] ++ Y)
  simp [qP, zS, zr] at this ⊢
  exact this) ?_
 simp
 refine zm [(1, 5), (3, 5)] (by rfl) (by simp [zl, zk, za.triv, za.wr, za.none, upTo, newAt, ZF]) ?_
 simp
 have e : H0 ++ (qG H0.length l ++ (X ++ [.row true 3 [zr T], .row true 2 [.agg [.int .i64 t.1, .int .i64 t.2]]])) = H0 ++ (qG H0.length l ++ X) ++ [.row true 3 [zr T], .row true 2 [.agg [.int .i64 t.1, .int .i64 t.2]]] := by simp
 rw [e, ← hl]
 exact finO (rs := [.tmp 8]) (by rfl) (by simp [ze]) (by simp [noF, ZF]; omega)
theorem YC {p : Nat} {l : List (List I)} {j : Nat} {q : List I} (h : l[j]? = some q) : (qC p l)[j]? = some (.ref (p + 1 + j) q.length) := by
 have hlt := (gI.1 h).1
 have hE : l[j] = q := (gI.1 h).2
 simp [qC, hlt, zu, hE]
theorem Jx (p : Nat) (l : List (List I)) : (qC p l).length = l.length := by simp [qC]
theorem kRem1 (i order b c : Nat) (q : List I) (z : I) (w w2 : Bool) (ho : order ≤ 1000) (hz : q[order + 1]? = some z) (H : AH) (hc : H[c]? = some (.row w 1 [.int .i64 order])) (hb : H[b]? = some (.row w2 2 (q.map iv))) :
  zg E 225 [.int .i64 i, .ref b q.length, .ptr c 1 0 0] H (.ret (iv z)) H := by
 refine zt zn zo Tryz.func225 rfl (by rfl) Tryz.ntmps225 (by kernel_rfl) (by simp) ?_
 have hcl := (gI.1 hc).1
 have hbl := (gI.1 hb).1
 have hlt := (gI.1 hz).1
 have hzE : ∀ h, q[order + 1]'h = z := fun h => (gI.1 hz).2
 have w1 : IntKind.i64.wrap ((order : Int) + 1) = ((order + 1 : Nat) : Int) := by rw [zj (by omega) (by omega)]; omega
 have hltI : (order : Int) + 1 < q.length := by omega
 have h0o : (0 : Int) ≤ (order : Int) + 1 := by omega
 simp [hc, zi hc, hb, zi hb, w1, hz, hzE, hlt, hltI, h0o]
 exact zv (rs := [.cell 5 48]) (by rfl) (by simp [ze]) (by simp [zh, noF])
def LMr (l : List (List I)) (f : Nat → I) (g : FuncId) (caps : List AV) (p : Nat) (H : AH) (i : Nat) (fr : zx) (H' : AH) : Prop :=
 fr 1 = .func (.func g) [] caps ∧ fr 5 = .ref H.length l.length ∧ fr 11 = .ref p l.length ∧ fr 12 = .int .i64 l.length ∧ fr 13 = .int .i64 i ∧ i ≤ l.length ∧ H' = H ++ [.row true 2 (ji ((List.range i).map f) l.length)]
theorem kMapR (l : List (List I)) (f : Nat → I) (g : FuncId) (caps : List AV) (p : Nat) (hl : l.length ≤ 1000000) (H : AH) (hp : H[p]? = some (.row true 1 (qC p l)))
  (hf : ∀ (j : Nat) q, l[j]? = some q → ∀ X : AH, zg E g ([.int .i64 j, .ref (p + 1 + j) q.length] ++ caps) (H ++ X) (.ret (iv (f j))) (H ++ X)) :
  zg E 224 [.ref p l.length, .func (.func g) [] caps] H (.ret (bx ((List.range l.length).map f))) H := by
 refine zt zn zo Tryz.func224 rfl (by rfl) Tryz.ntmps224 (by kernel_rfl) (by simp) ?_
 have hpl := (gI.1 hp).1
 simp [hp, zi hp, Jx]
 refine ZQ (by omega) ?_
 simp [hp, zi hp, Jx]
 refine zZ (LMr l f g caps p H) (fun i => l.length - i) 0 ⟨by simp, by simp, by simp, by simp, by simp, by omega, by simp [zbY]⟩ ?_
 rintro i fr H' ⟨g1, g5, g11, g12, g13, hi, rfl⟩
 simp [g12, g13]
 refine zL (fun hc => ?_) (fun hc => ?_)
 ·have hlt : i < l.length := by simpa using hc
  obtain ⟨q, hq⟩ := zD hlt
  have hr := YC (p := p) hq
  have hrE : ∀ h, (qC p l)[i]'h = .ref (p + 1 + i) q.length := fun h => (gI.1 hr).2
  have w2 : IntKind.i64.wrap ((i : Int) + 1) = ((i + 1 : Nat) : Int) := by rw [zj (by omega) (by omega)]; omega
  have hW0 : (ji ((List.range i).map f) l.length)[i]? = some (iv (0, 0)) := zbB (by simp) hlt
  have hWl : (ji ((List.range i).map f) l.length).length = l.length := zbZ (by simp; omega)
  have hWset : (ji ((List.range i).map f) l.length).set i (iv (f i)) = ji ((List.range (i + 1)).map f) l.length := by
   have := zbX (l := (List.range i).map f) (n := l.length) (p := f i) (by simp; omega)
   rw [List.length_map, List.length_range] at this
   rw [this, List.range_succ, List.map_append]
   simp
  have hS := hf i q hq
  generalize ji ((List.range i).map f) l.length = W at *
  have hW0E : ∀ h, W[i]'h = iv (0, 0) := fun h => (gI.1 hW0).2
  simp [g1, g5, g11, g13, hp, zi hp, Jx, hlt, hr, hrE]
  refine zd (by simpa using hS _) ?_
  simp [g5, g13, hWl, hlt, hW0, hW0E, w2]
  exact ⟨i + 1, by show l.length - (i + 1) < l.length - i; omega, by simp [g1], by simp [g5], by simp [g11], by simp [g12], by simp, by omega, by rw [← hWset]; simp⟩
 ·have hi' : i = l.length := by have : ¬ i < l.length := by simpa using hc
                                omega
  subst hi'
  rw [zb0 (by simp)]
  simp [g5]
  exact ZO (t := 4) (v := .ref (H.length + 0) l.length) (v0 := .nilslice) (sz := 2) (xs := ((List.range l.length).map f).map iv) (by rfl) (by simp) (.inr ⟨0, by simp, by simp⟩) rfl (js _ _)
theorem kRemainder (T : Tp) (b : List I) (t h : Int) (order : Nat) (hT : z8 T) (hb : zq b) (hbn : b.length = T.n) (hh : 0 ≤ h ∧ h ≤ 1000000000) (ht : -1000000000 ≤ t ∧ t ≤ 1000000000) (ho : order ≤ 900) (H : AH) :
  zg E 170 [zr T, bx b, .agg [.int .i64 t, .int .i64 h], .int .i64 order] H (.ret (bx (j6 T b t h order))) H := by
 refine Yw (T.n + 1) zn zo Tryz.func170 rfl (by rfl) Tryz.ntmps170 (by kernel_rfl) (by simp) ?_
 rw [show List.replicate (T.n + 1) zE.dead = Qg T.n from rfl]
 have hsm := hT.small
 have htv : vB (t, t + h) = true := qA (by omega) (by omega) (by omega)
 have hS := sCoef T b (t, t + h) (order + 1) hT hb hbn htv (by omega)
 have hl := Qv (order := order + 1) hT hb htv
 have he : j6 T b t h order = (List.range (qw T b (t, t + h) (order + 1)).length).map (fun j : Nat => zf (zu (qw T b (t, t + h) (order + 1)) (j : Int)) (order + 1)) := by
  unfold j6
  apply List.ext_getElem?
  intro j
  rw [List.getElem?_map, List.getElem?_map]
  by_cases hj : j < (qw T b (t, t + h) (order + 1)).length
  ·rw [List.getElem?_range hj, List.getElem?_eq_getElem hj]
   simp [zu, hj]
  ·rw [List.getElem?_eq_none (by omega), List.getElem?_eq_none (by simp; omega)]; rfl
 rw [he]
 have hrow : ∀ (j : Nat) q, (qw T b (t, t + h) (order + 1))[j]? = some q → q.length = order + 2 := fun j q hq => by
  have := (j0 hT hb htv (order + 1)).2.row j (by rw [← hl]; exact (gI.1 hq).1)
  rw [show (zH T b (t, t + h) (order + 1)).2 = qw T b (t, t + h) (order + 1) from rfl, ZT hq] at this
  simpa using this
 generalize hc : qw T b (t, t + h) (order + 1) = l at *
 have w1 : IntKind.i64.wrap ((order : Int) + 1) = ((order + 1 : Nat) : Int) := by rw [zj (by omega) (by omega)]; omega
 have w2 : IntKind.i64.wrap (t + h) = t + h := zj (by omega) (by omega)
 simp [zr, w1, w2]
 refine zd (by
  have := hS H [.row true 3 [zr T], .row true 2 [.agg [.int .i64 t, .int .i64 h]], .row true 1 [.int .i64 order]]
  simp [zr] at this ⊢
  exact this) ?_
 simp
 have hM := kMapR l (fun j : Nat => zf (zu l (j : Int)) (order + 1)) 225 [.ptr (H.length + (T.n + 1 + 2)) 1 0 0] H.length (by omega) (H ++ (qG H.length l ++ [.row true 3 [zr T], .row true 2 [.agg [.int .i64 t, .int .i64 h]], .row true 1 [.int .i64 order]])) (by simp [qG]) (fun j q hq X => by
  have hql := hrow j q hq
  obtain ⟨z, hz⟩ := zD (l := q) (i := order + 1) (by omega)
  have e : zf (zu l (j : Int)) (order + 1) = z := by simp [ZT hq, zf, hz]
  rw [e]
  refine kRem1 j order _ _ q z true true (by omega) hz _ (zi ?_) (zi (zaT hq))
  rw [jI, List.getElem?_append_right (by rw [jS]; omega), jS, hl, Nat.add_sub_cancel_left]; rfl)
 rw [hl] at hM
 refine zd (by simpa [zr, ZF] using hM) ?_
 simp
 rw [hl]
 exact zv (rs := [.tmp 8]) (by rfl) (by simp [ze]) (by simp only [bx, noF, js])
def jR (q : List I) : zE := .row false 2 (q.map iv)
theorem kEnc1 (i b c : Nat) (q r : List I) (z : I) (w : Bool) (hz : r[i]? = some z) (hq : q.length ≤ 1000000) (H : AH) (hc : H[c]? = some (.row w 1 [bx r])) (hb : H[b]? = some (zX q)) :
  zg E 174 [.int .i64 i, .ref b q.length, .ptr c 1 0 0] H (.ret (.ref b (q.length + 1))) (H.set b (zX (q ++ [z]))) := by
 refine zt zn zo Tryz.func174 rfl (by rfl) Tryz.ntmps174 (by kernel_rfl) (by simp) ?_
 have hcl := (gI.1 hc).1
 have hbl := (gI.1 hb).1
 have hlt := (gI.1 hz).1
 have hzE : ∀ h, r[i]'h = z := fun h => (gI.1 hz).2
 simp only [bx] at hc
 simp [hc, hz, hzE, hlt]
 refine bind_some (Vh hq hb) ?_
 simp
 exact Zx (rs := [.tmp 5]) (vs := [.ref b (q.length + 1)]) (by rfl) (by simp [ze]) rfl
def Qt (l : List (List I)) (r : List I) (i : Nat) : List zE := (List.range l.length).map fun j : Nat => if j < i then zX (zu l (j : Int) ++ [zf r j]) else zX (zu l (j : Int))
def QN (p : Nat) (l : List (List I)) (i : Nat) : List AV := (List.range l.length).map fun j : Nat => if j < i then .ref (p + 1 + j) ((zu l (j : Int)).length + 1) else .nilslice
theorem Qs (l : List (List I)) (r : List I) (i : Nat) : (Qt l r i).length = l.length := by simp [Qt]
theorem Ub (p : Nat) (l : List (List I)) (i : Nat) : (QN p l i).length = l.length := by simp [QN]
theorem XX {l : List (List I)} {r : List I} {i j : Nat} (h : j < l.length) : (Qt l r i)[j]? = some (if j < i then zX (zu l (j : Int) ++ [zf r j]) else zX (zu l (j : Int))) := by
 unfold Qt; rw [List.getElem?_map, List.getElem?_range h]; rfl
theorem Uc {p : Nat} {l : List (List I)} {i j : Nat} (h : j < l.length) : (QN p l i)[j]? = some (if j < i then .ref (p + 1 + j) ((zu l (j : Int)).length + 1) else .nilslice) := by
 unfold QN; rw [List.getElem?_map, List.getElem?_range h]; rfl
theorem extB_zero (l : List (List I)) (r : List I) : Qt l r 0 = l.map zX := by
 apply List.ext_getElem?
 intro j
 by_cases h : j < l.length
 ·rw [XX h, if_neg (by omega), List.getElem?_map, List.getElem?_eq_getElem h]; simp [zu, h]
 ·rw [List.getElem?_eq_none (by rw [Qs]; omega), List.getElem?_eq_none (by simp; omega)]
theorem extC_zero (p : Nat) (l : List (List I)) : QN p l 0 = List.replicate l.length .nilslice := by
 apply List.ext_getElem?
 intro j
 by_cases h : j < l.length
 ·rw [Uc h, if_neg (by omega), List.getElem?_replicate, if_pos h]
 ·rw [List.getElem?_eq_none (by rw [Ub]; omega), List.getElem?_eq_none (by simp; omega)]
theorem extB_set {l : List (List I)} {r : List I} {i : Nat} (h : i < l.length) : (Qt l r i).set i (zX (zu l (i : Int) ++ [zf r i])) = Qt l r (i + 1) := by
 apply List.ext_getElem?
 intro j
 by_cases hj : j < l.length
 ·by_cases hij : i = j
  ·subst hij; rw [List.getElem?_set_self (by rw [Qs]; exact h), XX h, if_pos (by omega)]
  ·rw [List.getElem?_set_ne hij, XX hj, XX hj]
   by_cases h1 : j < i
   ·rw [if_pos h1, if_pos (by omega)]
   ·rw [if_neg h1, if_neg (by omega)]
 ·rw [List.getElem?_eq_none (by rw [List.length_set, Qs]; omega), List.getElem?_eq_none (by rw [Qs]; omega)]
theorem extC_set {p : Nat} {l : List (List I)} {i : Nat} (h : i < l.length) : (QN p l i).set i (.ref (p + 1 + i) ((zu l (i : Int)).length + 1)) = QN p l (i + 1) := by
 apply List.ext_getElem?
 intro j
 by_cases hj : j < l.length
 ·by_cases hij : i = j
  ·subst hij; rw [List.getElem?_set_self (by rw [Ub]; exact h), Uc h, if_pos (by omega)]
  ·rw [List.getElem?_set_ne hij, Uc hj, Uc hj]
   by_cases h1 : j < i
   ·rw [if_pos h1, if_pos (by omega)]
   ·rw [if_neg h1, if_neg (by omega)]
 ·rw [List.getElem?_eq_none (by rw [List.length_set, Ub]; omega), List.getElem?_eq_none (by rw [Ub]; omega)]
theorem VS (l : List (List I)) (r : List I) : (qW l r).length = l.length := by simp [qW]
theorem zaE {l : List (List I)} {r : List I} {j : Nat} (h : j < l.length) : (qW l r)[j]? = some (zu l (j : Int) ++ [zf r j]) := by
 unfold qW; rw [List.getElem?_map, List.getElem?_range h]; rfl
theorem extB_all (l : List (List I)) (r : List I) : Qt l r l.length = (qW l r).map zX := by
 apply List.ext_getElem?
 intro j
 by_cases h : j < l.length
 ·rw [XX h, if_pos h, List.getElem?_map, zaE h]; rfl
 ·rw [List.getElem?_eq_none (by rw [Qs]; omega), List.getElem?_eq_none (by simp [VS]; omega)]
def ZC (p : Nat) : List (List I) → List AV
 | [] => []
 | q :: r => .ref p q.length :: ZC (p + 1) r
theorem UI : ∀ {l : List (List I)} {p j : Nat} {q : List I}, l[j]? = some q → (ZC p l)[j]? = some (.ref (p + j) q.length)
 | q :: r, p, 0, q', h => by simp at h; subst h; rfl
 | q :: r, p, j + 1, q', h => by
  have := UI (p := p + 1) (l := r) (j := j) (by simpa using h)
  simpa [ZC, Nat.add_assoc, Nat.add_comm 1 j] using this
 | [], p, j, q, h => by simp at h
theorem UH : ∀ (l : List (List I)) (p : Nat), (ZC p l).length = l.length
 | [], _ => rfl
 | q :: r, p => by simp [ZC, UH r]
theorem extC_all (p : Nat) (l : List (List I)) (r : List I) : QN p l l.length = ZC (p + 1) (qW l r) := by
 apply List.ext_getElem?
 intro j
 by_cases h : j < l.length
 ·rw [Uc h, if_pos h, UI (zaE h)]; simp
 ·rw [List.getElem?_eq_none (by rw [Ub]; omega), List.getElem?_eq_none (by rw [UH, VS]; omega)]
theorem zbe : ∀ (l : List (List I)) (A B : AH), jq (A ++ (l.map zX ++ B)) (ZC A.length l) = (l.map bx, A ++ (l.map jR ++ B))
 | [], A, B => rfl
 | q :: r, A, B => by
  have h1 : Zs (A ++ (zX q :: (r.map zX ++ B))) (.ref A.length q.length) = (bx q, (A ++ [jR q]) ++ (r.map zX ++ B)) := by
   simp [Zs, zX, jR, bx]
  have h2 := zbe r (A ++ [jR q]) B
  simp only [List.length_append, List.length_cons, List.length_nil, Nat.zero_add] at h2
  simp only [List.map_cons, List.cons_append, ZC, jq, h1, h2]
  simp
theorem JX {H J : AH} {b : Nat} {y : zE} : (H ++ J).set (H.length + b) y = H ++ J.set b y := by rw [List.set_append_right _ _ (by omega), Nat.add_sub_cancel_left]
def mE (H0 X : AH) (l : List (List I)) (r : List I) (i k : Nat) : AH := H0 ++ (.row true 1 (qC H0.length l) :: (Qt l r i ++ (X ++ [.row true 1 (QN H0.length l k)])))
section
variable {H0 X : AH} {l : List (List I)} {r : List I} {i k : Nat}
theorem mE_at0 : (mE H0 X l r i k)[H0.length]? = some (.row true 1 (qC H0.length l)) := by
 have := jI (H := H0) (J := .row true 1 (qC H0.length l) :: (Qt l r i ++ (X ++ [.row true 1 (QN H0.length l k)]))) (b := 0)
 exact this
theorem mE_row {j : Nat} (h : j < l.length) : (mE H0 X l r i k)[H0.length + 1 + j]? = (Qt l r i)[j]? := by
 unfold mE
 rw [Nat.add_assoc, jI, Nat.add_comm 1 j, List.getElem?_cons_succ, List.getElem?_append_left (by rw [Qs]; exact h)]
theorem mE_x {j : Nat} (h : j < X.length) : (mE H0 X l r i k)[H0.length + (l.length + 1 + j)]? = X[j]? := by
 unfold mE
 rw [jI, show l.length + 1 + j = (l.length + j) + 1 by omega, List.getElem?_cons_succ, List.getElem?_append_right (by rw [Qs]; omega), Qs, Nat.add_sub_cancel_left, List.getElem?_append_left h]
theorem mE_D : (mE H0 X l r i k)[H0.length + (l.length + 1 + X.length)]? = some (.row true 1 (QN H0.length l k)) := by
 unfold mE
 rw [jI, show l.length + 1 + X.length = (l.length + X.length) + 1 by omega, List.getElem?_cons_succ, List.getElem?_append_right (by rw [Qs]; omega), Qs, Nat.add_sub_cancel_left, List.getElem?_append_right (by omega), Nat.sub_self]; rfl
theorem mE_set (h : i < l.length) : (mE H0 X l r i k).set (H0.length + 1 + i) (zX (zu l (i : Int) ++ [zf r i])) = mE H0 X l r (i + 1) k := by
 unfold mE
 rw [Nat.add_assoc, JX, Nat.add_comm 1 i, List.set_cons_succ, List.set_append_left _ _ (by rw [Qs]; exact h), extB_set h]
theorem mE_setD (h : k < l.length) : (mE H0 X l r i k).set (H0.length + (l.length + 1 + X.length)) (.row true 1 ((QN H0.length l k).set k (.ref (H0.length + 1 + k) ((zu l (k : Int)).length + 1)))) = mE H0 X l r i (k + 1) := by
 unfold mE
 rw [JX, show l.length + 1 + X.length = (l.length + X.length) + 1 by omega, List.set_cons_succ, List.set_append_right _ _ (by rw [Qs]; omega), Qs, Nat.add_sub_cancel_left, List.set_append_right _ _ (by omega), Nat.sub_self, List.set_cons_zero, extC_set h]
theorem mE_start : mE H0 X l r 0 0 = H0 ++ (qG H0.length l ++ X) ++ [.row true 1 (List.replicate l.length .nilslice)] := by
 unfold mE qG; rw [extB_zero, extC_zero]; simp
theorem mE_end : mE H0 X l r l.length l.length = H0 ++ [.row true 1 (qC H0.length l)] ++ ((qW l r).map zX ++ (X ++ [.row true 1 (ZC (H0.length + 1) (qW l r))])) := by
 unfold mE; rw [extB_all, extC_all _ _ r]; simp
end
def LMe (H0 X : AH) (l : List (List I)) (r : List I) (g : FuncId) (caps : List AV) (i : Nat) (fr : zx) (H' : AH) : Prop :=
 fr 1 = .func (.func g) [] caps ∧ fr 5 = .ref (H0.length + (l.length + 1 + X.length)) l.length ∧ fr 11 = .ref H0.length l.length ∧ fr 12 = .int .i64 l.length ∧ fr 13 = .int .i64 i ∧ i ≤ l.length ∧ H' = mE H0 X l r i i
theorem kMapE (l : List (List I)) (r : List I) (kc : Nat) (w : Bool) (hl : l.length ≤ 1000000) (hr : l.length ≤ r.length) (hq : ∀ q ∈ l, q.length ≤ 1000000) (H0 X : AH) (hX : X[kc]? = some (.row w 1 [bx r])) :
  zg E 171 [.ref H0.length l.length, .func (.func 174) [] [.ptr (H0.length + (l.length + 1 + kc)) 1 0 0]] (H0 ++ (qG H0.length l ++ X)) (.ret (j9 (qW l r)))
   (H0 ++ (.row true 1 (qC H0.length l) :: ((qW l r).map jR ++ X))) := by
 refine zt zn zo Tryz.func171 rfl (by rfl) Tryz.ntmps171 (by kernel_rfl) (by simp) ?_
 have hM0 : (H0 ++ (qG H0.length l ++ X)).length = H0.length + (l.length + 1 + X.length) := by simp [jS]
 have hM1 : (H0 ++ (qG H0.length l ++ X))[H0.length]? = some (.row true 1 (qC H0.length l)) := by simp [qG]
 have hst := mE_start (H0 := H0) (X := X) (l := l) (r := r)
 generalize hM : H0 ++ (qG H0.length l ++ X) = M at *
 simp [hM1, zi hM1, Jx]
 refine ZQ (by omega) ?_
 simp [hM1, zi hM1, Jx]
 refine zZ (LMe H0 X l r 174 [.ptr (H0.length + (l.length + 1 + kc)) 1 0 0]) (fun i => l.length - i) 0 ⟨by simp, by simp [hM0], by simp, by simp, by simp, by omega, by rw [hst]⟩ ?_
 rintro i fr H1 ⟨g1, g5, g11, g12, g13, hi, rfl⟩
 simp [g12, g13]
 refine zL (fun hc => ?_) (fun hc => ?_)
 ·have hlt : i < l.length := by simpa using hc
  obtain ⟨q, hqi⟩ := zD hlt
  obtain ⟨z, hz⟩ := zD (l := r) (i := i) (by omega)
  have hrow : zu l (i : Int) = q := ZT hqi
  have hza : zf r i = z := by simp [zf, hz]
  have hrf := YC (p := H0.length) hqi
  have hrE : ∀ h, (qC H0.length l)[i]'h = .ref (H0.length + 1 + i) q.length := fun h => (gI.1 hrf).2
  have w2 : IntKind.i64.wrap ((i : Int) + 1) = ((i + 1 : Nat) : Int) := by rw [zj (by omega) (by omega)]; omega
  have a0 := mE_at0 (H0 := H0) (X := X) (l := l) (r := r) (i := i) (k := i)
  have a1 := mE_row (H0 := H0) (X := X) (l := l) (r := r) (i := i) (k := i) hlt
  rw [XX hlt, if_neg (by omega), hrow] at a1
  have a2 := mE_x (H0 := H0) (l := l) (r := r) (i := i) (k := i) (gI.1 hX).1
  rw [hX] at a2
  have a3 := mE_set (H0 := H0) (X := X) (l := l) (r := r) (i := i) (k := i) hlt
  rw [hrow, hza] at a3
  have a4 := mE_D (H0 := H0) (X := X) (l := l) (r := r) (i := i + 1) (k := i)
  have a5 := mE_setD (H0 := H0) (X := X) (l := l) (r := r) (i := i + 1) (k := i) hlt
  rw [hrow] at a5
  have hcl := Ub H0.length l i
  have hcg := Uc (p := H0.length) (i := i) hlt
  rw [if_neg (by omega)] at hcg
  have hcgE : ∀ h, (QN H0.length l i)[i]'h = .nilslice := fun h => (gI.1 hcg).2
  have hS := kEnc1 i (H0.length + 1 + i) _ q r z w hz (hq q (List.mem_of_getElem? hqi)) _ a2 a1
  rw [a3] at hS
  have hfin : ∀ fr' : zx, fr' 1 = .func (.func 174) [] [.ptr (H0.length + (l.length + 1 + kc)) 1 0 0] → fr' 5 = .ref (H0.length + (l.length + 1 + X.length)) l.length → fr' 11 = .ref H0.length l.length → fr' 12 = .int .i64 l.length → fr' 13 = .int .i64 (i + 1 : Nat) →
    Xt (LMe H0 X l r 174 [.ptr (H0.length + (l.length + 1 + kc)) 1 0 0]) (fun i => l.length - i) i fr' (mE H0 X l r (i + 1) (i + 1)) := fun fr' h1 h2 h3 h4 h5 => ⟨i + 1, by show l.length - (i + 1) < l.length - i; omega, h1, h2, h3, h4, h5, by omega, rfl⟩
  rw [← a5] at hfin
  generalize mE H0 X l r (i + 1) i = M1 at *
  generalize mE H0 X l r i i = M2 at *
  generalize QN H0.length l i = C at *
  simp [g1, g5, g11, g13, a0, Jx, hlt, hrf, hrE]
  refine zd (by simpa using hS) ?_
  simp [g5, g13, a4, hcl, hlt, hcg, hcgE, w2]
  exact hfin _ (by simp [g1]) (by simp [g5]) (by simp [g11]) (by simp [g12]) (by simp)
 ·have hi' : i = l.length := by have : ¬ i < l.length := by simpa using hc
                                omega
  subst hi'
  simp [g5]
  rw [mE_end]
  have hA : (H0 ++ [zE.row true 1 (qC H0.length l)]).length = H0.length + 1 := by simp
  have hlw := VS l r
  generalize hl' : qW l r = l' at *
  have hcv := zbe l' (H0 ++ [.row true 1 (qC H0.length l)]) (X ++ [.row true 1 (ZC (H0.length + 1) l')])
  rw [hA] at hcv
  have hD : ∀ (f : List (List I) → List zE), (∀ l, (f l).length = l.length) → ∀ y, (H0 ++ [zE.row true 1 (qC H0.length l)] ++ (f l' ++ (X ++ [y])))[H0.length + (l.length + 1 + X.length)]? = some y := by
   intro f hf y
   rw [List.append_assoc, jI, show l.length + 1 + X.length = 1 + (l.length + X.length) by omega]
   have := jI (H := [zE.row true 1 (qC H0.length l)]) (J := f l' ++ (X ++ [y])) (b := l.length + X.length)
   rw [List.length_singleton] at this
   rw [this]
   have := jI (H := f l') (J := X ++ [y]) (b := X.length)
   rw [hf, hlw] at this
   rw [this]
   simp
  have hDs : ∀ y y', (H0 ++ [zE.row true 1 (qC H0.length l)] ++ (l'.map jR ++ (X ++ [y]))).set (H0.length + (l.length + 1 + X.length)) y' = H0 ++ [.row true 1 (qC H0.length l)] ++ (l'.map jR ++ (X ++ [y'])) := by
   intro y y'
   rw [List.append_assoc, JX, show l.length + 1 + X.length = 1 + (l.length + X.length) by omega]
   have := JX (H := [zE.row true 1 (qC H0.length l)]) (J := l'.map jR ++ (X ++ [y])) (b := l.length + X.length) (y := y')
   rw [List.length_singleton] at this
   rw [this]
   have := JX (H := l'.map jR) (J := X ++ [y]) (b := X.length) (y := y')
   rw [List.length_map, hlw] at this
   rw [this]
   simp
  refine ⟨[.ref (H0.length + (l.length + 1 + X.length)) l.length], [j9 l'], by simp [show (Tryz.f171).results.toList = [.tmp 4] from rfl, ze], ?_, rfl⟩
  refine .deep (H0.length + (l.length + 1 + X.length)) true (ZC (H0.length + 1) l') (hD (fun l => l.map zX) (fun l => by simp) _) (by rw [hcv]; exact hD (fun l => l.map jR) (fun l => by simp) _) (fun x hx => ?_) (fun x hx => ?_) ?_
  ·obtain ⟨j, hj⟩ := List.mem_iff_getElem?.1 hx
   have hjl : j < l'.length := by rw [← UH l' (H0.length + 1)]; exact (gI.1 hj).1
   have := UI (p := H0.length + 1) (List.getElem?_eq_getElem hjl)
   rw [hj] at this; cases this; rfl
  ·rw [hcv] at hx
   simp only [List.mem_map] at hx
   obtain ⟨q, _, rfl⟩ := hx; rfl
  rw [hcv]
  dsimp only
  rw [hDs]
  refine .conv ?_
  have h6 := hD (fun l => l.map jR) (fun l => by simp) (.row true 1 (l'.map bx))
  have h7 : Zr (H0 ++ [zE.row true 1 (qC H0.length l)] ++ (l'.map jR ++ (X ++ [.row true 1 (l'.map bx)]))) [.ref (H0.length + (l.length + 1 + X.length)) l.length] = ([j9 l'], H0 ++ [.row true 1 (qC H0.length l)] ++ (l'.map jR ++ (X ++ [.row false 1 (l'.map bx)]))) := by
   simp only [Zr, conv, Zs, h6]
   rw [if_pos (by simp [hlw])]
   simp only [hDs]
   rfl
  rw [h7]
  dsimp only
  refine .cut M.length (Nat.le_refl _) ?_ (fun b hb => ?_) ?_
  ·rw [hM0, show H0.length + (l.length + 1 + X.length) = (H0 ++ zE.row true 1 (qC H0.length l) :: (l'.map jR ++ X)).length by simp [hlw]; omega]
   have : H0 ++ [zE.row true 1 (qC H0.length l)] ++ (l'.map jR ++ (X ++ [.row false 1 (l'.map bx)])) = (H0 ++ zE.row true 1 (qC H0.length l) :: (l'.map jR ++ X)) ++ [.row false 1 (l'.map bx)] := by simp
   rw [this, List.take_left]
  ·rw [← hM]
   rcases Nat.lt_or_ge b H0.length with h | h
   ·exact .inl (Wn h)
   ·obtain ⟨c, rfl⟩ : ∃ c, b = H0.length + c := ⟨b - H0.length, by omega⟩
    rw [jI, jI]
    cases c with
    | zero => exact .inl rfl
    | succ c =>
     unfold qG
     rw [List.cons_append, List.getElem?_cons_succ, List.getElem?_cons_succ]
     by_cases hcl : c < l.length
     ·right; left
      have hcl' : c < l'.length := by omega
      refine ⟨jR l'[c], by rw [List.getElem?_append_left (by simp; exact hcl'), List.getElem?_map, List.getElem?_eq_getElem hcl']; rfl, ?_⟩
      simp only [jR, qh]
      rw [jL]
      exact zbS _ _
     ·left
      rw [List.getElem?_append_right (by simp; omega), List.getElem?_append_right (by simp; omega)]
      simp [hlw]
  ·simp only [zh, j9, noF, Bool.and_true]
   rw [jL]
   intro x hx
   obtain ⟨q, _, rfl⟩ := List.mem_map.1 hx
   simp only [bx, noF, js]
theorem restr_eq (p q : I) : (if jj p q then Qq p q else q) = jA p q := by
 unfold jA Qq
 cases jj p q <;> rfl
theorem kRestr1 (i c : Nat) (p q : I) (b : List I) (w : Bool) (hz : b[i]? = some q) (H : AH) (hc : H[c]? = some (.row w 1 [bx b])) : zg E 230 [.int .i64 i, iv p, .ptr c 1 0 0] H (.ret (iv (jA p q))) H := by
 refine zt zn zo Tryz.func230 rfl (by rfl) Tryz.ntmps230 (by kernel_rfl) (by simp) ?_
 have hcl := (gI.1 hc).1
 have hlt := (gI.1 hz).1
 have hzE : ∀ h, b[i]'h = q := fun h => (gI.1 hz).2
 have he := restr_eq p q
 simp only [bx] at hc
 simp [hc, zi hc, hz, hzE, hlt]
 refine zB (fun Hx => iIntersect p q Hx) ?_
 simp
 refine zm [(9, 10)] (by rfl) (by simp [zl, zk, za.triv, za.wr, za.none, upTo, newAt]; omega) ?_
 simp
 refine zL (fun m => ?_) (fun m => ?_)
 ·rw [if_pos m] at he
  simp
  exact zv (rs := [.cell 5 48]) (by rfl) (by simp [ze, ← he]) (by simp [zh, noF])
 ·rw [if_neg (by simp [m])] at he
  simp [hc, zi hc, hz, hzE, hlt]
  exact zv (rs := [.cell 5 48]) (by rfl) (by simp [ze, ← he]) (by simp [zh, noF])
def LMi (l : List I) (f : Nat → I) (g : FuncId) (caps : List AV) (H : AH) (i : Nat) (fr : zx) (H' : AH) : Prop :=
 fr 1 = .func (.func g) [] caps ∧ fr 5 = .ref H.length l.length ∧ fr 11 = bx l ∧ fr 12 = .int .i64 l.length ∧ fr 13 = .int .i64 i ∧ i ≤ l.length ∧ ∃ J, H' = H ++ J ∧ J[0]? = some (.row true 2 (ji ((List.range i).map f) l.length))
theorem kMapI (l : List I) (f : Nat → I) (g : FuncId) (caps : List AV) (hl : l.length ≤ 1000000) (H : AH)
  (hf : ∀ (j : Nat) p, l[j]? = some p → ∀ X : AH, zg E g ([.int .i64 j, iv p] ++ caps) (H ++ X) (.ret (iv (f j))) (H ++ X)) :
  zg E 229 [bx l, .func (.func g) [] caps] H (.ret (bx ((List.range l.length).map f))) H := by
 refine zt zn zo Tryz.func229 rfl (by rfl) Tryz.ntmps229 (by kernel_rfl) (by simp) ?_
 generalize hR : (List.range l.length).map f = R
 simp [bx]
 refine ZQ (by omega) ?_
 simp
 refine zZ (LMi l f g caps H) (fun i => l.length - i) 0 ⟨by simp, by simp, by simp [bx], by simp, by simp, by omega, _, rfl, by simp [zbY]⟩ ?_
 rintro i fr H' ⟨g1, g5, g11, g12, g13, hi, J, rfl, hJ0⟩
 have hJl := (gI.1 hJ0).1
 simp [g12, g13]
 refine zL (fun hc => ?_) (fun hc => ?_)
 ·have hlt : i < l.length := by simpa using hc
  obtain ⟨q, hq⟩ := zD hlt
  have hqE : ∀ h, l[i]'h = q := fun h => (gI.1 hq).2
  have w2 : IntKind.i64.wrap ((i : Int) + 1) = ((i + 1 : Nat) : Int) := by rw [zj (by omega) (by omega)]; omega
  have hW0 : (ji ((List.range i).map f) l.length)[i]? = some (iv (0, 0)) := zbB (by simp) hlt
  have hWl : (ji ((List.range i).map f) l.length).length = l.length := zbZ (by simp; omega)
  have hWset : (ji ((List.range i).map f) l.length).set i (iv (f i)) = ji ((List.range (i + 1)).map f) l.length := by
   have := zbX (l := (List.range i).map f) (n := l.length) (p := f i) (by simp; omega)
   rw [List.length_map, List.length_range] at this
   rw [this, List.range_succ, List.map_append]
   simp
  have hS := hf i q hq
  generalize ji ((List.range i).map f) l.length = W at *
  have hW0E : ∀ h, W[i]'h = iv (0, 0) := fun h => (gI.1 hW0).2
  simp [g1, g5, g11, g13, bx, hlt, hq, hqE]
  refine zd (by simpa using hS _) ?_
  simp [g5, g13, ↓old hJ0, qZ hJ0, hWl, hlt, hW0, hW0E, w2]
  refine ⟨i + 1, by show l.length - (i + 1) < l.length - i; omega, by simp [g1], by simp [g5], by simp [g11], by simp [g12], by simp, by omega, _, rfl, ?_⟩
  rw [← hWset]
  exact set_get' hJ0
 ·have hi' : i = l.length := by have : ¬ i < l.length := by simpa using hc
                                omega
  subst hi'
  rw [zb0 (by simp), hR] at hJ0
  have hRl : R.length = l.length := by rw [← hR]; simp
  simp [g5]
  exact ZO (t := 4) (v := .ref (H.length + 0) l.length) (v0 := .nilslice) (sz := 2) (xs := R.map iv) (by rfl) (by simp) (.inr ⟨0, by simp [hRl], by simpa using hJ0⟩) rfl (js _ _)
theorem kRestr (a b : List I) (c : Nat) (w : Bool) (hab : a.length ≤ b.length) (hl : a.length ≤ 1000000) (H : AH) (hc : H[c]? = some (.row w 1 [bx b])) : zg E 228 [bx a, .ptr c 1 0 0] H (.ret (bx (Jk a b))) H := by
 refine zt zn zo Tryz.func228 rfl (by rfl) Tryz.ntmps228 (by kernel_rfl) (by simp) ?_
 have hS := kMapI a (fun i => jA (zf a i) (zf b i)) 230 [.ptr c 1 0 0] hl H (fun j p hj X => by
  obtain ⟨q, hq⟩ := zD (l := b) (i := j) (by have := (gI.1 hj).1; omega)
  have e1 : zf a j = p := by simp [zf, hj]
  have e2 : zf b j = q := by simp [zf, hq]
  rw [e1, e2]
  exact kRestr1 j c p q b w hq _ (zi hc))
 simp
 refine zd (by simpa using hS) ?_
 simp
 exact zY (rs := [.tmp 3]) (by rfl) (by simp [ze, Jk])
theorem kRestrict0 (b : List I) (H : AH) : zg E 175 [bx b] H (.ret (.func (.func 228) [] [.ptr H.length 1 0 0])) (H ++ [.row true 1 [bx b]]) := by
 refine zt zn zo Tryz.func175 rfl (by rfl) Tryz.ntmps175 (by kernel_rfl) (by simp) ?_
 simp [bx]
 exact Zx (rs := [.tmp 2]) (vs := [.func (.func 228) [] [.ptr H.length 1 0 0]]) (by rfl) (by simp [ze]) rfl
theorem kRestrict (b : List I) (p : Nat) (H : AH) (hd : H[p]? = some .dead) : zg E 175 [bx b] H (.ret (.func (.func 228) [] [.ptr p 1 0 0])) (H.set p (.row true 1 [bx b])) := by
 have hp := (gI.1 hd).1
 refine (kRestrict0 b H).fills (σ := fun c => if c = p then some H.length else none) ⟨?_, ?_, by simp, ?_, ?_, ?_⟩
 ·intro c k h
  split at h
  ·rename_i e; cases h; subst e
   exact ⟨hp, hd, zi hd, Nat.le_refl _⟩
  ·cases h
 ·intro c c' k h h'
  split at h <;> split at h' <;> first | (cases h; done) | (cases h'; done) | skip
  rename_i e1 e2; rw [e1, e2]
 ·intro c hc h
  split at h
  ·cases h
  ·rename_i hne
   exact ⟨List.getElem?_append_left hc, List.getElem?_set_ne (Ne.symm hne)⟩
 ·intro c k h
  split at h
  ·rename_i e; cases h; subst e
   refine ⟨true, 1, [bx b], [bx b], by simp, List.getElem?_set_self hp, rfl, fun i x x' hx hx' => ?_⟩
   rw [hx] at hx'; cases hx'
   refine ⟨rfl, fun i a a' ha ha' => ?_⟩
   rw [ha] at ha'; cases ha'
   have hxe : x = bx b := by
    have := List.mem_of_getElem? hx
    simpa using this
   subst hxe
   have hae : a = bx b := by
    have := List.mem_of_getElem? ha
    simpa [AV.cells, bx] using this
   subst hae
   exact .old (by simp only [bx, noF, js])
  ·cases h
 ·refine .func (by simp) (by simp [zh]) (fun i a a' ha ha' => ?_)
  cases i with
  | zero =>
   simp at ha ha'
   subst ha; subst ha'
   exact .ptr (by simp) hp
  | succ i => simp at ha
theorem WG {T : Tp} {x : List I} {t : I} {order : Nat} (hT : z8 T) (hx : zq x) (ht : vB t = true) : ∀ q ∈ qw T x t order, q.length = order + 1 ∧ zq q := fun q hq => by
 have h := (j0 hT hx ht order).2
 refine ⟨?_, h.val q hq⟩
 obtain ⟨j, hj⟩ := List.mem_iff_getElem?.1 hq
 have := h.row j (by rw [← h.len]; exact (gI.1 hj).1)
 rw [show (zH T x t order).2 = qw T x t order from rfl, ZT hj] at this
 simpa using this
theorem za8 {T : Tp} {b : List I} {t h : Int} {order : Nat} (hT : z8 T) (hb : zq b) (ht : vB (t, t + h) = true) : zq (j6 T b t h order) := fun p hp => by
 obtain ⟨q, hq, rfl⟩ := List.mem_map.1 hp
 exact qE (WG hT hb ht q hq).2 _
theorem remS_len {T : Tp} {b : List I} {t h : Int} {order : Nat} (hT : z8 T) (hb : zq b) (ht : vB (t, t + h) = true) : (j6 T b t h order).length = T.n := by
 simp [j6, Qv hT hb ht]
theorem zam {l : List (List I)} {r : List I} {k : Nat} (hl : ∀ q ∈ l, q.length = k ∧ zq q) (hr : zq r) : ∀ q ∈ qW l r, q.length = k + 1 ∧ zq q := fun q hq => by
 simp only [qW, List.mem_map, List.mem_range] at hq
 obtain ⟨j, hj, rfl⟩ := hq
 have e : zu l (j : Int) = l[j] := ZT (List.getElem?_eq_getElem hj)
 obtain ⟨h1, h2⟩ := hl l[j] (List.getElem_mem hj)
 rw [e]
 exact ⟨by simp [h1], za3 h2 (qE hr j)⟩
theorem zbG (l : List (List I)) (h : I) : (ZE l h).length = l.length := by simp [ZE]
theorem zcU {t : Int} (h : -2147483648 < t ∧ t < 2147483648) : pt t = (t, t) := by
 unfold pt mk
 rw [if_pos (by rw [Bool.and_eq_true, XH]; exact ⟨h, h⟩)]
theorem kEnclosureAt (T : Tp) (x b : List I) (t h : Int) (part : I) (order : Nat) (hT : z8 T) (hx : zq x) (hxn : x.length = T.n) (hb : zq b) (hbn : b.length = T.n) (hh : 0 ≤ h ∧ h ≤ 1000000000) (ht : -1000000000 ≤ t ∧ t ≤ 1000000000) (hp : vB part = true) (ho : 1 ≤ order ∧ order ≤ 900) (H : AH) :
  zg E 108 [zr T, bx x, bx b, .agg [.int .i64 t, .int .i64 h, .int .i64 part.1, .int .i64 part.2, .int .i64 order]] H (.ret (bx (qM T x b t h part order))) H := by
 refine Yw (T.n + 2) zn zo Tryz.func108 rfl (by rfl) Tryz.ntmps108 (by kernel_rfl) (by simp) ?_
 rw [show List.replicate (T.n + 2) zE.dead = Qg T.n ++ [.dead] by unfold Qg; rw [List.replicate_succ']]
 have hsm := hT.small
 have htv : vB (t, t + h) = true := qA (by omega) (by omega) (by omega)
 have htp : pt t = (t, t) := zcU (by omega)
 have htv2 : vB (t, t) = true := qA (by omega) (by omega) (by omega)
 have hR := kRemainder T b t h order hT hb hbn hh ht (by omega)
 have hC := sCoef T x (t, t) order hT hx hxn htv2 (by omega)
 have hl := Qv (order := order) hT hx htv2
 have hrows := WG (order := order) hT hx htv2
 have hrv := za8 (order := order) hT hb htv
 have hrl := remS_len (order := order) hT hb htv
 unfold qM
 generalize qw T x (t, t) order = l at *
 generalize j6 T b t h order = r at *
 simp [zr]
 refine zd (by simpa [zr] using hR _) ?_
 simp [bx]
 refine zB (fun Hx => zc0 t Hx) ?_
 rw [htp]
 simp
 refine za1 (r := .ref H.length T.n) (K := H ++ (qG H.length l ++ [.dead, .row true 3 [zr T], .row true 5 [.agg [.int .i64 t, .int .i64 h, .int .i64 part.1, .int .i64 part.2, .int .i64 order]], .row true 1 [bx r]])) (by simp [jS, ZF, hl]) (fun Y => by
  have := hC H ([.dead, .row true 3 [zr T], .row true 5 [.agg [.int .i64 t, .int .i64 h, .int .i64 part.1, .int .i64 part.2, .int .i64 order]], .row true 1 [bx r]] ++ Y)
  simp [zr, bx] at this ⊢
  exact this) ?_
 simp
 refine za1 (r := j9 (qW l r)) (K := H ++ (.row true 1 (qC H.length l) :: ((qW l r).map jR ++ [.dead, .row true 3 [zr T], .row true 5 [.agg [.int .i64 t, .int .i64 h, .int .i64 part.1, .int .i64 part.2, .int .i64 order]], .row true 1 [bx r]]))) (by simp [jS, VS]) (fun Y => by
  have := kMapE l r 3 true (by omega) (by omega) (fun q hq => by rw [(hrows q hq).1]; omega) H ([.dead, .row true 3 [zr T], .row true 5 [.agg [.int .i64 t, .int .i64 h, .int .i64 part.1, .int .i64 part.2, .int .i64 order]], .row true 1 [bx r]] ++ Y) rfl
  rw [hl] at this
  simp [zr, bx, ZF] at this ⊢
  exact this) ?_
 have hwr := zam hrows hrv
 have hwl := VS l r
 rw [hl] at hwl
 generalize hw : qW l r = l' at *
 generalize hJ : zE.row true 1 (qC H.length l) :: l'.map jR = J1
 have hJl : J1.length = T.n + 1 := by rw [← hJ]; simp [hwl]
 have hJa : ∀ Y, zE.row true 1 (qC H.length l) :: (l'.map jR ++ Y) = J1 ++ Y := fun Y => by rw [← hJ]; rfl
 rw [hJa]
 simp
 refine zm [(0, 7), (3, 7), (6, 7), (0, 9), (3, 9), (6, 9), (7, 9)] (by rfl) (by simp [zl, zk, za.triv, za.wr, za.none, upTo, newAt, ZF, jS, hl]) ?_
 simp
 have hJg : ∀ (c : Nat) (Y : AH), (H ++ (J1 ++ Y))[H.length + (T.n + 1 + c)]? = Y[c]? := fun c Y => by
  rw [jI]
  have := jI (H := J1) (J := Y) (b := c)
  rw [hJl] at this; exact this
 have hJg2 : ∀ (c : Nat) (Y : AH), (J1 ++ Y)[T.n + 1 + c]? = Y[c]? := fun c Y => by
  have := jI (H := J1) (J := Y) (b := c)
  rw [hJl] at this; exact this
 have hJs : ∀ (y : zE) (Y : AH), (H ++ (J1 ++ .dead :: Y)).set (H.length + (T.n + 1)) y = H ++ (J1 ++ y :: Y) := fun y Y => by
  rw [JX]
  have := JX (H := J1) (J := .dead :: Y) (b := 0) (y := y)
  rw [hJl] at this; rw [show T.n + 1 = T.n + 1 + 0 from rfl, this]; rfl
 refine callD_at (b := H.length + (T.n + 1)) (k := .dead) (k' := .row true 1 [bx b]) (hJg 0 _) (fun Hx hx => by simpa [bx] using kRestrict b _ Hx hx) ?_
 rw [hJs]
 simp [ZF, hJg2]
 refine zB (fun Hx => by simpa [j9] using sEval l' part (fun q hq => ⟨(hwr q hq).2, by intro h; have := (hwr q hq).1; rw [h] at this; simp at this, by rw [(hwr q hq).1]; omega⟩) (by omega) hp Hx) ?_
 have hel := zbG l' part
 generalize ZE l' part = e at *
 simp
 refine zbL [H.length + (T.n + 1)] (fun c hc => by simp at hc; subst hc; simp [hJl]) (fun Hx hx => by
  have hc : Hx[H.length + (T.n + 1)]? = some (.row true 1 [bx b]) := by rw [hx _ (by simp), show H.length + (T.n + 1) = H.length + (T.n + 1 + 0) from rfl, hJg]; rfl
  simpa using kRestr e b _ true (by omega) (by omega) Hx hc) ?_
 simp
 refine zm [(1, 6)] (by rfl) (by simp [zl, zk, za.triv, za.wr, za.none, upTo, newAt]) ?_
 simp
 exact zv (rs := [.tmp 8]) (by rfl) (by simp [ze, bx]) (by simp only [noF, js])
def nd (x : Nd) : AV := .agg [.int .i64 x.op, .int .i64 x.n, .int .i64 x.c.1, .int .i64 x.c.2]
@[simp] theorem nd_eq (x : Nd) : nd x = .agg [.int .i64 x.op, .int .i64 x.n, .int .i64 x.c.1, .int .i64 x.c.2] := rfl
def xs (l : List Nd) : AV := .slice (l.map nd) false
theorem QT (l : List Nd) : xs l = .slice (l.map nd) false := rfl
@[simp] theorem bin_nd (H : AH) (a b : Int) (x y c d u v : Int) (z : Bool) : qe zp H .eql 121 (.agg [.int .i64 a, .int .i64 b, .int .i64 x, .int .i64 y]) (.agg [.int .i64 c, .int .i64 d, .int .i64 u, .int .i64 v]) z = some (.bool (a == c && b == d && (x == u && y == v)), H) := by
 simp [qe, qY, jF, Vd, nilI]
 by_cases h : a = c <;> by_cases h2 : b = d <;> by_cases h3 : x = u <;> by_cases h4 : y = v <;> simp [h, h2, h3, h4]
@[simp] theorem bin_nd_ne (H : AH) (a b : Int) (x y c d u v : Int) (z : Bool) : qe zp H .neq 121 (.agg [.int .i64 a, .int .i64 b, .int .i64 x, .int .i64 y]) (.agg [.int .i64 c, .int .i64 d, .int .i64 u, .int .i64 v]) z = some (.bool (!(a == c && b == d && (x == u && y == v))), H) := by
 simp [qe, qY, jF, Vd, nilI]
 by_cases h : a = c <;> by_cases h2 : b = d <;> by_cases h3 : x = u <;> by_cases h4 : y = v <;> simp [h, h2, h3, h4]
theorem oArity (op : Int) (H : AH) : zg E 218 [.int .i64 op] H (.ret (.int .i64 (qO op))) H := by
 refine zt zn zo Tryz.func218 rfl (by rfl) Tryz.ntmps218 (by kernel_rfl) (by simp) ?_
 simp
 by_cases h1 : op < 1
 ·have e : qO op = -1 := by unfold qO; rw [if_neg (by omega), if_neg (by omega), if_neg (by omega)]
  have e1 : ¬ 1 ≤ op := by omega
  have e2 : ¬ 4 ≤ op := by omega
  have e3 : ¬ 7 ≤ op := by omega
  simp [e1, e2, e3]
  exact zY (rs := [.tmp 2]) (by rfl) (by simp [ze, e])
 have e1 : 1 ≤ op := by omega
 by_cases h2 : op ≤ 3
 ·have e : qO op = 0 := by unfold qO; rw [if_pos (by omega)]
  simp [e1, h2]
  exact zY (rs := [.tmp 2]) (by rfl) (by simp [ze, e])
 have e2 : 4 ≤ op := by omega
 by_cases h3 : op ≤ 6
 ·have e : qO op = 1 := by unfold qO; rw [if_neg (by omega), if_pos (by omega)]
  simp [e1, h2, e2, h3]
  exact zY (rs := [.tmp 2]) (by rfl) (by simp [ze, e])
 have e3 : 7 ≤ op := by omega
 by_cases h4 : op ≤ 10
 ·have e : qO op = 2 := by unfold qO; rw [if_neg (by omega), if_neg (by omega), if_pos (by omega)]
  simp [e1, h2, e2, h3, e3, h4]
  exact zY (rs := [.tmp 2]) (by rfl) (by simp [ze, e])
 ·have e : qO op = -1 := by unfold qO; rw [if_neg (by omega), if_neg (by omega), if_neg (by omega)]
  simp [e1, h2, e2, h3, e3, h4]
  exact zY (rs := [.tmp 2]) (by rfl) (by simp [ze, e])
theorem UM (op : Int) (H : AH) : zg E 202 [.int .i64 op] H (.ret (.int .i64 (qO op))) H := by
 refine zt zn zo Tryz.func202 rfl (by rfl) Tryz.ntmps202 (by kernel_rfl) (by simp) ?_
 simp
 by_cases h1 : op < 1
 ·have e : qO op = -1 := by unfold qO; rw [if_neg (by omega), if_neg (by omega), if_neg (by omega)]
  simp [h1]
  exact zY (rs := [.tmp 2]) (by rfl) (by simp [ze, e])
 by_cases h2 : 10 < op
 ·have e : qO op = -1 := by unfold qO; rw [if_neg (by omega), if_neg (by omega), if_neg (by omega)]
  simp [h1, h2]
  exact zY (rs := [.tmp 2]) (by rfl) (by simp [ze, e])
 by_cases h3 : op ≤ 3
 ·have e : qO op = 0 := by unfold qO; rw [if_pos (by omega)]
  simp [h1, h2, h3]
  exact zY (rs := [.tmp 2]) (by rfl) (by simp [ze, e])
 by_cases h4 : op ≤ 6
 ·have e : qO op = 1 := by unfold qO; rw [if_neg (by omega), if_pos (by omega)]
  simp [h1, h2, h3, h4]
  exact zY (rs := [.tmp 2]) (by rfl) (by simp [ze, e])
 have e : qO op = 2 := by unfold qO; rw [if_neg (by omega), if_neg (by omega), if_pos (by omega)]
 simp [h1, h2, h3, h4]
 exact zY (rs := [.tmp 2]) (by rfl) (by simp [ze, e])
theorem U5 (e : Ex) : (zz e).length ≤ 2 := by cases e <;> simp [zz]
theorem len_serL (l : List Ex) : l.length ≤ (z3 l).length := by
 induction l with
 | nil => simp [z3]
 | cons a r ih =>
  have := Jd a
  simp only [z3, List.flatMap_cons, List.length_append, List.length_cons, sz] at this ih ⊢
  omega
theorem serL_cons (t : Ex) (ts : List Ex) : z3 (t :: ts) = zM t :: z3 (zz t ++ ts) := by
 have h := QW t
 simp only [z3, List.flatMap_cons, List.flatMap_append] at h ⊢
 rw [h]; simp
def LEl (l r : List Nd) (H : AH) (ts : List Ex) (fr : zx) (H' : AH) : Prop :=
 ∃ pre : List Nd, l = pre ++ z3 ts ++ r ∧ ts ≠ [] ∧ fr 0 = xs l ∧ fr 3 = .int .i64 ts.length ∧ fr 6 = xs l ∧ fr 7 = .int .i64 l.length ∧ fr 8 = .int .i64 pre.length ∧ ∃ J, H' = H ++ J
theorem oExprLen (a : Ex) (r : List Nd) (hl : sz a + r.length ≤ 4611686018427387904) (H : AH) : zg E 219 [xs (zb a ++ r)] H (.ret (.int .i64 (sz a))) H := by
 refine zt zn zo Tryz.func219 rfl (by rfl) Tryz.ntmps219 (by kernel_rfl) (by simp) ?_
 simp [QT]
 refine zZ (LEl (zb a ++ r) r H) (fun ts => (z3 ts).length) [a] ⟨[], by simp [z3], by simp, by simp [xs], by simp, by simp [xs], by simp, by simp, [], by simp⟩ ?_
 rintro ts fr H' ⟨pre, hpre, hne, h0, h3, h6, h7, h8, J, rfl⟩
 have hlen : sz a + r.length = pre.length + (z3 ts).length + r.length := by
  have := congrArg List.length hpre
  simp only [List.length_append, sz] at this ⊢; omega
 obtain ⟨t, ts', rfl⟩ : ∃ t ts', ts = t :: ts' := by
  cases ts with
  | nil => exact absurd rfl hne
  | cons t ts' => exact ⟨t, ts', rfl⟩
 have hts := len_serL ts'
 have hk := U5 t
 have hsc := serL_cons t ts'
 have hscl : (z3 (t :: ts')).length = (z3 (zz t ++ ts')).length + 1 := by rw [hsc]; simp
 have htl : (z3 (t :: ts')).length = sz t + (z3 ts').length := by simp [z3, sz]
 have hget : (zb a ++ r)[pre.length]? = some (zM t) := by
  rw [hpre, hsc]; simp
 have hlt : pre.length < (zb a ++ r).length := (gI.1 hget).1
 have hlt' : pre.length < (zb a).length + r.length := by simpa using hlt
 have hmap : ((zb a ++ r).map nd)[pre.length]? = some (nd (zM t)) := by rw [List.getElem?_map, hget]; rfl
 have hc : decide ((pre.length : Int) < ((zb a ++ r).length : Int)) = true := by simp; omega
 have hmapE : ∀ h, ((zb a ++ r).map nd)[pre.length]'h = nd (zM t) := fun h => (gI.1 hmap).2
 rw [QT] at h0 h6
 generalize hL : (zb a ++ r).map nd = L at *
 have hnode : nd (zM t) = .agg [.int .i64 (zM t).op, .int .i64 (zM t).n, .int .i64 (zM t).c.1, .int .i64 (zM t).c.2] := rfl
 simp [h7, h8]
 refine zL (fun hb => ?_) (fun hb => ?_)
 ·simp [h0, h3, h6, h8, hmap, hmapE]
  refine zd (oArity _ _) ?_
  rw [zbf]
  have ws : IntKind.i64.wrap (((zz t).length : Int) - 1) = (zz t).length - 1 := zj (by omega) (by omega)
  have wm : IntKind.i64.wrap ((ts'.length : Int) + 1 + ((zz t).length - 1)) = ((zz t ++ ts').length : Nat) := by
   rw [List.length_append, zj (by simp at hlen hl; omega) (by simp at hlen hl; omega)]; omega
  simp [h3, h6, h8, ws, wm]
  refine zL (fun hz => ?_) (fun hz => ?_)
  ·have hnil : zz t ++ ts' = [] := by
    apply List.eq_nil_of_length_eq_zero
    have h1 : (((zz t ++ ts').length : Nat) : Int) = 0 := by simpa using hz
    omega
   have h1 : (z3 (zz t ++ ts')).length = 0 := by rw [hnil]; rfl
   have w1 : IntKind.i64.wrap ((pre.length : Int) + 1) = (sz a : Int) := by
    rw [zj (by omega) (by omega)]; omega
   simp [h8, w1]
   exact zv (rs := [.tmp 2]) (by rfl) (by simp [ze]) (by simp [noF])
  ·have h1 : ¬ (((zz t ++ ts').length : Nat) : Int) = 0 := by simpa using hz
   have w1 : IntKind.i64.wrap ((pre.length : Int) + 1) = ((pre ++ [zM t]).length : Nat) := by
    rw [zj (by omega) (by omega), List.length_append]; rfl
   simp [h8, w1]
   refine ⟨zz t ++ ts', by show (z3 (zz t ++ ts')).length < (z3 (t :: ts')).length; omega, pre ++ [zM t], ?_, ?_, by simp [h0, xs, hL], by simp, by simp [h6, xs, hL], by simp [h7], by simp, J ++ [.row true 4 [nd (zM t)]], by simp⟩
   ·rw [hpre, hsc]; simp
   ·intro e; rw [e] at h1; exact h1 rfl
 ·simp at hb; omega
theorem U6 {a k : Ex} {i : Nat} (h : (zz a)[i]? = some k) : sz k < sz a := by
 cases a with
 | num c => simp [zz] at h
 | var c => simp [zz] at h
 | time => simp [zz] at h
 | un o a =>
  cases i with
  | zero => simp [zz] at h; subst h; rw [ZS]; omega
  | succ i => simp [zz] at h
 | bin o a b =>
  rw [Zc]
  match i, h with
  | 0, h => simp [zz] at h; subst h; omega
  | 1, h => simp [zz] at h; subst h; omega
  | i + 2, h => simp [zz] at h
theorem za6 (l : List Ex) (i : Nat) : z3 l = z3 (l.take i) ++ z3 (l.drop i) := by
 rw [z3, z3, z3, ← List.flatMap_append, List.take_append_drop]
theorem serL_drop {l : List Ex} {i : Nat} {k : Ex} (h : l[i]? = some k) : z3 (l.drop i) = zb k ++ z3 (l.drop (i + 1)) := by
 have hl := (gI.1 h).1
 rw [List.drop_eq_getElem_cons hl, (gI.1 h).2]; rfl
theorem serL_take {l : List Ex} {i : Nat} {k : Ex} (h : l[i]? = some k) : z3 (l.take (i + 1)) = z3 (l.take i) ++ zb k := by
 rw [List.take_add_one, h]; simp [z3]
theorem sz_kids (a : Ex) : sz a = 1 + (z3 (zz a)).length := by rw [sz, QW]; simp; omega
theorem rest_at (a : Ex) (r : List Nd) (i : Nat) : (zb a ++ r).drop (1 + (z3 ((zz a).take i)).length) = z3 ((zz a).drop i) ++ r := by
 rw [QW, za6 (zz a) i]
 rw [show 1 + (z3 ((zz a).take i)).length = (zM a :: z3 ((zz a).take i)).length by simp; omega]
 rw [show zM a :: (z3 ((zz a).take i) ++ z3 ((zz a).drop i)) ++ r = (zM a :: z3 ((zz a).take i)) ++ (z3 ((zz a).drop i) ++ r) by simp]
 rw [List.drop_left]
theorem zdg (l : List Nd) : (l.map nd).all (fun y => y.cells.length == 4 && y.cells.all qo) = true := by
 rw [List.all_eq_true]
 intro x hx
 obtain ⟨y, _, rfl⟩ := List.mem_map.1 hx
 rfl
theorem Uq {H : AH} {l m : List Nd} (hm : m ≠ []) (hb : l.length + m.length ≤ 1000000000) {f : Bool} :
  qn zp H 26 (.slice (l.map nd) true) (.slice (m.map nd) f) = some (.ref H.length (l.length + m.length), H ++ [.row true 4 ((l ++ m).map nd)]) := by
 have h1 := zdg m
 have h2 : (l.map nd).all (fun y => y.cells.length == 4) = true := by
  rw [List.all_eq_true]
  intro x hx
  obtain ⟨y, _, rfl⟩ := List.mem_map.1 hx
  rfl
 have h3 : (m.map nd).isEmpty = false := by simpa using hm
 simp only [qn, tab26, tab121, jk, h3, qF, AV.cells, jO, Qc, h1, h2, List.length_map]
 simp
 omega
theorem app_ref {H : AH} {l m : List Nd} {b : Nat} {wr : Bool} (hm : m ≠ []) (hb : l.length + m.length ≤ 1000000000) {f : Bool} (hH : H[b]? = some (.row wr 4 (l.map nd))) :
  qn zp H 26 (.ref b l.length) (.slice (m.map nd) f) = some (.ref b (l.length + m.length), H.set b (.row wr 4 ((l ++ m).map nd))) := by
 have h1 := zdg m
 have h3 : (m.map nd).isEmpty = false := by simpa using hm
 simp only [qn, tab26, tab121, jk, h3, qF, AV.cells, jO, hH, h1, List.length_map]
 simp
 omega
theorem YH (c : I) (H : AH) : zg E 54 [iv c] H (.ret (xs (zb (.num c)))) H := by
 refine zt zn zo Tryz.func54 rfl (by rfl) Tryz.ntmps54 (by kernel_rfl) (by simp) ?_
 simp
 exact qm (rs := [.tmp 2]) (vs := [.slice [nd ⟨1, 0, c⟩] true]) (vs' := [.slice [nd ⟨1, 0, c⟩] false]) (by rfl) (by simp [ze]) (by simp; rfl) (by simp [noF, zh]) rfl
theorem r7Unary (op : Int) (l : List Nd) (hl : l ≠ []) (hb : l.length ≤ 500000000) (H : AH) : zg E 203 [.int .i64 op, xs l] H (.ret (xs (zK op 0 :: l))) H := by
 refine zt zn zo Tryz.func203 rfl (by rfl) Tryz.ntmps203 (by kernel_rfl) (by simp) ?_
 unfold xs
 simp
 refine bind_some (Uq (l := [zK op 0]) hl (by simp; omega)) ?_
 simp
 exact qm (rs := [.tmp 4]) (vs := [.ref H.length (1 + l.length)]) (vs' := [.slice ((zK op 0 :: l).map nd) false]) (J' := [.row false 4 ((zK op 0 :: l).map nd)]) (by rfl) (by simp [ze]) (by simp [Nat.add_comm]) (by
  simp only [zh, noF, Bool.and_true]
  exact jL.2 fun x hx => by obtain ⟨y, _, rfl⟩ := List.mem_map.1 hx; rfl) rfl
end Go.Proofs.YtkghjlgpmeibhaaGreatDoor.Arm

namespace Go.Arm
open Go.RowKit
theorem Wk.full {xs : List AV} : Wk (.slice xs true) (.slice xs false) := fun G w v hv => by
 cases hv with
 | slice0 hf => exact .slice0 (fun h => by cases h)
 | slice vals hB hs hc hr hl hcap hf => exact .slice vals hB hs hc hr hl hcap (fun h => by cases h)
theorem wkR_map {α : Type} {f g : α → AV} (h : ∀ a, ZR (f a).cells (g a).cells) : ∀ l : List α, Qk (l.map f) (l.map g)
 | [] => trivial
 | a :: r => ⟨h a, wkR_map h r⟩
theorem zg.weakR {E : zW} {f : FuncId} {args : List AV} {H H' : AH} {v v' : AV} (h : zg E f args H (.ret v) H') (hw : Wk v v') : zg E f args H (.ret v') H' := by
 refine ⟨h.1, fun F n hF G w vs hI hv => (h.2 F n hF G w vs hI hv).mono fun r w' ⟨G', h1, h2, h3⟩ => ⟨G', h1, h2, ?_⟩⟩
 cases r with
 | returned u => exact hw _ _ _ h3
 | _ => exact h3
end Go.Arm

namespace Go.Proofs.YtkghjlgpmeibhaaGreatDoor.Arm
open Go.Arm Go.Pl
theorem YQ (l : List Nd) (n : Nat) : zh n (l.map nd) = true := jL.2 fun x hx => by obtain ⟨y, _, rfl⟩ := List.mem_map.1 hx; rfl
theorem jh (l : List Nd) (n : Nat) : noF n (xs l) = true := by simp only [xs, noF]; exact YQ l n
theorem zbU (op : Int) (l m : List Nd) (hl : l ≠ []) (hm : m ≠ []) (hb : l.length + m.length ≤ 500000000) (H : AH) : zg E 71 [.int .i64 op, xs l, xs m] H (.ret (xs (zK op 0 :: (l ++ m)))) H := by
 refine zt zn zo Tryz.func71 rfl (by rfl) Tryz.ntmps71 (by kernel_rfl) (by simp) ?_
 unfold xs
 simp
 refine bind_some (Uq (l := [zK op 0]) hl (by simp; omega)) ?_
 have hr := fun Hx : AH => app_ref (H := Hx ++ [.row true 4 ((zK op 0 :: l).map nd)]) (l := zK op 0 :: l) (m := m) (b := Hx.length) (wr := true) (f := false) hm (by simp; omega) (by simp)
 have hr' := hr H
 rw [List.length_cons, Nat.add_comm l.length 1] at hr'
 simp
 simp at hr'
 refine bind_some hr' ?_
 simp
 exact qm (rs := [.tmp 6]) (vs := [.ref H.length (l.length + m.length + 1)]) (vs' := [.slice ((zK op 0 :: (l ++ m)).map nd) false]) (J' := [.row false 4 ((zK op 0 :: (l ++ m)).map nd)]) (by rfl) (by simp [ze]; omega) (by simp) (by
  simp only [zh, noF, Bool.and_true]; exact YQ _ _) (by simp [one])
def Vo (l : List Nd) : AV := .slice (l.map nd) true
theorem xsT_eq (l : List Nd) : Vo l = .slice (l.map nd) true := rfl
theorem xsTs_noFs (ls : List (List Nd)) (n : Nat) : zh n (ls.map Vo) = true := jL.2 fun x hx => by obtain ⟨y, _, rfl⟩ := List.mem_map.1 hx; simp only [Vo, noF]; exact YQ y n
def LOp (f : List Nd → AV) (a : Ex) (v0 : AV) (ti to : Tmp) (ts : Tmp) (H : AH) (i : Nat) (fr : zx) (H' : AH) : Prop :=
 fr 0 = xs (zb a) ∧ fr ts = .int .i64 ((1 + (z3 ((zz a).take i)).length : Nat) : Int) ∧ fr ti = .int .i64 i ∧ i ≤ (zz a).length ∧ ∃ J, H' = H ++ J ∧ qr H J (fr to) 1 (((zz a).take i).map fun k => f (zb k)) v0
theorem oOperands (a : Ex) (hb : sz a ≤ 1000000000) (H : AH) : zg E 154 [xs (zb a)] H (.ret (.slice ((zz a).map fun k => xs (zb k)) false)) H := by
 refine zg.weakR (v := .slice ((zz a).map fun k => Vo (zb k)) false) ?_ (Wk.slice (wkR_map (f := fun k => Vo (zb k)) (g := fun k => xs (zb k)) (fun k => (⟨Wk.full, trivial⟩ : ZR [Vo (zb k)] [xs (zb k)])) _))
 refine zt zn zo Tryz.func154 rfl (by rfl) Tryz.ntmps154 (by kernel_rfl) (by simp) ?_
 have hget : (zb a)[0]? = some (zM a) := by rw [QW]; rfl
 have hmap : ((zb a).map nd)[0]? = some (nd (zM a)) := by rw [List.getElem?_map, hget]; rfl
 have hmapE : ∀ h, ((zb a).map nd)[0]'h = nd (zM a) := fun h => (gI.1 hmap).2
 have hk := U5 a
 have hsk := sz_kids a
 have hrest := fun i => rest_at a [] i
 have hbk : ∀ i, 1 + (z3 ((zz a).take i)).length ≤ sz a := fun i => by
  have := congrArg List.length (za6 (zz a) i)
  rw [List.length_append] at this; omega
 have hsa : (zb a).length = sz a := rfl
 unfold xs
 simp [hmap, hmapE]
 refine zd (oArity _ _) ?_
 rw [zbf]
 simp
 refine zZ (fun i fr H' => LOp Vo a .nilslice 11 3 4 H i fr H' ∧ fr 10 = .int .i64 (zz a).length) (fun i => (zz a).length - i) 0 ⟨⟨by simp [xs], by simp [z3], by simp, by omega, [], by simp, .inl ⟨by simp, by simp⟩⟩, by simp⟩ ?_
 rintro i fr H' ⟨⟨g0, g4, g11, hi, J, rfl, hacc⟩, g10⟩
 rw [QT] at g0
 simp [g11, g10]
 refine zL (fun hc => ?_) (fun hc => ?_)
 ·have hlt : i < (zz a).length := by simpa using hc
  obtain ⟨k, hki⟩ := zD hlt
  have hd := serL_drop hki
  have htk := serL_take hki
  have hszk : sz k = (zb k).length := rfl
  have hbi := hbk i
  have hbi1 := hbk (i + 1)
  rw [htk, List.length_append] at hbi1
  have hdrop : (zb a).drop (1 + (z3 ((zz a).take i)).length) = zb k ++ z3 ((zz a).drop (i + 1)) := by
   have := hrest i
   rw [List.append_nil, List.append_nil] at this
   rw [this, hd]
  have hdl := congrArg List.length hdrop
  simp only [List.length_drop, List.length_append] at hdl
  generalize hq : 1 + (z3 ((zz a).take i)).length = q at *
  have hE : List.drop q (List.take (zb a).length ((zb a).map nd)) = (zb k ++ z3 ((zz a).drop (i + 1))).map nd := by
   rw [List.take_of_length_le (by simp), ← List.map_drop, hdrop]
  have hE2 : List.drop q (List.take (q + (zb k).length) ((zb a).map nd)) = (zb k).map nd := by
   rw [← List.map_take, ← List.map_drop, List.drop_take, hdrop, Nat.add_sub_cancel_left, List.take_left]
  have w1 : IntKind.i64.wrap ((q : Int) + (sz k : Int)) = ((q + (zb k).length : Nat) : Int) := by rw [zj (by omega) (by omega)]; omega
  have w2 : IntKind.i64.wrap ((i : Int) + 1) = ((i + 1 : Nat) : Int) := by rw [zj (by omega) (by omega)]; omega
  have hS := oExprLen k (z3 ((zz a).drop (i + 1))) (by omega) (H ++ J)
  simp only [QT, List.map_append] at hS
  simp [g0, g4, g11]
  refine ZQ (UB fun _ => rfl) ?_
  refine ZQ (by omega) ?_
  rw [hE]
  simp
  refine zd hS ?_
  simp [g0, g4, g11, w1]
  refine ZQ (UB fun _ => rfl) ?_
  refine ZQ (by omega) ?_
  have e2 : ((q : Int) + ((zb k).length : Int)).toNat = q + (zb k).length := by omega
  rw [e2, hE2]
  obtain ⟨v', J', hap, hacc', _⟩ := qr.push (T := zp) (t := 22) (e := 26) (x := .slice [Vo (zb k)] true) hacc tab22 rfl tab26 rfl rfl (by simp [Vo, qo]) ⟨by decide, by simp⟩ (by simp; omega) (by simp; omega)
  simp only [xsT_eq] at hap
  simp
  refine bind_some hap ?_
  simp [g0, g10, g11, w2]
  refine ⟨i + 1, by show (zz a).length - (i + 1) < (zz a).length - i; omega, ⟨by simp [g0, xs], by simp [htk, ← hq]; omega, by simp, by omega, J', rfl, ?_⟩, by simp [g10]⟩
  rw [List.take_add_one, hki]
  simpa using hacc'
 ·have hi' : i = (zz a).length := by have : ¬ i < (zz a).length := by simpa using hc
                                     omega
  subst hi'
  rw [List.take_length] at hacc
  simp
  exact ZO (t := 2) (by rfl) (by simp) hacc rfl (by have h := xsTs_noFs ((zz a).map zb) H.length; rw [List.map_map] at h; exact h)
theorem grow0 (H : AH) : zg E 304 [.nilslice, .int .i64 0] H (.ret .nilslice) H := by
 refine zt zn zo Tryz.func304 rfl (by rfl) Tryz.ntmps304 (by kernel_rfl) (by simp) ?_
 have w : IntKind.i64.wrap 0 = 0 := by decide
 simp [w]
 exact zY (rs := [.tmp 4]) (by rfl) (by simp [ze])
theorem growN (n : Int) (hn : 0 < n ∧ n ≤ 1000000000) (H : AH) : zg E 304 [.nilslice, .int .i64 n] H (.ret (.ref H.length 0)) (H ++ [.row true 4 []]) := by
 refine zt zn zo Tryz.func304 rfl (by rfl) Tryz.ntmps304 (by kernel_rfl) (by simp) ?_
 have w : IntKind.i64.wrap 0 = 0 := by decide
 have w2 : IntKind.i64.wrap n = n := zj (by omega) (by omega)
 have h1 : ¬ n < 0 := by omega
 simp [w, w2, h1, hn.1]
 refine ZQ (by omega) ?_
 simp
 exact Zx (rs := [.tmp 4]) (vs := [.ref H.length 0]) (by rfl) (by simp [ze]) rfl
def LCa (ls : List (List Nd)) (H : AH) (i : Nat) (fr : zx) (H' : AH) : Prop :=
 fr 0 = .slice (ls.map xs) false ∧ fr 3 = .int .i64 ((ls.take i).flatten.length : Nat) ∧ fr 9 = .slice (ls.map xs) false ∧ fr 10 = .int .i64 ls.length ∧ fr 11 = .int .i64 i ∧ i ≤ ls.length ∧ H' = H
def LCb (ls : List (List Nd)) (H : AH) (i : Nat) (fr : zx) (H' : AH) : Prop :=
 fr 25 = .slice (ls.map xs) false ∧ fr 26 = .int .i64 ls.length ∧ fr 27 = .int .i64 i ∧ i ≤ ls.length ∧ ∃ J, H' = H ++ J ∧ qr H J (fr 6) 4 ((ls.take i).flatten.map nd) .nilslice
theorem zat {α : Type} (ls : List (List α)) (i : Nat) : (ls.take i).flatten.length ≤ ls.flatten.length := by
 have : ls.flatten = (ls.take i).flatten ++ (ls.drop i).flatten := by rw [← List.flatten_append, List.take_append_drop]
 rw [this]; simp
theorem X4 (ls : List (List Nd)) (hl : ls.length ≤ 1000000000) (hb : ls.flatten.length ≤ 500000000) (H : AH) :
  zg E 283 [.slice (ls.map xs) false] H (.ret (xs ls.flatten)) H := by
 refine zt zn zo Tryz.func283 rfl (by rfl) Tryz.ntmps283 (by kernel_rfl) (by simp) ?_
 simp
 refine zZ (LCa ls H) (fun i => ls.length - i) 0 ⟨by simp, by simp, by simp, by simp, by simp, by omega, rfl⟩ ?_
 rintro i fr H' ⟨g0, g3, g9, g10, g11, hi, rfl⟩
 simp [g10, g11]
 refine zL (fun hc => ?_) (fun hc => ?_)
 ·have hlt : i < ls.length := by simpa using hc
  obtain ⟨l, hli⟩ := zD hlt
  have hliE : ∀ h, ls[i]'h = l := fun h => (gI.1 hli).2
  have hf1 := zat ls i
  have hf2 := zat ls (i + 1)
  have hft : (ls.take (i + 1)).flatten = (ls.take i).flatten ++ l := by rw [List.take_add_one, hli]; simp
  rw [hft, List.length_append] at hf2
  generalize hq : (ls.take i).flatten.length = q at *
  have w1 : IntKind.i64.wrap ((q : Int) + (l.length : Int)) = ((q + l.length : Nat) : Int) := by rw [zj (by omega) (by omega)]; omega
  have w2 : IntKind.i64.wrap ((i : Int) + 1) = ((i + 1 : Nat) : Int) := by rw [zj (by omega) (by omega)]; omega
  have h0 : ¬ ((q : Int) + (l.length : Int) < 0) := by omega
  simp [g3, g9, g11, hli, hliE, xs, w1, h0, w2]
  exact ⟨i + 1, by show ls.length - (i + 1) < ls.length - i; omega, by simp [g0], by simp [hft, hq], by simp [g9], by simp [g10], by simp, by omega, rfl⟩
 ·have hi' : i = ls.length := by have : ¬ i < ls.length := by simpa using hc
                                 omega
  subst hi'
  rw [List.take_length] at g3
  have body : ∀ (i : Nat) (fr : zx) (J : AH), LCb ls H' i fr (H' ++ J) → i < ls.length → ∃ l v' J', ls[i]? = some l ∧ qn zp (H' ++ J) 26 (fr 6) (xs l) = some (v', H' ++ J') ∧ qr H' J' v' 4 ((ls.take (i + 1)).flatten.map nd) .nilslice := by
   rintro i fr J ⟨_, _, _, _, J1, hJ, hacc⟩ hlt
   obtain rfl := List.append_cancel_left hJ
   obtain ⟨l, hli⟩ := zD hlt
   have hf2 := zat ls (i + 1)
   have hft : (ls.take (i + 1)).flatten = (ls.take i).flatten ++ l := by rw [List.take_add_one, hli]; simp
   rw [hft, List.length_append] at hf2
   obtain ⟨v', J', hap, hacc', _⟩ := qr.push (T := zp) (t := 26) (e := 121) (x := xs l) (ys := l.map nd) hacc tab26 rfl tab121 rfl rfl (zdg l) ⟨by decide, by simp⟩ (by rw [List.length_map, List.length_map]; dsimp only; omega) (by rw [List.length_map, List.length_map]; omega)
   exact ⟨l, v', J', hli, hap, by rw [hft, List.map_append]; exact hacc'⟩
  by_cases hz : ls.flatten.length = 0
  ·rw [hz] at g3
   simp [g0, g3]
   refine zd (grow0 _) ?_
   simp [g0]
   refine zZ (LCb ls H') (fun i => ls.length - i) 0 ⟨by simp, by simp, by simp, by omega, [], by simp, .inl ⟨by simp, by simp⟩⟩ ?_
   rintro i fr2 H2 ⟨k25, k26, k27, hk, J, rfl, hacc⟩
   simp [k26, k27]
   refine zL (fun hc2 => ?_) (fun hc2 => ?_)
   ·have hlt : i < ls.length := by simpa using hc2
    obtain ⟨l, v', J', hli, hap, hacc'⟩ := body i fr2 J ⟨k25, k26, k27, hk, J, rfl, hacc⟩ hlt
    have hliE : ∀ h, ls[i]'h = l := fun h => (gI.1 hli).2
    have w2 : IntKind.i64.wrap ((i : Int) + 1) = ((i + 1 : Nat) : Int) := by rw [zj (by omega) (by omega)]; omega
    simp [k25, k27, hli, hliE, xs]
    simp only [QT] at hap
    refine bind_some hap ?_
    simp [k27, w2]
    exact ⟨i + 1, by show ls.length - (i + 1) < ls.length - i; omega, by simp [k25], by simp [k26], by simp, by omega, J', rfl, by simpa using hacc'⟩
   ·have hi2 : i = ls.length := by have : ¬ i < ls.length := by simpa using hc2
                                   omega
    subst hi2
    rw [List.take_length] at hacc
    simp
    exact ZO (t := 2) (by rfl) (by simp) hacc rfl (YQ _ _)
  ·have hz' : 0 < (ls.flatten.length : Int) ∧ (ls.flatten.length : Int) ≤ 1000000000 := by omega
   rw [show ((ls.flatten.length : Nat) : Int) = (ls.flatten.length : Int) from rfl] at g3
   generalize hq : (ls.flatten.length : Int) = q at g3 hz'
   simp [g0, g3]
   refine zd (growN q hz' _) ?_
   simp [g0]
   refine zZ (LCb ls H') (fun i => ls.length - i) 0 ⟨by simp, by simp, by simp, by omega, [.row true 4 []], by simp, .inr ⟨0, by simp, by simp⟩⟩ ?_
   rintro i fr2 H2 ⟨k25, k26, k27, hk, J, rfl, hacc⟩
   simp [k26, k27]
   refine zL (fun hc2 => ?_) (fun hc2 => ?_)
   ·have hlt : i < ls.length := by simpa using hc2
    obtain ⟨l, v', J', hli, hap, hacc'⟩ := body i fr2 J ⟨k25, k26, k27, hk, J, rfl, hacc⟩ hlt
    have hliE : ∀ h, ls[i]'h = l := fun h => (gI.1 hli).2
    have w2 : IntKind.i64.wrap ((i : Int) + 1) = ((i + 1 : Nat) : Int) := by rw [zj (by omega) (by omega)]; omega
    simp [k25, k27, hli, hliE, xs]
    simp only [QT] at hap
    refine bind_some hap ?_
    simp [k27, w2]
    exact ⟨i + 1, by show ls.length - (i + 1) < ls.length - i; omega, by simp [k25], by simp [k26], by simp, by omega, J', rfl, by simpa using hacc'⟩
   ·have hi2 : i = ls.length := by have : ¬ i < ls.length := by simpa using hc2
                                   omega
    subst hi2
    rw [List.take_length] at hacc
    simp
    exact ZO (t := 2) (by rfl) (by simp) hacc rfl (YQ _ _)
structure Jr where
 names : List ByteArray
 f : List Ex
def z5 (s : Jr) : AV := .agg [.slice (s.names.map .str) false, .slice (s.f.map fun e => xs (zb e)) false]
theorem Wu {fn : Func} {rs : List ResultVar} {fr : zx} {H0 : AH} {vs vs' : List AV} {v : AV} {e : jJ} (hr : fn.results.toList = rs) (h : ze E fr H0 rs = some vs) (hc : Zr H0 vs = (vs', H0)) (hv : zh H0.length vs' = true) (ho : one vs' = v)
  (hx : e = .ret ∨ e = .normal := by simp) : jd E fn H0 (.ret v) H0 e fr H0 := by
 have := qm (E := E) (fr := fr) (J := []) (J' := []) (H0 := H0) (vs := vs) (vs' := vs') (e := e) hr (by rw [List.append_nil]; exact h) (by rw [List.append_nil]; exact hc) hv ho hx
 rwa [List.append_nil] at this
theorem YW (n : Int) (hn : -1000000 ≤ n ∧ n ≤ 1000000) (H : AH) : zg E 240 [.int .i64 n] H (.ret (xs (zb (jB n)))) H := by
 refine zt zn zo Tryz.func240 rfl (by rfl) Tryz.ntmps240 (by kernel_rfl) (by simp) ?_
 have w : IntKind.i64.wrap (n * 65536) = n * 65536 := zj (by omega) (by omega)
 simp [w]
 refine zd (zc0 _ _) ?_
 simp
 exact Wu (rs := [.tmp 2]) (vs := [.slice [nd ⟨1, 0, pt (n * 65536)⟩] true]) (vs' := [.slice [nd ⟨1, 0, pt (n * 65536)⟩] false]) (by rfl) (by simp [ze]) (by simp) (by simp [noF, zh]) rfl
theorem jApply (op : Int) (ls : List (List Nd)) (hne : ls.flatten ≠ []) (hl : ls.length ≤ 1000000000) (hb : ls.flatten.length ≤ 500000000) (H : AH) :
  zg E 273 [.int .i64 op, .slice (ls.map xs) false] H (.ret (xs (zK op 0 :: ls.flatten))) H := by
 refine zt zn zo Tryz.func273 rfl (by rfl) Tryz.ntmps273 (by kernel_rfl) (by simp) ?_
 have hC := fun Hx => X4 ls hl hb Hx
 generalize ls.flatten = l at *
 simp
 refine zd (hC _) ?_
 simp only [QT]
 simp
 refine bind_some (Uq (l := [zK op 0]) hne (by rw [show ([zK op 0] : List Nd).length = 1 from rfl]; omega)) ?_
 simp
 exact qm (rs := [.tmp 4]) (vs := [.ref H.length (1 + l.length)]) (vs' := [xs (zK op 0 :: l)]) (J' := [.row false 4 ((zK op 0 :: l).map nd)]) (by rfl) (by simp [ze]) (by simp [Nat.add_comm, xs]) (by
  simp only [zh, Bool.and_true]; exact jh _ _) (by simp [one, xs])
def QD (a : Ex) : Int := (jc a).getD 0
theorem ser_ne1 {a : Ex} (h : ∀ c i, a ≠ .num c ∧ a ≠ .var i ∧ a ≠ .time) : (zb a).length ≠ 1 := by
 cases a with
 | num c => exact absurd rfl (h c 0).1
 | var i => exact absurd rfl (h (0, 0) i).2.1
 | time => exact absurd rfl (h (0, 0) 0).2.2
 | un o a => have := Jd a; simp only [sz] at this; simp [zb]; intro e; rw [e] at this; simp at this
 | bin o a b => have := Jd a; simp only [sz] at this; simp [zb]; intro e; rw [e] at this; simp at this
theorem zcZ (a : Ex) (hb : sz a ≤ 1000000000) (H : AH) : zg E 186 [xs (zb a)] H (.ret (.tuple [.int .i64 (QD a), .bool (jc a).isSome])) H := by
 refine zt zn zo Tryz.func186 rfl (by rfl) Tryz.ntmps186 (by kernel_rfl) (by simp) ?_
 have big : (∀ c i, a ≠ .num c ∧ a ≠ .var i ∧ a ≠ .time) → (((zb a).length : Int) != 1) = true := fun h => by
  have := ser_ne1 h
  simp only [bne_iff_ne, ne_eq]; omega
 have fin : ∀ {fr : zx} {x : jJ} (p : Int) (q : Bool), fr 2 = .int .i64 p → fr 3 = .bool q → p = QD a → q = (jc a).isSome → (x = .ret ∨ x = .normal) → jd E Tryz.f186 H (.ret (.tuple [.int .i64 (QD a), .bool (jc a).isSome])) H x fr H := by
  rintro fr x p q h1 h2 rfl rfl hx
  exact Zx (rs := [.tmp 2, .tmp 3]) (vs := [.int .i64 (QD a), .bool (jc a).isSome]) (by rfl) (by simp [ze, h1, h2]) rfl hx
 unfold xs
 cases a with
 | num c =>
  simp [zb]
  by_cases hc : c.1 = c.2
  ·have h1 : (c.1 != c.2) = false := by simp [hc]
   simp [h1]
   refine zm [] (by rfl) (by simp [zl, zk, za.triv, za.wr, za.none, upTo, newAt]) ?_
   simp
   exact fin c.1 true (by simp) (by simp) (by simp [QD, jc, hc]) (by simp [jc, hc]) (by simp)
  ·have h1 : (c.1 != c.2) = true := by simp [hc]
   simp [h1]
   refine zm [] (by rfl) (by simp [zl, zk, za.triv, za.wr, za.none, upTo, newAt]) ?_
   simp
   exact fin 0 false (by simp) (by simp) (by simp [QD, jc, hc]) (by simp [jc, hc]) (by simp)
 | var i =>
  simp [zb, zK]
  refine zm [] (by rfl) (by simp [zl, zk, za.triv, za.wr, za.none, upTo, newAt]) ?_
  simp
  exact fin 0 false (by simp) (by simp) (by simp [QD, jc]) (by simp [jc]) (by simp)
 | time =>
  simp [zb, zK]
  refine zm [] (by rfl) (by simp [zl, zk, za.triv, za.wr, za.none, upTo, newAt]) ?_
  simp
  exact fin 0 false (by simp) (by simp) (by simp [QD, jc]) (by simp [jc]) (by simp)
 | un o b =>
  have h1 := big (fun c i => ⟨by simp, by simp, by simp⟩)
  generalize zb (.un o b) = L at *
  simp [h1]
  refine zm [] (by rfl) (by simp [zl, zk, za.triv, za.wr, za.none, upTo, newAt]) ?_
  simp
  exact fin 0 false (by simp) (by simp) (by simp [QD, jc]) (by simp [jc]) (by simp)
 | bin o b d =>
  have h1 := big (fun c i => ⟨by simp, by simp, by simp⟩)
  generalize zb (.bin o b d) = L at *
  simp [h1]
  refine zm [] (by rfl) (by simp [zl, zk, za.triv, za.wr, za.none, upTo, newAt]) ?_
  simp
  exact fin 0 false (by simp) (by simp) (by simp [QD, jc]) (by simp [jc]) (by simp)
theorem isK_pt (a : Ex) (x : Int) : qJ a x = ((jc a).isSome && QD a == x) := by
 cases a with
 | num c =>
  simp only [qJ, jc, QD]
  by_cases hc : c.1 = c.2
  ·simp [hc]
  ·simp [hc]
   intro h1 h2; omega
 | _ => simp [qJ, jc]
theorem Qp (a : Ex) (x : Int) (hb : sz a ≤ 1000000000) (H : AH) : zg E 117 [xs (zb a), .int .i64 x] H (.ret (.bool (qJ a x))) H := by
 refine zt zn zo Tryz.func117 rfl (by rfl) Tryz.ntmps117 (by kernel_rfl) (by simp) ?_
 simp
 refine zd (zcZ a hb _) ?_
 rw [isK_pt]
 simp
 cases (jc a).isSome with
 | true =>
  simp
  exact zY (rs := [.tmp 4]) (by rfl) (by simp [ze])
 | false =>
  simp
  exact zY (rs := [.tmp 4]) (by rfl) (by simp [ze])
def jv (f : I → I → I) (a b : Ex) : Option I :=
 match a, b with
 | .num c, .num d => if c.1 = c.2 ∧ d.1 = d.2 then some (f c d) else none
 | _, _ => none
def zdS : Option I → AV
 | some r => xs (zb (.num r))
 | none => .slice [] false
def QL : Option I → Bool
 | some r => r.1 == r.2
 | none => false
theorem zcc (f : I → I → I) (a b e : Ex) : (QM f a b).getD e = if QL (jv f a b) then (.num ((jv f a b).getD (0, 0))) else e := by
 cases a with
 | num c =>
  cases b with
  | num d =>
   by_cases h : c.1 = c.2 ∧ d.1 = d.2
   ·by_cases h2 : (f c d).1 = (f c d).2
    ·simp [QM, jv, QL, h.1, h.2, h2]
    ·simp [QM, jv, QL, h.1, h.2, h2]
   ·have h3 : ¬ (c.1 = c.2 ∧ d.1 = d.2 ∧ (f c d).1 = (f c d).2) := fun x => h ⟨x.1, x.2.1⟩
    have e1 : jv f (.num c) (.num d) = none := by unfold jv; exact if_neg h
    have e2 : QM f (.num c) (.num d) = none := by unfold QM; exact if_neg h3
    rw [e1, e2]; rfl
  | _ => simp [QM, jv, QL]
 | _ => simp [QM, jv, QL]
theorem zbE {a : Ex} {x : Int} (h : jc a = some x) : a = .num (x, x) := by
 cases a with
 | num c =>
  obtain ⟨p, q⟩ := c
  simp only [jc] at h
  split at h
  ·rename_i he; simp at h he; subst h he; rfl
  ·cases h
 | _ => simp [jc] at h
theorem zdP (g : FuncId) (f : I → I → I) (hg : ∀ c d, vB c = true → vB d = true → ∀ Hx, zg E g [iv c, iv d] Hx (.ret (iv (f c d))) Hx) (a b : Ex) {k : Nat} (ha : wf k a = true) (hb : wf k b = true) (hsa : sz a ≤ 1000000000) (hsb : sz b ≤ 1000000000) (H : AH) :
  zg E 303 [zS g, xs (zb a), xs (zb b)] H (.ret (.tuple [zdS (jv f a b), .bool (QL (jv f a b))])) H := by
 refine zt zn zo Tryz.func303 rfl (by rfl) Tryz.ntmps303 (by kernel_rfl) (by simp) ?_
 have nil : ∀ {fr : zx} {x : jJ}, fr 6 = .nilslice → fr 7 = .bool false → jv f a b = none → (x = .ret ∨ x = .normal) → jd E Tryz.f303 H (.ret (.tuple [zdS (jv f a b), .bool (QL (jv f a b))])) H x fr H := by
  rintro fr x h1 h2 h3 hx
  rw [h3]
  exact Wu (rs := [.tmp 6, .tmp 7]) (vs := [.nilslice, .bool false]) (vs' := [.slice [] false, .bool false]) (by rfl) (by simp [ze, h1, h2]) (by simp) (by simp [noF, zh]) rfl hx
 simp
 refine zd (zcZ a hsa _) ?_
 simp
 refine zd (zcZ b hsb _) ?_
 simp
 cases h1 : jc a with
 | none =>
  have h0 : jv f a b = none := by
   unfold jv
   split
   ·rename_i c d
    simp only [jc] at h1
    split at h1
    ·cases h1
    ·rename_i hc; rw [if_neg (fun x => hc x.1)]
   ·rfl
  simp
  exact nil (by simp) (by simp) h0 (by simp)
 | some x =>
  cases h2 : jc b with
  | none =>
   have h0 : jv f a b = none := by
    unfold jv
    split
    ·rename_i c d
     simp only [jc] at h2
     split at h2
     ·cases h2
     ·rename_i hc; rw [if_neg (fun x => hc x.2)]
    ·rfl
   simp
   exact nil (by simp) (by simp) h0 (by simp)
  | some y =>
   obtain rfl := zbE h1
   obtain rfl := zbE h2
   have h0 : jv f (.num (x, x)) (.num (y, y)) = some (f (x, x) (y, y)) := by simp [jv]
   rw [h0]
   simp [zb, xs]
   refine zB (hg (x, x) (y, y) ha hb) ?_
   generalize f (x, x) (y, y) = r
   simp
   refine zm [(10, 11)] (by rfl) (by simp [zl, zk, za.triv, za.wr, za.none, upTo, newAt]) ?_
   simp
   refine zm [] (by rfl) (by simp [zl, zk, za.triv, za.wr, za.none, upTo, newAt]) ?_
   simp
   exact qm (rs := [.tmp 6, .tmp 7]) (vs := [.slice [nd ⟨1, 0, r⟩] true, .bool (r.1 == r.2)]) (vs' := [.slice [nd ⟨1, 0, r⟩] false, .bool (r.1 == r.2)]) (by rfl) (by simp [ze]) (by simp; rfl) (by simp [noF, zh]) rfl
theorem jApply1 (op : Int) (a : Ex) (hb : sz a ≤ 500000000) (H : AH) : zg E 273 [.int .i64 op, .slice [xs (zb a)] false] H (.ret (xs (zK op 0 :: zb a))) H := by
 have h := jApply op [zb a] (by have := Jd a; simp only [sz] at this; intro e; rw [show ([zb a] : List (List Nd)).flatten = zb a by simp] at e; rw [e] at this; simp at this) (by simp) (by simpa [sz] using hb) H
 rw [show ([zb a] : List (List Nd)).flatten = zb a by simp] at h
 exact h
theorem zb7 (op : Int) (a b : Ex) (hb : sz a + sz b ≤ 500000000) (H : AH) : zg E 273 [.int .i64 op, .slice [xs (zb a), xs (zb b)] false] H (.ret (xs (zK op 0 :: (zb a ++ zb b)))) H := by
 have e : ([zb a, zb b] : List (List Nd)).flatten = zb a ++ zb b := by simp
 have h := jApply op [zb a, zb b] (by rw [e]; have := Jd a; simp only [sz] at this; intro e; rw [List.append_eq_nil_iff] at e; rw [e.1] at this; simp at this) (by simp) (by rw [e, List.length_append]; simpa [sz] using hb) H
 rw [e] at h
 exact h
theorem jSimplifyNeg (a : Ex) {k : Nat} (ha : wf k a = true) (hsa : sz a ≤ 100000000) (H : AH) : zg E 280 [xs (zb a)] H (.ret (xs (zb (Qn a)))) H := by
 refine zt zn zo Tryz.func280 rfl (by rfl) Tryz.ntmps280 (by kernel_rfl) (by simp) ?_
 simp
 refine zd (zcZ a (by omega) _) ?_
 simp
 cases h1 : jc a with
 | some x =>
  obtain rfl := zbE h1
  have hv := qR (a := (x, x)) ha
  have w : IntKind.i64.wrap (-x) = -x := zj (by omega) (by omega)
  have hp : QD (.num (x, x)) = x := by simp [QD, jc]
  have he : Qn (.num (x, x)) = .num (pt (-x)) := by simp [Qn, jc]
  rw [he]
  simp [hp, w]
  refine zd (zc0 _ _) ?_
  simp
  exact Wu (rs := [.tmp 2]) (vs := [.slice [nd ⟨1, 0, pt (-x)⟩] true]) (vs' := [.slice [nd ⟨1, 0, pt (-x)⟩] false]) (by rfl) (by simp [ze]) (by simp) (by simp [noF, zh]) rfl
 | none =>
  simp
  have hget : (zb a)[0]? = some (zM a) := by rw [QW]; rfl
  have hmap : ((zb a).map nd)[0]? = some (nd (zM a)) := by rw [List.getElem?_map, hget]; rfl
  have hmapE : ∀ h, ((zb a).map nd)[0]'h = nd (zM a) := fun h => (gI.1 hmap).2
  by_cases h2 : ∃ b, a = .un .neg b
  ·obtain ⟨b, rfl⟩ := h2
   have he : Qn (.un .neg b) = b := by simp [Qn, jc]
   rw [he]
   have hr : (zM (.un .neg b)).op = 4 := rfl
   have hl : 1 ≤ (zb (.un .neg b)).length := Jd _
   have hd : (zb (.un .neg b)).drop 1 = zb b := rfl
   generalize zb (.un .neg b) = L at *
   have hE : (List.take L.length (L.map nd)).tail = (zb b).map nd := by rw [List.take_of_length_le (by simp), ← List.drop_one, ← List.map_drop, hd]
   simp [xs, hmap, hmapE, hr]
   refine ZQ (UB fun _ => rfl) ?_
   refine ZQ (by omega) ?_
   simp [hE]
   exact zY (rs := [.tmp 2]) (by rfl) (by simp [ze])
  ·have he : Qn a = .un .neg a := by
    unfold Qn
    rw [h1]
    dsimp only
    split
    ·rename_i b; exact absurd ⟨b, rfl⟩ h2
    ·rfl
   have hr : ((zM a).op == 4) = false := by
    cases a with
    | un o b => cases o with
     | neg => exact absurd ⟨b, rfl⟩ h2
     | sqr => rfl
     | sqrt => rfl
    | bin o b c => cases o <;> rfl
    | _ => rfl
   rw [he]
   simp [xs, hmap, hmapE, hr]
   refine Jq (jApply1 4 a (by omega) _) (by simp [xs]; rfl) ?_
   simp
   exact Wu (rs := [.tmp 2]) (vs := [xs (zb (.un .neg a))]) (vs' := [xs (zb (.un .neg a))]) (by rfl) (by simp [ze, xs, zb, U.code]) (by simp [xs]) (by simp only [zh, Bool.and_true]; exact jh _ _) rfl
theorem jZ {fn : Func} {t : Tmp} {fr : zx} {H0 : AH} {l : List Nd} {e : jJ} (hr : fn.results.toList = [.tmp t]) (h : fr t = xs l) (hx : e = .ret ∨ e = .normal := by simp) : jd E fn H0 (.ret (xs l)) H0 e fr H0 :=
 Wu (rs := [.tmp t]) (vs := [xs l]) (vs' := [xs l]) hr (by simp [ze, h]) (by simp [xs]) (by simp only [zh, Bool.and_true]; exact jh _ _) rfl hx
theorem zcd {o : Option I} (h : QL o = true) : zdS o = xs (zb (.num (o.getD (0, 0)))) := by
 cases o with
 | none => cases h
 | some r => rfl
theorem jSimplifyAdd (a b : Ex) {k : Nat} (ha : wf k a = true) (hb : wf k b = true) (hs : sz a + sz b ≤ 100000000) (H : AH) : zg E 281 [.int .i64 7, xs (zb a), xs (zb b)] H (.ret (xs (zb (JU a b)))) H := by
 refine zt zn zo Tryz.func281 rfl (by rfl) Tryz.ntmps281 (by kernel_rfl) (by simp) ?_
 simp
 refine zd (zdP 91 add (fun c d hc hd Hx => V8 c d hc hd Hx) a b ha hb (by omega) (by omega) _) ?_
 simp
 refine zd (Qp a 0 (by omega) _) ?_
 cases h1 : qJ a 0 with
 | true =>
  simp
  exact jZ (t := 6) (by rfl) (by simp [JU, h1])
 | false =>
 simp
 refine zd (Qp b 0 (by omega) _) ?_
 cases h2 : qJ b 0 with
 | true =>
  simp
  exact jZ (t := 6) (by rfl) (by simp [JU, h1, h2])
 | false =>
 have he : JU a b = if QL (jv add a b) then .num ((jv add a b).getD (0, 0)) else .bin .add a b := by simp only [JU, h1, h2]; exact zcc _ _ _ _
 rw [he]
 simp
 cases h3 : QL (jv add a b) with
 | true =>
  simp
  exact jZ (t := 6) (by rfl) (by simp; exact zcd h3)
 | false =>
 simp [xs]
 refine Jq (zb7 7 a b (by omega) _) (by simp [xs]; rfl) ?_
 simp
 exact jZ (t := 6) (by rfl) (by simp [zb, B.code])
theorem jSimplifySub (a b : Ex) {k : Nat} (ha : wf k a = true) (hb : wf k b = true) (hs : sz a + sz b ≤ 100000000) (H : AH) : zg E 281 [.int .i64 8, xs (zb a), xs (zb b)] H (.ret (xs (zb (JT a b)))) H := by
 refine zt zn zo Tryz.func281 rfl (by rfl) Tryz.ntmps281 (by kernel_rfl) (by simp) ?_
 simp
 refine zd (zdP 234 sub (fun c d hc hd Hx => Wm c d hc hd Hx) a b ha hb (by omega) (by omega) _) ?_
 simp
 refine zd (Qp b 0 (by omega) _) ?_
 cases h2 : qJ b 0 with
 | true =>
  simp
  exact jZ (t := 6) (by rfl) (by simp [JT, h2])
 | false =>
 simp
 refine zd (Qp a 0 (by omega) _) ?_
 cases h1 : qJ a 0 with
 | true =>
  simp
  refine zd (jSimplifyNeg b hb (by omega) _) ?_
  simp
  exact jZ (t := 6) (by rfl) (by simp [JT, h1, h2])
 | false =>
 have he : JT a b = if QL (jv sub a b) then .num ((jv sub a b).getD (0, 0)) else .bin .sub a b := by simp only [JT, h1, h2]; exact zcc _ _ _ _
 rw [he]
 simp
 cases h3 : QL (jv sub a b) with
 | true =>
  simp
  exact jZ (t := 6) (by rfl) (by simp; exact zcd h3)
 | false =>
 simp [xs]
 refine Jq (zb7 8 a b (by omega) _) (by simp [xs]; rfl) ?_
 simp
 exact jZ (t := 6) (by rfl) (by simp [zb, B.code])
theorem jSimplifyProduct (a b : Ex) {k : Nat} (ha : wf k a = true) (hb : wf k b = true) (hs : sz a + sz b ≤ 100000000) (H : AH) : zg E 282 [xs (zb a), xs (zb b)] H (.ret (xs (zb (Jg a b)))) H := by
 refine zt zn zo Tryz.func282 rfl (by rfl) Tryz.ntmps282 (by kernel_rfl) (by simp) ?_
 simp
 refine zd (zdP 118 mul (fun c d hc hd Hx => Y2 c d hc hd Hx) a b ha hb (by omega) (by omega) _) ?_
 simp
 refine zd (Qp a 0 (by omega) _) ?_
 cases h1 : qJ a 0 with
 | true =>
  simp
  refine zd (YW 0 (by omega) _) ?_
  simp
  exact jZ (t := 4) (by rfl) (by simp [Jg, h1])
 | false =>
 simp
 refine zd (Qp b 0 (by omega) _) ?_
 cases h2 : qJ b 0 with
 | true =>
  simp
  refine zd (YW 0 (by omega) _) ?_
  simp
  exact jZ (t := 4) (by rfl) (by simp [Jg, h1, h2])
 | false =>
 simp
 refine zd (Qp a 65536 (by omega) _) ?_
 cases h3 : qJ a 65536 with
 | true =>
  simp
  exact jZ (t := 4) (by rfl) (by simp [Jg, h1, h2, h3])
 | false =>
 simp
 refine zd (Qp b 65536 (by omega) _) ?_
 cases h4 : qJ b 65536 with
 | true =>
  simp
  exact jZ (t := 4) (by rfl) (by simp [Jg, h1, h2, h3, h4])
 | false =>
 have he : Jg a b = if QL (jv mul a b) then .num ((jv mul a b).getD (0, 0)) else .bin .mul a b := by simp only [Jg, h1, h2, h3, h4]; exact zcc _ _ _ _
 rw [he]
 simp
 cases h5 : QL (jv mul a b) with
 | true =>
  simp
  exact jZ (t := 4) (by rfl) (by simp; exact zcd h5)
 | false =>
 simp [xs]
 refine Jq (zb7 9 a b (by omega) _) (by simp [xs]; rfl) ?_
 simp
 exact jZ (t := 4) (by rfl) (by simp [zb, B.code])
theorem Vg {g : FuncId} {captured args args' : List AV} {next : ZA} {H : AH} {r : AV} {b : Nat} {k k' : zE} (hb : H[b]? = some k) (hc : ∀ Hx : AH, Hx[b]? = some k → Zr Hx args = (args', Hx.set b k')) (h : ∀ Hx, zg E g (args' ++ captured) Hx (.ret r) Hx)
  (kk : next .go r ⟨[b], [(b, k')], none, true⟩ (H.set b k')) : ZP E (.func (.func g) [] captured) args next H :=
 ⟨r, [b], [(b, k')], ⟨fun c hc => by simp at hc; subst hc; exact (gI.1 hb).1, fun p hp => by simp at hp; subst hp; simp, fun Hx hx => .inr (by
  rw [List.nil_append, hc Hx ((hx b (by simp)).trans hb)]; exact h _)⟩, kk⟩
@[simp ↓] theorem cells_xs (l : List Nd) : (xs l).cells = [xs l] := rfl
@[simp ↓] theorem vcells_xs (l : List Nd) : qF (xs l) = some [xs l] := rfl
@[simp ↓] theorem conv1_xs (H : AH) (l : List Nd) : Zs H (xs l) = (xs l, H) := rfl
@[simp ↓] theorem okc_xs (l : List Nd) : qo (xs l) = true := rfl
theorem zcN {H : AH} {l : List AV} {f g : Bool} : qn zp H 26 (.slice l f) (.slice [] g) = some (.slice l f, H) := by simp [qn]
def LSi (a : Ex) (H : AH) (i : Nat) (fr : zx) (H' : AH) : Prop :=
 fr 0 = xs (zb a) ∧ fr 8 = .slice ((zz a).map fun k => xs (zb k)) false ∧ fr 9 = .int .i64 (zz a).length ∧ fr 10 = .int .i64 i ∧ i ≤ (zz a).length ∧ (i = 0 → fr 3 = .nilslice) ∧ ∃ J, H' = H ++ J ∧ qr H J (fr 3) 1 (((zz a).take i).map fun k => xs (zb (zC k))) .nilslice
theorem kid_wf {n : Nat} {a k : Ex} {i : Nat} (h : (zz a)[i]? = some k) (hw : wf n a = true) : wf n k = true := by
 cases a with
 | un o a =>
  cases i with
  | zero => simp [zz] at h; subst h; exact hw
  | succ i => simp [zz] at h
 | bin o a b =>
  simp only [wf, Bool.and_eq_true] at hw
  match i, h with
  | 0, h => simp [zz] at h; subst h; exact hw.1
  | 1, h => simp [zz] at h; subst h; exact hw.2
  | i + 2, h => simp [zz] at h
 | _ => simp [zz] at h
theorem jSimplify {kk : Nat} : ∀ (n : Nat) (a : Ex), sz a ≤ n → wf kk a = true → sz a ≤ 100000000 → ∀ H, zg E 241 [xs (zb a)] H (.ret (xs (zb (zC a)))) H
 | 0, a, hn, hw, hs, H => by have := Jd a; omega
 | n + 1, a, hn, hw, hs, H => by
  refine zt zn zo Tryz.func241 rfl (by rfl) Tryz.ntmps241 (by kernel_rfl) (by simp) ?_
  have ih : ∀ (k : Ex) (i : Nat), (zz a)[i]? = some k → ∀ H, zg E 241 [xs (zb k)] H (.ret (xs (zb (zC k)))) H := fun k i hi H =>
   jSimplify n k (by have := U6 hi; omega) (kid_wf hi hw) (by have := U6 hi; omega) H
  have hk2 := U5 a
  have hget : (zb a)[0]? = some (zM a) := by rw [QW]; rfl
  have hmap : ((zb a).map nd)[0]? = some (nd (zM a)) := by rw [List.getElem?_map, hget]; rfl
  have hmapE : ∀ h, ((zb a).map nd)[0]'h = nd (zM a) := fun h => (gI.1 hmap).2
  simp
  refine zd (oOperands a (by omega) _) ?_
  simp
  refine zZ (LSi a H) (fun i => (zz a).length - i) 0 ⟨by simp, by simp, by simp, by simp, by omega, fun _ => by simp, [], by simp, .inl ⟨by simp, by simp⟩⟩ ?_
  rintro i fr H' ⟨g0, g8, g9, g10, hi, hnil, J, rfl, hacc⟩
  simp [g9, g10]
  refine zL (fun hc => ?_) (fun hc => ?_)
  ·have hlt : i < (zz a).length := by simpa using hc
   obtain ⟨k, hki⟩ := zD hlt
   have hkiE : ∀ h, (zz a)[i]'h = k := fun h => (gI.1 hki).2
   have w2 : IntKind.i64.wrap ((i : Int) + 1) = ((i + 1 : Nat) : Int) := by rw [zj (by omega) (by omega)]; omega
   have hS := ih k i hki (H ++ J)
   simp only [QT] at hS
   simp [g0, g8, g9, g10, hki, hkiE, xs]
   refine zd hS ?_
   obtain ⟨v', J', hap, hacc', _⟩ := qr.push (T := zp) (t := 22) (e := 26) (x := .slice [xs (zb (zC k))] true) hacc tab22 rfl tab26 rfl rfl (by simp [xs, qo]) ⟨by decide, by simp⟩ (by simp; omega) (by simp; omega)
   simp only [QT] at hap
   simp
   refine bind_some hap ?_
   simp [g0, g9, g10, w2]
   refine ⟨i + 1, by show (zz a).length - (i + 1) < (zz a).length - i; omega, by simp [g0], by simp [g8], by simp [g9], by simp, by omega, fun h => by omega, J', rfl, ?_⟩
   rw [List.take_add_one, hki]
   simpa using hacc'
  ·have hi' : i = (zz a).length := by have : ¬ i < (zz a).length := by simpa using hc
                                      omega
   subst hi'
   rw [List.take_length] at hacc
   rw [QT] at g0
   have ih' := fun k i hi => ih k i hi
   simp [g0, hmap, hmapE]
   clear ih g8 g9 g10 hc hi
   cases a with
   | num c =>
    have h3 : fr 3 = .nilslice := hnil rfl
    simp [zM, zK, h3]
    simp [g0, hmap, hmapE, zM, zK]
    refine Zm (args' := [.slice [] false]) (fun Hx => X4 [] (by simp) (by simp) Hx) (fun Hx => by simp [h3]) ?_
    simp [xs]
    refine bind_some zcN ?_
    simp
    refine zm [] (by rfl) (by simp [zl, zk, za.triv, za.wr, za.none, upTo, newAt]) ?_
    simp
    exact qm (rs := [.tmp 2]) (vs := [.slice [nd (zM (.num c))] true]) (vs' := [xs (zb (.num c))]) (by rfl) (by simp [ze, zM, zK]) (by simp [xs, zb, zM, zK]; rfl) (by simp only [zh, Bool.and_true]; exact jh _ _) rfl
   | var v =>
    have h3 : fr 3 = .nilslice := hnil rfl
    simp [zM, zK, h3]
    simp [g0, hmap, hmapE, zM, zK]
    refine Zm (args' := [.slice [] false]) (fun Hx => X4 [] (by simp) (by simp) Hx) (fun Hx => by simp [h3]) ?_
    simp [xs]
    refine bind_some zcN ?_
    simp
    refine zm [] (by rfl) (by simp [zl, zk, za.triv, za.wr, za.none, upTo, newAt]) ?_
    simp
    exact qm (rs := [.tmp 2]) (vs := [.slice [nd (zM (.var v))] true]) (vs' := [xs (zb (.var v))]) (by rfl) (by simp [ze, zM, zK]) (by simp [xs, zb, zM, zK]; rfl) (by simp only [zh, Bool.and_true]; exact jh _ _) rfl
   | time =>
    have h3 : fr 3 = .nilslice := hnil rfl
    simp [zM, zK, h3]
    simp [g0, hmap, hmapE, zM, zK]
    refine Zm (args' := [.slice [] false]) (fun Hx => X4 [] (by simp) (by simp) Hx) (fun Hx => by simp [h3]) ?_
    simp [xs]
    refine bind_some zcN ?_
    simp
    refine zm [] (by rfl) (by simp [zl, zk, za.triv, za.wr, za.none, upTo, newAt]) ?_
    simp
    exact qm (rs := [.tmp 2]) (vs := [.slice [nd (zM (.time))] true]) (vs' := [xs (zb (.time))]) (by rfl) (by simp [ze, zM, zK]) (by simp [xs, zb, zM, zK]; rfl) (by simp only [zh, Bool.and_true]; exact jh _ _) rfl
   | un o a =>
    have hacc1 : ∃ k, fr 3 = .ref (H.length + k) 1 ∧ J[k]? = some (.row true 1 [xs (zb (zC a))]) := by
     rcases hacc with ⟨h, _⟩ | ⟨k, h1, h2⟩
     ·simp [zz] at h
     ·exact ⟨k, by simpa [zz] using h1, by simpa [zz] using h2⟩
    obtain ⟨k, h3, hJ⟩ := hacc1
    have hwa : wf kk (zC a) = true := Xz a hw
    have hsa := VZ a
    rw [ZS] at hs
    have hne : zb (zC a) ≠ [] := by rw [QW]; simp
    have hlen : (zb (zC a)).length ≤ 500000000 := by
     have : sz (zC a) = (zb (zC a)).length := rfl
     omega
    cases o with
    | neg =>
     simp [zM, zK, U.code, h3, hJ, xs]
     refine zd (jSimplifyNeg (zC a) hwa (by omega) _) ?_
     simp
     exact qm (rs := [.tmp 2]) (vs := [xs (zb (Qn (zC a)))]) (vs' := [xs (zb (Qn (zC a)))]) (by rfl) (by simp [ze, xs]) (by simp [xs]; rfl) (by simp only [zh, Bool.and_true]; exact jh _ _) rfl
    | sqr =>
     have he : zC (.un .sqr a) = if qJ (zC a) 0 || qJ (zC a) 65536 then zC a else .un .sqr (zC a) := rfl
     have zY : ∀ (fr : zx) (J : AH) (x : jJ), fr 2 = xs (zb (zC a)) → zC (.un .sqr a) = zC a → (x = .ret ∨ x = .normal) → jd E Tryz.f241 H (.ret (xs (zb (zC (.un .sqr a))))) H x fr (H ++ J) := by
      intro fr J x h1 h2 hx
      rw [h2]
      exact qm (rs := [.tmp 2]) (vs := [xs (zb (zC a))]) (vs' := [xs (zb (zC a))]) (by rfl) (by simp [ze, h1]) (by simp [xs]; rfl) (by simp only [zh, Bool.and_true]; exact jh _ _) rfl hx
     simp [zM, zK, U.code, h3, hJ, xs]
     refine zd (Qp (zC a) 0 (by omega) _) ?_
     cases h4 : qJ (zC a) 0 with
     | true =>
      simp [h3, hJ, xs]
      exact zY _ _ _ (by simp [xs]) (by rw [he, h4]; rfl) (by simp)
     | false =>
     simp [h3, hJ, xs]
     refine zd (Qp (zC a) 65536 (by omega) _) ?_
     cases h5 : qJ (zC a) 65536 with
     | true =>
      simp [h3, hJ, xs]
      exact zY _ _ _ (by simp [xs]) (by rw [he, h4, h5]; rfl) (by simp)
     | false =>
     rw [he, h4, h5]
     simp [h3, hJ, g0, hmap, hmapE, zM, zK, U.code]
     refine Vg (b := H.length + k) (k := .row true 1 [xs (zb (zC a))]) (k' := .row false 1 [xs (zb (zC a))]) (args' := [.slice [xs (zb (zC a))] false]) (by simp [hJ]) (fun Hx hx => by simp [hx, xs]) (fun Hx => by rw [List.append_nil]; exact X4 [zb (zC a)] (by simp) (by simpa using hlen) Hx) ?_
     rw [show ([zb (zC a)] : List (List Nd)).flatten = zb (zC a) by simp]
     simp [xs]
     refine bind_some (Uq (l := [zK 5 0]) hne (by simp; omega)) ?_
     simp
     have hkJ : k < J.length := (gI.1 hJ).1
     refine zm [] (by rfl) (by simp [zl, zk, za.triv, za.wr, za.none, upTo, newAt]; omega) ?_
     simp
     exact qm (rs := [.tmp 2]) (vs := [.ref (H.length + J.length) (1 + (zb (zC a)).length)]) (vs' := [xs (zb (.un .sqr (zC a)))]) (by rfl) (by simp [ze]) (by simp [xs, zb, U.code, Nat.add_comm]; rfl) (by simp only [zh, Bool.and_true]; exact jh _ _) rfl
    | sqrt =>
     have he : zC (.un .sqrt a) = if qJ (zC a) 0 || qJ (zC a) 65536 then zC a else .un .sqrt (zC a) := rfl
     have zY : ∀ (fr : zx) (J : AH) (x : jJ), fr 2 = xs (zb (zC a)) → zC (.un .sqrt a) = zC a → (x = .ret ∨ x = .normal) → jd E Tryz.f241 H (.ret (xs (zb (zC (.un .sqrt a))))) H x fr (H ++ J) := by
      intro fr J x h1 h2 hx
      rw [h2]
      exact qm (rs := [.tmp 2]) (vs := [xs (zb (zC a))]) (vs' := [xs (zb (zC a))]) (by rfl) (by simp [ze, h1]) (by simp [xs]; rfl) (by simp only [zh, Bool.and_true]; exact jh _ _) rfl hx
     simp [zM, zK, U.code, h3, hJ, xs]
     refine zd (Qp (zC a) 0 (by omega) _) ?_
     cases h4 : qJ (zC a) 0 with
     | true =>
      simp [h3, hJ, xs]
      exact zY _ _ _ (by simp [xs]) (by rw [he, h4]; rfl) (by simp)
     | false =>
     simp [h3, hJ, xs]
     refine zd (Qp (zC a) 65536 (by omega) _) ?_
     cases h5 : qJ (zC a) 65536 with
     | true =>
      simp [h3, hJ, xs]
      exact zY _ _ _ (by simp [xs]) (by rw [he, h4, h5]; rfl) (by simp)
     | false =>
     rw [he, h4, h5]
     simp [h3, hJ, g0, hmap, hmapE, zM, zK, U.code]
     refine Vg (b := H.length + k) (k := .row true 1 [xs (zb (zC a))]) (k' := .row false 1 [xs (zb (zC a))]) (args' := [.slice [xs (zb (zC a))] false]) (by simp [hJ]) (fun Hx hx => by simp [hx, xs]) (fun Hx => by rw [List.append_nil]; exact X4 [zb (zC a)] (by simp) (by simpa using hlen) Hx) ?_
     rw [show ([zb (zC a)] : List (List Nd)).flatten = zb (zC a) by simp]
     simp [xs]
     refine bind_some (Uq (l := [zK 6 0]) hne (by simp; omega)) ?_
     simp
     have hkJ : k < J.length := (gI.1 hJ).1
     refine zm [] (by rfl) (by simp [zl, zk, za.triv, za.wr, za.none, upTo, newAt]; omega) ?_
     simp
     exact qm (rs := [.tmp 2]) (vs := [.ref (H.length + J.length) (1 + (zb (zC a)).length)]) (vs' := [xs (zb (.un .sqrt (zC a)))]) (by rfl) (by simp [ze]) (by simp [xs, zb, U.code, Nat.add_comm]; rfl) (by simp only [zh, Bool.and_true]; exact jh _ _) rfl
   | bin o a b =>
    have hacc1 : ∃ k, fr 3 = .ref (H.length + k) 2 ∧ J[k]? = some (.row true 1 [xs (zb (zC a)), xs (zb (zC b))]) := by
     rcases hacc with ⟨h, _⟩ | ⟨k, h1, h2⟩
     ·simp [zz] at h
     ·exact ⟨k, by simpa [zz] using h1, by simpa [zz] using h2⟩
    obtain ⟨k, h3, hJ⟩ := hacc1
    simp only [wf, Bool.and_eq_true] at hw
    have hwa : wf kk (zC a) = true := Xz a hw.1
    have hwb : wf kk (zC b) = true := Xz b hw.2
    have hsa := VZ a
    have hsb := VZ b
    rw [Zc] at hs
    have hne : zb (zC a) ++ zb (zC b) ≠ [] := by rw [QW (zC a)]; simp
    have hlen : (zb (zC a)).length + (zb (zC b)).length ≤ 500000000 := by
     have : sz (zC a) = (zb (zC a)).length := rfl
     have : sz (zC b) = (zb (zC b)).length := rfl
     omega
    cases o with
    | add =>
     simp [zM, zK, B.code, h3, hJ, xs]
     refine zB (fun Hx => jSimplifyAdd (zC a) (zC b) hwa hwb (by omega) Hx) ?_
     simp
     refine zm [] (by rfl) (by simp [zl, zk, za.triv, za.wr, za.none, upTo, newAt]) ?_
     simp
     exact qm (rs := [.tmp 2]) (vs := [xs (zb (JU (zC a) (zC b)))]) (vs' := [xs (zb (JU (zC a) (zC b)))]) (by rfl) (by simp [ze, xs]) (by simp [xs]; rfl) (by simp only [zh, Bool.and_true]; exact jh _ _) rfl
    | sub =>
     simp [zM, zK, B.code, h3, hJ, xs]
     refine zB (fun Hx => jSimplifySub (zC a) (zC b) hwa hwb (by omega) Hx) ?_
     simp
     refine zm [] (by rfl) (by simp [zl, zk, za.triv, za.wr, za.none, upTo, newAt]) ?_
     simp
     exact qm (rs := [.tmp 2]) (vs := [xs (zb (JT (zC a) (zC b)))]) (vs' := [xs (zb (JT (zC a) (zC b)))]) (by rfl) (by simp [ze, xs]) (by simp [xs]; rfl) (by simp only [zh, Bool.and_true]; exact jh _ _) rfl
    | mul =>
     simp [zM, zK, B.code, h3, hJ, xs]
     refine zB (fun Hx => jSimplifyProduct (zC a) (zC b) hwa hwb (by omega) Hx) ?_
     simp
     refine zm [] (by rfl) (by simp [zl, zk, za.triv, za.wr, za.none, upTo, newAt]) ?_
     simp
     exact qm (rs := [.tmp 2]) (vs := [xs (zb (Jg (zC a) (zC b)))]) (vs' := [xs (zb (Jg (zC a) (zC b)))]) (by rfl) (by simp [ze, xs]) (by simp [xs]; rfl) (by simp only [zh, Bool.and_true]; exact jh _ _) rfl
    | div =>
     have he : zC (.bin .div a b) = if qJ (zC a) 0 || qJ (zC b) 65536 then zC a else .bin .div (zC a) (zC b) := rfl
     have zY : ∀ (fr : zx) (J : AH) (x : jJ), fr 2 = xs (zb (zC a)) → zC (.bin .div a b) = zC a → (x = .ret ∨ x = .normal) → jd E Tryz.f241 H (.ret (xs (zb (zC (.bin .div a b))))) H x fr (H ++ J) := by
      intro fr J x h1 h2 hx
      rw [h2]
      exact qm (rs := [.tmp 2]) (vs := [xs (zb (zC a))]) (vs' := [xs (zb (zC a))]) (by rfl) (by simp [ze, h1]) (by simp [xs]; rfl) (by simp only [zh, Bool.and_true]; exact jh _ _) rfl hx
     simp [zM, zK, B.code, h3, hJ, xs]
     refine zd (Qp (zC a) 0 (by omega) _) ?_
     cases h4 : qJ (zC a) 0 with
     | true =>
      simp [h3, hJ, xs]
      exact zY _ _ _ (by simp [xs]) (by rw [he, h4]; rfl) (by simp)
     | false =>
     simp [h3, hJ, xs]
     refine zd (Qp (zC b) 65536 (by omega) _) ?_
     cases h5 : qJ (zC b) 65536 with
     | true =>
      simp [h3, hJ, xs]
      exact zY _ _ _ (by simp [xs]) (by rw [he, h4, h5]; rfl) (by simp)
     | false =>
     rw [he, h4, h5]
     simp [h3, hJ, g0, hmap, hmapE, zM, zK, B.code]
     refine Vg (b := H.length + k) (k := .row true 1 [xs (zb (zC a)), xs (zb (zC b))]) (k' := .row false 1 [xs (zb (zC a)), xs (zb (zC b))]) (args' := [.slice [xs (zb (zC a)), xs (zb (zC b))] false]) (by simp [hJ]) (fun Hx hx => by simp [hx, xs]) (fun Hx => by rw [List.append_nil]; exact X4 [zb (zC a), zb (zC b)] (by simp) (by simpa using hlen) Hx) ?_
     rw [show ([zb (zC a), zb (zC b)] : List (List Nd)).flatten = zb (zC a) ++ zb (zC b) by simp]
     have hap := fun Hx : AH => Uq (H := Hx) (l := [zK 10 0]) (f := false) hne (by simp; omega)
     generalize hLL : zb (zC a) ++ zb (zC b) = L at *
     simp [xs]
     refine bind_some (hap _) ?_
     simp
     have hkJ : k < J.length := (gI.1 hJ).1
     refine zm [] (by rfl) (by simp [zl, zk, za.triv, za.wr, za.none, upTo, newAt]; omega) ?_
     simp
     exact qm (rs := [.tmp 2]) (vs := [.ref (H.length + J.length) (1 + L.length)]) (vs' := [xs (zK 10 0 :: L)]) (by rfl) (by simp [ze]) (by simp [xs, Nat.add_comm]; rfl) (by simp only [zh, Bool.and_true]; exact jh _ _) (by rw [← hLL]; rfl)
def qs (l : List Ex) : AV := .slice (l.map fun k => xs (zb k)) false
theorem jApplyU (o : U) (a : Ex) (hb : sz a ≤ 500000000) (H : AH) : zg E 273 [.int .i64 o.code, .slice [xs (zb a)] false] H (.ret (xs (zb (.un o a)))) H := jApply1 o.code a hb H
theorem Q4 (o : B) (a b : Ex) (hb : sz a + sz b ≤ 500000000) (H : AH) : zg E 273 [.int .i64 o.code, .slice [xs (zb a), xs (zb b)] false] H (.ret (xs (zb (.bin o a b)))) H := zb7 o.code a b hb H
theorem jRule1 (e a d : Ex) (hb : sz d ≤ 10000000) (H : AH) : zg E 272 [xs (zb e), qs [a], qs [d]] H (.ret (xs (zb (.un .neg d)))) H := by
 refine zt zn zo Tryz.func272 rfl (by rfl) Tryz.ntmps272 (by kernel_rfl) (by simp) ?_
 simp [qs, xs]
 refine Jq (jApplyU .neg d (by omega) _) (by simp [xs, U.code]; rfl) ?_
 simp
 exact jZ (t := 6) (by rfl) (by simp)
theorem jRule2 (e a d : Ex) (hb : sz a + sz d ≤ 10000000) (H : AH) : zg E 274 [xs (zb e), qs [a], qs [d]] H (.ret (xs (zb (.bin .mul (.bin .mul (jB 2) a) d)))) H := by
 refine zt zn zo Tryz.func274 rfl (by rfl) Tryz.ntmps274 (by kernel_rfl) (by simp) ?_
 have h1 := Zc .mul (jB 2) a
 rw [US] at h1
 simp [qs, xs]
 refine zB (fun Hx => YW 2 (by omega) Hx) ?_
 simp [xs]
 refine Zm (fun Hx => Q4 .mul (jB 2) a (by rw [US]; omega) Hx) (fun Hx => by simp [xs, B.code]) ?_
 simp [xs]
 refine Zm (fun Hx => Q4 .mul (.bin .mul (jB 2) a) d (by omega) Hx) (fun Hx => by simp [xs, B.code]) ?_
 simp
 refine zm [] (by rfl) (by simp [zl, zk, za.triv, za.wr, za.none, upTo, newAt]) ?_
 simp
 exact jZ (t := 6) (by rfl) (by simp)
theorem jRule3 (e a d : Ex) (hb : sz e + sz d ≤ 10000000) (H : AH) : zg E 275 [xs (zb e), qs [a], qs [d]] H (.ret (xs (zb (.bin .div d (.bin .mul (jB 2) e))))) H := by
 refine zt zn zo Tryz.func275 rfl (by rfl) Tryz.ntmps275 (by kernel_rfl) (by simp) ?_
 have h1 := Zc .mul (jB 2) e
 rw [US] at h1
 simp [qs, xs]
 refine zB (fun Hx => YW 2 (by omega) Hx) ?_
 simp [xs]
 refine Zm (fun Hx => Q4 .mul (jB 2) e (by rw [US]; omega) Hx) (fun Hx => by simp [xs, B.code]) ?_
 simp [xs]
 refine Zm (fun Hx => Q4 .div d (.bin .mul (jB 2) e) (by omega) Hx) (fun Hx => by simp [xs, B.code]) ?_
 simp
 refine zm [] (by rfl) (by simp [zl, zk, za.triv, za.wr, za.none, upTo, newAt]) ?_
 simp
 exact jZ (t := 6) (by rfl) (by simp)
theorem jRule4 (e a b c d : Ex) (hb : sz c + sz d ≤ 10000000) (H : AH) : zg E 276 [xs (zb e), qs [a, b], qs [c, d]] H (.ret (xs (zb (.bin .add c d)))) H := by
 refine zt zn zo Tryz.func276 rfl (by rfl) Tryz.ntmps276 (by kernel_rfl) (by simp) ?_
 simp [qs, xs]
 refine zd (Q4 .add c d (by omega) _) ?_
 simp
 exact jZ (t := 6) (by rfl) (by simp)
theorem jRule5 (e a b c d : Ex) (hb : sz c + sz d ≤ 10000000) (H : AH) : zg E 277 [xs (zb e), qs [a, b], qs [c, d]] H (.ret (xs (zb (.bin .sub c d)))) H := by
 refine zt zn zo Tryz.func277 rfl (by rfl) Tryz.ntmps277 (by kernel_rfl) (by simp) ?_
 simp [qs, xs]
 refine zd (Q4 .sub c d (by omega) _) ?_
 simp
 exact jZ (t := 6) (by rfl) (by simp)
theorem jRule6 (e a b c d : Ex) (hb : sz a + sz b + sz c + sz d ≤ 10000000) (H : AH) : zg E 278 [xs (zb e), qs [a, b], qs [c, d]] H (.ret (xs (zb (.bin .add (.bin .mul c b) (.bin .mul a d))))) H := by
 refine zt zn zo Tryz.func278 rfl (by rfl) Tryz.ntmps278 (by kernel_rfl) (by simp) ?_
 have h1 := Zc .mul c b
 have h2 := Zc .mul a d
 simp [qs, xs]
 refine Zm (fun Hx => Q4 .mul c b (by omega) Hx) (fun Hx => by simp [xs, B.code]) ?_
 simp [xs]
 refine Zm (fun Hx => Q4 .mul a d (by omega) Hx) (fun Hx => by simp [xs, B.code]) ?_
 simp [xs]
 refine Zm (fun Hx => Q4 .add (.bin .mul c b) (.bin .mul a d) (by omega) Hx) (fun Hx => by simp [xs, B.code]) ?_
 simp
 refine zm [] (by rfl) (by simp [zl, zk, za.triv, za.wr, za.none, upTo, newAt]) ?_
 simp
 exact jZ (t := 6) (by rfl) (by simp)
theorem jRule7 (e a b c d : Ex) (hb : sz a + sz b + sz c + sz d ≤ 10000000) (H : AH) : zg E 279 [xs (zb e), qs [a, b], qs [c, d]] H (.ret (xs (zb (.bin .div (.bin .sub (.bin .mul c b) (.bin .mul a d)) (.un .sqr b))))) H := by
 refine zt zn zo Tryz.func279 rfl (by rfl) Tryz.ntmps279 (by kernel_rfl) (by simp) ?_
 have h1 := Zc .mul c b
 have h2 := Zc .mul a d
 have h3 := Zc .sub (.bin .mul c b) (.bin .mul a d)
 have h4 := ZS .sqr b
 simp [qs, xs]
 refine Zm (fun Hx => Q4 .mul c b (by omega) Hx) (fun Hx => by simp [xs, B.code]) ?_
 simp [xs]
 refine Zm (fun Hx => Q4 .mul a d (by omega) Hx) (fun Hx => by simp [xs, B.code]) ?_
 simp [xs]
 refine Zm (fun Hx => Q4 .sub (.bin .mul c b) (.bin .mul a d) (by omega) Hx) (fun Hx => by simp [xs, B.code]) ?_
 simp [xs]
 refine Zm (fun Hx => jApplyU .sqr b (by omega) Hx) (fun Hx => by simp [xs, U.code]) ?_
 simp [xs]
 refine Zm (fun Hx => Q4 .div (.bin .sub (.bin .mul c b) (.bin .mul a d)) (.un .sqr b) (by omega) Hx) (fun Hx => by simp [xs, B.code]) ?_
 simp
 refine zm [] (by rfl) (by simp [zl, zk, za.triv, za.wr, za.none, upTo, newAt]) ?_
 simp
 exact jZ (t := 6) (by rfl) (by simp)
def JY : List (AV × AV) := [(.int .i64 4, zS 272), (.int .i64 5, zS 274), (.int .i64 6, zS 275), (.int .i64 7, zS 276), (.int .i64 8, zS 277), (.int .i64 9, zS 278), (.int .i64 10, zS 279)]
theorem jRules (H : AH) : zg E 238 [] H (.ret (.map H.length)) (H ++ [.map JY]) := by
 refine zt zn zo Tryz.func238 rfl (by rfl) Tryz.ntmps238 (by kernel_rfl) (by simp) ?_
 simp
 exact Zx (rs := [.tmp 0]) (vs := [.map H.length]) (by rfl) (by simp [ze]) rfl
theorem callD_rdJ (rds : List Nat) {g : FuncId} {captured args : List AV} {next : ZA} {H : AH} {r : AV} (hlt : ∀ b ∈ rds, b < H.length) (h : ∀ Hx : AH, (∀ b ∈ rds, Hx[b]? = H[b]?) → zg E g (args ++ captured) Hx (.ret r) Hx)
  (kk : next .go r ⟨rds, [], none, true⟩ H) : ZP E (.func (.func g) [] captured) args next H :=
 ⟨r, rds, [], ⟨hlt, fun p hp => by simp at hp, fun Hx hx => .inl (h Hx hx)⟩, kk⟩
def JD : Ex → Bool
 | .num _ | .var _ | .time => true
 | _ => false
structure WT (v : Vr) (H : AH) (bv bd bt bm : Nat) (rv : List Nat) (gV : FuncId) (cV : List AV) : Prop where
 hv : H[bv]? = some (.row true 1 [.func (.func gV) [] cV])
 hd : H[bd]? = some (.row true 1 [.func (.func 239) [] [.ptr bv 1 0 0, .ptr bd 1 0 0, .ptr bt 1 0 0]])
 ht : H[bt]? = some (.row true 1 [.map bm])
 hm : H[bm]? = some (.map JY)
 hr : ∀ b ∈ rv, b < H.length
 test : ∀ Hx : AH, (∀ b ∈ rv, Hx[b]? = H[b]?) → ∀ e, JD e = true → zg E gV ([nd (zM e)] ++ cV) Hx (.ret (.bool (QH v e))) Hx
theorem WT.app {v : Vr} {H : AH} {bv bd bt bm : Nat} {rv : List Nat} {gV : FuncId} {cV : List AV} (h : WT v H bv bd bt bm rv gV cV) (J : AH) : WT v (H ++ J) bv bd bt bm rv gV cV :=
 ⟨zi h.hv, zi h.hd, zi h.ht, zi h.hm, fun b hb => by have := h.hr b hb; simp; omega, fun Hx hx e he => h.test Hx (fun b hb => by rw [hx b hb, List.getElem?_append_left (h.hr b hb)]) e he⟩
theorem zci {v : Vr} {a k : Ex} {i : Nat} (h : (zz a)[i]? = some k) : sz (zJ v k) ≤ sz (zJ v a) := by
 cases a with
 | un o a =>
  cases i with
  | zero =>
   simp [zz] at h; subst h
   cases o <;> simp only [zJ, ZS, Zc] <;> omega
  | succ i => simp [zz] at h
 | bin o a b =>
  match i, h with
  | 0, h =>
   simp [zz] at h; subst h
   cases o <;> simp only [zJ, ZS, Zc] <;> omega
  | 1, h =>
   simp [zz] at h; subst h
   cases o <;> simp only [zJ, ZS, Zc] <;> omega
  | i + 2, h => simp [zz] at h
 | _ => simp [zz] at h
def LDe (v : Vr) (a : Ex) (pv pd pt : AV) (H : AH) (i : Nat) (fr : zx) (H' : AH) : Prop :=
 fr 0 = xs (zb a) ∧ fr 1 = pv ∧ fr 2 = pd ∧ fr 3 = pt ∧ fr 6 = qs (zz a) ∧ fr 22 = qs (zz a) ∧ fr 23 = .int .i64 (zz a).length ∧ fr 24 = .int .i64 i ∧ i ≤ (zz a).length ∧ ∃ J, H' = H ++ J ∧ qr H J (fr 7) 1 (((zz a).take i).map fun k => xs (zb (zJ v k))) .nilslice
theorem jD {v : Vr} {kk : Nat} {bv bd bt bm : Nat} {rv : List Nat} {gV : FuncId} {cV : List AV} : ∀ (n : Nat) (a : Ex), sz a ≤ n → wf kk a = true → sz a ≤ 1000000 → sz (zJ v a) ≤ 1000000 → ∀ H, WT v H bv bd bt bm rv gV cV →
  zg E 239 [xs (zb a), .ptr bv 1 0 0, .ptr bd 1 0 0, .ptr bt 1 0 0] H (.ret (xs (zb (zJ v a)))) H
 | 0, a, hn, hw, hs, hds, H, hM => by have := Jd a; omega
 | n + 1, a, hn, hw, hs, hds, H, hM => by
  refine zt zn zo Tryz.func239 rfl (by rfl) Tryz.ntmps239 (by kernel_rfl) (by simp) ?_
  have ih : ∀ (k : Ex) (i : Nat), (zz a)[i]? = some k → ∀ J : AH, zg E 239 [xs (zb k), .ptr bv 1 0 0, .ptr bd 1 0 0, .ptr bt 1 0 0] (H ++ J) (.ret (xs (zb (zJ v k)))) (H ++ J) := fun k i hi J =>
   jD n k (by have := U6 hi; omega) (kid_wf hi hw) (by have := U6 hi; omega) (Nat.le_trans (zci hi) hds) _ (hM.app J)
  have hk2 := U5 a
  have hget : (zb a)[0]? = some (zM a) := by rw [QW]; rfl
  have hmap : ((zb a).map nd)[0]? = some (nd (zM a)) := by rw [List.getElem?_map, hget]; rfl
  have hmapE : ∀ h, ((zb a).map nd)[0]'h = nd (zM a) := fun h => (gI.1 hmap).2
  simp
  refine zd (oOperands a (by omega) _) ?_
  simp
  by_cases hleaf : JD a = true
  ·have hkz : zz a = [] := by cases a <;> simp [JD] at hleaf <;> rfl
   have hdif : zJ v a = if QH v a then jB 1 else jB 0 := by cases a <;> simp [JD] at hleaf <;> rfl
   rw [hdif]
   simp [hkz, hM.hv, xs, hmap, hmapE]
   refine callD_rdJ rv hM.hr (fun Hx hx => hM.test Hx hx a hleaf) ?_
   simp
   refine zm [] (by rfl) (by by_cases hrv : rv = [] <;> simp [zl, zk, za.triv, za.wr, za.none, upTo, newAt, hrv]) ?_
   cases hv : QH v a with
   | true =>
    simp
    refine zd (YW 1 (by omega) _) ?_
    simp
    exact jZ (t := 5) (by rfl) (by simp)
   | false =>
    simp
    refine zd (YW 0 (by omega) _) ?_
    simp
    exact jZ (t := 5) (by rfl) (by simp)
  ·have hkn : (((zz a).length : Int) == 0) = false := by cases a <;> simp [JD] at hleaf <;> simp [zz]
   simp [hkn]
   refine zZ (LDe v a (.ptr bv 1 0 0) (.ptr bd 1 0 0) (.ptr bt 1 0 0) H) (fun i => (zz a).length - i) 0 ⟨by simp, by simp, by simp, by simp, by simp [qs], by simp [qs], by simp, by simp, by omega, [], by simp, .inl ⟨by simp, by simp⟩⟩ ?_
   rintro i fr H' ⟨g0, g1, g2, g3, g6, g22, g23, g24, hi, J, rfl, hacc⟩
   simp [g23, g24]
   refine zL (fun hc => ?_) (fun hc => ?_)
   ·have hlt : i < (zz a).length := by simpa using hc
    obtain ⟨k, hki⟩ := zD hlt
    have hkiE : ∀ h, (zz a)[i]'h = k := fun h => (gI.1 hki).2
    have w2 : IntKind.i64.wrap ((i : Int) + 1) = ((i + 1 : Nat) : Int) := by rw [zj (by omega) (by omega)]; omega
    have hS := ih k i hki J
    simp only [QT] at hS
    simp [g2, g22, g24, hki, hkiE, xs, qs, old hM.hd]
    refine zd hS ?_
    obtain ⟨v', J', hap, hacc', _⟩ := qr.push (T := zp) (t := 22) (e := 26) (x := .slice [xs (zb (zJ v k))] true) hacc tab22 rfl tab26 rfl rfl (by simp [xs, qo]) ⟨by decide, by simp⟩ (by simp; omega) (by simp; omega)
    simp only [QT] at hap
    simp
    refine bind_some hap ?_
    simp [g24, w2]
    refine ⟨i + 1, by show (zz a).length - (i + 1) < (zz a).length - i; omega, by simp [g0], by simp [g1], by simp [g2], by simp [g3], by simp [g6], by simp [g22], by simp [g23], by simp, by omega, J', rfl, ?_⟩
    rw [List.take_add_one, hki]
    simpa using hacc'
   ·have hi' : i = (zz a).length := by have : ¬ i < (zz a).length := by simpa using hc
                                       omega
    subst hi'
    rw [List.take_length] at hacc
    rw [QT] at g0
    clear ih g22 g23 g24 hc hi
    have hbt : bt < H.length := (gI.1 hM.ht).1
    have hbm : bm < H.length := (gI.1 hM.hm).1
    cases a with
    | un o a =>
     have hacc1 : ∃ k, fr 7 = .ref (H.length + k) 1 ∧ J[k]? = some (.row true 1 [xs (zb (zJ v a))]) := by
      rcases hacc with ⟨h, _⟩ | ⟨k, h1, h2⟩
      ·simp [zz] at h
      ·exact ⟨k, by simpa [zz] using h1, by simpa [zz] using h2⟩
     obtain ⟨k, h7, hJ⟩ := hacc1
     have hkJ : k < J.length := (gI.1 hJ).1
     have hdk := zci (v := v) (a := .un o a) (i := 0) (k := a) rfl
     have hsu := ZS o a
     cases o with
     | neg =>
      simp [g0, g3, g6, h7, hJ, hmap, hmapE, zM, zK, U.code, old hM.ht, old hM.hm, JY]
      refine Vg (b := H.length + k) (k := .row true 1 [xs (zb (zJ v a))]) (k' := .row false 1 [xs (zb (zJ v a))]) (args' := [xs (zb (.un .neg a)), qs [a], qs [zJ v a]]) (by simp [hJ]) (fun Hx hx => by simp [hx, xs, qs, zz]) (fun Hx => by rw [List.append_nil]; exact jRule1 (.un .neg a) a (zJ v a) (by omega) Hx) ?_
      simp
      refine zm [] (by rfl) (by simp [zl, zk, za.triv, za.wr, za.none, upTo, newAt]; omega) ?_
      simp
      exact qm (rs := [.tmp 5]) (vs := [xs (zb (zJ v (.un .neg a)))]) (vs' := [xs (zb (zJ v (.un .neg a)))]) (by rfl) (by simp [ze, zJ]) (by simp [xs]; rfl) (by simp only [zh, Bool.and_true]; exact jh _ _) rfl
     | sqr =>
      simp [g0, g3, g6, h7, hJ, hmap, hmapE, zM, zK, U.code, old hM.ht, old hM.hm, JY]
      refine Vg (b := H.length + k) (k := .row true 1 [xs (zb (zJ v a))]) (k' := .row false 1 [xs (zb (zJ v a))]) (args' := [xs (zb (.un .sqr a)), qs [a], qs [zJ v a]]) (by simp [hJ]) (fun Hx hx => by simp [hx, xs, qs, zz]) (fun Hx => by rw [List.append_nil]; exact jRule2 (.un .sqr a) a (zJ v a) (by omega) Hx) ?_
      simp
      refine zm [] (by rfl) (by simp [zl, zk, za.triv, za.wr, za.none, upTo, newAt]; omega) ?_
      simp
      exact qm (rs := [.tmp 5]) (vs := [xs (zb (zJ v (.un .sqr a)))]) (vs' := [xs (zb (zJ v (.un .sqr a)))]) (by rfl) (by simp [ze, zJ]) (by simp [xs]; rfl) (by simp only [zh, Bool.and_true]; exact jh _ _) rfl
     | sqrt =>
      simp [g0, g3, g6, h7, hJ, hmap, hmapE, zM, zK, U.code, old hM.ht, old hM.hm, JY]
      refine Vg (b := H.length + k) (k := .row true 1 [xs (zb (zJ v a))]) (k' := .row false 1 [xs (zb (zJ v a))]) (args' := [xs (zb (.un .sqrt a)), qs [a], qs [zJ v a]]) (by simp [hJ]) (fun Hx hx => by simp [hx, xs, qs, zz]) (fun Hx => by rw [List.append_nil]; exact jRule3 (.un .sqrt a) a (zJ v a) (by omega) Hx) ?_
      simp
      refine zm [] (by rfl) (by simp [zl, zk, za.triv, za.wr, za.none, upTo, newAt]; omega) ?_
      simp
      exact qm (rs := [.tmp 5]) (vs := [xs (zb (zJ v (.un .sqrt a)))]) (vs' := [xs (zb (zJ v (.un .sqrt a)))]) (by rfl) (by simp [ze, zJ]) (by simp [xs]; rfl) (by simp only [zh, Bool.and_true]; exact jh _ _) rfl
    | bin o a b =>
     have hacc1 : ∃ k, fr 7 = .ref (H.length + k) 2 ∧ J[k]? = some (.row true 1 [xs (zb (zJ v a)), xs (zb (zJ v b))]) := by
      rcases hacc with ⟨h, _⟩ | ⟨k, h1, h2⟩
      ·simp [zz] at h
      ·exact ⟨k, by simpa [zz] using h1, by simpa [zz] using h2⟩
     obtain ⟨k, h7, hJ⟩ := hacc1
     have hkJ : k < J.length := (gI.1 hJ).1
     have hdk := zci (v := v) (a := .bin o a b) (i := 0) (k := a) rfl
     have hdk2 := zci (v := v) (a := .bin o a b) (i := 1) (k := b) rfl
     have hsu := Zc o a b
     cases o with
     | add =>
      simp [g0, g3, g6, h7, hJ, hmap, hmapE, zM, zK, B.code, old hM.ht, old hM.hm, JY]
      refine Vg (b := H.length + k) (k := .row true 1 [xs (zb (zJ v a)), xs (zb (zJ v b))]) (k' := .row false 1 [xs (zb (zJ v a)), xs (zb (zJ v b))]) (args' := [xs (zb (.bin .add a b)), qs [a, b], qs [zJ v a, zJ v b]]) (by simp [hJ]) (fun Hx hx => by simp [hx, xs, qs, zz]) (fun Hx => by rw [List.append_nil]; exact jRule4 (.bin .add a b) a b (zJ v a) (zJ v b) (by omega) Hx) ?_
      simp
      refine zm [] (by rfl) (by simp [zl, zk, za.triv, za.wr, za.none, upTo, newAt]; omega) ?_
      simp
      exact qm (rs := [.tmp 5]) (vs := [xs (zb (zJ v (.bin .add a b)))]) (vs' := [xs (zb (zJ v (.bin .add a b)))]) (by rfl) (by simp [ze, zJ]) (by simp [xs]; rfl) (by simp only [zh, Bool.and_true]; exact jh _ _) rfl
     | sub =>
      simp [g0, g3, g6, h7, hJ, hmap, hmapE, zM, zK, B.code, old hM.ht, old hM.hm, JY]
      refine Vg (b := H.length + k) (k := .row true 1 [xs (zb (zJ v a)), xs (zb (zJ v b))]) (k' := .row false 1 [xs (zb (zJ v a)), xs (zb (zJ v b))]) (args' := [xs (zb (.bin .sub a b)), qs [a, b], qs [zJ v a, zJ v b]]) (by simp [hJ]) (fun Hx hx => by simp [hx, xs, qs, zz]) (fun Hx => by rw [List.append_nil]; exact jRule5 (.bin .sub a b) a b (zJ v a) (zJ v b) (by omega) Hx) ?_
      simp
      refine zm [] (by rfl) (by simp [zl, zk, za.triv, za.wr, za.none, upTo, newAt]; omega) ?_
      simp
      exact qm (rs := [.tmp 5]) (vs := [xs (zb (zJ v (.bin .sub a b)))]) (vs' := [xs (zb (zJ v (.bin .sub a b)))]) (by rfl) (by simp [ze, zJ]) (by simp [xs]; rfl) (by simp only [zh, Bool.and_true]; exact jh _ _) rfl
     | mul =>
      simp [g0, g3, g6, h7, hJ, hmap, hmapE, zM, zK, B.code, old hM.ht, old hM.hm, JY]
      refine Vg (b := H.length + k) (k := .row true 1 [xs (zb (zJ v a)), xs (zb (zJ v b))]) (k' := .row false 1 [xs (zb (zJ v a)), xs (zb (zJ v b))]) (args' := [xs (zb (.bin .mul a b)), qs [a, b], qs [zJ v a, zJ v b]]) (by simp [hJ]) (fun Hx hx => by simp [hx, xs, qs, zz]) (fun Hx => by rw [List.append_nil]; exact jRule6 (.bin .mul a b) a b (zJ v a) (zJ v b) (by omega) Hx) ?_
      simp
      refine zm [] (by rfl) (by simp [zl, zk, za.triv, za.wr, za.none, upTo, newAt]; omega) ?_
      simp
      exact qm (rs := [.tmp 5]) (vs := [xs (zb (zJ v (.bin .mul a b)))]) (vs' := [xs (zb (zJ v (.bin .mul a b)))]) (by rfl) (by simp [ze, zJ]) (by simp [xs]; rfl) (by simp only [zh, Bool.and_true]; exact jh _ _) rfl
     | div =>
      simp [g0, g3, g6, h7, hJ, hmap, hmapE, zM, zK, B.code, old hM.ht, old hM.hm, JY]
      refine Vg (b := H.length + k) (k := .row true 1 [xs (zb (zJ v a)), xs (zb (zJ v b))]) (k' := .row false 1 [xs (zb (zJ v a)), xs (zb (zJ v b))]) (args' := [xs (zb (.bin .div a b)), qs [a, b], qs [zJ v a, zJ v b]]) (by simp [hJ]) (fun Hx hx => by simp [hx, xs, qs, zz]) (fun Hx => by rw [List.append_nil]; exact jRule7 (.bin .div a b) a b (zJ v a) (zJ v b) (by omega) Hx) ?_
      simp
      refine zm [] (by rfl) (by simp [zl, zk, za.triv, za.wr, za.none, upTo, newAt]; omega) ?_
      simp
      exact qm (rs := [.tmp 5]) (vs := [xs (zb (zJ v (.bin .div a b)))]) (vs' := [xs (zb (zJ v (.bin .div a b)))]) (by rfl) (by simp [ze, zJ]) (by simp [xs]; rfl) (by simp only [zh, Bool.and_true]; exact jh _ _) rfl
    | _ => simp [JD] at hleaf
theorem jDerivative {v : Vr} {kk : Nat} (a : Ex) (hw : wf kk a = true) (hs : sz a ≤ 1000000) (hds : sz (zJ v a) ≤ 1000000) (H : AH) (rv : List Nat) (gV : FuncId) (cV : List AV) (hr : ∀ b ∈ rv, b < H.length)
  (test : ∀ Hx : AH, (∀ b ∈ rv, Hx[b]? = H[b]?) → ∀ e, JD e = true → zg E gV ([nd (zM e)] ++ cV) Hx (.ret (.bool (QH v e))) Hx) :
  zg E 183 [xs (zb a), .func (.func gV) [] cV] H (.ret (xs (zb (Zy v a)))) H := by
 refine zt zn zo Tryz.func183 rfl (by rfl) Tryz.ntmps183 (by kernel_rfl) (by simp) ?_
 simp
 refine zd (jRules _) ?_
 simp
 have hM : WT v (H ++ [.row true 1 [.func (.func gV) [] cV], .map JY, .row true 1 [.map (H.length + 1)], .row true 1 [.func (.func 239) [] [.ptr H.length 1 0 0, .ptr (H.length + 3) 1 0 0, .ptr (H.length + 2) 1 0 0]]]) H.length (H.length + 3) (H.length + 2) (H.length + 1) rv gV cV :=
  ⟨by simp, by simp, by simp, by simp, fun b hb => by have := hr b hb; simp; omega, fun Hx hx e he => test Hx (fun b hb => by rw [hx b hb, List.getElem?_append_left (hr b hb)]) e he⟩
 have hS := jD (kk := kk) (sz a) a (Nat.le_refl _) hw hs hds _ hM
 refine zd hS ?_
 simp
 refine zd (jSimplify (sz (zJ v a)) (zJ v a) (Nat.le_refl _) (WD (k := kk) v a hw) (by omega) _) ?_
 simp
 exact qm (rs := [.tmp 4]) (vs := [xs (zb (Zy v a))]) (vs' := [xs (zb (Zy v a))]) (by rfl) (by simp [ze, Zy]) (by simp [xs]; rfl) (by simp only [zh, Bool.and_true]; exact jh _ _) rfl
theorem jDiff1 (e : Ex) (he : JD e = true) (i : Int) (b : Nat) (H : AH) (hb : H[b]? = some (.row true 1 [.int .i64 i])) : zg E 185 [nd (zM e), .ptr b 1 0 0] H (.ret (.bool (QH (.st i) e))) H := by
 refine zt zn zo Tryz.func185 rfl (by rfl) Tryz.ntmps185 (by kernel_rfl) (by simp) ?_
 cases e with
 | var k =>
  simp [zM, zK, old hb]
  exact zv (rs := [.tmp 3]) (by rfl) (by simp [ze, QH]) (by simp [noF])
 | num c =>
  simp [zM, zK, old hb]
  exact zv (rs := [.tmp 3]) (by rfl) (by simp [ze, QH]) (by simp [noF])
 | time =>
  simp [zM, zK, old hb]
  exact zv (rs := [.tmp 3]) (by rfl) (by simp [ze, QH]) (by simp [noF])
 | _ => simp [JD] at he
theorem jTime1 (e : Ex) (he : JD e = true) (H : AH) : zg E 184 [nd (zM e)] H (.ret (.bool (QH .tm e))) H := by
 refine zt zn zo Tryz.func184 rfl (by rfl) Tryz.ntmps184 (by kernel_rfl) (by simp) ?_
 cases e with
 | var k =>
  simp [zM, zK]
  exact zv (rs := [.tmp 2]) (by rfl) (by simp [ze, QH]) (by simp [noF])
 | num c =>
  simp [zM, zK]
  exact zv (rs := [.tmp 2]) (by rfl) (by simp [ze, QH]) (by simp [noF])
 | time =>
  simp [zM, zK]
  exact zv (rs := [.tmp 2]) (by rfl) (by simp [ze, QH]) (by simp [noF])
 | _ => simp [JD] at he
theorem jDiff {kk : Nat} (a : Ex) (i : Int) (hw : wf kk a = true) (hs : sz a ≤ 1000000) (hds : sz (zJ (.st i) a) ≤ 1000000) (H : AH) : zg E 116 [xs (zb a), .int .i64 i] H (.ret (xs (zb (Zy (.st i) a)))) H := by
 refine zt zn zo Tryz.func116 rfl (by rfl) Tryz.ntmps116 (by kernel_rfl) (by simp) ?_
 simp
 refine zd (jDerivative (v := .st i) (kk := kk) a hw hs hds _ [H.length] 185 [.ptr H.length 1 0 0] (by simp) (fun Hx hx e he => jDiff1 e he i H.length Hx (by rw [hx H.length (by simp)]; simp))) ?_
 simp
 exact qm (rs := [.tmp 4]) (vs := [xs (zb (Zy (.st i) a))]) (vs' := [xs (zb (Zy (.st i) a))]) (by rfl) (by simp [ze]) (by simp [xs]; rfl) (by simp only [zh, Bool.and_true]; exact jh _ _) rfl
theorem jTimeDerivative {kk : Nat} (a : Ex) (hw : wf kk a = true) (hs : sz a ≤ 1000000) (hds : sz (zJ .tm a) ≤ 1000000) (H : AH) : zg E 114 [xs (zb a)] H (.ret (xs (zb (Zy .tm a)))) H := by
 refine zt zn zo Tryz.func114 rfl (by rfl) Tryz.ntmps114 (by kernel_rfl) (by simp) ?_
 simp
 refine zd (jDerivative (v := .tm) (kk := kk) a hw hs hds _ [] 184 [] (by simp) (fun Hx hx e he => by simpa using jTime1 e he Hx)) ?_
 simp
 exact jZ (t := 2) (by rfl) (by simp)
theorem zbt (rds : List Nat) (b : Nat) (k' : zE) {g : FuncId} {captured args : List AV} {next : ZA} {H : AH} {r : AV} (hlt : ∀ c ∈ rds, c < H.length) (hb : b ∈ rds) (h : ∀ Hx : AH, (∀ c ∈ rds, Hx[c]? = H[c]?) → zg E g (args ++ captured) Hx (.ret r) (Hx.set b k'))
  (kk : next .go r ⟨rds, [(b, k')], none, true⟩ (H.set b k')) : ZP E (.func (.func g) [] captured) args next H :=
 ⟨r, rds, [(b, k')], ⟨hlt, fun p hp => by simp at hp; subst hp; exact hb, fun Hx hx => .inl (h Hx hx)⟩, kk⟩
def XG : List (AV × AV) := [(.int .i64 7, zS 91), (.int .i64 8, zS 234), (.int .i64 9, zS 118), (.int .i64 10, zS 235)]
theorem oBinaryOps (H : AH) : zg E 178 [] H (.ret (.map H.length)) (H ++ [.map XG]) := by
 refine zt zn zo Tryz.func178 rfl (by rfl) Tryz.ntmps178 (by kernel_rfl) (by simp) ?_
 simp
 exact Zx (rs := [.tmp 0]) (vs := [.map H.length]) (by rfl) (by simp [ze]) rfl
def Q8 (be bi bx bt bv bb : Nat) : AV := .func (.func 179) [] [.ptr be 1 0 0, .ptr bi 1 0 0, .ptr bx 1 0 0, .ptr bt 1 0 0, .ptr bv 1 0 0, .ptr bb 1 0 0]
structure JN (l : List Nd) (xv : List I) (t : I) (H : AH) (be bi bx bt bv bb bm : Nat) : Prop where
 he : H[be]? = some (.row true 1 [xs l])
 hx : H[bx]? = some (.row true 1 [.slice (xv.map iv) false])
 ht : H[bt]? = some (.row true 2 [iv t])
 hv : H[bv]? = some (.row true 1 [Q8 be bi bx bt bv bb])
 hb : H[bb]? = some (.row true 1 [.map bm])
 hm : H[bm]? = some (.map XG)
 hi : ∃ k, H[bi]? = some (.row true 1 [.int .i64 k])
 ne : bi ≠ be ∧ bi ≠ bx ∧ bi ≠ bt ∧ bi ≠ bv ∧ bi ≠ bb ∧ bi ≠ bm
theorem JN.app {l : List Nd} {xv : List I} {t : I} {H : AH} {be bi bx bt bv bb bm : Nat} (h : JN l xv t H be bi bx bt bv bb bm) (J : AH) : JN l xv t (H ++ J) be bi bx bt bv bb bm :=
 ⟨zi h.he, zi h.hx, zi h.ht, zi h.hv, zi h.hb, zi h.hm, let ⟨k, hk⟩ := h.hi; ⟨k, zi hk⟩, h.ne⟩
theorem JN.set {l : List Nd} {xv : List I} {t : I} {H : AH} {be bi bx bt bv bb bm : Nat} (h : JN l xv t H be bi bx bt bv bb bm) (k : Int) : JN l xv t (H.set bi (.row true 1 [.int .i64 k])) be bi bx bt bv bb bm := by
 obtain ⟨n1, n2, n3, n4, n5, n6⟩ := h.ne
 obtain ⟨k0, hk0⟩ := h.hi
 exact ⟨by rw [List.getElem?_set_ne n1]; exact h.he, by rw [List.getElem?_set_ne n2]; exact h.hx, by rw [List.getElem?_set_ne n3]; exact h.ht, by rw [List.getElem?_set_ne n4]; exact h.hv, by rw [List.getElem?_set_ne n5]; exact h.hb, by rw [List.getElem?_set_ne n6]; exact h.hm,
  ⟨k, by rw [List.getElem?_set_self (gI.1 hk0).1]⟩, h.ne⟩
theorem JN.like {l : List Nd} {xv : List I} {t : I} {H Hx : AH} {be bi bx bt bv bb bm : Nat} (h : JN l xv t H be bi bx bt bv bb bm) (k : ∀ c ∈ [be, bi, bx, bt, bv, bb, bm], Hx[c]? = H[c]?) : JN l xv t Hx be bi bx bt bv bb bm :=
 ⟨by rw [k be (by simp)]; exact h.he, by rw [k bx (by simp)]; exact h.hx, by rw [k bt (by simp)]; exact h.ht, by rw [k bv (by simp)]; exact h.hv, by rw [k bb (by simp)]; exact h.hb, by rw [k bm (by simp)]; exact h.hm, let ⟨q, hq⟩ := h.hi; ⟨q, by rw [k bi (by simp)]; exact hq⟩, h.ne⟩
theorem YO {xv : List I} {t : I} (hxv : ∀ p ∈ xv, vB p = true) (hxl : xv.length ≤ 1000000000) (htv : vB t = true) {l : List Nd} (hl : l.length ≤ 1000000000) {be bi bx bt bv bb bm : Nat} : ∀ (n : Nat) (a : Ex), sz a ≤ n → wf xv.length a = true → ∀ (pre r : List Nd) (H : AH), l = pre ++ zb a ++ r →
  JN l xv t H be bi bx bt bv bb bm → H[bi]? = some (.row true 1 [.int .i64 pre.length]) →
  zg E 179 [.ptr be 1 0 0, .ptr bi 1 0 0, .ptr bx 1 0 0, .ptr bt 1 0 0, .ptr bv 1 0 0, .ptr bb 1 0 0] H (.ret (iv (ev xv t a))) (H.set bi (.row true 1 [.int .i64 ((pre.length + sz a : Nat) : Int)]))
 | 0, a, hn, hw, pre, r, H, hpre, hM, hbi => by have := Jd a; omega
 | n + 1, a, hn, hw, pre, r, H, hpre, hM, hbi => by
  refine zt zn zo Tryz.func179 rfl (by rfl) Tryz.ntmps179 (by kernel_rfl) (by simp) ?_
  have hbl : bi < H.length := (gI.1 hbi).1
  have hlen : l.length = pre.length + sz a + r.length := by rw [hpre]; simp [sz]; omega
  have hget : l[pre.length]? = some (zM a) := by rw [hpre, QW]; simp
  have hmap : (l.map nd)[pre.length]? = some (nd (zM a)) := by rw [List.getElem?_map, hget]; rfl
  have hmapE : ∀ h, (l.map nd)[pre.length]'h = nd (zM a) := fun h => (gI.1 hmap).2
  have w1 : IntKind.i64.wrap ((pre.length : Int) + 1) = ((pre.length + 1 : Nat) : Int) := by rw [zj (by omega) (by omega)]; omega
  obtain ⟨n1, n2, n3, n4, n5, n6⟩ := hM.ne
  have hgetE : ∀ h, l[pre.length]'h = zM a := fun h => (gI.1 hget).2
  generalize hK : ((pre.length + sz a : Nat) : Int) = K
  have fin : ∀ (fr : zx) (J : AH) (x : jJ) (k : Int), fr 6 = .ptr H.length 1 0 0 → J[0]? = some (.row true 2 [iv (ev xv t a)]) → k = K → (x = .ret ∨ x = .normal) →
    jd E Tryz.f179 H (.ret (iv (ev xv t a))) (H.set bi (.row true 1 [.int .i64 K])) x fr (H.set bi (.row true 1 [.int .i64 k]) ++ J) := by
   intro fr J x k h6 hJ hk hx
   subst hk
   refine finU (rs := [.cell 6 48]) (by rfl) ?_ (by simp) (za5 (by simp [qh, noF, zh])) (by simp [noF, zh]) hx
   have e : (H.set bi (.row true 1 [.int .i64 k]) ++ J)[H.length]? = some (.row true 2 [iv (ev xv t a)]) := by
    rw [List.getElem?_append_right (by simp), List.length_set, Nat.sub_self]; exact hJ
   simp [ze, h6, e]
  have hM1 := hM.set ((pre.length + 1 : Nat) : Int)
  have hbi1 : (H.set bi (.row true 1 [.int .i64 ((pre.length + 1 : Nat) : Int)]))[bi]? = some (.row true 1 [.int .i64 ((pre.length + 1 : Nat) : Int)]) := List.getElem?_set_self hbl
  simp [old hM.he, old hbi, qZ hbi, xs, hget, hgetE, w1]
  simp at hM1 hbi1
  generalize hH1 : H.set bi (.row true 1 [.int .i64 ((pre.length : Int) + 1)]) = H1 at *
  have hl1 : H1.length = H.length := by rw [← hH1]; simp
  rw [← hl1]
  have rec1 : ∀ (k : Ex) (pre' r' : List Nd) (m m' : Int) (J0 : AH), sz k ≤ n → wf xv.length k = true → l = pre' ++ zb k ++ r' → m = (pre'.length : Int) → m' = ((pre'.length + sz k : Nat) : Int) →
    zg E 179 [.ptr be 1 0 0, .ptr bi 1 0 0, .ptr bx 1 0 0, .ptr bt 1 0 0, .ptr bv 1 0 0, .ptr bb 1 0 0] (H.set bi (.row true 1 [.int .i64 m]) ++ J0) (.ret (iv (ev xv t k))) (H.set bi (.row true 1 [.int .i64 m']) ++ J0) := by
   rintro k pre' r' m m' J0 h1 h2 h3 rfl rfl
   have h := YO hxv hxl htv hl n k h1 h2 pre' r' (H.set bi (.row true 1 [.int .i64 (pre'.length : Int)]) ++ J0) h3 ((hM.set _).app J0) (by rw [List.getElem?_append_left (by simpa using hbl), List.getElem?_set_self hbl])
   rwa [Yz hbl] at h
  have hval := QP hxv htv a hw
  cases a with
  | num c =>
   have hk1 : (pre.length : Int) + 1 = K := by rw [← hK, Je]; omega
   simp [zM]
   rw [hl1, ← hH1]
   exact fin _ _ _ _ (by simp) rfl hk1 (by simp)
  | var v =>
   have hk1 : (pre.length : Int) + 1 = K := by rw [← hK, Yo]; omega
   simp only [wf, decide_eq_true_eq] at hw
   obtain ⟨p, hxg⟩ := zD hw
   have hev : ev xv t (.var v) = p := by simp [ev, hxg]
   have hxgE : ∀ h, xv[v]'h = p := fun h => (gI.1 hxg).2
   simp [zM, zK, old hM1.hx, hxg, hxgE]
   rw [hl1, ← hH1]
   exact fin _ _ _ _ (by simp) (by simp [hev]) hk1 (by simp)
  | time =>
   have hk1 : (pre.length : Int) + 1 = K := by rw [← hK, Yp]; omega
   simp [zM, zK, old hM1.ht]
   rw [hl1, ← hH1]
   exact fin _ _ _ _ (by simp) (by simp [ev]) hk1 (by simp)
  | un o a =>
   rw [ZS] at hn hK
   have hva := QP hxv htv a hw
   cases o with
   | neg =>
    simp [zM, zK, U.code, old hM1.hv, Q8]
    have hS := rec1 a (pre ++ [zK 4 0]) r ((pre.length : Int) + 1) K [.row true 2 [iv (0, 0)], .row true 4 [nd (zK 4 0)]] (by omega) hw (by rw [hpre]; simp [zb, U.code]) (by simp) (by rw [← hK]; simp; omega)
    rw [hH1] at hS
    refine zd hS ?_
    rw [hl1]
    obtain ⟨H2, hH2⟩ : ∃ H2, H2 = H.set bi (.row true 1 [.int .i64 K]) := ⟨_, rfl⟩
    have hl2 : H2.length = H.length := by rw [hH2]; simp
    rw [← hl2]
    rw [← hH2]
    simp
    refine zd (Y1 _ hva _) ?_
    simp
    rw [hl2, hH2]
    exact fin _ _ _ _ (by simp) (by simp [ev, Jc]) rfl (by simp)
   | sqr =>
    simp [zM, zK, U.code, old hM1.hv, Q8]
    have hS := rec1 a (pre ++ [zK 5 0]) r ((pre.length : Int) + 1) K [.row true 2 [iv (0, 0)], .row true 4 [nd (zK 5 0)]] (by omega) hw (by rw [hpre]; simp [zb, U.code]) (by simp) (by rw [← hK]; simp; omega)
    rw [hH1] at hS
    refine zd hS ?_
    rw [hl1]
    obtain ⟨H2, hH2⟩ : ∃ H2, H2 = H.set bi (.row true 1 [.int .i64 K]) := ⟨_, rfl⟩
    have hl2 : H2.length = H.length := by rw [hH2]; simp
    rw [← hl2]
    rw [← hH2]
    simp
    refine zd (iSquare _ hva _) ?_
    simp
    rw [hl2, hH2]
    exact fin _ _ _ _ (by simp) (by simp [ev, Jc]) rfl (by simp)
   | sqrt =>
    simp [zM, zK, U.code, old hM1.hv, Q8]
    have hS := rec1 a (pre ++ [zK 6 0]) r ((pre.length : Int) + 1) K [.row true 2 [iv (0, 0)], .row true 4 [nd (zK 6 0)]] (by omega) hw (by rw [hpre]; simp [zb, U.code]) (by simp) (by rw [← hK]; simp; omega)
    rw [hH1] at hS
    refine zd hS ?_
    rw [hl1]
    obtain ⟨H2, hH2⟩ : ∃ H2, H2 = H.set bi (.row true 1 [.int .i64 K]) := ⟨_, rfl⟩
    have hl2 : H2.length = H.length := by rw [hH2]; simp
    rw [← hl2]
    rw [← hH2]
    simp
    refine zL (fun hc => ?_) (fun hc => ?_)
    ·have h0 : (ev xv t a).1 < 0 := by simpa using hc
     simp
     refine zd (Qb _) ?_
     simp
     rw [hl2, hH2]
     exact fin _ _ _ _ (by simp) (by simp [ev, Jc, h0]) rfl (by simp)
    ·have h0 : ¬ (ev xv t a).1 < 0 := by simpa using hc
     have hb := qR hva
     simp
     refine zd (iSqrt _ hva (by omega) _) ?_
     simp
     rw [hl2, hH2]
     exact fin _ _ _ _ (by simp) (by simp [ev, Jc, h0]) rfl (by simp)
  | bin o a b =>
   rw [Zc] at hn hK
   simp only [wf, Bool.and_eq_true] at hw
   have hva := QP hxv htv a hw.1
   have hvb := QP hxv htv b hw.2
   cases o with
   | add =>
    simp [zM, zK, B.code, old hM1.hv, Q8]
    have hS := rec1 a (pre ++ [zK 7 0]) (zb b ++ r) ((pre.length : Int) + 1) ((pre.length + 1 + sz a : Nat) : Int) [.row true 2 [iv (0, 0)], .row true 4 [nd (zK 7 0)]] (by omega) hw.1 (by rw [hpre]; simp [zb, B.code]) (by simp) (by simp)
    rw [hH1] at hS
    refine zd hS ?_
    rw [hl1]
    have hM2 := hM.set ((pre.length + 1 + sz a : Nat) : Int)
    have hbi2 : (H.set bi (.row true 1 [.int .i64 ((pre.length + 1 + sz a : Nat) : Int)]))[bi]? = some (.row true 1 [.int .i64 ((pre.length + 1 + sz a : Nat) : Int)]) := List.getElem?_set_self hbl
    obtain ⟨H2, hH2⟩ : ∃ H2, H2 = H.set bi (.row true 1 [.int .i64 ((pre.length + 1 + sz a : Nat) : Int)]) := ⟨_, rfl⟩
    have hl2 : H2.length = H.length := by rw [hH2]; simp
    rw [← hH2] at hM2 hbi2
    rw [← hl2]
    rw [← hH2]
    simp [old hM2.hb, old hM2.hm, old hM2.hv, Q8, XG, zK]
    refine zbt [be, bi, bx, bt, bv, bb, bm] bi (.row true 1 [.int .i64 K]) (fun c hc => by
     have h1 := (gI.1 hM2.he).1
     have h2 := (gI.1 hM2.hx).1
     have h3 := (gI.1 hM2.ht).1
     have h4 := (gI.1 hM2.hv).1
     have h5 := (gI.1 hM2.hb).1
     have h6 := (gI.1 hM2.hm).1
     have h7 := (gI.1 hbi2).1
     have : c < H2.length := by
      simp only [List.mem_cons, List.not_mem_nil, or_false] at hc
      rcases hc with rfl | rfl | rfl | rfl | rfl | rfl | rfl <;> assumption
     simp only [List.length_append]; omega) (by simp) (fun Hx hx => by
     have hMx := (hM2.app _).like hx
     have := YO hxv hxl htv hl n b (by omega) hw.2 (pre ++ [zK 7 0] ++ zb a) r Hx (by rw [hpre]; simp [zb, B.code]) hMx (by rw [hx bi (by simp), List.getElem?_append_left (gI.1 hbi2).1, hbi2]; simp [sz]; omega)
     have e : (((pre ++ [zK 7 0] ++ zb a).length + sz b : Nat) : Int) = K := by rw [← hK]; simp [sz]; omega
     rw [e] at this
     simpa using this) ?_
    have h1 := (gI.1 hM2.he).1
    have h2 := (gI.1 hM2.hx).1
    have h3 := (gI.1 hM2.ht).1
    have h4 := (gI.1 hM2.hv).1
    have h5 := (gI.1 hM2.hb).1
    have h6 := (gI.1 hM2.hm).1
    have h7 := (gI.1 hbi2).1
    have hset : ∀ L : AH, (H2 ++ L).set bi (.row true 1 [.int .i64 K]) = H.set bi (.row true 1 [.int .i64 K]) ++ L := fun L => by rw [hH2, Yz hbl]
    rw [hset]
    obtain ⟨H3, hH3⟩ : ∃ H3, H3 = H.set bi (.row true 1 [.int .i64 K]) := ⟨_, rfl⟩
    have hl3 : H3.length = H2.length := by rw [hH3, hl2]; simp
    rw [← hl3, ← hH3]
    simp
    refine zB (fun Hx => V8 _ _ hva hvb Hx) ?_
    simp
    refine zm [] (by rfl) (by simp [zl, zk, za.triv, za.wr, za.none, upTo, newAt]; omega) ?_
    simp
    rw [hl3, hl2, hH3]
    exact fin _ _ _ _ (by simp) (by simp [ev, X7]) rfl (by simp)
   | sub =>
    simp [zM, zK, B.code, old hM1.hv, Q8]
    have hS := rec1 a (pre ++ [zK 8 0]) (zb b ++ r) ((pre.length : Int) + 1) ((pre.length + 1 + sz a : Nat) : Int) [.row true 2 [iv (0, 0)], .row true 4 [nd (zK 8 0)]] (by omega) hw.1 (by rw [hpre]; simp [zb, B.code]) (by simp) (by simp)
    rw [hH1] at hS
    refine zd hS ?_
    rw [hl1]
    have hM2 := hM.set ((pre.length + 1 + sz a : Nat) : Int)
    have hbi2 : (H.set bi (.row true 1 [.int .i64 ((pre.length + 1 + sz a : Nat) : Int)]))[bi]? = some (.row true 1 [.int .i64 ((pre.length + 1 + sz a : Nat) : Int)]) := List.getElem?_set_self hbl
    obtain ⟨H2, hH2⟩ : ∃ H2, H2 = H.set bi (.row true 1 [.int .i64 ((pre.length + 1 + sz a : Nat) : Int)]) := ⟨_, rfl⟩
    have hl2 : H2.length = H.length := by rw [hH2]; simp
    rw [← hH2] at hM2 hbi2
    rw [← hl2]
    rw [← hH2]
    simp [old hM2.hb, old hM2.hm, old hM2.hv, Q8, XG, zK]
    refine zbt [be, bi, bx, bt, bv, bb, bm] bi (.row true 1 [.int .i64 K]) (fun c hc => by
     have h1 := (gI.1 hM2.he).1
     have h2 := (gI.1 hM2.hx).1
     have h3 := (gI.1 hM2.ht).1
     have h4 := (gI.1 hM2.hv).1
     have h5 := (gI.1 hM2.hb).1
     have h6 := (gI.1 hM2.hm).1
     have h7 := (gI.1 hbi2).1
     have : c < H2.length := by
      simp only [List.mem_cons, List.not_mem_nil, or_false] at hc
      rcases hc with rfl | rfl | rfl | rfl | rfl | rfl | rfl <;> assumption
     simp only [List.length_append]; omega) (by simp) (fun Hx hx => by
     have hMx := (hM2.app _).like hx
     have := YO hxv hxl htv hl n b (by omega) hw.2 (pre ++ [zK 8 0] ++ zb a) r Hx (by rw [hpre]; simp [zb, B.code]) hMx (by rw [hx bi (by simp), List.getElem?_append_left (gI.1 hbi2).1, hbi2]; simp [sz]; omega)
     have e : (((pre ++ [zK 8 0] ++ zb a).length + sz b : Nat) : Int) = K := by rw [← hK]; simp [sz]; omega
     rw [e] at this
     simpa using this) ?_
    have h1 := (gI.1 hM2.he).1
    have h2 := (gI.1 hM2.hx).1
    have h3 := (gI.1 hM2.ht).1
    have h4 := (gI.1 hM2.hv).1
    have h5 := (gI.1 hM2.hb).1
    have h6 := (gI.1 hM2.hm).1
    have h7 := (gI.1 hbi2).1
    have hset : ∀ L : AH, (H2 ++ L).set bi (.row true 1 [.int .i64 K]) = H.set bi (.row true 1 [.int .i64 K]) ++ L := fun L => by rw [hH2, Yz hbl]
    rw [hset]
    obtain ⟨H3, hH3⟩ : ∃ H3, H3 = H.set bi (.row true 1 [.int .i64 K]) := ⟨_, rfl⟩
    have hl3 : H3.length = H2.length := by rw [hH3, hl2]; simp
    rw [← hl3, ← hH3]
    simp
    refine zB (fun Hx => Wm _ _ hva hvb Hx) ?_
    simp
    refine zm [] (by rfl) (by simp [zl, zk, za.triv, za.wr, za.none, upTo, newAt]; omega) ?_
    simp
    rw [hl3, hl2, hH3]
    exact fin _ _ _ _ (by simp) (by simp [ev, X7]) rfl (by simp)
   | mul =>
    simp [zM, zK, B.code, old hM1.hv, Q8]
    have hS := rec1 a (pre ++ [zK 9 0]) (zb b ++ r) ((pre.length : Int) + 1) ((pre.length + 1 + sz a : Nat) : Int) [.row true 2 [iv (0, 0)], .row true 4 [nd (zK 9 0)]] (by omega) hw.1 (by rw [hpre]; simp [zb, B.code]) (by simp) (by simp)
    rw [hH1] at hS
    refine zd hS ?_
    rw [hl1]
    have hM2 := hM.set ((pre.length + 1 + sz a : Nat) : Int)
    have hbi2 : (H.set bi (.row true 1 [.int .i64 ((pre.length + 1 + sz a : Nat) : Int)]))[bi]? = some (.row true 1 [.int .i64 ((pre.length + 1 + sz a : Nat) : Int)]) := List.getElem?_set_self hbl
    obtain ⟨H2, hH2⟩ : ∃ H2, H2 = H.set bi (.row true 1 [.int .i64 ((pre.length + 1 + sz a : Nat) : Int)]) := ⟨_, rfl⟩
    have hl2 : H2.length = H.length := by rw [hH2]; simp
    rw [← hH2] at hM2 hbi2
    rw [← hl2]
    rw [← hH2]
    simp [old hM2.hb, old hM2.hm, old hM2.hv, Q8, XG, zK]
    refine zbt [be, bi, bx, bt, bv, bb, bm] bi (.row true 1 [.int .i64 K]) (fun c hc => by
     have h1 := (gI.1 hM2.he).1
     have h2 := (gI.1 hM2.hx).1
     have h3 := (gI.1 hM2.ht).1
     have h4 := (gI.1 hM2.hv).1
     have h5 := (gI.1 hM2.hb).1
     have h6 := (gI.1 hM2.hm).1
     have h7 := (gI.1 hbi2).1
     have : c < H2.length := by
      simp only [List.mem_cons, List.not_mem_nil, or_false] at hc
      rcases hc with rfl | rfl | rfl | rfl | rfl | rfl | rfl <;> assumption
     simp only [List.length_append]; omega) (by simp) (fun Hx hx => by
     have hMx := (hM2.app _).like hx
     have := YO hxv hxl htv hl n b (by omega) hw.2 (pre ++ [zK 9 0] ++ zb a) r Hx (by rw [hpre]; simp [zb, B.code]) hMx (by rw [hx bi (by simp), List.getElem?_append_left (gI.1 hbi2).1, hbi2]; simp [sz]; omega)
     have e : (((pre ++ [zK 9 0] ++ zb a).length + sz b : Nat) : Int) = K := by rw [← hK]; simp [sz]; omega
     rw [e] at this
     simpa using this) ?_
    have h1 := (gI.1 hM2.he).1
    have h2 := (gI.1 hM2.hx).1
    have h3 := (gI.1 hM2.ht).1
    have h4 := (gI.1 hM2.hv).1
    have h5 := (gI.1 hM2.hb).1
    have h6 := (gI.1 hM2.hm).1
    have h7 := (gI.1 hbi2).1
    have hset : ∀ L : AH, (H2 ++ L).set bi (.row true 1 [.int .i64 K]) = H.set bi (.row true 1 [.int .i64 K]) ++ L := fun L => by rw [hH2, Yz hbl]
    rw [hset]
    obtain ⟨H3, hH3⟩ : ∃ H3, H3 = H.set bi (.row true 1 [.int .i64 K]) := ⟨_, rfl⟩
    have hl3 : H3.length = H2.length := by rw [hH3, hl2]; simp
    rw [← hl3, ← hH3]
    simp
    refine zB (fun Hx => Y2 _ _ hva hvb Hx) ?_
    simp
    refine zm [] (by rfl) (by simp [zl, zk, za.triv, za.wr, za.none, upTo, newAt]; omega) ?_
    simp
    rw [hl3, hl2, hH3]
    exact fin _ _ _ _ (by simp) (by simp [ev, X7]) rfl (by simp)
   | div =>
    simp [zM, zK, B.code, old hM1.hv, Q8]
    have hS := rec1 a (pre ++ [zK 10 0]) (zb b ++ r) ((pre.length : Int) + 1) ((pre.length + 1 + sz a : Nat) : Int) [.row true 2 [iv (0, 0)], .row true 4 [nd (zK 10 0)]] (by omega) hw.1 (by rw [hpre]; simp [zb, B.code]) (by simp) (by simp)
    rw [hH1] at hS
    refine zd hS ?_
    rw [hl1]
    have hM2 := hM.set ((pre.length + 1 + sz a : Nat) : Int)
    have hbi2 : (H.set bi (.row true 1 [.int .i64 ((pre.length + 1 + sz a : Nat) : Int)]))[bi]? = some (.row true 1 [.int .i64 ((pre.length + 1 + sz a : Nat) : Int)]) := List.getElem?_set_self hbl
    obtain ⟨H2, hH2⟩ : ∃ H2, H2 = H.set bi (.row true 1 [.int .i64 ((pre.length + 1 + sz a : Nat) : Int)]) := ⟨_, rfl⟩
    have hl2 : H2.length = H.length := by rw [hH2]; simp
    rw [← hH2] at hM2 hbi2
    rw [← hl2]
    rw [← hH2]
    simp [old hM2.hb, old hM2.hm, old hM2.hv, Q8, XG, zK]
    refine zbt [be, bi, bx, bt, bv, bb, bm] bi (.row true 1 [.int .i64 K]) (fun c hc => by
     have h1 := (gI.1 hM2.he).1
     have h2 := (gI.1 hM2.hx).1
     have h3 := (gI.1 hM2.ht).1
     have h4 := (gI.1 hM2.hv).1
     have h5 := (gI.1 hM2.hb).1
     have h6 := (gI.1 hM2.hm).1
     have h7 := (gI.1 hbi2).1
     have : c < H2.length := by
      simp only [List.mem_cons, List.not_mem_nil, or_false] at hc
      rcases hc with rfl | rfl | rfl | rfl | rfl | rfl | rfl <;> assumption
     simp only [List.length_append]; omega) (by simp) (fun Hx hx => by
     have hMx := (hM2.app _).like hx
     have := YO hxv hxl htv hl n b (by omega) hw.2 (pre ++ [zK 10 0] ++ zb a) r Hx (by rw [hpre]; simp [zb, B.code]) hMx (by rw [hx bi (by simp), List.getElem?_append_left (gI.1 hbi2).1, hbi2]; simp [sz]; omega)
     have e : (((pre ++ [zK 10 0] ++ zb a).length + sz b : Nat) : Int) = K := by rw [← hK]; simp [sz]; omega
     rw [e] at this
     simpa using this) ?_
    have h1 := (gI.1 hM2.he).1
    have h2 := (gI.1 hM2.hx).1
    have h3 := (gI.1 hM2.ht).1
    have h4 := (gI.1 hM2.hv).1
    have h5 := (gI.1 hM2.hb).1
    have h6 := (gI.1 hM2.hm).1
    have h7 := (gI.1 hbi2).1
    have hset : ∀ L : AH, (H2 ++ L).set bi (.row true 1 [.int .i64 K]) = H.set bi (.row true 1 [.int .i64 K]) ++ L := fun L => by rw [hH2, Yz hbl]
    rw [hset]
    obtain ⟨H3, hH3⟩ : ∃ H3, H3 = H.set bi (.row true 1 [.int .i64 K]) := ⟨_, rfl⟩
    have hl3 : H3.length = H2.length := by rw [hH3, hl2]; simp
    rw [← hl3, ← hH3]
    simp
    refine zB (fun Hx => Y3 _ _ hva hvb Hx) ?_
    simp
    refine zm [] (by rfl) (by simp [zl, zk, za.triv, za.wr, za.none, upTo, newAt]; omega) ?_
    simp
    rw [hl3, hl2, hH3]
    exact fin _ _ _ _ (by simp) (by simp [ev, X7]) rfl (by simp)
theorem zdt (a : Ex) (xv : List I) (t : I) (hxv : ∀ p ∈ xv, vB p = true) (hxl : xv.length ≤ 1000000000) (htv : vB t = true) (hl : sz a ≤ 1000000000) (hw : wf xv.length a = true) (H : AH) :
  zg E 113 [xs (zb a), bx xv, iv t] H (.ret (iv (ev xv t a))) H := by
 refine zt zn zo Tryz.func113 rfl (by rfl) Tryz.ntmps113 (by kernel_rfl) (by simp) ?_
 simp [bx, xs]
 refine zd (oBinaryOps _) ?_
 simp
 have hM : ∀ q : AV, JN (zb a) xv t (H ++ [.row true 1 [xs (zb a)], .row true 1 [.slice (xv.map iv) false], .row true 2 [iv t], .row true 2 [q], .map XG, .row true 1 [.int .i64 0], .row true 1 [.map (H.length + 4)], .row true 1 [Q8 H.length (H.length + 5) (H.length + 1) (H.length + 2) (H.length + 7) (H.length + 6)]]) H.length (H.length + 5) (H.length + 1) (H.length + 2) (H.length + 7) (H.length + 6) (H.length + 4) := fun q =>
  ⟨by simp, by simp, by simp, by simp, by simp, by simp, ⟨0, by simp⟩, by omega⟩
 have hS := YO hxv hxl htv (l := zb a) hl (sz a) a (Nat.le_refl _) hw [] [] _ (by simp) (hM (iv (0, 0))) (by simp)
 refine zd hS ?_
 simp
 exact zv (rs := [.cell 6 48]) (by rfl) (by simp [ze]) (by simp [noF, zh])
def LDs (s : Jr) (xv : List I) (t : I) (H : AH) (i : Nat) (fr : zx) (H' : AH) : Prop :=
 fr 1 = bx xv ∧ fr 5 = .ptr (H.length + 1) 1 0 0 ∧ fr 11 = .slice (s.f.map fun e => xs (zb e)) false ∧ fr 12 = .int .i64 s.f.length ∧ fr 13 = .int .i64 i ∧ i ≤ s.f.length ∧ ∃ J, H' = H ++ [.row true 2 [z5 s], .row true 2 [iv t]] ++ J ∧ qr (H ++ [.row true 2 [z5 s], .row true 2 [iv t]]) J (fr 7) 2 ((s.f.take i).map fun e => iv (ev xv t e)) .nilslice
theorem oDerivatives (s : Jr) (xv : List I) (t : I) (hxv : ∀ p ∈ xv, vB p = true) (hxl : xv.length ≤ 1000000000) (htv : vB t = true) (hf : ∀ e ∈ s.f, sz e ≤ 1000000000 ∧ wf xv.length e = true) (hn : s.f.length ≤ 1000000000) (H : AH) :
  zg E 115 [z5 s, bx xv, iv t] H (.ret (bx (s.f.map (ev xv t)))) H := by
 refine zt zn zo Tryz.func115 rfl (by rfl) Tryz.ntmps115 (by kernel_rfl) (by simp) ?_
 simp [z5]
 refine zZ (LDs s xv t H) (fun i => s.f.length - i) 0 ⟨by simp [bx], by simp, by simp, by simp, by simp, by omega, [], by simp [z5, iv], .inl ⟨by simp, by simp⟩⟩ ?_
 rintro i fr H' ⟨g1, g5, g11, g12, g13, hi, J, rfl, hacc⟩
 simp [g12, g13]
 refine zL (fun hc => ?_) (fun hc => ?_)
 ·have hlt : i < s.f.length := by simpa using hc
  obtain ⟨e, hei⟩ := zD hlt
  have heE : ∀ h, s.f[i]'h = e := fun h => (gI.1 hei).2
  have hfe := hf e (List.mem_of_getElem? hei)
  have w2 : IntKind.i64.wrap ((i : Int) + 1) = ((i + 1 : Nat) : Int) := by rw [zj (by omega) (by omega)]; omega
  have hg5 : (H ++ [.row true 2 [z5 s], .row true 2 [iv t]] ++ J)[H.length + 1]? = some (.row true 2 [iv t]) := by simp
  have hft : s.f.take (i + 1) = s.f.take i ++ [e] := by rw [List.take_add_one, hei]; rfl
  obtain ⟨v', J', hap, hacc', _⟩ := qr.push (T := zp) (t := 23) (e := 48) (x := .slice [iv (ev xv t e)] true) (ys := [iv (ev xv t e)]) hacc tab23 rfl tab48 rfl rfl (by simp [qo]) ⟨by decide, by simp⟩ (by rw [List.length_map, List.length_take]; dsimp only [List.length_cons, List.length_nil]; omega) (by rw [List.length_map, List.length_take]; dsimp only [List.length_cons, List.length_nil]; omega)
  simp [g1, g5, g11, g13, hei, heE, xs, bx]
  refine Jq (zdt e xv t hxv hxl htv hfe.1 hfe.2 _) (by simp [xs, bx, iv]; rfl) ?_
  simp
  refine bind_some (by simpa [z5, iv] using hap) ?_
  simp [g13, w2]
  exact ⟨i + 1, by show s.f.length - (i + 1) < s.f.length - i; omega, by simp [g1, bx], by simp [g5], by simp [g11, xs], by simp [g12], by simp, by omega, J', by simp [z5, iv], by simpa [hft] using hacc'⟩
 ·have hi' : i = s.f.length := by have : ¬ i < s.f.length := by simpa using hc
                                  omega
  subst hi'
  rw [List.take_length] at hacc
  simp
  rw [show bx (s.f.map (ev xv t)) = .slice (s.f.map fun e => iv (ev xv t e)) false by simp [bx]]
  have hH : H ++ zE.row true 2 [z5 s] :: zE.row true 2 [AV.agg [AV.int IntKind.i64 t.fst, AV.int IntKind.i64 t.snd]] :: J = H ++ ([.row true 2 [z5 s], .row true 2 [iv t]] ++ J) := by simp
  rw [hH]
  exact ZO (t := 6) (by rfl) (by simp) (accBase hacc) rfl (by have h := js (s.f.map (ev xv t)) H.length; rw [List.map_map] at h; exact h)
end Go.Proofs.YtkghjlgpmeibhaaGreatDoor.Arm

namespace Go.Pl
def Vp (a : I) : Int := if 0 < a.1 then 1 else if a.2 < 0 then -1 else 0
def j4 (w a b : I) : Int := if a.2 < 0 ∧ 0 ≤ b.1 then 2 else if w.2 < 0 ∨ 0 ≤ w.1 then 0 else 1
def crI (dir : Int) (w a b : I) : Int :=
 if 0 < dir then j4 w a b else if dir < 0 then j4 (neg w) (neg a) (neg b)
 else if j4 w a b = 2 ∨ j4 (neg w) (neg a) (neg b) = 2 then 2 else if j4 w a b = 0 ∧ j4 (neg w) (neg a) (neg b) = 0 then 0 else 1
def jY (P : I → Bool) (least : Int) : Nat → I → List I
 | 0, p => if P p then [p] else []
 | n + 1, p => if P p then (if p.2 - p.1 ≤ least then [p] else jY P least n (p.1, (p.1 + p.2).tdiv 2) ++ jY P least n ((p.1 + p.2).tdiv 2, p.2)) else []
def Zj (out : List I) : I := (out.getLast?).getD (0, 0)
def qH (out : List I) (p : I) : List I := if 0 < out.length ∧ (Zj out).2 = p.1 then out.set (out.length - 1) ((Zj out).1, p.2) else out ++ [p]
def QY (P : I → Bool) (least h : Int) : List I := (jY P least h.toNat (0, h)).foldl qH []
theorem zdu {p : I} {least : Int} (hl : 1 ≤ least) (h0 : 0 ≤ p.1) (h1 : least < p.2 - p.1) : (p.1 + p.2).tdiv 2 = (p.1 + p.2) / 2 ∧ p.1 < (p.1 + p.2) / 2 ∧ (p.1 + p.2) / 2 < p.2 := by
 have e : (p.1 + p.2).tdiv 2 = (p.1 + p.2) / 2 := Int.tdiv_eq_ediv_of_nonneg (by omega)
 omega
theorem zai {P : I → Bool} {least : Int} {p : I} (hP : P p = true) (h : p.2 - p.1 ≤ least) : ∀ n, jY P least n p = [p]
 | 0 => by simp [jY, hP]
 | n + 1 => by simp [jY, hP, h]
theorem zbm {P : I → Bool} {least : Int} {p : I} (hP : P p = false) : ∀ n, jY P least n p = []
 | 0 => by simp [jY, hP]
 | n + 1 => by simp [jY, hP]
theorem U8 {P : I → Bool} {least : Int} {p : I} (hP : P p = true) (h : ¬ p.2 - p.1 ≤ least) (n : Nat) : jY P least (n + 1) p = jY P least n (p.1, (p.1 + p.2).tdiv 2) ++ jY P least n ((p.1 + p.2).tdiv 2, p.2) := by
 simp [jY, hP, h]
structure KeptIn (p : I) (l : List I) : Prop where
 inn : ∀ q ∈ l, p.1 ≤ q.1 ∧ q.1 < q.2 ∧ q.2 ≤ p.2
 ord : l.Pairwise fun a b => a.2 ≤ b.1
theorem YV {P : I → Bool} {least : Int} (hl : 1 ≤ least) : ∀ (n : Nat) (p : I), 0 ≤ p.1 → p.1 < p.2 → KeptIn p (jY P least n p)
 | 0, p, h0, h1 => by
  unfold jY
  split
  ·exact ⟨fun q hq => by simp at hq; subst hq; omega, by simp⟩
  ·exact ⟨by simp, by simp⟩
 | n + 1, p, h0, h1 => by
  cases hP : P p with
  | false => rw [zbm hP]; exact ⟨by simp, by simp⟩
  | true =>
   by_cases h : p.2 - p.1 ≤ least
   ·rw [zai hP h]
    exact ⟨fun q hq => by simp at hq; subst hq; omega, by simp⟩
   ·rw [U8 hP h]
    obtain ⟨e, m1, m2⟩ := zdu hl h0 (by omega)
    rw [e]
    have a := YV (P := P) hl n (p.1, (p.1 + p.2) / 2) h0 m1
    have b := YV (P := P) hl n ((p.1 + p.2) / 2, p.2) (by show 0 ≤ _; omega) m2
    refine ⟨fun q hq => ?_, List.pairwise_append.2 ⟨a.ord, b.ord, fun x hx y hy => ?_⟩⟩
    ·rcases List.mem_append.1 hq with hq | hq
     ·have := a.inn q hq; simp only at this; omega
     ·have := b.inn q hq; simp only at this; omega
    ·have := a.inn x hx
     have := b.inn y hy
     simp only at *
     omega
end Go.Pl
namespace Go.Pl
theorem zbl {P : I → Bool} {least : Int} (hl : 1 ≤ least) : ∀ (n : Nat) (p : I), 0 ≤ p.1 → p.1 < p.2 → ((jY P least n p).length : Int) ≤ p.2 - p.1
 | 0, p, h0, h1 => by
  unfold jY
  split <;> simp <;> omega
 | n + 1, p, h0, h1 => by
  cases hP : P p with
  | false => rw [zbm hP]; simp; omega
  | true =>
   by_cases h : p.2 - p.1 ≤ least
   ·rw [zai hP h]; simp; omega
   ·rw [U8 hP h]
    obtain ⟨e, m1, m2⟩ := zdu hl h0 (by omega)
    rw [e]
    have a := zbl (P := P) hl n (p.1, (p.1 + p.2) / 2) h0 m1
    have b := zbl (P := P) hl n ((p.1 + p.2) / 2, p.2) (by show 0 ≤ _; omega) m2
    simp only at a b
    rw [List.length_append]
    omega
theorem zbb (l : List I) (p : I) : (qH l p).length ≤ l.length + 1 ∧ 1 ≤ (qH l p).length := by
 unfold qH
 split
 ·rename_i h; simp; omega
 ·simp
theorem mergeC_nil (p : I) : qH [] p = [p] := by simp [qH]
end Go.Pl

namespace Go.Proofs.YtkghjlgpmeibhaaGreatDoor.Arm
open Go.Arm Go.Pl
theorem iSign (p : I) (H : AH) : zg E 67 [iv p] H (.ret (.int .i64 (Vp p))) H := by
 refine zt zn zo Tryz.func67 rfl (by rfl) Tryz.ntmps67 (by kernel_rfl) (by simp) ?_
 simp
 refine zB (fun Hx => zb9 _ _ _ Hx) ?_
 simp
 refine zB (fun Hx => zb9 _ _ _ Hx) ?_
 simp
 refine zm [] (by rfl) (by simp [zl, zk, za.triv, za.wr, za.none, upTo, newAt]) ?_
 simp
 exact zv (rs := [.tmp 2]) (by rfl) (by simp [ze, Vp]) (by simp [noF])
structure Gd where
 f : Ex
 dir : Int
def zN (g : Gd) : AV := .agg [xs (zb g.f), .int .i64 g.dir]
structure Jb (n : Nat) (g : Gd) : Prop where
 sz : sz g.f ≤ 1000000
 wf : wf n g.f = true
structure Cw where
 s : Sg
 order : Nat
 least : Int
def zQ (w : Cw) : AV := .agg [.int .i64 w.s.t, .int .i64 w.s.h, bx w.s.frm, bx w.s.pre, bx w.s.tube, bx w.s.to, .int .i64 w.order, .int .i64 w.least]
structure JP (T : Tp) (w : Cw) : Prop where
 vf : zq w.s.frm
 nf : w.s.frm.length = T.n
 vp : zq w.s.pre
 np : w.s.pre.length = T.n
 vt : zq w.s.tube
 nt : w.s.tube.length = T.n
 vo : zq w.s.to
 no : w.s.to.length = T.n
 tm : -1000000000 ≤ w.s.t ∧ w.s.t ≤ 1000000000 ∧ 1 ≤ w.s.h ∧ w.s.h ≤ 1000000000 ∧ w.s.t + w.s.h ≤ 1000000000
 od : 1 ≤ w.order ∧ w.order ≤ 900
 le : 1 ≤ w.least ∧ w.least ≤ 2000000000
def qV (T : Tp) (w : Cw) (p : I) : List I := qM T w.s.frm w.s.pre w.s.t w.s.h p w.order
def absC (w : Cw) (p : I) : I := (w.s.t + p.1, w.s.t + p.2)
theorem gEval (g : Gd) (x : List I) (t : I) (hg : Jb x.length g) (hx : zq x) (hxl : x.length ≤ 1000000) (ht : vB t = true) (H : AH) : zg E 163 [zN g, bx x, iv t] H (.ret (iv (ev x t g.f))) H := by
 refine zt zn zo Tryz.func163 rfl (by rfl) Tryz.ntmps163 (by kernel_rfl) (by simp) ?_
 have hE := fun Hx => zdt g.f x t hx (by omega) ht (by have := hg.sz; omega) hg.wf Hx
 simp [zN]
 refine zd (hE _) ?_
 simp
 exact zv (rs := [.cell 6 48]) (by rfl) (by simp [ze]) (by simp [noF, zh])
theorem gSide (g : Gd) (x : List I) (t : I) (hg : Jb x.length g) (hx : zq x) (hxl : x.length ≤ 1000000) (ht : vB t = true) (H : AH) : zg E 169 [zN g, bx x, iv t] H (.ret (.int .i64 (Vp (ev x t g.f)))) H := by
 refine zt zn zo Tryz.func169 rfl (by rfl) Tryz.ntmps169 (by kernel_rfl) (by simp) ?_
 have hE := gEval g x t hg hx hxl ht
 simp [zN]
 refine zd (by simpa [zN] using hE _) ?_
 simp
 refine zd (iSign _ _) ?_
 simp
 exact zv (rs := [.tmp 6]) (by rfl) (by simp [ze]) (by simp [noF])
theorem WY (w : Cw) (p : I) (hw : -1000000000 ≤ w.s.t ∧ w.s.t ≤ 1000000000) (hp : -1000000000 ≤ p.1 ∧ p.1 ≤ 1000000000 ∧ -1000000000 ≤ p.2 ∧ p.2 ≤ 1000000000) (H : AH) : zg E 62 [zQ w, iv p] H (.ret (iv (absC w p))) H := by
 refine zt zn zo Tryz.func62 rfl (by rfl) Tryz.ntmps62 (by kernel_rfl) (by simp) ?_
 have w1 : IntKind.i64.wrap (w.s.t + p.1) = w.s.t + p.1 := zj (by omega) (by omega)
 have w2 : IntKind.i64.wrap (w.s.t + p.2) = w.s.t + p.2 := zj (by omega) (by omega)
 simp [zQ, bx, w1, w2]
 exact zv (rs := [.cell 4 48]) (by rfl) (by simp [ze, absC]) (by simp [noF, zh])
theorem xEncl (T : Tp) (w : Cw) (p : I) (hT : z8 T) (hw : JP T w) (hp : vB p = true) (H : AH) : zg E 61 [zr T, zQ w, iv p] H (.ret (bx (qV T w p))) H := by
 refine zt zn zo Tryz.func61 rfl (by rfl) Tryz.ntmps61 (by kernel_rfl) (by simp) ?_
 have tm := hw.tm
 have hE := fun Hx => kEnclosureAt T w.s.frm w.s.pre w.s.t w.s.h p w.order hT hw.vf hw.nf hw.vp hw.np (by omega) (by omega) hp hw.od Hx
 have e : qM T w.s.frm w.s.pre w.s.t w.s.h p w.order = qV T w p := rfl
 rw [e] at hE
 generalize qV T w p = R at *
 simp [zr, qx, zQ, bx]
 refine zd (by simpa [zr, qx, bx] using hE _) ?_
 simp
 exact zv (rs := [.tmp 6]) (by rfl) (by simp [ze, bx]) (by simp [noF, bx, js])
theorem gAt (g : Gd) (b : Nat) (x : List I) (t u : Int) (hg : Jb x.length g) (hx : zq x) (hxl : x.length ≤ 1000000) (ht : vB (t, u) = true) (wr : Bool) (H : AH) (hb : H[b]? = some (.row wr 2 [zN g])) : zg E 162 [bx x, .int .i64 t, .int .i64 u, .ptr b 1 0 0] H (.ret (iv (ev x (t, u) g.f))) H := by
 refine zt zn zo Tryz.func162 rfl (by rfl) Tryz.ntmps162 (by kernel_rfl) (by simp) ?_
 have hE := gEval g x (t, u) hg hx hxl ht
 have hb' := old hb
 simp only [zN] at hb hb'
 simp [hb, hb', bx]
 refine zd (by simpa [zN, bx] using hE _) ?_
 simp
 exact zv (rs := [.cell 7 48]) (by rfl) (by simp [ze]) (by simp [noF, zh])
def QU (w a b : I) : AV := .agg [.int .i64 w.1, .int .i64 w.2, .int .i64 a.1, .int .i64 a.2, .int .i64 b.1, .int .i64 b.2]
theorem gUp (w a b : I) (H : AH) : zg E 164 [QU w a b] H (.ret (.int .i64 (j4 w a b))) H := by
 refine zt zn zo Tryz.func164 rfl (by rfl) Tryz.ntmps164 (by kernel_rfl) (by simp) ?_
 by_cases h1 : a.2 < 0
 ·by_cases h2 : 0 ≤ b.1
  ·have e : j4 w a b = 2 := by unfold j4; simp [h1, h2]
   simp [QU, h1, h2, e]
   exact zv (rs := [.tmp 2]) (by rfl) (by simp [ze]) (by simp [noF])
  ·by_cases h3 : w.2 < 0
   ·have e : j4 w a b = 0 := by unfold j4; simp [h1, h2, h3]
    simp [QU, h1, h2, h3, e]
    exact zv (rs := [.tmp 2]) (by rfl) (by simp [ze]) (by simp [noF])
   ·by_cases h4 : 0 ≤ w.1
    ·have e : j4 w a b = 0 := by unfold j4; simp [h1, h2, h3, h4]
     simp [QU, h1, h2, h3, h4, e]
     exact zv (rs := [.tmp 2]) (by rfl) (by simp [ze]) (by simp [noF])
    ·have e : j4 w a b = 1 := by unfold j4; simp [h1, h2, h3, h4]
     simp [QU, h1, h2, h3, h4, e]
     exact zv (rs := [.tmp 2]) (by rfl) (by simp [ze]) (by simp [noF])
 ·by_cases h3 : w.2 < 0
  ·have e : j4 w a b = 0 := by unfold j4; simp [h1, h3]
   simp [QU, h1, h3, e]
   exact zv (rs := [.tmp 2]) (by rfl) (by simp [ze]) (by simp [noF])
  ·by_cases h4 : 0 ≤ w.1
   ·have e : j4 w a b = 0 := by unfold j4; simp [h1, h3, h4]
    simp [QU, h1, h3, h4, e]
    exact zv (rs := [.tmp 2]) (by rfl) (by simp [ze]) (by simp [noF])
   ·have e : j4 w a b = 1 := by unfold j4; simp [h1, h3, h4]
    simp [QU, h1, h3, h4, e]
    exact zv (rs := [.tmp 2]) (by rfl) (by simp [ze]) (by simp [noF])
theorem gNegd (w a b : I) (hw : vB w = true) (ha : vB a = true) (hb : vB b = true) (H : AH) : zg E 165 [QU w a b] H (.ret (QU (neg w) (neg a) (neg b))) H := by
 refine zt zn zo Tryz.func165 rfl (by rfl) Tryz.ntmps165 (by kernel_rfl) (by simp) ?_
 simp [QU]
 refine zB (fun Hx => Y1 w hw Hx) ?_
 simp
 refine zB (fun Hx => Y1 a ha Hx) ?_
 simp
 refine zB (fun Hx => Y1 b hb Hx) ?_
 simp
 refine zm [] (by rfl) (by simp [zl, zk, za.triv, za.wr, za.none, upTo, newAt]) ?_
 simp
 exact zv (rs := [.cell 2 219]) (by rfl) (by simp [ze, QU]) (by simp [noF, zh])
def LIx (x : Int) (l : List Int) (H : AH) (i : Nat) (fr : zx) (H' : AH) : Prop :=
 fr 0 = .slice (l.map (.int .i64)) false ∧ fr 1 = .int .i64 x ∧ fr 7 = .int .i64 l.length ∧ fr 8 = .int .i64 i ∧ i ≤ l.length ∧ (∀ k : Nat, k < i → l[k]? ≠ some x) ∧ H' = H
theorem sIndexInt (l : List Int) (x : Int) (hl : l.length ≤ 1000000) (H : AH) : ∃ k : Int, zg E 223 [.slice (l.map (.int .i64)) false, .int .i64 x] H (.ret (.int .i64 k)) H ∧ (0 ≤ k ↔ x ∈ l) := by
 by_cases hx : x ∈ l
 ·obtain ⟨j, hj, hjm⟩ : ∃ j : Nat, l[j]? = some x ∧ ∀ k : Nat, k < j → l[k]? ≠ some x := by
   have hex : ∃ j : Nat, l[j]? = some x := List.mem_iff_getElem?.1 hx
   have hp : ∀ m : Nat, (∃ j : Nat, j ≤ m ∧ l[j]? = some x) → ∃ j : Nat, l[j]? = some x ∧ ∀ k : Nat, k < j → l[k]? ≠ some x := by
    intro m
    induction m with
    | zero => rintro ⟨j, hj, h⟩; exact ⟨j, h, fun k hk => by omega⟩
    | succ m ih =>
     rintro ⟨j, hj, h⟩
     by_cases h2 : ∃ j : Nat, j ≤ m ∧ l[j]? = some x
     ·exact ih h2
     ·exact ⟨j, h, fun k hk h3 => h2 ⟨k, by omega, h3⟩⟩
   obtain ⟨j, h⟩ := hex
   exact hp j ⟨j, Nat.le_refl _, h⟩
  refine ⟨j, ?_, ⟨fun _ => hx, fun _ => by omega⟩⟩
  refine zt zn zo Tryz.func223 rfl (by rfl) Tryz.ntmps223 (by kernel_rfl) (by simp) ?_
  have hjl := (gI.1 hj).1
  simp
  refine zZ (LIx x l H) (fun i => l.length - i) 0 ⟨by simp, by simp, by simp, by simp, by omega, fun k hk => by omega, by simp⟩ ?_
  rintro i fr H' ⟨g0, g1, g7, g8, hi, hno, rfl⟩
  simp [g7, g8]
  refine zL (fun hc => ?_) (fun hc => ?_)
  ·have hlt : i < l.length := by simpa using hc
   obtain ⟨y, hy⟩ := zD hlt
   have hyE : ∀ h, l[i]'h = y := fun h => (gI.1 hy).2
   have w2 : IntKind.i64.wrap ((i : Int) + 1) = ((i + 1 : Nat) : Int) := by rw [zj (by omega) (by omega)]; omega
   simp [g0, g1, g8, hy, hyE]
   by_cases he : x = y
   ·subst he
    have : i = j := by
     rcases Nat.lt_trichotomy i j with h | h | h
     ·exact absurd hy (hjm i h)
     ·exact h
     ·exact absurd hj (hno j h)
    subst this
    simp
    exact zY (rs := [.tmp 4]) (by rfl) (by simp [ze])
   ·have he2 : (x == y) = false := by rw [beq_eq_false_iff_ne]; exact he
    simp [he2, g8, w2]
    exact ⟨i + 1, by show l.length - (i + 1) < l.length - i; omega, by simp [g0], by simp [g1], by simp [g7], by simp, by omega, fun k hk h => by
     rcases Nat.lt_or_ge k i with h2 | h2
     ·exact hno k h2 h
     ·have : k = i := by omega
      subst this; rw [hy] at h; cases h; exact he rfl, rfl⟩
  ·have : ¬ i < l.length := by simpa using hc
   exact absurd hj (hno j (by omega))
 ·refine ⟨-1, ?_, ⟨fun h => by omega, fun h => absurd h hx⟩⟩
  refine zt zn zo Tryz.func223 rfl (by rfl) Tryz.ntmps223 (by kernel_rfl) (by simp) ?_
  simp
  refine zZ (LIx x l H) (fun i => l.length - i) 0 ⟨by simp, by simp, by simp, by simp, by omega, fun k hk => by omega, by simp⟩ ?_
  rintro i fr H' ⟨g0, g1, g7, g8, hi, hno, rfl⟩
  simp [g7, g8]
  refine zL (fun hc => ?_) (fun hc => ?_)
  ·have hlt : i < l.length := by simpa using hc
   obtain ⟨y, hy⟩ := zD hlt
   have hyE : ∀ h, l[i]'h = y := fun h => (gI.1 hy).2
   have w2 : IntKind.i64.wrap ((i : Int) + 1) = ((i + 1 : Nat) : Int) := by rw [zj (by omega) (by omega)]; omega
   have he : x ≠ y := fun h => hx (by rw [h]; exact List.mem_of_getElem? hy)
   have he2 : (x == y) = false := by rw [beq_eq_false_iff_ne]; exact he
   simp [g0, g1, g8, hy, hyE, he2, w2]
   exact ⟨i + 1, by show l.length - (i + 1) < l.length - i; omega, by simp [g0], by simp [g1], by simp [g7], by simp, by omega, fun k hk h => hx (List.mem_of_getElem? h), rfl⟩
  ·simp
   exact zY (rs := [.tmp 4]) (by rfl) (by simp [ze])
theorem sContainsInt (l : List Int) (x : Int) (hl : l.length ≤ 1000000) (H : AH) : zg E 166 [.slice (l.map (.int .i64)) false, .int .i64 x] H (.ret (.bool (decide (x ∈ l)))) H := by
 obtain ⟨k, hk, hki⟩ := sIndexInt l x hl H
 refine zt zn zo Tryz.func166 rfl (by rfl) Tryz.ntmps166 (by kernel_rfl) (by simp) ?_
 simp
 refine zd hk ?_
 simp
 exact zY (rs := [.tmp 4]) (by rfl) (by simp [ze, hki])
def JH (g : Gd) (s : Sg) : Int := crI g.dir (ev s.tube (s.t, s.t + s.h) g.f) (ev s.frm (s.t, s.t) g.f) (ev s.to (s.t + s.h, s.t + s.h) g.f)
theorem zcq (H : AH) (a b c d : Int) (z : Bool) : qe zp H .eql 166 (.agg [.int .i64 a, .int .i64 b]) (.agg [.int .i64 c, .int .i64 d]) z = some (.bool (a == c && b == d), H) := by
 simp [qe, qY, jF, Ud, Z2, nilI]
 by_cases h1 : a = c <;> by_cases h2 : b = d <;> simp [h1, h2]
set_option maxHeartbeats 1000000 in
theorem gCrossing (T : Tp) (g : Gd) (s : Sg) (hg : Jb T.n g) (hn : T.n ≤ 1000000) (vt : zq s.tube) (nt : s.tube.length = T.n) (vf : zq s.frm) (nf : s.frm.length = T.n) (vo : zq s.to) (no : s.to.length = T.n)
  (tm : -1000000000 ≤ s.t ∧ s.t ≤ 1000000000 ∧ 1 ≤ s.h ∧ s.h ≤ 1000000000 ∧ s.t + s.h ≤ 1000000000) (H : AH) : zg E 106 [zN g, JW s] H (.ret (.int .i64 (JH g s))) H := by
 refine zt zn zo Tryz.func106 rfl (by rfl) Tryz.ntmps106 (by kernel_rfl) (by simp) ?_
 have v1 : vB (s.t, s.t + s.h) = true := qA (by omega) (by omega) (by omega)
 have v2 : vB (s.t, s.t) = true := qA (by omega) (by omega) (by omega)
 have v3 : vB (s.t + s.h, s.t + s.h) = true := qA (by omega) (by omega) (by omega)
 have w1 : IntKind.i64.wrap (s.t + s.h) = s.t + s.h := zj (by omega) (by omega)
 have e1 := fun (Hx : AH) (b : Nat) (hb : Hx[b]? = some (.row true 2 [zN g])) => gAt g b s.tube s.t (s.t + s.h) (by rw [nt]; exact hg) vt (by omega) v1 true Hx hb
 have e2 := fun (Hx : AH) (b : Nat) (hb : Hx[b]? = some (.row true 2 [zN g])) => gAt g b s.frm s.t s.t (by rw [nf]; exact hg) vf (by omega) v2 true Hx hb
 have e3 := fun (Hx : AH) (b : Nat) (hb : Hx[b]? = some (.row true 2 [zN g])) => gAt g b s.to (s.t + s.h) (s.t + s.h) (by rw [no]; exact hg) vo (by omega) v3 true Hx hb
 have u1 := QP vt v1 g.f (by rw [nt]; exact hg.wf)
 have u2 := QP vf v2 g.f (by rw [nf]; exact hg.wf)
 have u3 := QP vo v3 g.f (by rw [no]; exact hg.wf)
 unfold JH
 generalize ev s.tube (s.t, s.t + s.h) g.f = w at *
 generalize ev s.frm (s.t, s.t) g.f = a at *
 generalize ev s.to (s.t + s.h, s.t + s.h) g.f = b at *
 have hU := fun Hx => gUp w a b Hx
 have hN := fun Hx => gNegd w a b u1 u2 u3 Hx
 have hD := fun Hx => gUp (neg w) (neg a) (neg b) Hx
 unfold crI
 generalize j4 w a b = c0 at *
 generalize j4 (neg w) (neg a) (neg b) = c1 at *
 have hC := fun Hx => sContainsInt [c0, c1] 2 (by simp) Hx
 simp only [zN, bx] at e1 e2 e3
 simp [zN, JW, bx, w1]
 refine Ui (fun X => e1 _ H.length (by simp [zN, bx])) ?_
 simp
 refine Ui (fun X => e2 _ H.length (by simp [zN, bx])) ?_
 simp
 refine Ui (fun X => e3 _ H.length (by simp [zN, bx])) ?_
 simp
 refine zm [(22, 23)] (by rfl) (by simp [zl, zk, za.triv, za.wr, za.none, upTo, newAt]; omega) ?_
 simp
 refine zB (fun Hx => hU Hx) ?_
 simp
 refine zB (fun Hx => hN Hx) ?_
 simp [QU]
 refine zB (fun Hx => hD Hx) ?_
 simp
 refine zm [(6, 7)] (by rfl) (by simp [zl, zk, za.triv, za.wr, za.none, upTo, newAt]) ?_
 simp
 by_cases d1 : 0 < g.dir
 ·simp [d1]
  exact zv (rs := [.tmp 4]) (by rfl) (by simp [ze]) (by simp [noF])
 ·by_cases d2 : g.dir < 0
  ·simp [d1, d2]
   exact zv (rs := [.tmp 4]) (by rfl) (by simp [ze]) (by simp [noF])
  ·simp [d1, d2]
   refine zd (hC _) ?_
   simp
   by_cases k0 : c0 = 2
   ·simp [k0]
    exact zv (rs := [.tmp 4]) (by rfl) (by simp [ze]) (by simp [noF])
   ·have k0' : ¬ 2 = c0 := fun h => k0 h.symm
    by_cases k1 : c1 = 2
    ·simp [k1]
     exact zv (rs := [.tmp 4]) (by rfl) (by simp [ze]) (by simp [noF])
    ·have k1' : ¬ 2 = c1 := fun h => k1 h.symm
     by_cases z0 : c0 = 0
     ·by_cases z1 : c1 = 0
      ·simp [z0, z1, zcq]
       exact zv (rs := [.tmp 4]) (by rfl) (by simp [ze]) (by simp [noF])
      ·have b1 : (c1 == 0) = false := by rw [beq_eq_false_iff_ne]; exact z1
       simp [k0, k1, k0', k1', z0, z1, b1, zcq]
       exact zv (rs := [.tmp 4]) (by rfl) (by simp [ze]) (by simp [noF])
     ·have b0 : (c0 == 0) = false := by rw [beq_eq_false_iff_ne]; exact z0
      simp [k0, k1, k0', k1', z0, b0, zcq]
      exact zv (rs := [.tmp 4]) (by rfl) (by simp [ze]) (by simp [noF])
end Go.Proofs.YtkghjlgpmeibhaaGreatDoor.Arm

namespace Go.Arm
open Go.RowKit
theorem noFB_mono {m m' : Nat} (hm : m ≤ m') {k : zE} (h : qh m k = true) : qh m' k = true := by
 cases k with
 | dead => rfl
 | row wr sz xs => simp only [qh] at h ⊢; rw [jL] at h ⊢; exact fun x hx => Q1 hm (h x hx)
 | map es =>
  simp only [qh, List.all_eq_true, Bool.and_eq_true] at h ⊢
  exact fun e hx => ⟨Q1 hm (h e hx).1, Q1 hm (h e hx).2⟩
 | loop k st frs => simp only [qh] at h ⊢; rw [jL] at h ⊢; exact fun x hx => Q1 hm (h x hx)
theorem alters.set (H : AH) (b : Nat) {k : zE} (hk : qh H.length k = true) : alters H (H.set b k) := by
 refine ⟨by simp, fun c => ?_⟩
 by_cases h : b = c
 ·subst h
  by_cases hlt : b < H.length
  ·exact .inr (.inl ⟨k, by simp [hlt], hk⟩)
  ·left; rw [List.set_eq_of_length_le (by omega)]
 ·left; rw [List.getElem?_set_ne h]
inductive Ya (E : zW) (b : Nat) (C : List Nat) : List (List AV × (AH → AH)) → AH → AH → Prop
 | nil (H : AH) : Ya E b C [] H H
 | stop {a : List AV} {f : AH → AH} {r : List (List AV × (AH → AH))} {H H' : AH} (h1 : alters H H') (h2 : ∀ c ∈ C, H'[c]? = H[c]?) (h3 : ∀ J : AH, ZG E b a (H ++ J) (.bool false) (H' ++ J)) : Ya E b C ((a, f) :: r) H H'
 | go {a : List AV} {f : AH → AH} {r : List (List AV × (AH → AH))} {H H1 H' : AH} (h1 : alters H H1) (h2 : ∀ c ∈ C, H1[c]? = H[c]?) (h3 : ∀ J : AH, ZG E b a (H ++ J) (.bool true) (H1 ++ J)) (h4 : Ya E b C r (f H1) H') : Ya E b C ((a, f) :: r) H H'
theorem Ya.cases_cons {E : zW} {b : Nat} {C : List Nat} {a : List AV} {f : AH → AH} {r : List (List AV × (AH → AH))} {H H' : AH} (h : Ya E b C ((a, f) :: r) H H') :
  ∃ (go : Bool) (H1 : AH), Arm.alters H H1 ∧ (∀ c ∈ C, H1[c]? = H[c]?) ∧ (∀ J : AH, ZG E b a (H ++ J) (.bool go) (H1 ++ J)) ∧ (go = false → H1 = H') ∧ (go = true → Ya E b C r (f H1) H') := by
 cases h with
 | stop h1 h2 h3 => exact ⟨false, _, h1, h2, h3, fun _ => rfl, nofun⟩
 | go h1 h2 h3 h4 => exact ⟨true, _, h1, h2, h3, nofun, fun _ => h4⟩
end Go.Arm

namespace Go.Pl
end Go.Pl

namespace Go.Pl
structure SgOk (T : Tp) (x : List I) (t h : Int) (s : Sg) : Prop where
 ht : s.t = t
 hh : s.h = h
 hx : s.frm = x
 vpre : zq s.pre
 npre : s.pre.length = T.n
 vtube : zq s.tube
 ntube : s.tube.length = T.n
 vto : zq s.to
 nto : s.to.length = T.n
theorem horn_val {h : I} : ∀ {s : List I}, zq s → vB (ql s h) = true
 | [], _ => (by decide : vB (0, 0) = true)
 | [a], hs => hs a (by simp)
 | a :: b :: r, hs => JK jU (hs a (by simp))
theorem coefS_okL {T : Tp} {x : List I} {t : I} {order : Nat} (hT : z8 T) (hx : zq x) (ht : vB t = true) : (qw T x t order).length = T.n ∧ ∀ q ∈ qw T x t order, zq q :=
 ⟨(j0 hT hx ht order).2.len, (j0 hT hx ht order).2.val⟩
theorem Wy {T : Tp} {x b : List I} {t h : Int} {part : I} {order : Nat} (hT : z8 T) (hx : zq x) (hb : zq b) (hh : 0 ≤ h ∧ h ≤ 1000000000) (ht : -1000000000 ≤ t ∧ t ≤ 1000000000) :
  zq (qM T x b t h part order) ∧ (qM T x b t h part order).length = T.n := by
 have htv : vB (t, t + h) = true := qA (by omega) (by omega) (by omega)
 have htv2 : vB (t, t) = true := qA (by omega) (by omega) (by omega)
 obtain ⟨c1, c2⟩ := coefS_okL (order := order) hT hx htv2
 obtain ⟨d1, d2⟩ := coefS_okL (order := order + 1) hT hb htv
 have hR : zq (j6 T b t h order) := fun p hp => by
  obtain ⟨q, hq, rfl⟩ := List.mem_map.1 hp
  exact qE (d2 q hq) _
 unfold qM
 refine ⟨UK fun i => restrI_valid (qE (fun p hp => ?_) i) (qE hb i), by simp [Jk, ZE, qW, c1]⟩
 obtain ⟨q, hq, rfl⟩ := List.mem_map.1 hp
 simp only [qW, List.mem_map, List.mem_range] at hq
 obtain ⟨j, hj, rfl⟩ := hq
 exact horn_val (za3 (Jj c2 j) (qE hR j))
theorem enclS_okL {T : Tp} {x d : List I} {t h : Int} (hx : zq x) (h0 : Qu T x t h = some d) : zq d ∧ d.length = x.length := by
 rw [show Qu T x t h = (Xf T x t h 8 (jo x (zV T x x t h))).findSome? Y5 from zbJ T x t h 8 _] at h0
 obtain ⟨p, hp, hpd⟩ := List.exists_of_findSome?_eq_some h0
 have := zcn hx 8 _ (V9 hx (Jn hx)) (by rw [Q7]) p hp
 unfold Y5 at hpd
 split at hpd
 ·cases hpd; exact this.2.2
 ·cases hpd
theorem istepS_ok {T : Tp} {x : List I} {t h : Int} {order : Nat} {s : Sg} (hT : z8 T) (hx : zq x) (hxn : x.length = T.n) (hh : 0 ≤ h ∧ h ≤ 1000000000) (ht : -1000000000 ≤ t ∧ t ≤ 1000000000) (hs : QG T x t h order = some s) : SgOk T x t h s := by
 unfold QG at hs
 cases hr : Qu T x t h with
 | none => rw [hr] at hs; cases hs
 | some b =>
  rw [hr] at hs
  obtain ⟨hbv, hbl⟩ := enclS_okL hx hr
  have k1 := Wy (part := (0, h)) (order := order) hT hx hbv hh ht
  have k2 := Wy (part := (h, h)) (order := order) hT hx hbv hh ht
  simp only at hs
  split at hs
  ·cases hs
   exact ⟨rfl, rfl, rfl, hbv, by simp only; omega, k1.1, k1.2, k2.1, k2.2⟩
  ·cases hs
end Go.Pl

namespace Go.Proofs.YtkghjlgpmeibhaaGreatDoor.Arm
open Go.Arm Go.Pl
inductive Qj (E : zW) (b : Nat) (P : AH → Prop) : List (List AV) → AH → AH → Prop
 | nil (H : AH) : Qj E b P [] H H
 | go {a : List AV} {r : List (List AV)} {H H1 H' : AH} (h1 : alters H H1) (h2 : P H1) (h3 : ∀ J : AH, ZG E b a (H ++ J) (.bool true) (H1 ++ J)) (h4 : Qj E b P r H1 H') : Qj E b P (a :: r) H H'
theorem Qj.alt {b : Nat} {P : AH → Prop} {L : List (List AV)} {H H' : AH} (h : Qj E b P L H H') : alters H H' := by
 induction h with
 | nil H => exact .refl H
 | go h1 _ _ _ ih => exact h1.trans ih
theorem Qj.keep {b : Nat} {P : AH → Prop} {L : List (List AV)} {H H' : AH} (h : Qj E b P L H H') (h0 : P H) : P H' := by
 induction h with
 | nil H => exact h0
 | go _ h2 _ _ ih => exact ih h2
theorem Qj.app {b : Nat} {P : AH → Prop} : ∀ {L1 L2 : List (List AV)} {H H' : AH}, Qj E b P (L1 ++ L2) H H' → ∃ H1, Qj E b P L1 H H1 ∧ Qj E b P L2 H1 H'
 | [], L2, H, H', h => ⟨H, .nil H, h⟩
 | a :: r, L2, H, H', h => by
  cases h with
  | go h1 h2 h3 h4 =>
   obtain ⟨H1, k1, k2⟩ := Qj.app h4
   exact ⟨H1, .go h1 h2 h3 k1, k2⟩
theorem finYb {fr : zx} {fn : Func} {H0 H1 J : AH} {e : jJ} {rs : List ResultVar} {v : Bool} (hr : fn.results.toList = rs) (h : ze E fr (H1 ++ J) rs = some [.bool v]) (ha : alters H0 H1) (hx : e = .ret ∨ e = .normal := by simp) : jd E fn H0 (.ret (.bool v)) H1 e fr (H1 ++ J) := by
 have hL : Go.Arm.Leaves H0 [.bool v] (H1 ++ J) [.bool v] H1 := .cut H0.length (Nat.le_refl _) (by rw [← ha.1]; simp) (fun b _ => ha.2 b) (by simp [zh, noF])
 rcases hx with rfl | rfl <;> exact ⟨[.bool v], [.bool v], by rw [hr]; exact h, hL, rfl⟩
theorem alt_app {H H1 : AH} (h : alters H H1) (J : AH) : alters (H ++ J) (H1 ++ J) := by
 refine ⟨by simp [h.1], fun c => ?_⟩
 by_cases hc : c < H.length
 ·rw [List.getElem?_append_left hc, List.getElem?_append_left (by rw [h.1]; exact hc)]
  rcases h.2 c with k | ⟨k, k1, k2⟩ | k
  ·exact .inl k
  ·exact .inr (.inl ⟨k, k1, noFB_mono (by simp) k2⟩)
  ·exact .inr (.inr k)
 ·left
  have hl := h.1
  rw [List.getElem?_append_right (by omega), List.getElem?_append_right (by omega), hl]
def ZU (T : Tp) (g : Gd) (w : Cw) (p : I) : Bool := decide (Vp (ev (qV T w p) (absC w p) g.f) = 0)
def U9 (T : Tp) (g : Gd) (w : Cw) (n : Nat) (p : I) : List (List AV) := (jY (ZU T g w) w.least n p).map fun q => [iv q]
def Uv (T : Tp) (g : Gd) (w : Cw) (cg cc cw : Nat) (M : AH) : Prop := (∃ u, M[cg]? = some (.row u 2 [zN g])) ∧ (∃ u, M[cc]? = some (.row u 3 [zr T])) ∧ ∃ u, M[cw]? = some (.row u 8 [zQ w])
def XY (cg cc cw b : Nat) : AV := .func (.func 168) [] [.ptr cg 1 0 0, .ptr cc 1 0 0, .ptr cw 1 0 0, .ptr b 1 0 0, .ptr (b + 1) 1 0 0]
def QO (cg cc cw bl b : Nat) : AH := [.row true 1 [.yld bl], .row true 1 [XY cg cc cw b]]
set_option maxHeartbeats 2000000 in
theorem zdC (T : Tp) (g : Gd) (w : Cw) (cg cc cw bl : Nat) (hT : z8 T) (hn : T.n ≤ 1000000) (hw : JP T w) (hg : Jb T.n g) : ∀ (n : Nat) (p : I), 0 ≤ p.1 → p.1 < p.2 → p.2 ≤ w.s.h → p.2 - p.1 ≤ n → ∀ (M M1 J : AH), Uv T g w cg cc cw M → Qj E bl (Uv T g w cg cc cw) (U9 T g w n p) M M1 →
  zg E 168 [iv p, .ptr cg 1 0 0, .ptr cc 1 0 0, .ptr cw 1 0 0, .ptr M.length 1 0 0, .ptr (M.length + 1) 1 0 0] (M ++ (QO cg cc cw bl M.length ++ J)) (.ret (.bool true)) (M1 ++ (QO cg cc cw bl M.length ++ J))
 | 0, p, h0, h1, h2, h3, M, M1, J, hM, hY => by omega
 | n + 1, p, h0, h1, h2, h3, M, M1, J, hM, hY => by
  refine zt zn zo Tryz.func168 rfl (by rfl) Tryz.ntmps168 (by kernel_rfl) (by simp) ?_
  have fin : ∀ {fr : zx} {M1 : AH} {e : jJ}, alters M M1 → fr 7 = .bool true → (e = .ret ∨ e = .normal) →
    jd E Tryz.f168 (M ++ (QO cg cc cw bl M.length ++ J)) (.ret (.bool true)) (M1 ++ (QO cg cc cw bl M.length ++ J)) e fr (M1 ++ (zE.row true 1 [.yld bl] :: zE.row true 1 [XY cg cc cw M.length] :: (J ++ [zE.row true 2 [iv p]]))) := fun {fr M1 e} ha hf he => by
   rw [show M1 ++ (zE.row true 1 [.yld bl] :: zE.row true 1 [XY cg cc cw M.length] :: (J ++ [zE.row true 2 [iv p]])) = (M1 ++ (QO cg cc cw bl M.length ++ J)) ++ [zE.row true 2 [iv p]] by simp [QO]]
   exact finYb (rs := [.tmp 7]) (by rfl) (by simp [ze, hf]) (alt_app ha _) he
  have tm := hw.tm
  obtain ⟨⟨u1, m1⟩, ⟨u2, m2⟩, ⟨u3, m3⟩⟩ := hM
  have vp : vB p = true := qA (x := p.1) (y := p.2) (by omega) (by omega) (by omega)
  have va : vB (absC w p) = true := qA (x := w.s.t + p.1) (y := w.s.t + p.2) (by omega) (by omega) (by omega)
  have hE := fun Hx => xEncl T w p hT hw vp Hx
  have hA := fun Hx => WY w p (by omega) (by omega) Hx
  have hk := Wy (T := T) (x := w.s.frm) (b := w.s.pre) (t := w.s.t) (h := w.s.h) (part := p) (order := w.order) hT hw.vf hw.vp (by omega) (by omega)
  have hS := fun Hx => gSide g (qV T w p) (absC w p) (by rw [show (qV T w p).length = T.n from hk.2]; exact hg) hk.1 (by rw [show (qV T w p).length = T.n from hk.2]; exact hn) va Hx
  have hkp : ZU T g w p = decide (Vp (ev (qV T w p) (absC w p) g.f) = 0) := rfl
  generalize hsv : Vp (ev (qV T w p) (absC w p) g.f) = sv at *
  generalize qV T w p = En at *
  generalize hab : absC w p = ab at *
  have a1 := fun L => zi (L := L) m1
  have a2 := fun L => zi (L := L) m2
  have a3 := fun L => zi (L := L) m3
  simp only [zN, zr, qx, zQ, bx] at a1 a2 a3 hE hA hS
  simp [QO, a1, a2, a3]
  refine zB (fun Hx => by simpa [zQ, zr, qx, bx] using hE Hx) ?_
  simp [QO, a1, a2, a3]
  refine zB (fun Hx => by simpa [zQ, bx] using hA Hx) ?_
  simp
  refine zB (fun Hx => by simpa [zN, bx] using hS Hx) ?_
  simp
  refine zm [] (by rfl) (by simp [zl, zk, za.triv, za.wr, za.none, upTo, newAt]) ?_
  simp
  have ws : IntKind.i64.wrap (p.2 - p.1) = p.2 - p.1 := zj (by omega) (by omega)
  by_cases hs0 : sv = 0
  ·have hP : ZU T g w p = true := by rw [hkp]; simp [hs0]
   have hb0 : (sv != 0) = false := by simp [hs0]
   simp only [hb0]
   by_cases hwd : p.2 - p.1 ≤ w.least
   ·unfold U9 at hY
    rw [zai hP hwd] at hY
    cases hY with
    | go k1 k2 k3 k4 =>
     cases k4
     simp [QO, a3, ws, hwd]
     refine call_yld (by
      have := k3 (QO cg cc cw bl M.length ++ J ++ [.row true 2 [iv p]])
      simpa [QO, XY] using this) ?_
     simp
     exact fin k1 (by simp) (by simp)
   ·unfold U9 at hY
    rw [U8 hP hwd, List.map_append] at hY
    obtain ⟨em, em1, em2⟩ := zdu hw.le.1 h0 (by omega)
    rw [em] at hY
    have wm : IntKind.i64.wrap (p.1 + p.2) = p.1 + p.2 := zj (by omega) (by omega)
    have wq : IntKind.i64.wrap ((p.1 + p.2).tdiv 2) = (p.1 + p.2) / 2 := by rw [em]; exact zj (by omega) (by omega)
    generalize hmm : (p.1 + p.2) / 2 = m at *
    obtain ⟨M2, y1, y2⟩ := Qj.app hY
    have ih1 := zdC T g w cg cc cw bl hT hn hw hg n (p.1, m) h0 em1 (by show m ≤ _; omega) (by show m - p.1 ≤ _; omega) M M2 (J ++ [.row true 2 [iv p]]) ⟨⟨u1, m1⟩, ⟨u2, m2⟩, ⟨u3, m3⟩⟩ y1
    have hl2 := y1.alt.1
    have ih2 := zdC T g w cg cc cw bl hT hn hw hg n (m, p.2) (by show 0 ≤ m; omega) em2 h2 (by show p.2 - m ≤ _; omega) M2 M1 (J ++ [.row true 2 [iv p]]) (y1.keep ⟨⟨u1, m1⟩, ⟨u2, m2⟩, ⟨u3, m3⟩⟩) y2
    simp [QO, XY, a3, ws, hwd, wm, wq]
    simp only [QO, XY] at ih1 ih2
    refine zd (by simpa using ih1) ?_
    simp only [← hl2]
    simp
    refine zd (by simpa using ih2) ?_
    simp
    simp only [hl2]
    exact fin (y1.alt.trans y2.alt) (by simp) (by simp)
  ·have hP : ZU T g w p = false := by rw [hkp]; simp [hs0]
   have hb0 : (sv != 0) = true := by simp [hs0]
   unfold U9 at hY
   rw [zbm hP] at hY
   cases hY
   simp only [hb0]
   simp
   exact fin (.refl _) (by simp) (by simp)
set_option maxHeartbeats 1000000 in
theorem xKept1 (T : Tp) (g : Gd) (w : Cw) (cg cc cw bl : Nat) (hT : z8 T) (hn : T.n ≤ 1000000) (hw : JP T w) (hg : Jb T.n g) (M M1 : AH) (hM : Uv T g w cg cc cw M) (hY : Qj E bl (Uv T g w cg cc cw) (U9 T g w w.s.h.toNat (0, w.s.h)) M M1) :
  zg E 167 [.yld bl, .ptr cg 1 0 0, .ptr cc 1 0 0, .ptr cw 1 0 0] M (.ret (.tuple [])) M1 := by
 refine zt zn zo Tryz.func167 rfl (by rfl) Tryz.ntmps167 (by kernel_rfl) (by simp) ?_
 have tm := hw.tm
 have hE := zdC T g w cg cc cw bl hT hn hw hg w.s.h.toNat (0, w.s.h) (Int.le_refl 0) (by show 0 < w.s.h; omega) (Int.le_refl _) (by show w.s.h - 0 ≤ _; omega) M M1 [] hM hY
 have ha := hY.alt
 obtain ⟨⟨u1, m1⟩, ⟨u2, m2⟩, ⟨u3, m3⟩⟩ := hM
 have a3 := fun L => zi (L := L) m3
 simp only [zQ, bx] at a3
 simp only [QO, XY] at hE
 simp [a3]
 refine zd (by simpa using hE) ?_
 simp
 exact finY (by rfl) ha
theorem xKept (T : Tp) (g : Gd) (w : Cw) (H : AH) : zg E 107 [zr T, zN g, zQ w] H (.ret (.func (.func 167) [] [.ptr (H.length + 1) 1 0 0, .ptr H.length 1 0 0, .ptr (H.length + 2) 1 0 0])) (H ++ [.row true 3 [zr T], .row true 2 [zN g], .row true 8 [zQ w]]) := by
 refine zt zn zo Tryz.func107 rfl (by rfl) Tryz.ntmps107 (by kernel_rfl) (by simp) ?_
 simp [zr, qx, zN, zQ]
 exact Zx (rs := [.tmp 6]) (vs := [.func (.func 167) [] [.ptr (H.length + 1) 1 0 0, .ptr H.length 1 0 0, .ptr (H.length + 2) 1 0 0]]) (by rfl) (by simp [ze]) rfl
def Uu (a b : List I) (ca cb : Nat) (M : AH) : Prop := (∃ w, M[ca]? = some (.row w 1 [bx a])) ∧ ∃ w, M[cb]? = some (.row w 1 [bx b])
def V5 (a b : List I) (i : Nat) : List (List AV) := (List.range (a.length - i)).map fun k => [iv (zf a (i + k)), iv (zf b (i + k))]
theorem pairsA_cons {a b : List I} {i : Nat} (h : i < a.length) : V5 a b i = [iv (zf a i), iv (zf b i)] :: V5 a b (i + 1) := by
 unfold V5
 rw [show a.length - i = a.length - (i + 1) + 1 by omega, List.range_succ_eq_map, List.map_cons, List.map_map]
 congr 1
 apply List.map_congr_left
 intro k _
 simp only [Function.comp]
 rw [show i + 1 + k = i + k.succ by omega]
theorem pairsA_nil {a b : List I} {i : Nat} (h : a.length ≤ i) : V5 a b i = [] := by simp [V5, show a.length - i = 0 by omega]
def LPr (a b : List I) (ca cb bl : Nat) (H H1 : AH) (i : Nat) (fr : zx) (H' : AH) : Prop :=
 fr 0 = .yld bl ∧ fr 2 = .ptr cb 1 0 0 ∧ fr 6 = bx a ∧ fr 7 = .int .i64 a.length ∧ fr 8 = .int .i64 i ∧ i ≤ a.length ∧
 ∃ M J, H' = M ++ J ∧ alters H M ∧ Uu a b ca cb M ∧ QS E bl (Uu a b ca cb) (V5 a b i) M H1
theorem bPairs1 (a b : List I) (ca cb bl : Nat) (H H1 : AH) (hab : a.length ≤ b.length) (hl : a.length ≤ 1000000) (hM : Uu a b ca cb H) (hY : QS E bl (Uu a b ca cb) (V5 a b 0) H H1) :
  zg E 177 [.yld bl, .ptr ca 1 0 0, .ptr cb 1 0 0] H (.ret (.tuple [])) H1 := by
 refine zt zn zo Tryz.func177 rfl (by rfl) Tryz.ntmps177 (by kernel_rfl) (by simp) ?_
 obtain ⟨⟨wa, ha⟩, ⟨wb, hb⟩⟩ := hM
 have hal := (gI.1 ha).1
 simp only [bx] at ha hb
 simp [ha, zi ha]
 refine zZ (LPr a b ca cb bl H H1) (fun i => a.length - i) 0 ⟨by simp, by simp, by simp [bx], by simp, by simp, by omega, H, [], by simp, .refl H, ⟨⟨wa, ha⟩, ⟨wb, hb⟩⟩, hY⟩ ?_
 clear ha hb hal hY
 rintro i fr H' ⟨g0, g2, g6, g7, g8, hi, M, J, rfl, hal, hM, hY⟩
 simp [g7, g8]
 refine zL (fun hc => ?_) (fun hc => ?_)
 ·have hlt : i < a.length := by simpa using hc
  obtain ⟨p, hp⟩ := zD hlt
  obtain ⟨q, hq⟩ := zD (l := b) (i := i) (by omega)
  have hpE : ∀ h, a[i]'h = p := fun h => (gI.1 hp).2
  have hqE : ∀ h, b[i]'h = q := fun h => (gI.1 hq).2
  have w2 : IntKind.i64.wrap ((i : Int) + 1) = ((i + 1 : Nat) : Int) := by rw [zj (by omega) (by omega)]; omega
  rw [pairsA_cons hlt, show zf a i = p by simp [zf, hp], show zf b i = q by simp [zf, hq]] at hY
  obtain ⟨go, M1, h1, h2, h3, h4, h5⟩ := hY.cases_cons
  obtain ⟨⟨wa, ha⟩, ⟨wb, hb⟩⟩ := hM
  have hbl := (gI.1 hb).1
  simp only [bx] at ha hb
  simp [g0, g2, g6, g8, bx, hp, hpE, hq, hqE, hb, zi hb]
  refine callD_yld (K := M1 ++ (J ++ [.row true 2 [iv p]])) (v := .bool go) (by simp [h1.1]) (fun X => by
   have := h3 (J ++ [.row true 2 [iv p]] ++ X)
   simp at this ⊢
   exact this) ?_
  simp
  refine zm [(1, 6), (2, 6)] (by rfl) (by simp [zl, zk, za.triv, za.wr, za.none, upTo, newAt]) ?_
  simp
  refine zL (fun hg => ?_) (fun hg => ?_)
  ·have hg : go = false := by simpa using hg
   rw [h4 hg]
   simp
   exact finY (by rfl) (hal.trans (by rw [← h4 hg]; exact h1))
  ·have hg : go = true := by simpa using hg
   simp [g8, w2]
   exact ⟨i + 1, by show a.length - (i + 1) < a.length - i; omega, by simp [g0], by simp [g2], by simp [g6, bx], by simp [g7], by simp, by omega, M1, J ++ [.row true 2 [iv p]], by simp, hal.trans h1, h2, h5 hg⟩
 ·have hi' : i = a.length := by have : ¬ i < a.length := by simpa using hc
                                omega
  subst hi'
  rw [pairsA_nil (by omega)] at hY
  cases hY
  simp
  exact finY (by rfl) hal
def Qx : AV := .agg [.int .i64 0, .int .i64 0, .nilslice, .nilslice, .nilslice, .nilslice]
def UE : Option Sg → AV
 | some s => .tuple [JW s, .bool true]
 | none => .tuple [Qx, .bool false]
theorem restrB_valid {a b : List I} (ha : zq a) (hb : zq b) : zq (Jk a b) := UK fun i => restrI_valid (qE ha i) (qE hb i)
theorem restrB_len (a b : List I) : (Jk a b).length = a.length := by simp [Jk]
theorem enclAt_ok {T : Tp} {x b : List I} {t h : Int} {part : I} {order : Nat} (hT : z8 T) (hx : zq x) (hb : zq b) (hh : 0 ≤ h ∧ h ≤ 1000000000) (ht : -1000000000 ≤ t ∧ t ≤ 1000000000) (hp : vB part = true) :
  zq (qM T x b t h part order) ∧ (qM T x b t h part order).length = T.n := by
 have htv : vB (t, t + h) = true := qA (by omega) (by omega) (by omega)
 have htv2 : vB (t, t) = true := qA (by omega) (by omega) (by omega)
 have hr := zam (WG (order := order) hT hx htv2) (za8 (order := order) hT hb htv)
 unfold qM
 refine ⟨restrB_valid (fun p hp => ?_) hb, by rw [restrB_len, zbG, VS, Qv hT hx htv2]⟩
 obtain ⟨q, hq, rfl⟩ := List.mem_map.1 hp
 exact zaJ (hr q hq).2
theorem enclS_ok {T : Tp} {x d : List I} {t h : Int} (hx : zq x) (h0 : Qu T x t h = some d) : zq d ∧ d.length = x.length := by
 rw [show Qu T x t h = (Xf T x t h 8 (jo x (zV T x x t h))).findSome? Y5 from zbJ T x t h 8 _] at h0
 obtain ⟨p, hp, hpd⟩ := List.exists_of_findSome?_eq_some h0
 have := zcn hx 8 _ (V9 hx (Jn hx)) (by rw [Q7]) p hp
 unfold Y5 at hpd
 split at hpd
 ·cases hpd; exact this.2.2
 ·cases hpd
end Go.Proofs.YtkghjlgpmeibhaaGreatDoor.Arm

namespace Go.Pl
theorem sg_ext {a b : Sg} (h1 : a.t = b.t) (h2 : a.h = b.h) (h3 : a.frm = b.frm) (h4 : a.pre = b.pre) (h5 : a.tube = b.tube) (h6 : a.to = b.to) : a = b := by
 cases a; cases b; simp only at h1 h2 h3 h4 h5 h6; subst h1 h2 h3 h4 h5 h6; rfl
instance : DecidableEq Sg := fun a b => decidable_of_decidable_of_iff (p := a.t = b.t ∧ a.h = b.h ∧ a.frm = b.frm ∧ a.pre = b.pre ∧ a.tube = b.tube ∧ a.to = b.to) ⟨fun ⟨h1, h2, h3, h4, h5, h6⟩ => sg_ext h1 h2 h3 h4 h5 h6, fun h => by subst h; exact ⟨rfl, rfl, rfl, rfl, rfl, rfl⟩⟩
def Xs (Q : List I → Int → Sg → Prop) : List I → Int → List Sg → Prop
 | _, _, [] => True
 | x, t, s :: l => Q x t s ∧ Xs Q s.to (s.t + s.h) l
theorem Xs.mono {Q R : List I → Int → Sg → Prop} (h : ∀ x t s, Q x t s → R x t s) : ∀ {x : List I} {t : Int} {l : List Sg}, Xs Q x t l → Xs R x t l
 | _, _, [], _ => trivial
 | _, _, _ :: _, hc => ⟨h _ _ _ hc.1, hc.2.mono h⟩
theorem Xs.get {Q : List I → Int → Sg → Prop} : ∀ {x : List I} {t : Int} {l : List Sg}, Xs Q x t l → ∀ (i : Nat) s, l[i]? = some s → ∃ x' t', Q x' t' s
 | _, _, [], _, i, s, h => by simp at h
 | x, t, a :: l, hc, 0, s, h => by simp at h; subst h; exact ⟨x, t, hc.1⟩
 | x, t, a :: l, hc, i + 1, s, h => hc.2.get i s (by simpa using h)
theorem Xs.next {Q : List I → Int → Sg → Prop} : ∀ {x : List I} {t : Int} {l : List Sg}, Xs Q x t l → ∀ (i : Nat) s s', l[i]? = some s → l[i + 1]? = some s' → Q s.to (s.t + s.h) s'
 | _, _, [], _, i, s, s', h, _ => by simp at h
 | x, t, a :: [], hc, i, s, s', h, h' => by simp at h'
 | x, t, a :: b :: l, hc, 0, s, s', h, h' => by simp at h h'; subst h; subst h'; exact hc.2.1
 | x, t, a :: b :: l, hc, i + 1, s, s', h, h' => hc.2.next i s s' (by simpa using h) (by simpa using h')
structure hzOk (c : Ct) (t last : Int) : Prop where
 order : 1 ≤ c.order ∧ c.order ≤ 900
 least : 1 ≤ c.least
 most : 1 ≤ c.most ∧ c.most ≤ 1000000000
 t : -1000000000 ≤ t ∧ t ≤ 1000000000
 last : last ≤ 1000000000
theorem hzOk.step {c : Ct} {t last t' : Int} (k : hzOk c t last) (h1 : t ≤ t') (h2 : t' ≤ last) : hzOk c t' last := ⟨k.order, k.least, k.most, ⟨by have := k.t; omega, by have := k.last; omega⟩, k.last⟩
end Go.Pl

namespace Go.Proofs.YtkghjlgpmeibhaaGreatDoor.Arm
open Go.Arm Go.Pl
end Go.Proofs.YtkghjlgpmeibhaaGreatDoor.Arm

namespace Go.Arm
open Go.RowKit
section
variable {G : Gh} {w : World} {m : Nat} {σ : Nat → Option Nat}
theorem jy.moveRow0 (hd : ∀ c k, σ c = some k → ownr G c = none) {c : Nat} (hc : c < m) (hs : σ c = none) {wr : Bool} {sz : Nat} {xs xs' : List AV} (h : jy G w c (.row wr sz xs)) (hl : xs'.length = xs.length)
  (hx : ∀ (i : Nat) x x', xs[i]? = some x → xs'[i]? = some x' → Xo m σ x x') : jy (ZM G m σ) w c (.row wr sz xs') := by
 have ho : ownr (ZM G m σ) c = ownr G c := by rw [Vv, if_pos hc, hs]
 obtain ⟨L, h1, h2, h3, h4, h5, h6, h7, c', e, h8, h9, hv⟩ := h
 have hget : ∀ (i : Nat) x', xs'[i]? = some x' → ∃ x, xs[i]? = some x ∧ Xo m σ x x' := fun i x' hi => by
  have hlt := (gI.1 hi).1
  exact ⟨xs[i], by simp, hx i _ x' (by simp) hi⟩
 refine ⟨L, ho.trans h1, by rw [h2, hl], h3, fun x' hx' => ?_, by rw [hl]; exact h5, h6, by rw [hl]; exact h7, c', e, h8, h9, fun i x' j a' hi hj => ?_⟩
 ·obtain ⟨i, hi⟩ := List.mem_iff_getElem?.1 hx'
  obtain ⟨x, hx1, hx2⟩ := hget i x' hi
  rw [← hx2.1]; exact h4 x (List.mem_of_getElem? hx1)
 ·obtain ⟨x, hx1, hx2⟩ := hget i x' hi
  have hjl : j < x.cells.length := by rw [hx2.1]; exact (gI.1 hj).1
  obtain ⟨v, g1, g2⟩ := hv i x j x.cells[j] hx1 (by simp)
  exact ⟨v, g1, (hx2.2 j _ a' (by simp) hj).vr hd g2⟩
end
structure Yg (H HJ H' : AH) (r r' : AV) (σ : Nat → Option Nat) : Prop where
 dead : ∀ c k, σ c = some k → c < H.length ∧ H[c]? = some .dead ∧ HJ[c]? = some .dead ∧ H.length ≤ k
 inj : ∀ c c' k, σ c = some k → σ c' = some k → c = c'
 len : H'.length = H.length
 keep : ∀ c, c < H.length → σ c = none → (HJ[c]? = H[c]? ∧ H'[c]? = H[c]?) ∨ (∃ k, HJ[c]? = some k ∧ H'[c]? = some k ∧ qh H.length k = true) ∨
  (∃ k st st' frs, H[c]? = some (.loop k st frs) ∧ HJ[c]? = some (.loop k st' frs) ∧ H'[c]? = some (.loop k st' frs)) ∨
  ∃ wr sz xs xs', HJ[c]? = some (.row wr sz xs) ∧ H'[c]? = some (.row wr sz xs') ∧ xs'.length = xs.length ∧ ∀ (i : Nat) x x', xs[i]? = some x → xs'[i]? = some x' → Xo H.length σ x x'
 fill : ∀ c k, σ c = some k → ∃ wr sz xs xs', HJ[k]? = some (.row wr sz xs) ∧ H'[c]? = some (.row wr sz xs') ∧ xs'.length = xs.length ∧ ∀ (i : Nat) x x', xs[i]? = some x → xs'[i]? = some x' → Xo H.length σ x x'
 res : Vk H.length σ r r'
theorem Yg.ok {Γ : Nat → Option (List AV)} {G G' : Gh} {w w' : World} {H HJ H' : AH} {r r' : AV} {σ : Nat → Option Nat} (h : Yg H HJ H' r r' σ) (hI : zw Γ G w H) (e : zA G w G' w') (i : zw Γ G' w' HJ) {u : Value} (hu : VR G' w' r u) :
  ∃ G'', zA G w G'' w' ∧ zw Γ G'' w' H' ∧ VR G'' w' r' u := by
 obtain ⟨hd, hi, hl, hk, hf, hr⟩ := h
 have hd' : ∀ c k, σ c = some k → ownr G' c = none := fun c k hs => i.blk c _ (hd c k hs).2.2.1
 have e1 : zA G w (ZM G' H.length σ) w' := by
  refine ⟨e.os, e.tape, e.output, e.size, e.keep, fun c L hc => ?_, fun c L' hc hlt => ?_⟩
  ·obtain ⟨L', h1, h2⟩ := e.own c L hc
   have hc0 := Zi hc
   rw [hI.len] at hc0
   cases hs : σ c with
   | some k => have := hI.blk c _ (hd c k hs).2.1; rw [show ownr G c = none from this] at hc; cases hc
   | none => exact ⟨L', by rw [Vv, if_pos hc0, hs]; exact h1, h2⟩
  ·rcases (XI hc).2 with ⟨k, hs, h1⟩ | ⟨_, h1⟩
   ·obtain ⟨L, h2, _⟩ := e.back k L' h1 hlt
    have := Zi h2
    rw [hI.len] at this
    have := (hd c k hs).2.2.2
    omega
   ·exact e.back c L' h1 hlt
 refine ⟨_, e1, ⟨by simp [ZM, hl], fun c x hx => ?_, ?_, fun g cs hg => (hI.glob g cs hg).mono e1⟩, hr.vr hd' hu⟩
 ·have hc : c < H.length := by rw [← hl]; exact (gI.1 hx).1
  cases hs : σ c with
  | none =>
   rcases hk c hc hs with ⟨h1, h2⟩ | ⟨k, h1, h2, hn⟩ | ⟨k, st, st', frs, h0, h1, h2⟩ | ⟨wr, sz, xs, xs', h1, h2, h3, h4⟩
   ·rw [h2] at hx
    have hn := (hI.blk c x hx).noF
    rw [hI.len] at hn
    exact (i.blk c x (h1.trans hx)).move hd' hc hs hn
   ·rw [h2] at hx; cases hx
    exact (i.blk c _ h1).move hd' hc hs hn
   ·rw [h2] at hx; cases hx
    have hn := (hI.blk c _ h0).noF
    rw [hI.len] at hn
    exact (i.blk c _ h1).move hd' hc hs hn
   ·rw [h2] at hx; cases hx
    exact (i.blk c _ h1).moveRow0 hd' hc hs h3 h4
  | some k =>
   obtain ⟨wr, sz, xs, xs', h1, h2, h3, h4⟩ := hf c k hs
   rw [h2] at hx; cases hx
   exact (i.blk k _ h1).moveRow hd' hc hs h3 h4
 ·intro c c' L L' h1 h2 h3
  obtain ⟨g0, g1⟩ := XI h1
  obtain ⟨q0, q1⟩ := XI h2
  rcases g1 with ⟨k, s1, g1⟩ | ⟨s1, g1⟩ <;> rcases q1 with ⟨k', s2, q1⟩ | ⟨s2, q1⟩
  ·have := i.inj k k' L L' g1 q1 h3; subst this; exact hi c c' k s1 s2
  ·have := i.inj k c' L L' g1 q1 h3; have := (hd c k s1).2.2.2; omega
  ·have := i.inj c k' L L' g1 q1 h3; have := (hd c' k' s2).2.2.2; omega
  ·exact i.inj c c' L L' g1 q1 h3
theorem ZG.fillw {E : zW} {b : Nat} {args : List AV} {H HJ H' : AH} {v v' : AV} {σ : Nat → Option Nat} (h : ZG E b args H v HJ) (hs : Yg H HJ H' v v' σ) : ZG E b args H v' H' := by
 intro F n hF G w vs L hI hv hL hfx
 obtain ⟨fn, tmps, assign, body, h1, h2⟩ := h F n hF G w vs L hI hv hL hfx
 refine ⟨fn, tmps, assign, body, h1, h2.mono ?_⟩
 rintro r w1 ⟨u, rfl, G', e, i, hu⟩
 obtain ⟨G'', e2, i2, r2⟩ := hs.ok hI e i hu
 exact ⟨u, rfl, G'', e2, i2, r2⟩
theorem Yg.one {H0 H HJ H' : AH} {v : AV} {pl k oc sz n : Nat} {xs : List AV} (hp : H[pl]? = some .dead) (hpJ : HJ[pl]? = some .dead) (hkl : H.length ≤ k) (hk : HJ[k]? = some (.row true sz xs)) (hl : H'.length = H.length)
  (ho : HJ[oc]? = some (.row true 1 [.ref k n])) (ho' : H'[oc]? = some (.row true 1 [.ref pl n])) (hp' : H'[pl]? = some (.row true sz xs)) (hne : oc ≠ pl) (hn : zh H.length xs = true) (hv : noF H.length v = true)
  (hc : ∀ c, c < H.length → c ≠ pl → c ≠ oc → (HJ[c]? = H[c]? ∧ H'[c]? = H[c]?) ∨ (∃ k, HJ[c]? = some k ∧ H'[c]? = some k ∧ qh H.length k = true) ∨ (∃ k st st' frs, H[c]? = some (.loop k st frs) ∧ HJ[c]? = some (.loop k st' frs) ∧ H'[c]? = some (.loop k st' frs))) :
  Yg H HJ H' v v (fun c => if c = pl then some k else none) := by
 have hpl := (gI.1 hp).1
 have σp : ∀ c j, (fun c => if c = pl then some k else none) c = some j → c = pl ∧ j = k := fun c j h => by
  simp only at h
  split at h
  ·rename_i e; cases h; exact ⟨e, rfl⟩
  ·cases h
 have hrow : ∀ (i : Nat) x x', xs[i]? = some x → xs[i]? = some x' → Xo H.length (fun c => if c = pl then some k else none) x x' := fun i x x' h1 h2 => by
  rw [h1] at h2; cases h2
  refine ⟨rfl, fun j a a' ha ha' => ?_⟩
  rw [ha] at ha'; cases ha'
  exact .old (qT (J5.2 (qT hn h1)) ha)
 refine ⟨fun c j h => ?_, fun c c' j h h' => ?_, hl, fun c hcl hs => ?_, fun c j h => ?_, .old hv⟩
 ·obtain ⟨rfl, rfl⟩ := σp c j h
  exact ⟨hpl, hp, hpJ, hkl⟩
 ·rw [(σp c j h).1, (σp c' j h').1]
 ·have hcp : c ≠ pl := by intro e; subst e; simp at hs
  by_cases hco : c = oc
  ·subst hco
   refine .inr (.inr (.inr ⟨true, 1, _, _, ho, ho', rfl, fun i x x' h1 h2 => ?_⟩))
   cases i with
   | zero =>
    simp at h1 h2; subst h1; subst h2
    refine ⟨rfl, fun j a a' ha ha' => ?_⟩
    cases j with
    | zero => simp [AV.cells] at ha ha'; subst ha; subst ha'; exact .ref (by simp) hpl
    | succ j => simp [AV.cells] at ha
   | succ i => simp at h1
  ·rcases hc c hcl hcp hco with h | h | h
   ·exact .inl h
   ·exact .inr (.inl h)
   ·exact .inr (.inr (.inl h))
 ·obtain ⟨rfl, rfl⟩ := σp c j h
  exact ⟨true, sz, xs, xs, hk, hp', rfl, hrow⟩
end Go.Arm

namespace Go.Proofs.YtkghjlgpmeibhaaGreatDoor.Arm
open Go.Arm Go.Pl
theorem app_ivN {H : AH} {p : I} {f : Bool} : qn zp H 23 .nilslice (.slice [iv p] f) = some (.ref H.length 1, H ++ [.row true 2 [iv p]]) := by
 have h2 : qn zp H 23 .nilslice (.slice [iv p] f) = jO i48 H .nilslice [iv p] := by
  simp only [qn, tab23, tab48, jk]
  rfl
 rw [h2]
 rfl
def Qr (a b : List I) (i : Nat) : List I := (List.range i).map fun j => qK (zf a j) (zf b j)
theorem hullK_succ (a b : List I) (i : Nat) : Qr a b (i + 1) = Qr a b i ++ [qK (zf a i) (zf b i)] := by simp [Qr, List.range_succ]
theorem hullK_len (a b : List I) (i : Nat) : (Qr a b i).length = i := by simp [Qr]
def VO (a b : List I) (i : Nat) : zE := if i = 0 then .dead else .row true 2 ((Qr a b i).map iv)
def Xr (B i : Nat) : AV := if i = 0 then .nilslice else .ref B i
theorem bHull (a b : List I) (hab : a.length ≤ b.length) (hl : a.length ≤ 1000000) (ha : 1 ≤ a.length) (H : AH) : zg E 63 [bx a, bx b] H (.ret (bx (jo a b))) H := by
 refine Yw (1) zn zo Tryz.func63 rfl (by rfl) Tryz.ntmps63 (by kernel_rfl) (by simp) ?_
 rw [show List.replicate 1 zE.dead = [.dead] from rfl]
 simp
 refine zd (by simpa using bPairs a b _) ?_
 simp
 refine range_it 6 (by rfl) (fun N hN => ?_)
 generalize hk : (LK.mk N _ _ _) = k at hN ⊢
 generalize hf : List.map _ (List.range 6) = frs
 have h5 : frs[5]? = some (.ptr (H.length + 1) 1 0 0) := by rw [← hf]; simp
 let MM : Nat → AH := fun i => H ++ [VO a b i, .row true 1 [Xr H.length i], .row true 1 [bx a], .row true 1 [bx b], .loop k .ready frs]
 have hP : ∀ i, Uu a b (H.length + 2) (H.length + 3) (MM i) := fun i => ⟨⟨true, by simp [MM]⟩, ⟨true, by simp [MM]⟩⟩
 have nC : ∀ i, noF (H.length + 5) (Xr H.length i) = true := fun i => by unfold Xr; split <;> simp [noF]
 have nP : ∀ i, qh (H.length + 5) (VO a b i) = true := fun i => by unfold VO; split <;> simp only [qh, js]
 have halt : ∀ i j, alters (MM i) (MM j) := fun i j => alters_of ⟨.inr (.inl (by simpa using nP j)), .inr (.inl (by simp [qh, zh, nC])), .same _, .same _, .same _, trivial⟩
 have hround : ∀ (i : Nat) (p q : I), i < a.length → zf a i = p → zf b i = q → ∀ (J : AH), ZG E (H.length + 4) [iv p, iv q] (MM i ++ J) (.bool true) (MM (i + 1) ++ J) := by
  intro i p q hi hp hq J
  have hs : Qr a b (i + 1) = Qr a b i ++ [qK p q] := by rw [hullK_succ, hp, hq]
  have hln := hullK_len a b i
  rcases Nat.eq_zero_or_pos i with h0 | h0
  ·subst h0
   rw [show MM 0 = H ++ [.dead, .row true 1 [.nilslice], .row true 1 [bx a], .row true 1 [bx b], .loop k .ready frs] from rfl]
   have hs1 : Qr a b 1 = [qK p q] := by rw [hs]; simp [Qr]
   have eP : VO a b 1 = .row true 2 [iv (qK p q)] := by unfold VO; rw [hs1]; rfl
   refine ZG.fillw (HJ := H ++ [.dead, .row true 1 [.ref (H.length + 5 + J.length + 2) 1], .row true 1 [bx a], .row true 1 [bx b], .loop k .ready frs] ++ J ++ [.row true 2 [iv p], .row true 2 [iv q], .row true 2 [iv (qK p q)]]) (v := .bool true) ?_
    (Yg.one (H0 := H) (pl := H.length) (k := H.length + 5 + J.length + 2) (oc := H.length + 1) (sz := 2) (n := 1) (xs := [iv (qK p q)]) ?_ ?_ ?_ ?_ ?_ ?_ ?_ ?_ ?_ ?_ ?_ ?_)
   ·refine WW zn zo (k := k) (frs := frs) (by simp) (by rw [← hk]; rfl) hN ?_
    have ka := congrArg LK.assign hk
    have kb := congrArg LK.body hk
    have kp := congrArg LK.ps hk
    dsimp only at ka kb kp
    rw [← ka, ← kb, ← kp]
    clear ka kb kp hk hf hN
    simp [V1]
    rw [WM]
    refine ⟨by simp, ?_⟩
    simp [h5]
    refine zB (fun Hx => zdR p q Hx) ?_
    simp
    refine bind_some (app_ivN (p := qK p q)) ?_
    simp [h5]
    refine zm [(0, 6)] (by rfl) (by simp [zl, zk, za.triv, za.wr, za.none, upTo, newAt]) ?_
    simp
    rw [UG]
    refine ⟨by simp, rfl, ?_⟩
    have e : H.length + 5 + J.length + 2 = H.length + (J.length + 2 + 5) := by omega
    rw [e]
    simp
    exact .keep _ _
   ·simp
   ·simp
   ·simp; omega
   ·rw [List.getElem?_append_right (by simp; omega)]
    rw [show H.length + 5 + J.length + 2 - (H ++ [zE.dead, .row true 1 [.ref (H.length + 5 + J.length + 2) 1], .row true 1 [bx a], .row true 1 [bx b], .loop k .ready frs] ++ J).length = 2 by simp; omega]
    rfl
   ·simp [MM]
   ·simp
   ·simp [MM, Xr]
   ·simp [MM, eP]
   ·omega
   ·simp [zh, noF]
   ·simp [noF]
   ·intro c hc h1 h2
    left
    have eJ : (H ++ [zE.dead, .row true 1 [.ref (H.length + 5 + J.length + 2) 1], .row true 1 [bx a], .row true 1 [bx b], .loop k .ready frs] ++ J ++ [.row true 2 [iv p], .row true 2 [iv q], .row true 2 [iv (qK p q)]]) = ((H ++ [zE.dead, .row true 1 [.nilslice], .row true 1 [bx a], .row true 1 [bx b], .loop k .ready frs] ++ J).set (H.length + 1) (.row true 1 [.ref (H.length + 5 + J.length + 2) 1])) ++ [.row true 2 [iv p], .row true 2 [iv q], .row true 2 [iv (qK p q)]] := by simp
    have eH : MM (0 + 1) ++ J = ((H ++ [zE.dead, .row true 1 [.nilslice], .row true 1 [bx a], .row true 1 [bx b], .loop k .ready frs] ++ J).set H.length (VO a b 1)).set (H.length + 1) (.row true 1 [.ref H.length 1]) := by simp [MM, Xr]
    rw [eJ, eH]
    generalize hM : H ++ [zE.dead, .row true 1 [.nilslice], .row true 1 [bx a], .row true 1 [bx b], .loop k .ready frs] ++ J = M0 at hc ⊢
    refine ⟨?_, ?_⟩
    ·rw [List.getElem?_append_left (by simpa using hc), List.getElem?_set_ne (Ne.symm h2)]
    ·rw [List.getElem?_set_ne (Ne.symm h2), List.getElem?_set_ne (Ne.symm h1)]
  ·have eM : MM i = H ++ [.row true 2 ((Qr a b i).map iv), .row true 1 [.ref H.length i], .row true 1 [bx a], .row true 1 [bx b], .loop k .ready frs] := by
    simp only [MM, VO, Xr, if_neg (show ¬ i = 0 by omega)]
   have eM2 : MM (i + 1) = H ++ [.row true 2 ((Qr a b i ++ [qK p q]).map iv), .row true 1 [.ref H.length (i + 1)], .row true 1 [bx a], .row true 1 [bx b], .loop k .ready frs] := by
    simp only [MM, VO, Xr, if_neg (show ¬ i + 1 = 0 by omega), hs]
   have ha2 := halt i (i + 1)
   rw [eM, eM2] at *
   refine WW zn zo (k := k) (frs := frs) (by simp) (by rw [← hk]; rfl) hN ?_
   have ka := congrArg LK.assign hk
   have kb := congrArg LK.body hk
   have kp := congrArg LK.ps hk
   dsimp only at ka kb kp
   rw [← ka, ← kb, ← kp]
   clear ka kb kp hk hf hN
   generalize Qr a b i = W at *
   simp [V1]
   rw [WM]
   refine ⟨by simp, ?_⟩
   simp [h5]
   refine zB (fun Hx => zdR p q Hx) ?_
   simp
   refine bind_some (X8 (p := qK p q) (l := W.map iv) (by simp [hln]) (by omega) (by simp)) ?_
   simp [h5]
   refine zm [(0, 6)] (by rfl) (by simp [zl, zk, za.triv, za.wr, za.none, upTo, newAt]) ?_
   simp
   rw [UG]
   refine ⟨by simp, rfl, ?_⟩
   have := Leaves.alters (J := J) (X := [.row true 2 [iv p], .row true 2 [iv q]]) ha2
   simpa using this
 have hrun : ∀ n i, a.length - i = n → i ≤ a.length → QS E (H.length + 4) (Uu a b (H.length + 2) (H.length + 3)) (V5 a b i) (MM i) (MM a.length) := by
  intro n
  induction n with
  | zero => intro i hi hle; rw [pairsA_nil (by omega), show i = a.length by omega]; exact .nil _
  | succ n ih =>
   intro i hi hle
   rw [pairsA_cons (by omega)]
   exact .go (halt _ _) (hP _) (hround i _ _ (by omega) rfl rfl) (ih (i + 1) (by omega) (by omega))
 have hS := bPairs1 a b _ _ (H.length + 4) _ _ hab hl (hP 0) (hrun a.length 0 rfl (by omega))
 have e0 : MM 0 = H ++ [.dead, .row true 1 [.nilslice], .row true 1 [bx a], .row true 1 [bx b], .loop k .ready frs] := rfl
 have e1 : MM a.length = H ++ [.row true 2 ((Qr a b a.length).map iv), .row true 1 [.ref H.length a.length], .row true 1 [bx a], .row true 1 [bx b], .loop k .ready frs] := by
  simp only [MM, VO, Xr, if_neg (show ¬ a.length = 0 by omega)]
 rw [e0, e1] at hS
 refine ⟨_, _, k, .ready, frs, by simpa using hS, by simp, ?_⟩
 simp [Wa]
 exact ZO (t := 4) (v := .ref (H.length + 0) a.length) (v0 := .nilslice) (sz := 2) (xs := (jo a b).map iv) (by rfl) (by simp) (.inr ⟨0, by simp [jo], by simp [jo, Qr]⟩) rfl (js _ _)
def Vl (l : List I) : zE := if l = [] then .dead else .row true 2 (l.map iv)
def Vm (B : Nat) (l : List I) : AV := if l = [] then .nilslice else .ref B l.length
def Zf (l : List I) : AV := if l = [] then .nilslice else bx l
set_option maxHeartbeats 4000000 in
theorem xMerged (T : Tp) (g : Gd) (w : Cw) (hT : z8 T) (hn : T.n ≤ 1000000) (hw : JP T w) (hg : Jb T.n g) (H : AH) :
  zg E 60 [zr T, zN g, zQ w] H (.ret (Zf (if JH g w.s = 0 then [] else QY (ZU T g w) w.least w.s.h))) H := by
 refine Yw (1) zn zo Tryz.func60 rfl (by rfl) Tryz.ntmps60 (by kernel_rfl) (by simp) ?_
 rw [show List.replicate 1 zE.dead = [.dead] from rfl]
 have tm := hw.tm
 have hC := fun Hx => gCrossing T g w.s hg hn hw.vt hw.nt hw.vf hw.nf hw.vo hw.no tm Hx
 have hK := fun Hx => xKept T g w Hx
 simp only [zN, JW, bx, zr, qx, zQ] at hC
 simp [zN, zQ, zr, qx, bx]
 refine zd (hC _) ?_
 by_cases hz : JH g w.s = 0
 ·simp [hz]
  rw [show Zf [] = .nilslice from rfl]
  exact zv (rs := [.tmp 6]) (by rfl) (by simp [ze]) (by simp [noF])
 ·have hb : (JH g w.s == 0) = false := by rw [beq_eq_false_iff_ne]; exact hz
  simp [hz, hb]
  refine zd (by simpa [zr, qx, zN, zQ, bx] using hK _) ?_
  simp
  refine range_it 8 (by rfl) (fun N hN => ?_)
  generalize hk : (LK.mk N _ _ _) = k at hN ⊢
  generalize hf : List.map _ (List.range 8) = frs
  have h7 : frs[7]? = some (.ptr (H.length + 4) 1 0 0) := by rw [← hf]; simp
  let MM : List I → AH := fun l => H ++ [Vl l, .row true 3 [zr T], .row true 2 [zN g], .row true 8 [zQ w], .row true 1 [Vm H.length l], .row true 3 [zr T], .row true 2 [zN g], .row true 8 [zQ w], .loop k .ready frs]
  have hP : ∀ l, Uv T g w (H.length + 6) (H.length + 5) (H.length + 7) (MM l) := fun l => ⟨⟨true, by simp [MM]⟩, ⟨true, by simp [MM]⟩, ⟨true, by simp [MM]⟩⟩
  have nC : ∀ l, noF (H.length + 9) (Vm H.length l) = true := fun l => by unfold Vm; split <;> simp [noF]
  have nP : ∀ l, qh (H.length + 9) (Vl l) = true := fun l => by unfold Vl; split <;> simp only [qh, js]
  have halt : ∀ l l2, alters (MM l) (MM l2) := fun l l2 => alters_of ⟨.inr (.inl (by simpa using nP l2)), .same _, .same _, .same _, .inr (.inl (by simp [qh, zh, nC])), .same _, .same _, .same _, .same _, trivial⟩
  have hround : ∀ (l : List I) (p : I), l.length ≤ 1000000000 → ∀ (J : AH), ZG E (H.length + 8) [iv p] (MM l ++ J) (.bool true) (MM (qH l p) ++ J) := by
   intro l p hl J
   by_cases h0 : l = []
   ·subst h0
    rw [mergeC_nil]
    rw [show MM [] = H ++ [.dead, .row true 3 [zr T], .row true 2 [zN g], .row true 8 [zQ w], .row true 1 [.nilslice], .row true 3 [zr T], .row true 2 [zN g], .row true 8 [zQ w], .loop k .ready frs] from rfl]
    have eP : Vl [p] = .row true 2 [iv p] := rfl
    refine ZG.fillw (HJ := H ++ [.dead, .row true 3 [zr T], .row true 2 [zN g], .row true 8 [zQ w], .row true 1 [.ref (H.length + 9 + J.length + 1) 1], .row true 3 [zr T], .row true 2 [zN g], .row true 8 [zQ w], .loop k .ready frs] ++ J ++ [.row true 2 [iv p], .row true 2 [iv p]]) (v := .bool true) ?_
     (Yg.one (H0 := H) (pl := H.length) (k := H.length + 9 + J.length + 1) (oc := H.length + 4) (sz := 2) (n := 1) (xs := [iv p]) ?_ ?_ ?_ ?_ ?_ ?_ ?_ ?_ ?_ ?_ ?_ ?_)
    ·refine WW zn zo (k := k) (frs := frs) (by simp) (by rw [← hk]; rfl) hN ?_
     have ka := congrArg LK.assign hk
     have kb := congrArg LK.body hk
     have kp := congrArg LK.ps hk
     dsimp only at ka kb kp
     rw [← ka, ← kb, ← kp]
     clear ka kb kp hk hf hN
     simp [V1]
     rw [WM]
     refine ⟨by simp, ?_⟩
     simp [h7]
     refine zm [] (by rfl) (by simp [zl, zk, za.triv, za.wr, za.none, upTo, newAt]) ?_
     simp [h7]
     refine bind_some (app_ivN (p := p)) ?_
     simp [h7]
     rw [UG]
     refine ⟨by simp, rfl, ?_⟩
     have e : H.length + 9 + J.length + 1 = H.length + (J.length + 1 + 9) := by omega
     rw [e]
     simp
     exact .keep _ _
    ·simp
    ·simp
    ·simp; omega
    ·rw [List.getElem?_append_right (by simp; omega)]
     rw [show H.length + 9 + J.length + 1 - (H ++ [zE.dead, .row true 3 [zr T], .row true 2 [zN g], .row true 8 [zQ w], .row true 1 [.ref (H.length + 9 + J.length + 1) 1], .row true 3 [zr T], .row true 2 [zN g], .row true 8 [zQ w], .loop k .ready frs] ++ J).length = 1 by simp; omega]
     rfl
    ·simp [MM]
    ·simp
    ·simp [MM, Vm]
    ·simp [MM, eP]
    ·omega
    ·simp [zh, noF]
    ·simp [noF]
    ·intro c hc h1 h2
     left
     have eJ : (H ++ [zE.dead, .row true 3 [zr T], .row true 2 [zN g], .row true 8 [zQ w], .row true 1 [.ref (H.length + 9 + J.length + 1) 1], .row true 3 [zr T], .row true 2 [zN g], .row true 8 [zQ w], .loop k .ready frs] ++ J ++ [.row true 2 [iv p], .row true 2 [iv p]]) = ((H ++ [zE.dead, .row true 3 [zr T], .row true 2 [zN g], .row true 8 [zQ w], .row true 1 [.nilslice], .row true 3 [zr T], .row true 2 [zN g], .row true 8 [zQ w], .loop k .ready frs] ++ J).set (H.length + 4) (.row true 1 [.ref (H.length + 9 + J.length + 1) 1])) ++ [.row true 2 [iv p], .row true 2 [iv p]] := by simp
     have eH : MM [p] ++ J = ((H ++ [zE.dead, .row true 3 [zr T], .row true 2 [zN g], .row true 8 [zQ w], .row true 1 [.nilslice], .row true 3 [zr T], .row true 2 [zN g], .row true 8 [zQ w], .loop k .ready frs] ++ J).set H.length (Vl [p])).set (H.length + 4) (.row true 1 [.ref H.length 1]) := by simp [MM, Vm]
     rw [eJ, eH]
     generalize hM : H ++ [zE.dead, .row true 3 [zr T], .row true 2 [zN g], .row true 8 [zQ w], .row true 1 [.nilslice], .row true 3 [zr T], .row true 2 [zN g], .row true 8 [zQ w], .loop k .ready frs] ++ J = M0 at hc ⊢
     refine ⟨?_, ?_⟩
     ·rw [List.getElem?_append_left (by simpa using hc), List.getElem?_set_ne (Ne.symm h2)]
     ·rw [List.getElem?_set_ne (Ne.symm h2), List.getElem?_set_ne (Ne.symm h1)]
   ·have hpos : 0 < l.length := by
     cases l with
     | nil => exact absurd rfl h0
     | cons a r => simp
    have eP : Vl l = .row true 2 (l.map iv) := by unfold Vl; rw [if_neg h0]
    have eC : Vm H.length l = .ref H.length l.length := by unfold Vm; rw [if_neg h0]
    have hne : qH l p ≠ [] := fun h => by have := (zbb l p).2; rw [h] at this; simp at this
    have eP2 : Vl (qH l p) = .row true 2 ((qH l p).map iv) := by unfold Vl; rw [if_neg hne]
    have eC2 : Vm H.length (qH l p) = .ref H.length (qH l p).length := by unfold Vm; rw [if_neg hne]
    have ha2 := halt l (qH l p)
    have eM : MM l = H ++ [.row true 2 (l.map iv), .row true 3 [zr T], .row true 2 [zN g], .row true 8 [zQ w], .row true 1 [.ref H.length l.length], .row true 3 [zr T], .row true 2 [zN g], .row true 8 [zQ w], .loop k .ready frs] := by simp only [MM, eP, eC]
    have eM2 : MM (qH l p) = H ++ [.row true 2 ((qH l p).map iv), .row true 3 [zr T], .row true 2 [zN g], .row true 8 [zQ w], .row true 1 [.ref H.length (qH l p).length], .row true 3 [zr T], .row true 2 [zN g], .row true 8 [zQ w], .loop k .ready frs] := by simp only [MM, eP2, eC2]
    obtain ⟨z, hz2⟩ : ∃ z, l[l.length - 1]? = some z := ⟨l[l.length - 1], by rw [List.getElem?_eq_getElem]⟩
    have hzE : ∀ h, l[l.length - 1]'h = z := fun h => (gI.1 hz2).2
    have hlast : Zj l = z := by unfold Zj; rw [List.getLast?_eq_getElem?, hz2]; rfl
    have wl : IntKind.i64.wrap ((l.length : Int) - 1) = ((l.length - 1 : Nat) : Int) := by rw [zj (by omega) (by omega)]; omega
    have hlt : l.length - 1 < l.length := by omega
    rw [eM, eM2] at ha2 ⊢
    clear eM eM2 halt nP nC hP
    refine WW zn zo (k := k) (frs := frs) (by simp) (by rw [← hk]; rfl) hN ?_
    have ka := congrArg LK.assign hk
    have kb := congrArg LK.body hk
    have kp := congrArg LK.ps hk
    dsimp only at ka kb kp
    rw [← ka, ← kb, ← kp]
    clear ka kb kp hk hf hN
    by_cases hm : z.2 = p.1
    ·have em : qH l p = l.set (l.length - 1) (z.1, p.2) := by unfold qH; rw [hlast, if_pos ⟨hpos, hm⟩]
     rw [em] at ha2 ⊢
     simp [V1]
     rw [WM]
     refine ⟨by simp, ?_⟩
     simp [h7, hpos, wl, hz2, hzE, hlt, hm]
     refine zm [] (by rfl) (by simp [zl, zk, za.triv, za.wr, za.none, upTo, newAt]) ?_
     simp [h7, wl, hz2, hzE, hlt]
     rw [UG]
     refine ⟨by simp, rfl, ?_⟩
     have := Leaves.alters (J := J) (X := [.row true 2 [iv p]]) ha2
     simpa [List.map_set] using this
    ·have em : qH l p = l ++ [p] := by unfold qH; rw [hlast, if_neg (by simp [hm])]
     rw [em] at ha2 ⊢
     have hm2 : (z.2 == p.1) = false := by rw [beq_eq_false_iff_ne]; exact hm
     simp [V1]
     rw [WM]
     refine ⟨by simp, ?_⟩
     simp [h7, hpos, wl, hz2, hzE, hlt, hm2]
     refine zm [] (by rfl) (by simp [zl, zk, za.triv, za.wr, za.none, upTo, newAt]) ?_
     simp [h7]
     refine bind_some (X8 (p := p) (l := l.map iv) (by simp) (by omega) (by simp)) ?_
     simp [h7]
     rw [UG]
     refine ⟨by simp, rfl, ?_⟩
     have := Leaves.alters (J := J) (X := [.row true 2 [iv p]]) ha2
     simpa using this
  have hrun : ∀ (L l : List I), l.length + L.length ≤ 1000000000 → Qj E (H.length + 8) (Uv T g w (H.length + 6) (H.length + 5) (H.length + 7)) (L.map fun q => [iv q]) (MM l) (MM (L.foldl qH l)) := by
   intro L
   induction L with
   | nil => intro l _; exact .nil _
   | cons q r ih =>
    intro l hl
    have h1 := zbb l q
    rw [List.length_cons] at hl
    exact .go (halt _ _) (hP _) (hround l q (by omega)) (ih (qH l q) (by omega))
  have hkl := zbl (P := ZU T g w) hw.le.1 w.s.h.toNat (0, w.s.h) (Int.le_refl 0) (by show 0 < w.s.h; omega)
  have hS := xKept1 T g w _ _ _ (H.length + 8) hT hn hw hg _ _ (hP []) (hrun (jY (ZU T g w) w.least w.s.h.toNat (0, w.s.h)) [] (by simp only at hkl; simp; omega))
  have eF : (jY (ZU T g w) w.least w.s.h.toNat (0, w.s.h)).foldl qH [] = QY (ZU T g w) w.least w.s.h := rfl
  rw [eF] at hS
  clear hround hrun hP halt nC nP
  generalize QY (ZU T g w) w.least w.s.h = F at *
  have e0 : MM [] = H ++ [.dead, .row true 3 [zr T], .row true 2 [zN g], .row true 8 [zQ w], .row true 1 [.nilslice], .row true 3 [zr T], .row true 2 [zN g], .row true 8 [zQ w], .loop k .ready frs] := rfl
  by_cases hF : F = []
  ·subst hF
   rw [e0] at hS
   refine ⟨_, _, k, .ready, frs, by simpa [zN, zr, qx, zQ, bx] using hS, by simp, ?_⟩
   simp [Wa]
   rw [show Zf [] = .nilslice from rfl]
   exact zv (rs := [.tmp 6]) (by rfl) (by simp [ze]) (by simp [noF])
  ·have e1 : MM F = H ++ [.row true 2 (F.map iv), .row true 3 [zr T], .row true 2 [zN g], .row true 8 [zQ w], .row true 1 [.ref H.length F.length], .row true 3 [zr T], .row true 2 [zN g], .row true 8 [zQ w], .loop k .ready frs] := by
    simp only [MM, Vl, Vm, if_neg hF]
   rw [e0, e1] at hS
   refine ⟨_, _, k, .ready, frs, by simpa [zN, zr, qx, zQ, bx] using hS, by simp, ?_⟩
   simp [Wa]
   rw [show Zf F = bx F from by unfold Zf; rw [if_neg hF]]
   exact ZO (t := 6) (v := .ref (H.length + 0) F.length) (v0 := .nilslice) (sz := 2) (xs := F.map iv) (by rfl) (by simp) (.inr ⟨0, by simp, by simp⟩) rfl (js _ _)
def Z6 (xv : List I) (t : I) (g : Ex) (f : List I) : Nat → I
 | 0 => ev xv t (Zy .tm g)
 | i + 1 => if qJ (Zy (.st i) g) 0 then Z6 xv t g f i else add (Z6 xv t g f i) (mul (ev xv t (Zy (.st i) g)) (f.getD i (0, 0)))
def LLi (s : Jr) (g : Ex) (xv : List I) (t : I) (H : AH) (i : Nat) (fr : zx) (H' : AH) : Prop :=
 fr 1 = xs (zb g) ∧ fr 2 = bx xv ∧ fr 7 = .ptr (H.length + 1) 1 0 0 ∧ fr 8 = .ptr (H.length + 2) 1 0 0 ∧ fr 9 = .ptr (H.length + 3) 1 0 0 ∧ fr 21 = bx (s.f.map (ev xv t)) ∧ fr 22 = .int .i64 s.f.length ∧ fr 23 = .int .i64 i ∧ i ≤ s.f.length ∧ ∃ J, H' = H ++ ([.row true 2 [z5 s], .row true 2 [iv t], .row true 2 [iv (0, 0)], .row true 2 [iv (Z6 xv t g (s.f.map (ev xv t)) i)]] ++ J)
theorem zar {xv : List I} {t : I} {g : Ex} {f : List I} (hxv : ∀ p ∈ xv, vB p = true) (htv : vB t = true) (hw : wf xv.length g = true) (hf : ∀ p ∈ f, vB p = true) : ∀ i, vB (Z6 xv t g f i) = true
 | 0 => QP hxv htv _ (zc3 hw)
 | i + 1 => by
  simp only [Z6]
  split
  ·exact zar hxv htv hw hf i
  ·exact JK (zar hxv htv hw hf i) jU
theorem jLieDerivative (s : Jr) (g : Ex) (xv : List I) (t : I) (hxv : ∀ p ∈ xv, vB p = true) (hxl : xv.length ≤ 1000000000) (htv : vB t = true) (hf : ∀ e ∈ s.f, sz e ≤ 1000000000 ∧ wf xv.length e = true) (hn : s.f.length ≤ 1000000000) (hgs : sz g ≤ 1000000) (hgw : wf xv.length g = true) (hgt : sz (zJ .tm g) ≤ 1000000) (hgd : ∀ j : Nat, j < s.f.length → sz (zJ (.st j) g) ≤ 1000000) (H : AH) :
  zg E 68 [z5 s, xs (zb g), bx xv, iv t] H (.ret (iv (Z6 xv t g (s.f.map (ev xv t)) s.f.length))) H := by
 refine zt zn zo Tryz.func68 rfl (by rfl) Tryz.ntmps68 (by kernel_rfl) (by simp) ?_
 simp [z5, xs]
 have hst : sz (Zy .tm g) ≤ 1000000 := Nat.le_trans (VZ _) hgt
 refine zB (fun Hx => jTimeDerivative g hgw hgs hgt Hx) ?_
 simp [bx]
 refine zB (fun Hx => zdt (Zy .tm g) xv t hxv hxl htv (by omega) (zc3 hgw) Hx) ?_
 simp
 refine zm [(5, 6)] (by rfl) (by simp [zl, zk, za.triv, za.wr, za.none, upTo, newAt]) ?_
 simp
 refine Jq (oDerivatives s xv t hxv hxl htv hf hn _) (by simp [z5, bx, iv, xs]; rfl) ?_
 simp [bx]
 have hfv : ∀ p ∈ s.f.map (ev xv t), vB p = true := fun p hp => by obtain ⟨e, he, rfl⟩ := List.mem_map.1 hp; exact QP hxv htv e (hf e he).2
 refine zZ (LLi s g xv t H) (fun i => s.f.length - i) 0 ⟨by simp [xs], by simp [bx], by simp, by simp, by simp, by simp [bx], by simp, by simp, by omega, [], by simp [z5, iv, xs, Z6]⟩ ?_
 rintro i fr H' ⟨g1, g2, g7, g8, g9, g21, g22, g23, hi, J, rfl⟩
 simp [g22, g23]
 refine zL (fun hc => ?_) (fun hc => ?_)
 ·have hlt : i < s.f.length := by simpa using hc
  obtain ⟨e, hei⟩ := zD hlt
  have heE : ∀ h, s.f[i]'h = e := fun h => (gI.1 hei).2
  have w2 : IntKind.i64.wrap ((i : Int) + 1) = ((i + 1 : Nat) : Int) := by rw [zj (by omega) (by omega)]; omega
  have hda := hgd i hlt
  have hsd : sz (Zy (.st i) g) ≤ 1000000 := Nat.le_trans (VZ _) hda
  have hls : Z6 xv t g (s.f.map (ev xv t)) (i + 1) = if qJ (Zy (.st i) g) 0 then Z6 xv t g (s.f.map (ev xv t)) i else add (Z6 xv t g (s.f.map (ev xv t)) i) (mul (ev xv t (Zy (.st i) g)) (ev xv t e)) := by
   simp only [Z6, List.getD_eq_getElem?_getD, List.getElem?_map, hei, Option.map_some, Option.getD_some]
  have hsv := zar (f := s.f.map (ev xv t)) hxv htv hgw hfv i
  have hev := QP hxv htv e (hf e (List.mem_of_getElem? hei)).2
  generalize hS : Z6 xv t g (s.f.map (ev xv t)) i = S at *
  simp [g1, g2, g7, g8, g9, g21, g23, hei, heE, xs, bx]
  refine Jq (jDiff g i hgw hgs hda _) (by simp [xs]; rfl) ?_
  simp
  refine zd (Qp (Zy (.st i) g) 0 (by omega) _) ?_
  simp
  cases hk : qJ (Zy (.st i) g) 0 with
  | true =>
   simp [g23, w2]
   exact ⟨i + 1, by show s.f.length - (i + 1) < s.f.length - i; omega, by simp [g1, xs], by simp [g2, bx], by simp [g7], by simp [g8], by simp [g9], by simp [g21, bx], by simp [g22], by simp, by omega, J ++ [.row true 2 [iv (ev xv t e)]], by simp [z5, iv, hls, hk]⟩
  | false =>
   simp [g2, g7, g9, bx]
   refine zB (fun Hx => zdt (Zy (.st i) g) xv t hxv hxl htv (by omega) (zc3 hgw) Hx) ?_
   simp [g2, g7, g9]
   refine zB (fun Hx => Y2 _ _ (QP hxv htv _ (zc3 hgw)) hev Hx) ?_
   simp [g9]
   refine zB (fun Hx => V8 _ _ hsv jU Hx) ?_
   simp [g9]
   refine zm [(0, 8)] (by rfl) (by simp [zl, zk, za.triv, za.wr, za.none, upTo, newAt]) ?_
   simp [g23, w2]
   exact ⟨i + 1, by show s.f.length - (i + 1) < s.f.length - i; omega, by simp [g1, xs], by simp [g2, bx], by simp [g7], by simp [g8], by simp [g9], by simp [g21, bx], by simp [g22], by simp, by omega, J ++ [.row true 2 [iv (ev xv t e)]], by simp [z5, iv, hls, hk]⟩
 ·have hi' : i = s.f.length := by have : ¬ i < s.f.length := by simpa using hc
                                  omega
  subst hi'
  simp [g8, g9]
  exact zv (rs := [.cell 8 48]) (by rfl) (by simp [ze, g8]) (by simp [noF, zh])
def jm (T : Tp) (g : Gd) (w : Cw) : List I := if JH g w.s = 0 then [] else QY (ZU T g w) w.least w.s.h
def LTi (T : Tp) (g : Gd) (w : Cw) (l : List I) (H : AH) (i : Nat) (fr : zx) (H' : AH) : Prop :=
 fr 5 = .ptr (H.length + 2) 1 0 0 ∧ fr 13 = Zf l ∧ fr 14 = .int .i64 l.length ∧ fr 15 = .int .i64 i ∧ i ≤ l.length ∧
 ∃ J, H' = H ++ (.row true 3 [zr T] :: .row true 2 [zN g] :: .row true 8 [zQ w] :: J) ∧ qr (H ++ [.row true 3 [zr T], .row true 2 [zN g], .row true 8 [zQ w]]) J (fr 7) 2 (((l.take i).map (absC w)).map iv) .nilslice
set_option maxHeartbeats 2000000 in
theorem Uy (T : Tp) (g : Gd) (w : Cw) (hT : z8 T) (hn : T.n ≤ 1000000) (hw : JP T w) (hg : Jb T.n g) (hb : ∀ p ∈ jm T g w, 0 ≤ p.1 ∧ p.1 ≤ p.2 ∧ p.2 ≤ w.s.h) (hl : (jm T g w).length ≤ 1000000000) (H : AH) :
  zg E 21 [zr T, zN g, zQ w] H (.ret (Zf ((jm T g w).map (absC w)))) H := by
 refine zt zn zo Tryz.func21 rfl (by rfl) Tryz.ntmps21 (by kernel_rfl) (by simp) ?_
 have tm := hw.tm
 have hM := fun Hx => xMerged T g w hT hn hw hg Hx
 rw [show (if JH g w.s = 0 then [] else QY (ZU T g w) w.least w.s.h) = jm T g w from rfl] at hM
 generalize jm T g w = l at *
 simp [zN, zQ, zr, qx, bx]
 refine zd (by simpa [zr, qx, zN, zQ, bx] using hM _) ?_
 have hlen : qu zp [] 23 (Zf l) = some (.int .i64 l.length) := by
  unfold Zf
  split
  ·rename_i h; subst h; rfl
  ·simp [qu, bx]
 by_cases h0 : l = []
 ·subst h0
  simp [Zf]
  refine zZ (fun (i : Nat) fr H' => fr 7 = .nilslice ∧ fr 14 = .int .i64 0 ∧ fr 15 = .int .i64 0 ∧ H' = H ++ [.row true 3 [zr T], .row true 2 [zN g], .row true 8 [zQ w]]) (fun i => i) 0 ⟨by simp, by simp, by simp, by simp [zN, zQ, zr, qx, bx]⟩ ?_
  rintro i fr H' ⟨g7, g14, g15, rfl⟩
  simp [g14, g15]
  exact zv (rs := [.tmp 6]) (by rfl) (by simp [ze, g7]) (by simp [noF])
 ·simp [Zf, h0, bx]
  refine zZ (LTi T g w l H) (fun i => l.length - i) 0 ⟨by simp, by simp [Zf, h0, bx], by simp, by simp, by omega, [], by simp [zN, zQ, zr, qx, bx], .inl ⟨by simp, by simp⟩⟩ ?_
  rintro i fr H' ⟨g5, g13, g14, g15, hi, J, rfl, hacc⟩
  simp [g14, g15]
  refine zL (fun hc => ?_) (fun hc => ?_)
  ·have hlt : i < l.length := by simpa using hc
   obtain ⟨p, hp⟩ := zD hlt
   have hpE : ∀ h, l[i]'h = p := fun h => (gI.1 hp).2
   have hpb := hb p (List.mem_of_getElem? hp)
   have w2 : IntKind.i64.wrap ((i : Int) + 1) = ((i + 1 : Nat) : Int) := by rw [zj (by omega) (by omega)]; omega
   have hA := fun Hx => WY w p (by omega) (by omega) Hx
   simp only [zQ, bx] at hA
   simp [g5, g13, g15, Zf, h0, bx, hp, hpE, zQ]
   refine zd (hA _) ?_
   simp
   have hnx : (l.take (i + 1)).map (absC w) = (l.take i).map (absC w) ++ [absC w p] := by rw [List.take_add_one, hp, List.map_append]; rfl
   obtain ⟨v', J', hap, hacc', _⟩ := zcT (p := absC w p) (hacc.len (L := [.row true 2 [iv p]])) rfl (by simp; omega)
   refine bind_some (by simpa [zr, qx, zN, zQ, bx] using hap) ?_
   simp [g15, w2]
   exact ⟨i + 1, by show l.length - (i + 1) < l.length - i; omega, by simp [g5], by simp [g13], by simp [g14], by simp, by omega, J', by simp [zN, zQ, zr, qx, bx], by rw [hnx]; simpa using hacc'⟩
  ·have hi2 : i = l.length := by
    have : ¬ i < l.length := by simpa using hc
    omega
   subst hi2
   rw [List.take_length] at hacc
   have h1 : l.map (absC w) ≠ [] := by simpa using h0
   simp
   have hacc2 := accBase hacc
   simp only [List.map_map] at hacc2
   exact ZO (t := 6) (by rfl) (by simp) hacc2 rfl (by rw [← List.map_map]; exact js _ _)
theorem xOnce (T : Tp) (s : Jr) (g : Gd) (w : Cw) (hw : JP T w) (hn : T.n ≤ 1000000) (hf : ∀ e ∈ s.f, sz e ≤ 1000000000 ∧ wf T.n e = true) (hfl : s.f.length ≤ 1000000000) (hg : Jb T.n g) (hgt : sz (zJ .tm g.f) ≤ 1000000) (hgd : ∀ j : Nat, j < s.f.length → sz (zJ (.st j) g.f) ≤ 1000000) (H : AH) :
  zg E 23 [z5 s, zN g, zQ w] H (.ret (.bool (Vp (Z6 w.s.tube (w.s.t, w.s.t + w.s.h) g.f (s.f.map (ev w.s.tube (w.s.t, w.s.t + w.s.h))) s.f.length) != 0))) H := by
 refine zt zn zo Tryz.func23 rfl (by rfl) Tryz.ntmps23 (by kernel_rfl) (by simp) ?_
 have tm := hw.tm
 have va : vB (w.s.t, w.s.t + w.s.h) = true := qA (by omega) (by omega) (by omega)
 have hA := fun Hx => WY w (0, w.s.h) (by omega) (by show _ ≤ (0 : Int) ∧ (0 : Int) ≤ _ ∧ _ ≤ w.s.h ∧ w.s.h ≤ _; omega) Hx
 have ea : absC w (0, w.s.h) = (w.s.t, w.s.t + w.s.h) := by unfold absC; simp
 rw [ea] at hA
 have hL := fun Hx => jLieDerivative s g.f w.s.tube (w.s.t, w.s.t + w.s.h) hw.vt (by rw [hw.nt]; omega) va (by rw [hw.nt]; exact hf) hfl hg.sz (by rw [hw.nt]; exact hg.wf) hgt hgd Hx
 generalize Z6 w.s.tube (w.s.t, w.s.t + w.s.h) g.f (s.f.map (ev w.s.tube (w.s.t, w.s.t + w.s.h))) s.f.length = z at *
 simp only [zQ, bx] at hA
 simp [zN, zQ, bx, z5]
 refine zd (hA _) ?_
 simp
 refine zd (by simpa [z5, bx] using hL _) ?_
 simp
 refine zd (iSign _ _) ?_
 simp
 exact zv (rs := [.tmp 6]) (by rfl) (by simp [ze]) (by simp [noF])
def Zd (T : Tp) (w : Cw) (p : I) (r : List I) : List I := r.foldl (fun s q => jo s (qV T w q)) (qV T w p)
def Zt (w : Cw) (p : I) (r : List I) : I := r.foldl (fun t q => qK t (absC w q)) (absC w p)
def J6 (T : Tp) (w : Cw) : List I → AV
 | [] => .tuple [.nilslice, iv (0, 0), .bool false]
 | p :: r => .tuple [bx (Zd T w p r), iv (Zt w p r), .bool true]
theorem zcy {T : Tp} {w : Cw} {p : I} {r : List I} (h : ∀ q, (qV T w q).length = T.n) : (Zd T w p r).length = T.n := by
 unfold Zd
 have key : ∀ (r : List I) (s : List I), s.length = T.n → (r.foldl (fun s q => jo s (qV T w q)) s).length = T.n := by
  intro r
  induction r with
  | nil => intro s hs; exact hs
  | cons a r ih => intro s hs; exact ih _ (by rw [Q7]; exact hs)
 exact key r _ (h p)
def LLo (T : Tp) (g : Gd) (w : Cw) (p : I) (r : List I) (H : AH) (i : Nat) (fr : zx) (H' : AH) : Prop :=
 fr 3 = .ptr H.length 1 0 0 ∧ fr 5 = .ptr (H.length + 2) 1 0 0 ∧ fr 7 = .ptr (H.length + 3) 1 0 0 ∧ fr 11 = .ptr (H.length + 4) 1 0 0 ∧ fr 10 = bx (Zd T w p (r.take i)) ∧ fr 34 = bx r ∧ fr 35 = .int .i64 r.length ∧ fr 36 = .int .i64 i ∧ i ≤ r.length ∧
 ∃ J, H' = H ++ (.row true 3 [zr T] :: .row true 2 [zN g] :: .row true 8 [zQ w] :: .row true 2 [iv (0, 0)] :: .row true 2 [iv (Zt w p (r.take i))] :: J)
set_option maxHeartbeats 2000000 in
theorem WX (T : Tp) (g : Gd) (w : Cw) (hT : z8 T) (hn : 1 ≤ T.n ∧ T.n ≤ 1000000) (hw : JP T w) (hg : Jb T.n g) (hb : ∀ p ∈ jm T g w, 0 ≤ p.1 ∧ p.1 ≤ p.2 ∧ p.2 ≤ w.s.h) (hl : (jm T g w).length ≤ 1000000000) (H : AH) :
  zg E 18 [zr T, zN g, zQ w] H (.ret (J6 T w (jm T g w))) H := by
 refine zt zn zo Tryz.func18 rfl (by rfl) Tryz.ntmps18 (by kernel_rfl) (by simp) ?_
 have tm := hw.tm
 have hM := fun Hx => xMerged T g w hT hn.2 hw hg Hx
 rw [show (if JH g w.s = 0 then [] else QY (ZU T g w) w.least w.s.h) = jm T g w from rfl] at hM
 have hEl : ∀ q, (qV T w q).length = T.n := fun q => (Wy (T := T) (x := w.s.frm) (b := w.s.pre) (t := w.s.t) (h := w.s.h) (part := q) (order := w.order) hT hw.vf hw.vp (by omega) (by omega)).2
 have hE := fun (q : I) (hq : 0 ≤ q.1 ∧ q.1 ≤ q.2 ∧ q.2 ≤ w.s.h) Hx => xEncl T w q hT hw (qA (x := q.1) (y := q.2) (by omega) (by omega) (by omega)) Hx
 have hA := fun (q : I) (hq : 0 ≤ q.1 ∧ q.1 ≤ q.2 ∧ q.2 ≤ w.s.h) Hx => WY w q (by omega) (by omega) Hx
 generalize jm T g w = l at *
 simp [zN, zQ, zr, qx, bx]
 refine zd (by simpa [zr, qx, zN, zQ, bx] using hM _) ?_
 cases l with
 | nil =>
  simp [Zf]
  rw [show J6 T w [] = .tuple [.nilslice, iv (0, 0), .bool false] from rfl]
  exact ⟨[.nilslice, iv (0, 0), .bool false], [.nilslice, iv (0, 0), .bool false], by simp [show (Tryz.f18).results.toList = [.tmp 6, .cell 7 48, .tmp 8] from rfl, ze], .drop (by simp [zh, noF]), rfl⟩
 | cons p r =>
  have hp := hb p (by simp)
  have hne : ((r.length : Int) + 1 == 0) = false := by rw [beq_eq_false_iff_ne]; omega
  have h1 : (1 : Int) ≤ (r.length : Int) + 1 := by omega
  have e1 := hE p hp
  have a1 := hA p hp
  simp only [zr, qx, zQ, bx] at e1 a1
  simp [Zf, bx, hne]
  refine zB (fun Hx => e1 Hx) ?_
  simp
  refine zB (fun Hx => a1 Hx) ?_
  simp
  refine zm [(11, 13)] (by rfl) (by simp [zl, zk, za.triv, za.wr, za.none, upTo, newAt]) ?_
  simp [h1]
  refine zZ (LLo T g w p r H) (fun i => r.length - i) 0 ⟨by simp, by simp, by simp, by simp, by simp [Zd, bx], by simp [bx, List.take_of_length_le], by simp, by simp, by omega, [], by simp [zN, zQ, zr, qx, bx, Zt]⟩ ?_
  rintro i fr H' ⟨g3, g5, g7, g11, g10, g34, g35, g36, hi, J, rfl⟩
  simp [g35, g36]
  refine zL (fun hc => ?_) (fun hc => ?_)
  ·have hlt : i < r.length := by simpa using hc
   obtain ⟨q, hq⟩ := zD hlt
   have hqE : ∀ h, r[i]'h = q := fun h => (gI.1 hq).2
   have hqb := hb q (by simp [List.mem_of_getElem? hq])
   have w2 : IntKind.i64.wrap ((i : Int) + 1) = ((i + 1 : Nat) : Int) := by rw [zj (by simp at hl; omega) (by simp at hl; omega)]; omega
   have e2 := hE q hqb
   have a2 := hA q hqb
   have hln := zcy (p := p) (r := r.take i) hEl
   have hH := fun Hx => bHull (Zd T w p (r.take i)) (qV T w q) (by rw [hln, hEl]; exact Nat.le_refl _) (by omega) (by omega) Hx
   have hI := fun Hx => zdR (Zt w p (r.take i)) (absC w q) Hx
   have hs1 : Zd T w p (r.take (i + 1)) = jo (Zd T w p (r.take i)) (qV T w q) := by unfold Zd; rw [List.take_add_one, hq, List.foldl_append]; rfl
   have hs2 : Zt w p (r.take (i + 1)) = qK (Zt w p (r.take i)) (absC w q) := by unfold Zt; rw [List.take_add_one, hq, List.foldl_append]; rfl
   simp only [zr, qx, zQ, bx] at e2 a2 hH
   simp [g3, g5, g10, g11, g34, g36, bx, hq, hqE, zQ, zr, qx]
   refine zd (e2 _) ?_
   simp
   refine zd (hH _) ?_
   simp [g5, g11]
   refine zB (fun Hx => a2 Hx) ?_
   simp [g11]
   refine zB (fun Hx => hI Hx) ?_
   simp [g11]
   refine zm [(0, 5)] (by rfl) (by simp [zl, zk, za.triv, za.wr, za.none, upTo, newAt]) ?_
   simp [g36, w2]
   exact ⟨i + 1, by show r.length - (i + 1) < r.length - i; omega, by simp [g3], by simp [g5], by simp [g7], by simp [g11], by simp [hs1, bx], by simp [g34, bx], by simp [g35], by simp, by omega, J ++ [.row true 2 [iv q]], by simp [zN, zQ, zr, qx, bx, hs2]⟩
  ·have hi2 : i = r.length := by
    have : ¬ i < r.length := by simpa using hc
    omega
   subst hi2
   rw [List.take_length] at g10
   simp [g7, g10, g11]
   refine zm [(1, 3)] (by rfl) (by simp [zl, zk, za.triv, za.wr, za.none, upTo, newAt]) ?_
   simp
   rw [show J6 T w (p :: r) = .tuple [bx (Zd T w p r), iv (Zt w p r), .bool true] from rfl]
   exact qm (rs := [.tmp 6, .cell 7 48, .tmp 8]) (vs := [bx (Zd T w p r), iv (Zt w p r), .bool true]) (vs' := [bx (Zd T w p r), iv (Zt w p r), .bool true]) (by rfl) (by simp [ze, g7]) (by simp [bx]; rfl) (by simp [noF, zh, bx, js]) rfl
end Go.Proofs.YtkghjlgpmeibhaaGreatDoor.Arm
