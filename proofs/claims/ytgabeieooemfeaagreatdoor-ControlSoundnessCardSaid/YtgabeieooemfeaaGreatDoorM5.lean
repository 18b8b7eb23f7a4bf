/- Part of a proof: what the functions of the program do to abstract states, step by step. -/
import Derived.Test.YtgabeieooemfeaaGreatDoorM4
import Derived.Test.YtgabeieooemfeaaGreatDoorTie
import Derived.Test.YtgabeieooemfeaaGreatDoorCards
import Derived.ProofKit
import Derived.Stop.Joined
import Derived.SevenTiedAt
set_option linter.unusedVariables false
set_option linter.unusedSimpArgs false
namespace Go.Proofs.YtgabeieooemfeaaGreatDoor.Arm
open Go.Arm Go.Pl

theorem getAt {H J : AH} {b : Nat} : (H ++ J)[H.length + b]? = J[b]? := by rw [List.getElem?_append_right (by omega), Nat.add_sub_cancel_left]
/-! Two families of rows under construction: 0 the variables' rows, 1 the instructions' rows; tag: whose a block is. -/
def rowB (q : List I) : ABlk := .row true 2 (q.map iv)
def NewV (z : AV) (s : Nat) (v : AV) (q : List I) : Prop := (q = [] ∧ v = z) ∨ (s = 0 ∧ ∃ p, q = [p] ∧ v = .slice [iv p] true)
def OwnF (z : AV) (tag : Nat → Nat) (B : Nat) (J : AH) (s c : Nat) (v : AV) (q : List I) : Prop := NewV z s v q ∨ ∃ b, v = .ref (B + b) q.length ∧ J[b]? = some (rowB q) ∧ 5 ≤ b ∧ tag b = c
def Fam (z : AV) (tag : Nat → Nat) (B : Nat) (J : AH) (s : Nat) (cells : List AV) (l : List (List I)) : Prop := cells.length = l.length ∧ ∀ (j : Nat) v q, cells[j]? = some v → l[j]? = some q → OwnF z tag B J s (2 * j + s) v q
def updT (tag : Nat → Nat) (b c : Nat) : Nat → Nat := fun i => if i = b then c else tag i

theorem Fam.ext {z : AV} {tag : Nat → Nat} {B s : Nat} {J J' : AH} {cells : List AV} {l : List (List I)} (h : Fam z tag B J s cells l) (hJ : ∀ b y, 5 ≤ b → J[b]? = some y → J'[b]? = some y) : Fam z tag B J' s cells l :=
  ⟨h.1, fun j v q hv hq => (h.2 j v q hv hq).imp id fun ⟨b, h1, h2, h3, h4⟩ => ⟨b, h1, hJ b _ h3 h2, h3, h4⟩⟩
theorem Fam.app {z : AV} {tag : Nat → Nat} {B s : Nat} {J : AH} (K : AH) {cells : List AV} {l : List (List I)} (h : Fam z tag B J s cells l) : Fam z tag B (J ++ K) s cells l := h.ext fun b y _ hb => get_old hb
theorem Fam.set {z : AV} {tag : Nat → Nat} {B s c : Nat} {J : AH} {y : ABlk} {cells : List AV} {l : List (List I)} (h : Fam z tag B J s cells l) (hc : c < 5) : Fam z tag B (J.set c y) s cells l :=
  h.ext fun b z h5 hb => by rw [List.getElem?_set_ne (by omega)]; exact hb
theorem Fam.otherN {z : AV} {tag : Nat → Nat} {B s c : Nat} {J : AH} {y : ABlk} {cells : List AV} {l : List (List I)} (h : Fam z tag B J s cells l) : Fam z (updT tag J.length c) B (J ++ [y]) s cells l :=
  ⟨h.1, fun j v q hv hq => (h.2 j v q hv hq).imp id fun ⟨b, h1, h2, h3, h4⟩ => ⟨b, h1, get_old h2, h3, by have := (List.getElem?_eq_some_iff.1 h2).1; unfold updT; rw [if_neg (by omega)]; exact h4⟩⟩
theorem Fam.otherR {z : AV} {tag : Nat → Nat} {B s c b : Nat} {J : AH} {y : ABlk} {cells : List AV} {l : List (List I)} (h : Fam z tag B J s cells l) (hb : tag b = c) (hc : ∀ j, 2 * j + s ≠ c) : Fam z tag B (J.set b y) s cells l :=
  ⟨h.1, fun j v q hv hq => (h.2 j v q hv hq).imp id fun ⟨b', h1, h2, h3, h4⟩ => ⟨b', h1, by rw [List.getElem?_set_ne (by intro e; subst e; exact hc j (h4.symm.trans hb))]; exact h2, h3, h4⟩⟩
theorem Fam.pushN {z : AV} {tag : Nat → Nat} {B s j : Nat} {J : AH} {cells : List AV} {l : List (List I)} {q : List I} {p : I} (h : Fam z tag B J s cells l) (h5 : 5 ≤ J.length) :
    Fam z (updT tag J.length (2 * j + s)) B (J ++ [rowB (q ++ [p])]) s (cells.set j (.ref (B + J.length) (q.length + 1))) (l.set j (q ++ [p])) := by
  refine ⟨by simpa using h.1, fun i v r hv hr => ?_⟩
  by_cases hij : j = i
  · subst hij
    have h1 := (List.getElem?_eq_some_iff.1 hv).1
    have h2 := (List.getElem?_eq_some_iff.1 hr).1
    simp only [List.length_set] at h1 h2
    rw [List.getElem?_set_self h1] at hv
    rw [List.getElem?_set_self h2] at hr
    cases hv; cases hr
    exact .inr ⟨J.length, by simp, by simp, h5, by simp [updT]⟩
  · rw [List.getElem?_set_ne hij] at hv hr
    exact (Fam.otherN h).2 i v r hv hr
theorem Fam.pushR {z : AV} {tag : Nat → Nat} {B s j b : Nat} {J : AH} {cells : List AV} {l : List (List I)} {q : List I} {p : I} (h : Fam z tag B J s cells l) (hJ : J[b]? = some (rowB q)) (h5 : 5 ≤ b) (ht : tag b = 2 * j + s) :
    Fam z tag B (J.set b (rowB (q ++ [p]))) s (cells.set j (.ref (B + b) (q.length + 1))) (l.set j (q ++ [p])) := by
  refine ⟨by simpa using h.1, fun i v r hv hr => ?_⟩
  by_cases hij : j = i
  · subst hij
    have h1 := (List.getElem?_eq_some_iff.1 hv).1
    have h2 := (List.getElem?_eq_some_iff.1 hr).1
    simp only [List.length_set] at h1 h2
    rw [List.getElem?_set_self h1] at hv
    rw [List.getElem?_set_self h2] at hr
    cases hv; cases hr
    exact .inr ⟨b, by simp, set_get hJ, h5, ht⟩
  · rw [List.getElem?_set_ne hij] at hv hr
    refine (h.2 i v r hv hr).imp id fun ⟨b', g1, g2, g3, g4⟩ => ⟨b', g1, ?_, g3, g4⟩
    rw [List.getElem?_set_ne (by intro e; subst e; omega)]; exact g2
theorem Fam.rows {z : AV} {tag : Nat → Nat} {L : Nat} {H J : AH} {cells : List AV} {l : List (List I)} (h : Fam z tag H.length J 1 cells l) (hL : (H ++ J)[L]? = some (.row true 1 cells)) (hz : z = .nilslice ∨ z = .slice [] true) : RowsAt (H ++ J) L cells l := by
  refine ⟨hL, h.1, fun j v q hv hq => ?_⟩
  rcases h.2 j v q hv hq with (⟨h0, h1⟩ | ⟨h1, _⟩) | ⟨b, h1, h2, _, _⟩
  · exact .inl ⟨h0, by rw [h1]; exact hz⟩
  · cases h1
  · exact .inr ⟨H.length + b, true, h1, by rw [getAt]; exact h2⟩
theorem Fam.own {z : AV} {tag : Nat → Nat} {H J : AH} {j : Nat} {v : AV} {q : List I} {cells : List AV} {l : List (List I)} (h : Fam z tag H.length J 1 cells l) (hv : cells[j]? = some v) (hq : l[j]? = some q) (hz : z = .nilslice ∨ z = .slice [] true) : Own (H ++ J) v q := by
  rcases h.2 j v q hv hq with (⟨h0, h1⟩ | ⟨h1, _⟩) | ⟨b, h1, h2, _, _⟩
  · exact .inl ⟨h0, by rw [h1]; exact hz⟩
  · cases h1
  · exact .inr ⟨H.length + b, true, h1, by rw [getAt]; exact h2⟩
/-- A row that is no block yet: append makes one. -/
theorem app_new0 {H : AH} {p : I} {f : Bool} {v : AV} (h : v = .nilslice ∨ v = .slice [] true) : appendA tab H 25 v (.slice [iv p] f) = some (.ref H.length 1, H ++ [rowB ([] ++ [p])]) := by
  rcases h with rfl | rfl <;> simp [appendA, els, growA, growNew, okc, rowB]
theorem app_new1 {H : AH} {p a : I} {f : Bool} : appendA tab H 25 (.slice [iv a] true) (.slice [iv p] f) = some (.ref H.length 2, H ++ [rowB ([a] ++ [p])]) := by
  simp [appendA, els, growA, growNew, okc, rowB]
theorem app_rowB {H : AH} {p : I} {q : List I} {b : Nat} {f : Bool} (hn : q.length ≤ 1000000) (hH : H[b]? = some (rowB q)) : appendA tab H 25 (.ref b q.length) (.slice [iv p] f) = some (.ref b (q.length + 1), H.set b (rowB (q ++ [p]))) := by
  have := app_iv (H := H) (p := p) (l := q.map iv) (b := b) (n := q.length) (f := f) (by simp) (by omega) hH
  rw [this]
  simp [rowB]
/-- A call in a region of drawn order that may read whatever there is. -/
theorem callD_rdA {g : FuncId} {captured args : List AV} {next : NxD} {H : AH} {r : AV} (h : ∀ X : AH, Sound E g (args ++ captured) (H ++ X) (.ret r) (H ++ X))
    (kk : next .go r ⟨List.range H.length, [], none, true⟩ H) : callD E (.func (.func g) [] captured) args next H := by
  refine callD_rdc (List.range H.length) (fun c hc => List.mem_range.1 hc) (fun Hx hx => ?_) kk
  have hle : H.length ≤ Hx.length := by
    rcases Nat.lt_or_ge Hx.length H.length with h | h
    · have := hx Hx.length (List.mem_range.2 h)
      rw [List.getElem?_eq_none (Nat.le_refl _)] at this
      rw [List.getElem?_eq_getElem h] at this
      cases this
    · exact h
  have e : Hx = H ++ Hx.drop H.length := by
    apply List.ext_getElem?
    intro c
    by_cases hc : c < H.length
    · rw [List.getElem?_append_left hc]; exact hx c (List.mem_range.2 hc)
    · rw [List.getElem?_append_right (by omega), List.getElem?_drop]
      congr 1; omega
  rw [e]; exact h _
/-- A call in a region of drawn order that may read and change whatever there is. -/
theorem callD_all {g : FuncId} {captured args : List AV} {next : NxD} {H K : AH} {r : AV} (hl : K.length = H.length) (h : ∀ X : AH, Sound E g (args ++ captured) (H ++ X) (.ret r) (K ++ X))
    (kk : next .go r ⟨List.range H.length, allUps K H.length, none, true⟩ K) : callD E (.func (.func g) [] captured) args next H := by
  refine ⟨r, List.range H.length, allUps K H.length, ⟨fun c hc => List.mem_range.1 hc, fun p hp => ?_, fun Hx hx => ?_⟩, ?_⟩
  · unfold allUps at hp
    obtain ⟨i, hi, rfl⟩ := List.mem_map.1 hp
    exact hi
  · have hle : H.length ≤ Hx.length := by
      rcases Nat.lt_or_ge Hx.length H.length with h | h
      · have := hx Hx.length (List.mem_range.2 h)
        rw [List.getElem?_eq_none (Nat.le_refl _)] at this
        rw [List.getElem?_eq_getElem h] at this
        cases this
      · exact h
    have e : Hx = H ++ Hx.drop H.length := by
      apply List.ext_getElem?
      intro c
      by_cases hc : c < H.length
      · rw [List.getElem?_append_left hc]; exact hx c (List.mem_range.2 hc)
      · rw [List.getElem?_append_right (by omega), List.getElem?_drop]
        congr 1; omega
    rw [e, applyUps_all hl]
    exact .inl (by rw [List.nil_append]; exact h _)
  · have := applyUps_all (X := []) hl
    rw [List.append_nil, List.append_nil] at this
    rw [this]
    exact kk
/-- The rows of a list of rows that lie behind each other from place p + 1 on, the outer one in p. -/
def refsN (p : Nat) (l : List (List I)) : List AV := (List.range l.length).map fun j : Nat => .ref (p + 1 + j) (rowN l (j : Int)).length
theorem rowB_noF (m : Nat) (q : List I) : ∀ x ∈ q.map iv, noF m x = true := fun x hx => by obtain ⟨y, _, rfl⟩ := List.mem_map.1 hx; simp [noF, noFs]
theorem fam_fills {z : AV} {tag : Nat → Nat} {H J H' : AH} {c0 p : Nat} {co : List AV} {l : List (List I)} (hF : Fam z tag H.length J 0 co l) (h3 : J[c0]? = some (.row true 1 co)) (hc0 : c0 < 5) (h2 : ∀ q ∈ l, 2 ≤ q.length)
    (hd : ∀ j, j ≤ l.length → H[p + j]? = some .dead) (hlen : H'.length = H.length) (g1 : H'[p]? = some (.row true 1 (refsN p l))) (g2 : ∀ (j : Nat) q, l[j]? = some q → H'[p + 1 + j]? = some (rowB q)) (g3 : ∀ c, c < H.length → (c < p ∨ p + l.length < c) → H'[c]? = H[c]?) :
    ∃ σ, Fills H (H ++ J) H' (.ref (H.length + c0) l.length) (.ref p l.length) σ := by
  have hb : ∀ j : Nat, ∃ b, ∀ q, l[j]? = some q → co[j]? = some (.ref (H.length + b) q.length) ∧ J[b]? = some (rowB q) ∧ 5 ≤ b ∧ tag b = 2 * j := by
    intro j
    cases hq : l[j]? with
    | none => exact ⟨0, fun q h => by cases h⟩
    | some q =>
      have hlt := (List.getElem?_eq_some_iff.1 hq).1
      have hv : co[j]? = some (co[j]'(by rw [hF.1]; exact hlt)) := by simp
      have hm := h2 q (List.mem_of_getElem? hq)
      rcases hF.2 j _ q hv hq with (⟨h1, _⟩ | ⟨_, a, h1, _⟩) | ⟨b, h1, h4, h5, h6⟩
      · rw [h1] at hm; simp at hm
      · rw [h1] at hm; simp at hm
      · refine ⟨b, fun q' hq' => ?_⟩
        cases hq'
        exact ⟨by rw [hv, h1], h4, h5, by simpa using h6⟩
  let β : Nat → Nat := fun j => Classical.choose (hb j)
  have hβ : ∀ j q, l[j]? = some q → co[j]? = some (.ref (H.length + β j) q.length) ∧ J[β j]? = some (rowB q) ∧ 5 ≤ β j ∧ tag (β j) = 2 * j := fun j => Classical.choose_spec (hb j)
  have hβ' : ∀ j, j < l.length → J[β j]? = some (rowB l[j]!) ∧ 5 ≤ β j ∧ tag (β j) = 2 * j := fun j hj => by
    have := hβ j l[j] (by simp [hj])
    exact ⟨by rw [this.2.1]; simp [hj], this.2.2⟩
  refine ⟨fun c => if c = p then some (H.length + c0) else if p < c ∧ c ≤ p + l.length then some (H.length + β (c - p - 1)) else none, ?_⟩
  have hpl : ∀ j, j ≤ l.length → p + j < H.length := fun j hj => (List.getElem?_eq_some_iff.1 (hd j hj)).1
  have hcas : ∀ c k, (if c = p then some (H.length + c0) else if p < c ∧ c ≤ p + l.length then some (H.length + β (c - p - 1)) else none) = some k → (c = p ∧ k = H.length + c0) ∨ ∃ j, j < l.length ∧ c = p + 1 + j ∧ k = H.length + β j := by
    intro c k h
    split at h
    · rename_i e; cases h; exact .inl ⟨e, rfl⟩
    · split at h
      · rename_i e; cases h; exact .inr ⟨c - p - 1, by omega, by omega, rfl⟩
      · cases h
  refine ⟨?_, ?_, hlen, ?_, ?_, ?_⟩
  · intro c k h
    rcases hcas c k h with ⟨rfl, rfl⟩ | ⟨j, hj, rfl, rfl⟩
    · have h0 := hd 0 (by omega)
      exact ⟨hpl 0 (by omega), h0, get_old h0, by omega⟩
    · have h0 := hd (1 + j) (by omega)
      have e : p + (1 + j) = p + 1 + j := by omega
      rw [e] at h0
      exact ⟨(List.getElem?_eq_some_iff.1 h0).1, h0, get_old h0, by omega⟩
  · intro c c' k h h'
    rcases hcas c k h with ⟨rfl, rfl⟩ | ⟨j, hj, rfl, rfl⟩ <;> rcases hcas c' _ h' with ⟨h4, h5⟩ | ⟨j', hj', h4, h5⟩
    · exact h4.symm
    · have := (hβ' j' hj').2.1; omega
    · have := (hβ' j hj).2.1; omega
    · have e1 := (hβ' j hj).2.2
      have e2 := (hβ' j' hj').2.2
      have : β j = β j' := by omega
      rw [this] at e1
      omega
  · intro c hc h
    have hn : c < p ∨ p + l.length < c := by
      split at h
      · cases h
      · split at h
        · cases h
        · omega
    exact ⟨List.getElem?_append_left hc, g3 c hc hn⟩
  · intro c k h
    rcases hcas c k h with ⟨rfl, rfl⟩ | ⟨j, hj, rfl, rfl⟩
    · refine ⟨true, 1, co, refsN c l, by rw [getAt]; exact h3, g1, by simp [refsN, hF.1], fun i x x' hx hx' => ?_⟩
      have hlt : i < l.length := by rw [← hF.1]; exact (List.getElem?_eq_some_iff.1 hx).1
      have hq : l[i]? = some l[i] := by simp
      obtain ⟨e1, _, e3, _⟩ := hβ i _ hq
      rw [hx] at e1; cases e1
      have e2 : (refsN c l)[i]? = some (.ref (c + 1 + i) l[i].length) := by simp [refsN, hlt, rowN]
      rw [hx'] at e2; cases e2
      refine ⟨rfl, fun j a a' ha ha' => ?_⟩
      have hj0 : j = 0 := by have := (List.getElem?_eq_some_iff.1 ha).1; simp [AV.cells] at this; omega
      subst hj0
      simp [AV.cells] at ha ha'
      subst ha; subst ha'
      refine .ref (b := c + 1 + i) (k := H.length + β i) ?_ (by have := hpl (1 + i) (by omega); omega)
      rw [if_neg (by omega), if_pos (by omega), show c + 1 + i - c - 1 = i by omega]
    · have hq : l[j]? = some l[j] := by simp
      obtain ⟨_, e2, _, _⟩ := hβ j _ hq
      refine ⟨true, 2, l[j].map iv, l[j].map iv, by rw [getAt]; exact e2, g2 j _ hq, rfl, fun i x x' hx hx' => ?_⟩
      rw [hx] at hx'; cases hx'
      refine ⟨rfl, fun i a a' ha ha' => ?_⟩
      rw [ha] at ha'; cases ha'
      have := rowB_noF H.length l[j] x (List.mem_of_getElem? hx)
      exact .old (noFs_get (noF_cells.2 this) ha)
  · exact .ref (b := p) (k := H.length + c0) (by rw [if_pos rfl]) (hpl 0 (by omega))
end Go.Proofs.YtgabeieooemfeaaGreatDoor.Arm

namespace Go.Proofs.YtgabeieooemfeaaGreatDoor.Arm
open Go.Arm Go.Pl

def inC (x : List I) (n i : Nat) : List AV := (List.range n).map fun j => if j < i then .slice [iv (atN x j)] true else .nilslice
theorem inC_zero (x : List I) (n : Nat) : inC x n 0 = List.replicate n .nilslice := by
  unfold inC
  apply List.ext_getElem
  · simp
  · intro i h1 h2; simp
theorem inC_len (x : List I) (n i : Nat) : (inC x n i).length = n := by simp [inC]
theorem inC_get {x : List I} {n i j : Nat} (h : j < n) : (inC x n i)[j]? = some (if j < i then .slice [iv (atN x j)] true else .nilslice) := by
  unfold inC
  rw [List.getElem?_map, List.getElem?_range h]; rfl
theorem inC_set {x : List I} {n i : Nat} (h : i < n) : (inC x n i).set i (.slice [iv (atN x i)] true) = inC x n (i + 1) := by
  apply List.ext_getElem?
  intro j
  by_cases hj : j < n
  · by_cases hij : i = j
    · subst hij
      rw [List.getElem?_set_self (by rw [inC_len]; exact h), inC_get h, if_pos (by omega)]
    · rw [List.getElem?_set_ne hij, inC_get hj, inC_get hj]
      by_cases h1 : j < i
      · rw [if_pos h1, if_pos (by omega)]
      · rw [if_neg h1, if_neg (by omega)]
  · rw [List.getElem?_eq_none (by rw [List.length_set, inC_len]; omega), List.getElem?_eq_none (by rw [inC_len]; omega)]
theorem fam_out0 {z : AV} {tag : Nat → Nat} {B : Nat} {J : AH} (x : List I) (n : Nat) : Fam z tag B J 0 (inC x n n) ((List.range n).map fun i => [atN x i]) := by
  refine ⟨by simp [inC], fun j v q hv hq => .inl (.inr ⟨rfl, atN x j, ?_⟩)⟩
  have hj : j < n := by have := (List.getElem?_eq_some_iff.1 hq).1; simpa using this
  rw [inC_get hj, if_pos hj] at hv
  rw [List.getElem?_map, List.getElem?_range hj] at hq
  cases hv; cases hq
  exact ⟨rfl, rfl⟩
theorem fam_l0 {z : AV} {tag : Nat → Nat} {B : Nat} {J : AH} (m : Nat) : Fam z tag B J 1 (List.replicate m z) (List.replicate m []) := by
  refine ⟨by simp, fun j u q hu hq => .inl (.inl ⟨List.eq_of_mem_replicate (List.mem_of_getElem? hq), ?_⟩)⟩
  exact List.eq_of_mem_replicate (List.mem_of_getElem? hu)

/-- The memory of the rounds. -/
structure MemX (z : AV) (T : Tp) (t : I) (B : Nat) (J : AH) (tag : Nat → Nat) (co cl : List AV) (out l : List (List I)) : Prop where
  h0 : J[0]? = some (.row true 9 [algA])
  h1 : J[1]? = some (.row true 3 [tpA T])
  h2 : J[2]? = some (.row true 2 [iv t])
  h3 : J[3]? = some (.row true 1 co)
  h4 : J[4]? = some (.row true 1 cl)
  ho : Fam z tag B J 0 co out
  hl : Fam z tag B J 1 cl l
theorem MemX.len {z : AV} {T : Tp} {t : I} {B : Nat} {J : AH} {tag : Nat → Nat} {co cl : List AV} {out l : List (List I)} (h : MemX z T t B J tag co cl out l) : 5 ≤ J.length := (List.getElem?_eq_some_iff.1 h.h4).1
theorem MemX.app {z : AV} {T : Tp} {t : I} {B : Nat} {J : AH} {tag : Nat → Nat} {co cl : List AV} {out l : List (List I)} (h : MemX z T t B J tag co cl out l) (K : AH) : MemX z T t B (J ++ K) tag co cl out l :=
  ⟨get_old h.h0, get_old h.h1, get_old h.h2, get_old h.h3, get_old h.h4, h.ho.app K, h.hl.app K⟩
/-- Row i of the instructions grows: a new block. -/
theorem MemX.lN {z : AV} {T : Tp} {t : I} {B i : Nat} {J : AH} {tag : Nat → Nat} {co cl : List AV} {out l : List (List I)} {q : List I} {p : I} (h : MemX z T t B J tag co cl out l) :
    MemX z T t B ((J ++ [rowB (q ++ [p])]).set 4 (.row true 1 (cl.set i (.ref (B + J.length) (q.length + 1))))) (updT tag J.length (2 * i + 1)) co (cl.set i (.ref (B + J.length) (q.length + 1))) out (l.set i (q ++ [p])) := by
  have hJ := h.len
  refine ⟨?_, ?_, ?_, ?_, ?_, ?_, ?_⟩
  · rw [List.getElem?_set_ne (by omega)]; exact get_old h.h0
  · rw [List.getElem?_set_ne (by omega)]; exact get_old h.h1
  · rw [List.getElem?_set_ne (by omega)]; exact get_old h.h2
  · rw [List.getElem?_set_ne (by omega)]; exact get_old h.h3
  · rw [List.getElem?_set_self (by simp; omega)]
  · exact h.ho.otherN.set (by omega)
  · exact (h.hl.pushN (by omega)).set (by omega)
/-- Row i of the instructions grows where it lies. -/
theorem MemX.lR {z : AV} {T : Tp} {t : I} {B i b : Nat} {J : AH} {tag : Nat → Nat} {co cl : List AV} {out l : List (List I)} {q : List I} {p : I} (h : MemX z T t B J tag co cl out l) (hb : J[b]? = some (rowB q)) (h5 : 5 ≤ b) (ht : tag b = 2 * i + 1) :
    MemX z T t B ((J.set b (rowB (q ++ [p]))).set 4 (.row true 1 (cl.set i (.ref (B + b) (q.length + 1))))) tag co (cl.set i (.ref (B + b) (q.length + 1))) out (l.set i (q ++ [p])) := by
  have hJ := h.len
  refine ⟨?_, ?_, ?_, ?_, ?_, ?_, ?_⟩
  · rw [List.getElem?_set_ne (by omega), List.getElem?_set_ne (by omega)]; exact h.h0
  · rw [List.getElem?_set_ne (by omega), List.getElem?_set_ne (by omega)]; exact h.h1
  · rw [List.getElem?_set_ne (by omega), List.getElem?_set_ne (by omega)]; exact h.h2
  · rw [List.getElem?_set_ne (by omega), List.getElem?_set_ne (by omega)]; exact h.h3
  · rw [List.getElem?_set_self (by simp; omega)]
  · exact (h.ho.otherR ht (fun j => by omega)).set (by omega)
  · exact (h.hl.pushR hb h5 ht).set (by omega)
/-- Row i of the variables grows: a new block. -/
theorem MemX.oN {z : AV} {T : Tp} {t : I} {B i : Nat} {J : AH} {tag : Nat → Nat} {co cl : List AV} {out l : List (List I)} {q : List I} {p : I} (h : MemX z T t B J tag co cl out l) :
    MemX z T t B ((J ++ [rowB (q ++ [p])]).set 3 (.row true 1 (co.set i (.ref (B + J.length) (q.length + 1))))) (updT tag J.length (2 * i + 0)) (co.set i (.ref (B + J.length) (q.length + 1))) cl (out.set i (q ++ [p])) l := by
  have hJ := h.len
  refine ⟨?_, ?_, ?_, ?_, ?_, ?_, ?_⟩
  · rw [List.getElem?_set_ne (by omega)]; exact get_old h.h0
  · rw [List.getElem?_set_ne (by omega)]; exact get_old h.h1
  · rw [List.getElem?_set_ne (by omega)]; exact get_old h.h2
  · rw [List.getElem?_set_self (by simp; omega)]
  · rw [List.getElem?_set_ne (by omega)]; exact get_old h.h4
  · exact (h.ho.pushN (by omega)).set (by omega)
  · exact h.hl.otherN.set (by omega)
/-- Row i of the variables grows where it lies. -/
theorem MemX.oR {z : AV} {T : Tp} {t : I} {B i b : Nat} {J : AH} {tag : Nat → Nat} {co cl : List AV} {out l : List (List I)} {q : List I} {p : I} (h : MemX z T t B J tag co cl out l) (hb : J[b]? = some (rowB q)) (h5 : 5 ≤ b) (ht : tag b = 2 * i + 0) :
    MemX z T t B ((J.set b (rowB (q ++ [p]))).set 3 (.row true 1 (co.set i (.ref (B + b) (q.length + 1))))) tag (co.set i (.ref (B + b) (q.length + 1))) cl (out.set i (q ++ [p])) l := by
  have hJ := h.len
  refine ⟨?_, ?_, ?_, ?_, ?_, ?_, ?_⟩
  · rw [List.getElem?_set_ne (by omega), List.getElem?_set_ne (by omega)]; exact h.h0
  · rw [List.getElem?_set_ne (by omega), List.getElem?_set_ne (by omega)]; exact h.h1
  · rw [List.getElem?_set_ne (by omega), List.getElem?_set_ne (by omega)]; exact h.h2
  · rw [List.getElem?_set_self (by simp; omega)]
  · rw [List.getElem?_set_ne (by omega), List.getElem?_set_ne (by omega)]; exact h.h4
  · exact (h.ho.pushR hb h5 ht).set (by omega)
  · exact (h.hl.otherR ht (fun j => by omega)).set (by omega)
end Go.Proofs.YtgabeieooemfeaaGreatDoor.Arm

namespace Go.Proofs.YtgabeieooemfeaaGreatDoor.Arm
open Go.Arm Go.Pl

def fK (H : AH) (n m order k : Nat) (fr : AFr) : Prop := fr 5 = .ptr H.length 1 0 0 ∧ fr 6 = .ptr (H.length + 1) 1 0 0 ∧ fr 8 = .ptr (H.length + 2) 1 0 0 ∧ fr 11 = .ref (H.length + 3) n ∧ fr 12 = .ref (H.length + 4) m ∧ fr 40 = .int .i64 order ∧ fr 41 = .int .i64 k ∧ k ≤ order
def SxK (T : Tp) (x : List I) (t : I) (order : Nat) (H : AH) (k : Nat) (fr : AFr) (H' : AH) : Prop :=
  fK H T.n T.L.length order k fr ∧ ∃ J tag co cl, H' = H ++ J ∧ MemX .nilslice T t H.length J tag co cl (expS T x t k).2 (expS T x t k).1
def SxL (T : Tp) (x : List I) (t : I) (order : Nat) (H : AH) (k i : Nat) (fr : AFr) (H' : AH) : Prop :=
  fK H T.n T.L.length order k fr ∧ fr 14 = .int .i64 k ∧ fr 45 = .slice (T.L.map insA) false ∧ fr 46 = .int .i64 T.L.length ∧ fr 47 = .int .i64 i ∧ i ≤ T.L.length ∧
  ∃ J tag co cl, H' = H ++ J ∧ MemX .nilslice T t H.length J tag co cl (expS T x t k).2 (stepL T.L (expS T x t k).2 t k (expS T x t k).1 i)
def SxO (T : Tp) (x : List I) (t : I) (order : Nat) (H : AH) (k i : Nat) (fr : AFr) (H' : AH) : Prop :=
  fK H T.n T.L.length order k fr ∧ fr 14 = .int .i64 k ∧ fr 92 = outA T.out ∧ fr 93 = .int .i64 T.out.length ∧ fr 94 = .int .i64 i ∧ i ≤ T.out.length ∧
  ∃ J tag co cl, H' = H ++ J ∧ MemX .nilslice T t H.length J tag co cl (stepO T (expS T x t (k + 1)).1 k (expS T x t k).2 i) (expS T x t (k + 1)).1
def SxI (T : Tp) (x : List I) (t : I) (order : Nat) (H : AH) (i : Nat) (fr : AFr) (H' : AH) : Prop :=
  fr 2 = bx x ∧ fr 4 = .int .i64 order ∧ fr 5 = .ptr H.length 1 0 0 ∧ fr 6 = .ptr (H.length + 1) 1 0 0 ∧ fr 8 = .ptr (H.length + 2) 1 0 0 ∧ fr 11 = .ref (H.length + 3) T.n ∧ fr 12 = .ref (H.length + 4) T.L.length ∧ fr 27 = .int .i64 T.n ∧ fr 28 = .int .i64 i ∧ i ≤ T.n ∧
  H' = H ++ [.row true 9 [algA], .row true 3 [tpA T], .row true 2 [iv t], .row true 1 (inC x T.n i), .row true 1 (List.replicate T.L.length .nilslice)]
set_option maxHeartbeats 4000000 in
theorem sExpand (T : Tp) (x : List I) (t : I) (order : Nat) (hT : tpOk T) (hx : allV x) (hxn : x.length = T.n) (ht : vB t = true) (ho : 1 ≤ order ∧ order ≤ 1000) (H H' : AH) (p : Nat)
    (hd : ∀ j, j ≤ T.n → H[p + j]? = some .dead) (hlen : H'.length = H.length) (g1 : H'[p]? = some (.row true 1 (refsN p (coefS T x t order)))) (g2 : ∀ (j : Nat) q, (coefS T x t order)[j]? = some q → H'[p + 1 + j]? = some (rowB q)) (g3 : ∀ c, c < H.length → (c < p ∨ p + T.n < c) → H'[c]? = H[c]?) :
    Sound E 118 [algA, tpA T, bx x, iv t, .int .i64 order] H (.ret (.ref p T.n)) H' := by
  refine soundX_of_awp tabOk mixed Tryz.func118 rfl (by rfl) Tryz.ntmps118 (by kernel_rfl) (by simp) ?_
  have hsm := hT.small
  simp [tpA, algA, fnA]
  refine bind_if (by omega) ?_
  simp
  refine bind_if (by omega) ?_
  simp
  refine endD [] (by rfl) (by simp [okW, note, Eff.triv, Eff.wr, Eff.none, upTo, newAt]) ?_
  simp
  refine loop_count (SxI T x t order H) (fun i => T.n - i) 0 ⟨by simp, by simp, by simp, by simp, by simp, by simp [bx], by simp, by simp, by simp, by omega, by rw [inC_zero]; simp [algA, tpA, fnA]⟩ ?_
  rintro i fr H1 ⟨f2, f4, f5, f6, f8, f11, f12, f27, f28, hi, rfl⟩
  simp [f27, f28]
  refine branch (fun hc => ?_) (fun hc => ?_)
  · have hlt : i < T.n := by simpa using hc
    obtain ⟨q, hq⟩ := get_lt (l := x) (i := i) (by omega)
    have hqE : ∀ h, x[i]'h = q := fun h => (List.getElem?_eq_some_iff.1 hq).2
    have hqa : atN x i = q := by simp [atN, hq]
    have w2 : IntKind.i64.wrap ((i : Int) + 1) = ((i + 1 : Nat) : Int) := by rw [wrap64 (by omega) (by omega)]; omega
    have hs := inC_set (x := x) hlt
    have hl := inC_len x T.n i
    have hg := inC_get (x := x) (i := i) hlt
    rw [if_neg (by omega)] at hg
    have hgE : ∀ h, (inC x T.n i)[i]'h = .nilslice := fun h => (List.getElem?_eq_some_iff.1 hg).2
    rw [hqa] at hs
    simp only [iv_eq] at hs
    simp [f2, f11, f12, f28, bx, hq, hqE, hl, hlt, hg, hgE, hs, w2]
    exact ⟨i + 1, by show T.n - (i + 1) < T.n - i; omega, by simp [f2, bx], by simp [f4], by simp [f5], by simp [f6], by simp [f8], by simp [f11], by simp [f12], by simp [f27], by simp, by omega, by simp⟩
  · have hin : i = T.n := by have : ¬ i < T.n := by simpa using hc
                             omega
    subst hin
    simp [f4]
    refine loop_count (SxK T x t order H) (fun k => order - k) 0 ⟨⟨by simp [f5], by simp [f6], by simp [f8], by simp [f11], by simp [f12], by simp, by simp, by omega⟩, _, fun _ => 0, _, _, rfl, ⟨rfl, rfl, rfl, rfl, rfl, fam_out0 x T.n, fam_l0 _⟩⟩ ?_
    clear f2 f4 f5 f6 f8 f11 f12 f27 f28
    rintro k fr H1 ⟨⟨f5, f6, f8, f11, f12, f40, f41, hk⟩, J, tag, co, cl, rfl, hM⟩
    have hJl := hM.len
    have h1 := hM.h1
    simp only [tpA] at h1
    simp [f40, f41]
    refine branch (fun hc => ?_) (fun hc => ?_)
    · have hklt : k < order := by simpa using hc
      simp [f6, h1]
      have wk : IntKind.i64.wrap ((k : Int) + 1) = ((k + 1 : Nat) : Int) := by rw [wrap64 (by omega) (by omega)]; omega
      refine loop_count (SxL T x t order H k) (fun i => T.L.length - i) 0 ⟨⟨by simp [f5], by simp [f6], by simp [f8], by simp [f11], by simp [f12], by simp [f40], by simp [f41], by omega⟩, by simp [f41], by simp, by simp, by simp, by omega, J, tag, co, cl, rfl, hM⟩ ?_
      clear f5 f6 f8 f11 f12 f40 f41 hM h1 hJl
      clear J tag co cl
      rintro i fr H1 ⟨⟨f5, f6, f8, f11, f12, f40, f41, _⟩, f14, f45, f46, f47, hi, J, tag, co, cl, rfl, hM⟩
      have hJl := hM.len
      simp [f46, f47]
      obtain ⟨e1, e2⟩ := expS_ok hT hx ht k
      have hrl := stepL_ok hT ht e1 e2.val i hi
      refine branch (fun hc => ?_) (fun hc => ?_)
      · have hlt : i < T.L.length := by simpa using hc
        obtain ⟨y, hy⟩ := get_lt hlt
        have hyE : ∀ h, T.L[i]'h = y := fun h => (List.getElem?_eq_some_iff.1 hy).2
        have hins := hT.ins i y hy
        have w2 : IntKind.i64.wrap ((i : Int) + 1) = ((i + 1 : Nat) : Int) := by rw [wrap64 (by omega) (by omega)]; omega
        have hnext := stepL_succ (out := (expS T x t k).2) (l := (expS T x t k).1) (t := t) (k := k) hy
        have hfin : ∀ (J' : AH) (tag' : Nat → Nat) (co' cl' : List AV), MemX .nilslice T t H.length J' tag' co' cl' (expS T x t k).2 (stepL T.L (expS T x t k).2 t k (expS T x t k).1 (i + 1)) → ∀ fr' : AFr, fK H T.n T.L.length order k fr' → fr' 14 = .int .i64 k → fr' 45 = .slice (T.L.map insA) false → fr' 46 = .int .i64 T.L.length → fr' 47 = .int .i64 (i + 1 : Nat) → Again (SxL T x t order H k) (fun i => T.L.length - i) i fr' (H ++ J') :=
          fun J' tag' co' cl' hM' fr' g1 g2 g3 g4 g5 => ⟨i + 1, by show T.L.length - (i + 1) < T.L.length - i; omega, g1, g2, g3, g4, g5, by omega, J', tag', co', cl', rfl, hM'⟩
        generalize hL : stepL T.L (expS T x t k).2 t k (expS T x t k).1 i = l at *
        generalize hO : (expS T x t k).2 = out at *
        rw [hnext] at hfin
        have hil : i < l.length := by rw [hrl.len]; exact hlt
        obtain ⟨q, hq⟩ := get_lt hil
        have hqr : rowN l (i : Int) = q := rowN_get hq
        have hqk : q.length = k := by have := hrl.row i hlt; rw [hqr, if_neg (by omega)] at this; exact this
        obtain ⟨v, hv⟩ := get_lt (l := cl) (i := i) (by rw [hM.hl.1]; exact hil)
        have hvE : ∀ h, cl[i]'h = v := fun h => (List.getElem?_eq_some_iff.1 hv).2
        have hcll : cl.length = T.L.length := by rw [hM.hl.1, hrl.len]
        obtain ⟨o, a, b, c⟩ := y
        simp [f45, f47, hy, hyE, insA]
        have hM2 := hM.app [.row true 5 [.agg [.int .i64 o, .int .i64 a, .int .i64 b, .int .i64 c.1, .int .i64 c.2]]]
        have h16 : (J ++ [ABlk.row true 5 [.agg [.int .i64 o, .int .i64 a, .int .i64 b, .int .i64 c.1, .int .i64 c.2]]])[J.length]? = some (.row true 5 [.agg [.int .i64 o, .int .i64 a, .int .i64 b, .int .i64 c.1, .int .i64 c.2]]) := by simp
        generalize hJ2 : J ++ [ABlk.row true 5 [.agg [.int .i64 o, .int .i64 a, .int .i64 b, .int .i64 c.1, .int .i64 c.2]]] = J2 at *
        have hJ2l := hM2.len
        have hJ2n : J2 ≠ [] := by rintro rfl; simp at hJ2l
        have hJ2J : J2.length = J.length + 1 := by rw [← hJ2]; simp
        have m2 := hM2.h2
        have m3 := hM2.h3
        have m4 := hM2.h4
        simp only [iv_eq] at m2
        refine branch (fun ho2 => ?_) (fun ho2 => ?_)
        · have ho2 : o = 2 := by simpa using ho2
          subst ho2
          have hins : 0 ≤ a ∧ a < T.n := by rcases hins with h | h | h | h | h <;> simp only at h <;> omega
          obtain ⟨ka, rfl⟩ : ∃ ka : Nat, a = ka := ⟨a.toNat, by omega⟩
          obtain ⟨r, hr⟩ := get_lt (l := out) (i := ka) (by rw [e2.len]; omega)
          have hrr : rowN out (ka : Int) = r := rowN_get hr
          have hrk : r.length = k + 1 := by have := e2.row ka (by omega); rw [hrr, if_neg (by omega)] at this; exact this
          obtain ⟨u, hu⟩ := get_lt (l := co) (i := ka) (by rw [hM.ho.1, e2.len]; omega)
          have huE : ∀ h, co[ka]'h = u := fun h => (List.getElem?_eq_some_iff.1 hu).2
          have hcol : co.length = T.n := by rw [hM.ho.1, e2.len]
          obtain ⟨z, hz⟩ := get_lt (l := r) (i := k) (by omega)
          have hzE : ∀ h, r[k]'h = z := fun h => (List.getElem?_eq_some_iff.1 hz).2
          have hcv : coefV ⟨2, ka, b, c⟩ out l t k i = z := by simp [coefV, hrr, atN, hz]
          rw [hcv, hqr] at hfin
          have hka : ka < T.n := by omega
          have hkk : (k : Int) < (k : Int) + 1 := by omega
          have hkn : k < k + 1 := by omega
          have hoF := hM2.ho.2 ka u r hu hr
          have hlF := hM2.hl.2 i v q hv hq
          rcases hoF with (⟨h0, _⟩ | ⟨_, z', h0, hu'⟩) | ⟨bo, hu', g2o, g5o, gto⟩
          · rw [h0] at hrk; simp at hrk
          · have hk0 : k = 0 := by rw [h0] at hrk; simpa using hrk.symm
            subst hk0
            have hzz : z' = z := by rw [h0] at hz; simpa using hz
            subst hzz
            subst hu'
            rcases hlF with (hn | ⟨hn, _⟩) | ⟨bl, rfl, g2l, g5l, gtl⟩
            · obtain ⟨h0q, rfl⟩ := hn
              subst h0q
              simp [f11, f12, f14, h16, m3, m4, hv, hvE, hu, huE, hcll, hcol, hlt, hka]
              refine bind_some (app_new0 (.inl rfl)) ?_
              simp [f11, f12, f14, hcll, hlt, hv, hvE, m4, get_old m4]
              refine endD [(4, 17), (5, 17), (16, 17)] (by rfl) (by simp [okW, note, Eff.triv, Eff.wr, Eff.none, upTo, newAt]; omega) ?_
              simp [f47, w2]
              exact hfin _ _ _ _ (hM2.lN (i := i) (q := []) (p := z')) _ ⟨by simp [f5], by simp [f6], by simp [f8], by simp [f11], by simp [f12], by simp [f40], by simp [f41], by omega⟩ (by simp [f14]) (by simp [f45]) (by simp [f46]) (by simp)
            · cases hn
            · simp [f11, f12, f14, h16, m3, m4, hv, hvE, hu, huE, hcll, hcol, hlt, hka]
              refine bind_some (app_rowB (by omega) (by simpa using g2l)) ?_
              have m4b : (J2.set bl (rowB (q ++ [z'])))[4]? = some (.row true 1 cl) := by rw [List.getElem?_set_ne (by omega)]; exact m4
              have hne : bl ≠ J.length := by rintro rfl; rw [h16] at g2l; simp [rowB] at g2l
              simp [f11, f12, f14, hcll, hlt, hv, hvE, m4b]
              refine endD [(4, 17), (5, 17), (16, 17)] (by rfl) (by simp [okW, note, Eff.triv, Eff.wr, Eff.none, upTo, newAt]; omega) ?_
              simp [f47, w2]
              exact hfin _ _ _ _ (hM2.lR (i := i) (q := q) (p := z') g2l g5l gtl) _ ⟨by simp [f5], by simp [f6], by simp [f8], by simp [f11], by simp [f12], by simp [f40], by simp [f41], by omega⟩ (by simp [f14]) (by simp [f45]) (by simp [f46]) (by simp)
          · subst hu'
            have g2o' := g2o
            have hbo := (List.getElem?_eq_some_iff.1 g2o).1
            simp only [rowB] at g2o'
            rcases hlF with (hn | ⟨hn, _⟩) | ⟨bl, rfl, g2l, g5l, gtl⟩
            · obtain ⟨h0q, rfl⟩ := hn
              subst h0q
              simp [f11, f12, f14, h16, m3, m4, hv, hvE, hu, huE, hcll, hcol, hlt, hka, g2o', hz, hzE, hrk, hkk, hkn]
              refine bind_some (app_new0 (.inl rfl)) ?_
              simp [f11, f12, f14, hcll, hlt, hv, hvE, m4, get_old m4]
              refine endD [(4, 17), (5, 17), (16, 17)] (by rfl) (by simp [okW, note, Eff.triv, Eff.wr, Eff.none, upTo, newAt]; omega) ?_
              simp [f47, w2]
              exact hfin _ _ _ _ (hM2.lN (i := i) (q := []) (p := z)) _ ⟨by simp [f5], by simp [f6], by simp [f8], by simp [f11], by simp [f12], by simp [f40], by simp [f41], by omega⟩ (by simp [f14]) (by simp [f45]) (by simp [f46]) (by simp)
            · cases hn
            · simp [f11, f12, f14, h16, m3, m4, hv, hvE, hu, huE, hcll, hcol, hlt, hka, g2o', hz, hzE, hrk, hkk, hkn]
              refine bind_some (app_rowB (by omega) (by simpa using g2l)) ?_
              have m4b : (J2.set bl (rowB (q ++ [z])))[4]? = some (.row true 1 cl) := by rw [List.getElem?_set_ne (by omega)]; exact m4
              have hne : bl ≠ J.length := by rintro rfl; rw [h16] at g2l; simp [rowB] at g2l
              have hne2 : bo ≠ bl := by rintro rfl; omega
              simp [f11, f12, f14, hcll, hlt, hv, hvE, m4b]
              refine endD [(4, 17), (5, 17), (16, 17)] (by rfl) (by simp [okW, note, Eff.triv, Eff.wr, Eff.none, upTo, newAt]; omega) ?_
              simp [f47, w2]
              exact hfin _ _ _ _ (hM2.lR (i := i) (q := q) (p := z) g2l g5l gtl) _ ⟨by simp [f5], by simp [f6], by simp [f8], by simp [f11], by simp [f12], by simp [f40], by simp [f41], by omega⟩ (by simp [f14]) (by simp [f45]) (by simp [f46]) (by simp)
        · have ho2 : o ≠ 2 := by simpa using ho2
          have hnx : nextOk ⟨o, a, b, c⟩ l q.length := by
            have hrow : ∀ z : Int, 0 ≤ z → z < i → (rowN l z).length = q.length + 1 := by
              intro z h1 h2
              obtain ⟨kz, rfl⟩ : ∃ kz : Nat, z = kz := ⟨z.toNat, by omega⟩
              have := hrl.row kz (by omega)
              rw [if_pos (by omega)] at this
              rw [this, hqk]
            rcases hins with h | h | h | h | h <;> simp only at h
            · exact .inl h
            · exact absurd h.1 ho2
            · exact .inr (.inl h)
            · exact .inr (.inr (.inl ⟨h.1, h.2.1, h.2.2.1, hrow _ h.2.2.1 h.2.2.2.1⟩))
            · exact .inr (.inr (.inr ⟨h.1, h.2.1, h.2.2.1, h.2.2.2.2.1, hrow _ h.2.2.1 h.2.2.2.1, hrow _ h.2.2.2.2.1 h.2.2.2.2.2⟩))
          have hcv : coefV ⟨o, a, b, c⟩ out l t k i = nextC ⟨o, a, b, c⟩ l q t := by simp [coefV, ho2, hqr]
          rw [hcv, hqr] at hfin
          have hlF := hM2.hl.2 i v q hv hq
          have hqv : allV q := hrl.val q (List.mem_of_getElem? hq)
          have hS := fun X : AH => sNext ⟨o, a, b, c⟩ (H.length + 4) cl l q v t hnx hrl.val hqv ht (by omega) (H ++ (J2 ++ X)) ((hM2.app X).hl.rows (by rw [getAt]; exact get_old m4) (.inl rfl)) ((hM2.app X).hl.own hv hq (.inl rfl))
          rw [hrl.len] at hS
          have m0 := hM2.h0
          simp only [algA, fnA] at m0
          rcases hlF with (hn | ⟨hn, _⟩) | ⟨bl, rfl, g2l, g5l, gtl⟩
          · obtain ⟨h0q, rfl⟩ := hn
            subst h0q
            simp [f5, f8, f11, f12, f14, h16, m0, m2, m4, hv, hvE, hcll, hlt]
            refine callD_rdA (fun X => by simpa [algA, fnA, insA] using hS X) ?_
            generalize nextC ⟨o, a, b, c⟩ l [] t = z at *
            simp
            refine bind_some (app_new0 (.inl rfl)) ?_
            simp [f11, f12, f14, hcll, hlt, hv, hvE, m4, get_old m4]
            refine endD [(4, 18), (5, 18), (11, 18), (12, 18), (14, 18), (17, 18), (14, 16)] (by rfl) (by simp [okW, note, Eff.triv, Eff.wr, Eff.none, upTo, newAt, hJ2n]; omega) ?_
            simp [f47, w2]
            exact hfin _ _ _ _ (hM2.lN (i := i) (q := []) (p := z)) _ ⟨by simp [f5], by simp [f6], by simp [f8], by simp [f11], by simp [f12], by simp [f40], by simp [f41], by omega⟩ (by simp [f14]) (by simp [f45]) (by simp [f46]) (by simp)
          · cases hn
          · simp [f5, f8, f11, f12, f14, h16, m0, m2, m4, hv, hvE, hcll, hlt]
            refine callD_rdA (fun X => by simpa [algA, fnA, insA] using hS X) ?_
            generalize nextC ⟨o, a, b, c⟩ l q t = z at *
            simp
            refine bind_some (app_rowB (by omega) (by simpa using g2l)) ?_
            have m4b : (J2.set bl (rowB (q ++ [z])))[4]? = some (.row true 1 cl) := by rw [List.getElem?_set_ne (by omega)]; exact m4
            have hne : bl ≠ J.length := by rintro rfl; rw [h16] at g2l; simp [rowB] at g2l
            simp [f11, f12, f14, hcll, hlt, hv, hvE, m4b]
            refine endD [(4, 18), (5, 18), (11, 18), (12, 18), (14, 18), (17, 18), (14, 16)] (by rfl) (by simp [okW, note, Eff.triv, Eff.wr, Eff.none, upTo, newAt, hJ2n]; omega) ?_
            simp [f47, w2]
            exact hfin _ _ _ _ (hM2.lR (i := i) (q := q) (p := z) g2l g5l gtl) _ ⟨by simp [f5], by simp [f6], by simp [f8], by simp [f11], by simp [f12], by simp [f40], by simp [f41], by omega⟩ (by simp [f14]) (by simp [f45]) (by simp [f46]) (by simp)
      · have hin : i = T.L.length := by have : ¬ i < T.L.length := by simpa using hc
                                        omega
        subst hin
        have h1 := hM.h1
        simp only [tpA] at h1
        simp [f6, h1, outA]
        refine loop_count (SxO T x t order H k) (fun i => T.out.length - i) 0 ⟨⟨by simp [f5], by simp [f6], by simp [f8], by simp [f11], by simp [f12], by simp [f40], by simp [f41], by omega⟩, by simp [f14], by simp [outA], by simp, by simp, by omega, J, tag, co, cl, rfl, hM⟩ ?_
        clear f5 f6 f8 f11 f12 f40 f41 f14 f45 f46 f47 hM h1 hJl hrl
        clear J tag co cl
        rintro i fr H1 ⟨⟨f5, f6, f8, f11, f12, f40, f41, _⟩, f14, f92, f93, f94, hi, J, tag, co, cl, rfl, hM⟩
        have hJl := hM.len
        simp [f93, f94]
        obtain ⟨e3, e4⟩ := expS_ok hT hx ht (k + 1)
        have hro := stepO_ok hT e3.val e2 i (by rw [← hT.len]; exact hi)
        refine branch (fun hc => ?_) (fun hc => ?_)
        · have hlt : i < T.out.length := by simpa using hc
          obtain ⟨y, hy⟩ := get_lt hlt
          have hyE : ∀ h, T.out[i]'h = y := fun h => (List.getElem?_eq_some_iff.1 hy).2
          have hyl := hT.out y (List.mem_of_getElem? hy)
          have hltn : i < T.n := by rw [← hT.len]; exact hlt
          have w2 : IntKind.i64.wrap ((i : Int) + 1) = ((i + 1 : Nat) : Int) := by rw [wrap64 (by omega) (by omega)]; omega
          have hnext := stepO_succ (l := (expS T x t (k + 1)).1) (out := (expS T x t k).2) (k := k) hy
          have hfin : ∀ (J' : AH) (tag' : Nat → Nat) (co' cl' : List AV), MemX .nilslice T t H.length J' tag' co' cl' (stepO T (expS T x t (k + 1)).1 k (expS T x t k).2 (i + 1)) (expS T x t (k + 1)).1 → ∀ fr' : AFr, fK H T.n T.L.length order k fr' → fr' 14 = .int .i64 k → fr' 92 = outA T.out → fr' 93 = .int .i64 T.out.length → fr' 94 = .int .i64 (i + 1 : Nat) → Again (SxO T x t order H k) (fun i => T.out.length - i) i fr' (H ++ J') :=
            fun J' tag' co' cl' hM' fr' g1 g2 g3 g4 g5 => ⟨i + 1, by show T.out.length - (i + 1) < T.out.length - i; omega, g1, g2, g3, g4, g5, by omega, J', tag', co', cl', rfl, hM'⟩
          generalize hL : (expS T x t (k + 1)).1 = l at *
          generalize hO : stepO T l k (expS T x t k).2 i = out at *
          rw [hnext] at hfin
          have hil : i < out.length := by rw [hro.len]; exact hltn
          obtain ⟨q, hq⟩ := get_lt hil
          have hqr : rowN out (i : Int) = q := rowN_get hq
          have hqk : q.length = k + 1 := by have := hro.row i hltn; rw [hqr, if_neg (by omega)] at this; exact this
          obtain ⟨v, hv⟩ := get_lt (l := co) (i := i) (by rw [hM.ho.1]; exact hil)
          have hvE : ∀ h, co[i]'h = v := fun h => (List.getElem?_eq_some_iff.1 hv).2
          have hcol : co.length = T.n := by rw [hM.ho.1, hro.len]
          obtain ⟨r, hr⟩ := get_lt (l := l) (i := y) (by rw [e3.len]; exact hyl)
          have hrr : rowN l (y : Int) = r := rowN_get hr
          have hrk : r.length = k + 1 := by have := e3.row y hyl; rw [hrr, if_neg (by omega)] at this; exact this
          obtain ⟨u, hu⟩ := get_lt (l := cl) (i := y) (by rw [hM.hl.1, e3.len]; exact hyl)
          have huE : ∀ h, cl[y]'h = u := fun h => (List.getElem?_eq_some_iff.1 hu).2
          have hcll : cl.length = T.L.length := by rw [hM.hl.1, e3.len]
          obtain ⟨z, hz⟩ := get_lt (l := r) (i := k) (by omega)
          have hzE : ∀ h, r[k]'h = z := fun h => (List.getElem?_eq_some_iff.1 hz).2
          have hzv : vB z = true := e3.val r (List.mem_of_getElem? hr) z (List.mem_of_getElem? hz)
          have hkk : (k : Int) < (k : Int) + 1 := by omega
          have hkn : k < k + 1 := by omega
          have hJn : J ≠ [] := by rintro rfl; simp at hJl
          rw [hrr, hqr, show atN r k = z by simp [atN, hz]] at hfin
          have hoF := hM.ho.2 i v q hv hq
          have hlF := hM.hl.2 y u r hu hr
          have m0 := hM.h0
          have m3 := hM.h3
          have m4 := hM.h4
          simp only [algA, fnA] at m0
          rcases hlF with (⟨h0, _⟩ | ⟨h0, _⟩) | ⟨bl, hu', g2l, g5l, gtl⟩
          · rw [h0] at hrk; simp at hrk
          · cases h0
          subst hu'
          have g2l' := g2l
          have hbl := (List.getElem?_eq_some_iff.1 g2l).1
          simp only [rowB] at g2l'
          rcases hoF with (⟨h0, _⟩ | ⟨_, a, h0, hv'⟩) | ⟨bo, hv', g2o, g5o, gto⟩
          · rw [h0] at hqk; simp at hqk
          · subst hv'
            subst h0
            simp [f92, f93, f94, f11, f12, f14, f5, hy, hyE, outA, m0, m3, m4, hv, hvE, hu, huE, hcll, hcol, hltn, hyl, g2l', hz, hzE, hrk, hkk, hkn, wk]
            refine callD_ret0 (fun Hx => by simpa using sDivide z ((k + 1 : Nat) : Int) hzv (by omega) Hx) ?_
            generalize mulr z 1 (k + 1) = d at *
            simp
            refine bind_some app_new1 ?_
            simp [f11, f12, f14, hcol, hltn, hv, hvE, m3, get_old m3]
            refine endD [(4, 21), (5, 21), (20, 21)] (by rfl) (by simp [okW, note, Eff.triv, Eff.wr, Eff.none, upTo, newAt, hJn]; omega) ?_
            simp [f94, w2]
            exact hfin _ _ _ _ (hM.oN (i := i) (q := [a]) (p := d)) _ ⟨by simp [f5], by simp [f6], by simp [f8], by simp [f11], by simp [f12], by simp [f40], by simp [f41], by omega⟩ (by simp [f14]) (by simp [f92]) (by simp [f93]) (by simp)
          · subst hv'
            have hne2 : bo ≠ bl := by rintro rfl; omega
            simp [f92, f93, f94, f11, f12, f14, f5, hy, hyE, outA, m0, m3, m4, hv, hvE, hu, huE, hcll, hcol, hltn, hyl, g2l', hz, hzE, hrk, hkk, hkn, wk]
            refine callD_ret0 (fun Hx => by simpa using sDivide z ((k + 1 : Nat) : Int) hzv (by omega) Hx) ?_
            generalize mulr z 1 (k + 1) = d at *
            simp
            refine bind_some (app_rowB (by omega) (by simpa using g2o)) ?_
            have m3b : (J.set bo (rowB (q ++ [d])))[3]? = some (.row true 1 co) := by rw [List.getElem?_set_ne (by omega)]; exact m3
            simp [f11, f12, f14, hcol, hltn, hv, hvE, m3b]
            refine endD [(4, 21), (5, 21), (20, 21)] (by rfl) (by simp [okW, note, Eff.triv, Eff.wr, Eff.none, upTo, newAt, hJn]; omega) ?_
            simp [f94, w2]
            exact hfin _ _ _ _ (hM.oR (i := i) (q := q) (p := d) g2o g5o gto) _ ⟨by simp [f5], by simp [f6], by simp [f8], by simp [f11], by simp [f12], by simp [f40], by simp [f41], by omega⟩ (by simp [f14]) (by simp [f92]) (by simp [f93]) (by simp)
        · have hin : i = T.out.length := by have : ¬ i < T.out.length := by simpa using hc
                                            omega
          subst hin
          simp [f41, wk]
          exact ⟨k + 1, by show order - (k + 1) < order - k; omega, ⟨by simp [f5], by simp [f6], by simp [f8], by simp [f11], by simp [f12], by simp [f40], by simp, by omega⟩, J, tag, co, cl, rfl, hM⟩
    · have hkn : k = order := by have : ¬ k < order := by simpa using hc
                                 omega
      subst hkn
      obtain ⟨_, e4⟩ := expS_ok hT hx ht k
      have hcf : coefS T x t k = (expS T x t k).2 := rfl
      rw [hcf] at g1 g2
      have hlen2 : ∀ q ∈ (expS T x t k).2, 2 ≤ q.length := fun q hq => by
        obtain ⟨j, hj⟩ := List.mem_iff_getElem?.1 hq
        have := e4.row j (by rw [← e4.len]; exact (List.getElem?_eq_some_iff.1 hj).1)
        rw [rowN_get hj, if_neg (by omega)] at this
        omega
      obtain ⟨σ, hσ⟩ := fam_fills hM.ho hM.h3 (by omega) hlen2 (by rw [e4.len]; exact hd) hlen g1 g2 (by rw [e4.len]; exact g3)
      rw [e4.len] at hσ
      simp [f11]
      exact ⟨_, _, σ, hσ, finK (rs := [.tmp 10]) (vs := [.ref (H.length + 3) T.n]) (by rfl) (by simp [resA]) rfl⟩
end Go.Proofs.YtgabeieooemfeaaGreatDoor.Arm

namespace Go.Proofs.YtgabeieooemfeaaGreatDoor.Arm
open Go.Arm Go.Pl

/-- The blocks of a list of rows that lies from place p on. -/
def outJ (p : Nat) (l : List (List I)) : AH := .row true 1 (refsN p l) :: l.map rowB
theorem outJ_len (p : Nat) (l : List (List I)) : (outJ p l).length = l.length + 1 := by simp [outJ]
def deadJ (n : Nat) : AH := List.replicate (n + 1) .dead
theorem deadJ_len (n : Nat) : (deadJ n).length = n + 1 := by simp [deadJ]
theorem outJ_noFB {p m : Nat} {l : List (List I)} (hm : p + l.length < m) : ∀ k ∈ outJ p l, noFB m k = true := by
  intro k hk
  simp only [outJ, List.mem_cons, List.mem_map] at hk
  rcases hk with rfl | ⟨q, _, rfl⟩
  · simp only [noFB]
    rw [noFs_iff]
    intro x hx
    simp only [refsN, List.mem_map, List.mem_range] at hx
    obtain ⟨j, hj, rfl⟩ := hx
    simp [noF]; omega
  · simp only [rowB, noFB]
    rw [noFs_iff]
    exact rowB_noF m q
theorem head_eq {H0 K K' : AH} {c : Nat} (h : c < H0.length) : (H0 ++ K)[c]? = (H0 ++ K')[c]? := by rw [List.getElem?_append_left h, List.getElem?_append_left h]
theorem tail_eq {H0 A B X : AH} {c : Nat} (h : A.length = B.length) (hc : H0.length + A.length ≤ c) : (H0 ++ (A ++ X))[c]? = (H0 ++ (B ++ X))[c]? := by
  have h1 : H0.length ≤ c := by omega
  have h2 : A.length ≤ c - H0.length := by omega
  have h3 : B.length ≤ c - H0.length := by omega
  rw [List.getElem?_append_right h1, List.getElem?_append_right h1, List.getElem?_append_right h2, List.getElem?_append_right h3, h]
theorem dead_get {n i : Nat} {k : ABlk} (h : (deadJ n)[i]? = some k) : k = .dead := List.eq_of_mem_replicate (List.mem_of_getElem? h)
theorem outJ_alters (H0 X : AH) (l : List (List I)) : alters (H0 ++ (deadJ l.length ++ X)) (H0 ++ (outJ H0.length l ++ X)) := by
  refine ⟨by simp [outJ_len, deadJ_len], fun c => ?_⟩
  by_cases h : c < H0.length
  · exact .inl (head_eq h)
  · by_cases h2 : c - H0.length < l.length + 1
    · right; left
      refine ⟨(outJ H0.length l)[c - H0.length]'(by rw [outJ_len]; exact h2), ?_, ?_⟩
      · rw [List.getElem?_append_right (by omega), List.getElem?_append_left (by rw [outJ_len]; exact h2)]; simp
      · exact outJ_noFB (by simp [deadJ_len]; omega) _ (List.getElem_mem _)
    · exact .inl (tail_eq (by rw [outJ_len, deadJ_len]) (by rw [outJ_len]; omega))
theorem dead_at {H0 X : AH} {n : Nat} (j : Nat) (h : j ≤ n) : (H0 ++ (deadJ n ++ X))[H0.length + j]? = some .dead := by
  rw [getAt, List.getElem?_append_left (by rw [deadJ_len]; omega)]
  simp only [deadJ]
  rw [List.getElem?_replicate, if_pos (by omega)]
theorem outJ_rows {H0 X : AH} {l : List (List I)} {j : Nat} {q : List I} (h : l[j]? = some q) : (H0 ++ (outJ H0.length l ++ X))[H0.length + 1 + j]? = some (rowB q) := by
  have hlt := (List.getElem?_eq_some_iff.1 h).1
  rw [Nat.add_assoc, getAt, List.getElem?_append_left (by rw [outJ_len]; omega)]
  rw [show 1 + j = j + 1 by omega]
  simp [outJ, h]
/-- The end of a function that has filled the places that wait. -/
theorem finO {fr : AFr} {fn : Func} {rs : List ResultVar} {H0 X J : AH} {l : List (List I)} {v : AV} {e : AExit} (hr : fn.results.toList = rs) (h : resA E fr (H0 ++ (outJ H0.length l ++ X) ++ J) rs = some [v]) (hv : noF (H0 ++ (deadJ l.length ++ X)).length v = true) (hx : e = .ret ∨ e = .normal := by simp) :
    bodyK E fn (H0 ++ (deadJ l.length ++ X)) (.ret v) (H0 ++ (outJ H0.length l ++ X)) e fr (H0 ++ (outJ H0.length l ++ X) ++ J) := by
  have ha := outJ_alters H0 X l
  exact finU hr h ha.1 (fun b => by
    rcases ha.2 b with h | h | ⟨k, st, st', frs, h1, h2⟩
    · exact .inl h
    · exact .inr h
    · rcases Nat.lt_or_ge b H0.length with h3 | h3
      · exact .inl (head_eq h3)
      · by_cases h4 : b - H0.length < l.length + 1
        · exfalso
          rw [List.getElem?_append_right h3, List.getElem?_append_left (by rw [deadJ_len]; exact h4)] at h1
          cases dead_get h1
        · exact .inl (tail_eq (by rw [outJ_len, deadJ_len]) (by rw [outJ_len]; omega))) hv hx
theorem coefS_len {T : Tp} {x : List I} {t : I} {order : Nat} (hT : tpOk T) (hx : allV x) (ht : vB t = true) : (coefS T x t order).length = T.n := (expS_ok hT hx ht order).2.len
theorem sExpand' (T : Tp) (x : List I) (t : I) (order : Nat) (hT : tpOk T) (hx : allV x) (hxn : x.length = T.n) (ht : vB t = true) (ho : 1 ≤ order ∧ order ≤ 1000) (H0 X : AH) :
    Sound E 118 [algA, tpA T, bx x, iv t, .int .i64 order] (H0 ++ (deadJ T.n ++ X)) (.ret (.ref H0.length T.n)) (H0 ++ (outJ H0.length (coefS T x t order) ++ X)) := by
  have hl := coefS_len (order := order) hT hx ht
  have ha := outJ_alters H0 X (coefS T x t order)
  rw [hl] at ha
  refine sExpand T x t order hT hx hxn ht ho _ _ H0.length (fun j hj => dead_at j hj) ha.1 (by simp [outJ]) (fun j q hq => outJ_rows hq) (fun c hc h => ?_)
  rcases Nat.lt_or_ge c H0.length with h3 | h3
  · exact head_eq h3
  · exact tail_eq (by rw [outJ_len, deadJ_len, hl]) (by rw [outJ_len, hl]; omega)
theorem sCoef (T : Tp) (x : List I) (t : I) (order : Nat) (hT : tpOk T) (hx : allV x) (hxn : x.length = T.n) (ht : vB t = true) (ho : 1 ≤ order ∧ order ≤ 1000) (H0 X : AH) :
    Sound E 86 [tpA T, bx x, iv t, .int .i64 order] (H0 ++ (deadJ T.n ++ X)) (.ret (.ref H0.length T.n)) (H0 ++ (outJ H0.length (coefS T x t order) ++ X)) := by
  refine sound_of_awp tabOk mixed Tryz.func86 rfl (by rfl) Tryz.ntmps86 (by kernel_rfl) (by simp) ?_
  have hS := sExpand' T x t order hT hx hxn ht ho
  have hl := coefS_len (order := order) hT hx ht
  generalize hc : coefS T x t order = l at *
  simp [tpA]
  refine callD_ret0 (fun Hx => by simpa [algA, fnA] using sIntervals Hx) ?_
  simp
  refine callD_all (r := .ref H0.length T.n) (K := H0 ++ (outJ H0.length l ++ (X ++ [.row true 3 [tpA T], .row true 2 [iv t]]))) (by simp [outJ_len, deadJ_len, hl]) (fun Y => by
    have := hS H0 (X ++ [.row true 3 [tpA T], .row true 2 [iv t]] ++ Y)
    simp [algA, fnA, tpA] at this ⊢
    exact this) ?_
  simp
  refine endD [(1, 5), (3, 5)] (by rfl) (by simp [okW, note, Eff.triv, Eff.wr, Eff.none, upTo, newAt, deadJ_len]) ?_
  simp
  have e : H0 ++ (outJ H0.length l ++ (X ++ [.row true 3 [tpA T], .row true 2 [.agg [.int .i64 t.1, .int .i64 t.2]]])) = H0 ++ (outJ H0.length l ++ X) ++ [.row true 3 [tpA T], .row true 2 [.agg [.int .i64 t.1, .int .i64 t.2]]] := by simp
  rw [e, ← hl]
  exact finO (rs := [.tmp 8]) (by rfl) (by simp [resA]) (by simp [noF, deadJ_len]; omega)
end Go.Proofs.YtgabeieooemfeaaGreatDoor.Arm

namespace Go.Proofs.YtgabeieooemfeaaGreatDoor.Arm
open Go.Arm Go.Pl

theorem refsN_get {p : Nat} {l : List (List I)} {j : Nat} {q : List I} (h : l[j]? = some q) : (refsN p l)[j]? = some (.ref (p + 1 + j) q.length) := by
  have hlt := (List.getElem?_eq_some_iff.1 h).1
  have hE : l[j] = q := (List.getElem?_eq_some_iff.1 h).2
  simp [refsN, hlt, rowN, hE]
theorem refsN_len (p : Nat) (l : List (List I)) : (refsN p l).length = l.length := by simp [refsN]
theorem kRem1 (i order b c : Nat) (q : List I) (z : I) (w w2 : Bool) (ho : order ≤ 1000) (hz : q[order + 1]? = some z) (H : AH) (hc : H[c]? = some (.row w 1 [.int .i64 order])) (hb : H[b]? = some (.row w2 2 (q.map iv))) :
    Sound E 116 [.int .i64 i, .ref b q.length, .ptr c 1 0 0] H (.ret (iv z)) H := by
  refine sound_of_awp tabOk mixed Tryz.func116 rfl (by rfl) Tryz.ntmps116 (by kernel_rfl) (by simp) ?_
  have hcl := (List.getElem?_eq_some_iff.1 hc).1
  have hbl := (List.getElem?_eq_some_iff.1 hb).1
  have hlt := (List.getElem?_eq_some_iff.1 hz).1
  have hzE : ∀ h, q[order + 1]'h = z := fun h => (List.getElem?_eq_some_iff.1 hz).2
  have w1 : IntKind.i64.wrap ((order : Int) + 1) = ((order + 1 : Nat) : Int) := by rw [wrap64 (by omega) (by omega)]; omega
  have hltI : (order : Int) + 1 < q.length := by omega
  have h0o : (0 : Int) ≤ (order : Int) + 1 := by omega
  simp [hc, get_old hc, hb, get_old hb, w1, hz, hzE, hlt, hltI, h0o]
  exact fin1 (rs := [.cell 5 59]) (by rfl) (by simp [resA]) (by simp [noFs, noF])
def LMr (l : List (List I)) (f : Nat → I) (g : FuncId) (caps : List AV) (p : Nat) (H : AH) (i : Nat) (fr : AFr) (H' : AH) : Prop :=
  fr 1 = .func (.func g) [] caps ∧ fr 5 = .ref H.length l.length ∧ fr 11 = .ref p l.length ∧ fr 12 = .int .i64 l.length ∧ fr 13 = .int .i64 i ∧ i ≤ l.length ∧ H' = H ++ [.row true 2 (padI ((List.range i).map f) l.length)]
theorem kMapR (l : List (List I)) (f : Nat → I) (g : FuncId) (caps : List AV) (p : Nat) (hl : l.length ≤ 1000000) (H : AH) (hp : H[p]? = some (.row true 1 (refsN p l)))
    (hf : ∀ (j : Nat) q, l[j]? = some q → ∀ X : AH, Sound E g ([.int .i64 j, .ref (p + 1 + j) q.length] ++ caps) (H ++ X) (.ret (iv (f j))) (H ++ X)) :
    Sound E 115 [.ref p l.length, .func (.func g) [] caps] H (.ret (bx ((List.range l.length).map f))) H := by
  refine sound_of_awp tabOk mixed Tryz.func115 rfl (by rfl) Tryz.ntmps115 (by kernel_rfl) (by simp) ?_
  have hpl := (List.getElem?_eq_some_iff.1 hp).1
  simp [hp, get_old hp, refsN_len]
  refine bind_if (by omega) ?_
  simp [hp, get_old hp, refsN_len]
  refine loop_count (LMr l f g caps p H) (fun i => l.length - i) 0 ⟨by simp, by simp, by simp, by simp, by simp, by omega, by simp [padI_nil]⟩ ?_
  rintro i fr H' ⟨g1, g5, g11, g12, g13, hi, rfl⟩
  simp [g12, g13]
  refine branch (fun hc => ?_) (fun hc => ?_)
  · have hlt : i < l.length := by simpa using hc
    obtain ⟨q, hq⟩ := get_lt hlt
    have hr := refsN_get (p := p) hq
    have hrE : ∀ h, (refsN p l)[i]'h = .ref (p + 1 + i) q.length := fun h => (List.getElem?_eq_some_iff.1 hr).2
    have w2 : IntKind.i64.wrap ((i : Int) + 1) = ((i + 1 : Nat) : Int) := by rw [wrap64 (by omega) (by omega)]; omega
    have hW0 : (padI ((List.range i).map f) l.length)[i]? = some (iv (0, 0)) := padI_zero (by simp) hlt
    have hWl : (padI ((List.range i).map f) l.length).length = l.length := padI_len (by simp; omega)
    have hWset : (padI ((List.range i).map f) l.length).set i (iv (f i)) = padI ((List.range (i + 1)).map f) l.length := by
      have := padI_set (l := (List.range i).map f) (n := l.length) (p := f i) (by simp; omega)
      rw [List.length_map, List.length_range] at this
      rw [this, List.range_succ, List.map_append]
      simp
    have hS := hf i q hq
    generalize padI ((List.range i).map f) l.length = W at *
    have hW0E : ∀ h, W[i]'h = iv (0, 0) := fun h => (List.getElem?_eq_some_iff.1 hW0).2
    simp [g1, g5, g11, g13, hp, get_old hp, refsN_len, hlt, hr, hrE]
    refine call_ret (by simpa using hS _) ?_
    simp [g5, g13, hWl, hlt, hW0, hW0E, w2]
    exact ⟨i + 1, by show l.length - (i + 1) < l.length - i; omega, by simp [g1], by simp [g5], by simp [g11], by simp [g12], by simp, by omega, by rw [← hWset]; simp⟩
  · have hi' : i = l.length := by have : ¬ i < l.length := by simpa using hc
                                  omega
    subst hi'
    rw [padI_all (by simp)]
    simp [g5]
    exact finS (t := 4) (v := .ref (H.length + 0) l.length) (v0 := .nilslice) (sz := 2) (xs := ((List.range l.length).map f).map iv) (by rfl) (by simp) (.inr ⟨0, by simp, by simp⟩) rfl (iv_noFs _ _)
theorem kRemainder (T : Tp) (b : List I) (t h : Int) (order : Nat) (hT : tpOk T) (hb : allV b) (hbn : b.length = T.n) (hh : 0 ≤ h ∧ h ≤ 1000000000) (ht : -1000000000 ≤ t ∧ t ≤ 1000000000) (ho : order ≤ 900) (H : AH) :
    Sound E 84 [tpA T, bx b, .agg [.int .i64 t, .int .i64 h], .int .i64 order] H (.ret (bx (remS T b t h order))) H := by
  refine sound_of_awp_pad (T.n + 1) tabOk mixed Tryz.func84 rfl (by rfl) Tryz.ntmps84 (by kernel_rfl) (by simp) ?_
  rw [show List.replicate (T.n + 1) ABlk.dead = deadJ T.n from rfl]
  have hsm := hT.small
  have htv : vB (t, t + h) = true := vB_pair (by omega) (by omega) (by omega)
  have hS := sCoef T b (t, t + h) (order + 1) hT hb hbn htv (by omega)
  have hl := coefS_len (order := order + 1) hT hb htv
  have he : remS T b t h order = (List.range (coefS T b (t, t + h) (order + 1)).length).map (fun j : Nat => atN (rowN (coefS T b (t, t + h) (order + 1)) (j : Int)) (order + 1)) := by
    unfold remS
    apply List.ext_getElem?
    intro j
    rw [List.getElem?_map, List.getElem?_map]
    by_cases hj : j < (coefS T b (t, t + h) (order + 1)).length
    · rw [List.getElem?_range hj, List.getElem?_eq_getElem hj]
      simp [rowN, hj]
    · rw [List.getElem?_eq_none (by omega), List.getElem?_eq_none (by simp; omega)]; rfl
  rw [he]
  have hrow : ∀ (j : Nat) q, (coefS T b (t, t + h) (order + 1))[j]? = some q → q.length = order + 2 := fun j q hq => by
    have := (expS_ok hT hb htv (order + 1)).2.row j (by rw [← hl]; exact (List.getElem?_eq_some_iff.1 hq).1)
    rw [show (expS T b (t, t + h) (order + 1)).2 = coefS T b (t, t + h) (order + 1) from rfl, rowN_get hq] at this
    simpa using this
  generalize hc : coefS T b (t, t + h) (order + 1) = l at *
  have w1 : IntKind.i64.wrap ((order : Int) + 1) = ((order + 1 : Nat) : Int) := by rw [wrap64 (by omega) (by omega)]; omega
  have w2 : IntKind.i64.wrap (t + h) = t + h := wrap64 (by omega) (by omega)
  simp [tpA, w1, w2]
  refine call_ret (by
    have := hS H [.row true 3 [tpA T], .row true 2 [.agg [.int .i64 t, .int .i64 h]], .row true 1 [.int .i64 order]]
    simp [tpA] at this ⊢
    exact this) ?_
  simp
  have hM := kMapR l (fun j : Nat => atN (rowN l (j : Int)) (order + 1)) 116 [.ptr (H.length + (T.n + 1 + 2)) 1 0 0] H.length (by omega) (H ++ (outJ H.length l ++ [.row true 3 [tpA T], .row true 2 [.agg [.int .i64 t, .int .i64 h]], .row true 1 [.int .i64 order]])) (by simp [outJ]) (fun j q hq X => by
    have hql := hrow j q hq
    obtain ⟨z, hz⟩ := get_lt (l := q) (i := order + 1) (by omega)
    have e : atN (rowN l (j : Int)) (order + 1) = z := by simp [rowN_get hq, atN, hz]
    rw [e]
    refine kRem1 j order _ _ q z true true (by omega) hz _ (get_old ?_) (get_old (outJ_rows hq))
    rw [getAt, List.getElem?_append_right (by rw [outJ_len]; omega), outJ_len, hl, Nat.add_sub_cancel_left]; rfl)
  rw [hl] at hM
  refine call_ret (by simpa [tpA, deadJ_len] using hM) ?_
  simp
  rw [hl]
  exact fin1 (rs := [.tmp 8]) (by rfl) (by simp [resA]) (by simp only [bx, noF, iv_noFs])
end Go.Proofs.YtgabeieooemfeaaGreatDoor.Arm

namespace Go.Proofs.YtgabeieooemfeaaGreatDoor.Arm
open Go.Arm Go.Pl

/-- A row that is read as a value. -/
def rowF (q : List I) : ABlk := .row false 2 (q.map iv)
theorem kEnc1 (i b c : Nat) (q r : List I) (z : I) (w : Bool) (hz : r[i]? = some z) (hq : q.length ≤ 1000000) (H : AH) (hc : H[c]? = some (.row w 1 [bx r])) (hb : H[b]? = some (rowB q)) :
    Sound E 88 [.int .i64 i, .ref b q.length, .ptr c 1 0 0] H (.ret (.ref b (q.length + 1))) (H.set b (rowB (q ++ [z]))) := by
  refine sound_of_awp tabOk mixed Tryz.func88 rfl (by rfl) Tryz.ntmps88 (by kernel_rfl) (by simp) ?_
  have hcl := (List.getElem?_eq_some_iff.1 hc).1
  have hbl := (List.getElem?_eq_some_iff.1 hb).1
  have hlt := (List.getElem?_eq_some_iff.1 hz).1
  have hzE : ∀ h, r[i]'h = z := fun h => (List.getElem?_eq_some_iff.1 hz).2
  simp only [bx] at hc
  simp [hc, hz, hzE, hlt]
  refine bind_some (app_rowB hq hb) ?_
  simp
  exact finK (rs := [.tmp 5]) (vs := [.ref b (q.length + 1)]) (by rfl) (by simp [resA]) rfl
/-- The rows, the first i of them longer by one. -/
def extB (l : List (List I)) (r : List I) (i : Nat) : List ABlk := (List.range l.length).map fun j : Nat => if j < i then rowB (rowN l (j : Int) ++ [atN r j]) else rowB (rowN l (j : Int))
def extC (p : Nat) (l : List (List I)) (i : Nat) : List AV := (List.range l.length).map fun j : Nat => if j < i then .ref (p + 1 + j) ((rowN l (j : Int)).length + 1) else .nilslice
theorem extB_len (l : List (List I)) (r : List I) (i : Nat) : (extB l r i).length = l.length := by simp [extB]
theorem extC_len (p : Nat) (l : List (List I)) (i : Nat) : (extC p l i).length = l.length := by simp [extC]
theorem extB_get {l : List (List I)} {r : List I} {i j : Nat} (h : j < l.length) : (extB l r i)[j]? = some (if j < i then rowB (rowN l (j : Int) ++ [atN r j]) else rowB (rowN l (j : Int))) := by
  unfold extB; rw [List.getElem?_map, List.getElem?_range h]; rfl
theorem extC_get {p : Nat} {l : List (List I)} {i j : Nat} (h : j < l.length) : (extC p l i)[j]? = some (if j < i then .ref (p + 1 + j) ((rowN l (j : Int)).length + 1) else .nilslice) := by
  unfold extC; rw [List.getElem?_map, List.getElem?_range h]; rfl
theorem extB_zero (l : List (List I)) (r : List I) : extB l r 0 = l.map rowB := by
  apply List.ext_getElem?
  intro j
  by_cases h : j < l.length
  · rw [extB_get h, if_neg (by omega), List.getElem?_map, List.getElem?_eq_getElem h]; simp [rowN, h]
  · rw [List.getElem?_eq_none (by rw [extB_len]; omega), List.getElem?_eq_none (by simp; omega)]
theorem extC_zero (p : Nat) (l : List (List I)) : extC p l 0 = List.replicate l.length .nilslice := by
  apply List.ext_getElem?
  intro j
  by_cases h : j < l.length
  · rw [extC_get h, if_neg (by omega), List.getElem?_replicate, if_pos h]
  · rw [List.getElem?_eq_none (by rw [extC_len]; omega), List.getElem?_eq_none (by simp; omega)]
theorem extB_set {l : List (List I)} {r : List I} {i : Nat} (h : i < l.length) : (extB l r i).set i (rowB (rowN l (i : Int) ++ [atN r i])) = extB l r (i + 1) := by
  apply List.ext_getElem?
  intro j
  by_cases hj : j < l.length
  · by_cases hij : i = j
    · subst hij; rw [List.getElem?_set_self (by rw [extB_len]; exact h), extB_get h, if_pos (by omega)]
    · rw [List.getElem?_set_ne hij, extB_get hj, extB_get hj]
      by_cases h1 : j < i
      · rw [if_pos h1, if_pos (by omega)]
      · rw [if_neg h1, if_neg (by omega)]
  · rw [List.getElem?_eq_none (by rw [List.length_set, extB_len]; omega), List.getElem?_eq_none (by rw [extB_len]; omega)]
theorem extC_set {p : Nat} {l : List (List I)} {i : Nat} (h : i < l.length) : (extC p l i).set i (.ref (p + 1 + i) ((rowN l (i : Int)).length + 1)) = extC p l (i + 1) := by
  apply List.ext_getElem?
  intro j
  by_cases hj : j < l.length
  · by_cases hij : i = j
    · subst hij; rw [List.getElem?_set_self (by rw [extC_len]; exact h), extC_get h, if_pos (by omega)]
    · rw [List.getElem?_set_ne hij, extC_get hj, extC_get hj]
      by_cases h1 : j < i
      · rw [if_pos h1, if_pos (by omega)]
      · rw [if_neg h1, if_neg (by omega)]
  · rw [List.getElem?_eq_none (by rw [List.length_set, extC_len]; omega), List.getElem?_eq_none (by rw [extC_len]; omega)]
theorem withRem_len (l : List (List I)) (r : List I) : (withRem l r).length = l.length := by simp [withRem]
theorem withRem_get {l : List (List I)} {r : List I} {j : Nat} (h : j < l.length) : (withRem l r)[j]? = some (rowN l (j : Int) ++ [atN r j]) := by
  unfold withRem; rw [List.getElem?_map, List.getElem?_range h]; rfl
theorem extB_all (l : List (List I)) (r : List I) : extB l r l.length = (withRem l r).map rowB := by
  apply List.ext_getElem?
  intro j
  by_cases h : j < l.length
  · rw [extB_get h, if_pos h, List.getElem?_map, withRem_get h]; rfl
  · rw [List.getElem?_eq_none (by rw [extB_len]; omega), List.getElem?_eq_none (by simp [withRem_len]; omega)]
/-- References to rows that lie one behind the other, from place p on. -/
def refsF (p : Nat) : List (List I) → List AV
  | [] => []
  | q :: r => .ref p q.length :: refsF (p + 1) r
theorem refsF_get : ∀ {l : List (List I)} {p j : Nat} {q : List I}, l[j]? = some q → (refsF p l)[j]? = some (.ref (p + j) q.length)
  | q :: r, p, 0, q', h => by simp at h; subst h; rfl
  | q :: r, p, j + 1, q', h => by
    have := refsF_get (p := p + 1) (l := r) (j := j) (by simpa using h)
    simpa [refsF, Nat.add_assoc, Nat.add_comm 1 j] using this
  | [], p, j, q, h => by simp at h
theorem refsF_len : ∀ (l : List (List I)) (p : Nat), (refsF p l).length = l.length
  | [], _ => rfl
  | q :: r, p => by simp [refsF, refsF_len r]
theorem extC_all (p : Nat) (l : List (List I)) (r : List I) : extC p l l.length = refsF (p + 1) (withRem l r) := by
  apply List.ext_getElem?
  intro j
  by_cases h : j < l.length
  · rw [extC_get h, if_pos h, refsF_get (withRem_get h)]; simp
  · rw [List.getElem?_eq_none (by rw [extC_len]; omega), List.getElem?_eq_none (by rw [refsF_len, withRem_len]; omega)]
/-- Rows read as values, one after the other. -/
theorem convs_refs : ∀ (l : List (List I)) (A B : AH), convs (A ++ (l.map rowB ++ B)) (refsF A.length l) = (l.map bx, A ++ (l.map rowF ++ B))
  | [], A, B => rfl
  | q :: r, A, B => by
    have h1 : conv1 (A ++ (rowB q :: (r.map rowB ++ B))) (.ref A.length q.length) = (bx q, (A ++ [rowF q]) ++ (r.map rowB ++ B)) := by
      simp [conv1, rowB, rowF, bx]
    have h2 := convs_refs r (A ++ [rowF q]) B
    simp only [List.length_append, List.length_cons, List.length_nil, Nat.zero_add] at h2
    simp only [List.map_cons, List.cons_append, refsF, convs, h1, h2]
    simp
end Go.Proofs.YtgabeieooemfeaaGreatDoor.Arm

namespace Go.Proofs.YtgabeieooemfeaaGreatDoor.Arm
open Go.Arm Go.Pl

theorem setAt {H J : AH} {b : Nat} {y : ABlk} : (H ++ J).set (H.length + b) y = H ++ J.set b y := by rw [List.set_append_right _ _ (by omega), Nat.add_sub_cancel_left]
/-- The memory while the rows grow. -/
def mE (H0 X : AH) (l : List (List I)) (r : List I) (i k : Nat) : AH := H0 ++ (.row true 1 (refsN H0.length l) :: (extB l r i ++ (X ++ [.row true 1 (extC H0.length l k)])))
section
variable {H0 X : AH} {l : List (List I)} {r : List I} {i k : Nat}
theorem mE_at0 : (mE H0 X l r i k)[H0.length]? = some (.row true 1 (refsN H0.length l)) := by
  have := getAt (H := H0) (J := .row true 1 (refsN H0.length l) :: (extB l r i ++ (X ++ [.row true 1 (extC H0.length l k)]))) (b := 0)
  exact this
theorem mE_row {j : Nat} (h : j < l.length) : (mE H0 X l r i k)[H0.length + 1 + j]? = (extB l r i)[j]? := by
  unfold mE
  rw [Nat.add_assoc, getAt, Nat.add_comm 1 j, List.getElem?_cons_succ, List.getElem?_append_left (by rw [extB_len]; exact h)]
theorem mE_x {j : Nat} (h : j < X.length) : (mE H0 X l r i k)[H0.length + (l.length + 1 + j)]? = X[j]? := by
  unfold mE
  rw [getAt, show l.length + 1 + j = (l.length + j) + 1 by omega, List.getElem?_cons_succ, List.getElem?_append_right (by rw [extB_len]; omega), extB_len, Nat.add_sub_cancel_left, List.getElem?_append_left h]
theorem mE_D : (mE H0 X l r i k)[H0.length + (l.length + 1 + X.length)]? = some (.row true 1 (extC H0.length l k)) := by
  unfold mE
  rw [getAt, show l.length + 1 + X.length = (l.length + X.length) + 1 by omega, List.getElem?_cons_succ, List.getElem?_append_right (by rw [extB_len]; omega), extB_len, Nat.add_sub_cancel_left, List.getElem?_append_right (by omega), Nat.sub_self]; rfl
theorem mE_set (h : i < l.length) : (mE H0 X l r i k).set (H0.length + 1 + i) (rowB (rowN l (i : Int) ++ [atN r i])) = mE H0 X l r (i + 1) k := by
  unfold mE
  rw [Nat.add_assoc, setAt, Nat.add_comm 1 i, List.set_cons_succ, List.set_append_left _ _ (by rw [extB_len]; exact h), extB_set h]
theorem mE_setD (h : k < l.length) : (mE H0 X l r i k).set (H0.length + (l.length + 1 + X.length)) (.row true 1 ((extC H0.length l k).set k (.ref (H0.length + 1 + k) ((rowN l (k : Int)).length + 1)))) = mE H0 X l r i (k + 1) := by
  unfold mE
  rw [setAt, show l.length + 1 + X.length = (l.length + X.length) + 1 by omega, List.set_cons_succ, List.set_append_right _ _ (by rw [extB_len]; omega), extB_len, Nat.add_sub_cancel_left, List.set_append_right _ _ (by omega), Nat.sub_self, List.set_cons_zero, extC_set h]
theorem mE_start : mE H0 X l r 0 0 = H0 ++ (outJ H0.length l ++ X) ++ [.row true 1 (List.replicate l.length .nilslice)] := by
  unfold mE outJ; rw [extB_zero, extC_zero]; simp
theorem mE_end : mE H0 X l r l.length l.length = H0 ++ [.row true 1 (refsN H0.length l)] ++ ((withRem l r).map rowB ++ (X ++ [.row true 1 (refsF (H0.length + 1) (withRem l r))])) := by
  unfold mE; rw [extB_all, extC_all _ _ r]; simp
end
def LMe (H0 X : AH) (l : List (List I)) (r : List I) (g : FuncId) (caps : List AV) (i : Nat) (fr : AFr) (H' : AH) : Prop :=
  fr 1 = .func (.func g) [] caps ∧ fr 5 = .ref (H0.length + (l.length + 1 + X.length)) l.length ∧ fr 11 = .ref H0.length l.length ∧ fr 12 = .int .i64 l.length ∧ fr 13 = .int .i64 i ∧ i ≤ l.length ∧ H' = mE H0 X l r i i
theorem kMapE (l : List (List I)) (r : List I) (kc : Nat) (w : Bool) (hl : l.length ≤ 1000000) (hr : l.length ≤ r.length) (hq : ∀ q ∈ l, q.length ≤ 1000000) (H0 X : AH) (hX : X[kc]? = some (.row w 1 [bx r])) :
    Sound E 85 [.ref H0.length l.length, .func (.func 88) [] [.ptr (H0.length + (l.length + 1 + kc)) 1 0 0]] (H0 ++ (outJ H0.length l ++ X)) (.ret (bxs (withRem l r)))
      (H0 ++ (.row true 1 (refsN H0.length l) :: ((withRem l r).map rowF ++ X))) := by
  refine sound_of_awp tabOk mixed Tryz.func85 rfl (by rfl) Tryz.ntmps85 (by kernel_rfl) (by simp) ?_
  have hM0 : (H0 ++ (outJ H0.length l ++ X)).length = H0.length + (l.length + 1 + X.length) := by simp [outJ_len]
  have hM1 : (H0 ++ (outJ H0.length l ++ X))[H0.length]? = some (.row true 1 (refsN H0.length l)) := by simp [outJ]
  have hst := mE_start (H0 := H0) (X := X) (l := l) (r := r)
  generalize hM : H0 ++ (outJ H0.length l ++ X) = M at *
  simp [hM1, get_old hM1, refsN_len]
  refine bind_if (by omega) ?_
  simp [hM1, get_old hM1, refsN_len]
  refine loop_count (LMe H0 X l r 88 [.ptr (H0.length + (l.length + 1 + kc)) 1 0 0]) (fun i => l.length - i) 0 ⟨by simp, by simp [hM0], by simp, by simp, by simp, by omega, by rw [hst]⟩ ?_
  rintro i fr H1 ⟨g1, g5, g11, g12, g13, hi, rfl⟩
  simp [g12, g13]
  refine branch (fun hc => ?_) (fun hc => ?_)
  · have hlt : i < l.length := by simpa using hc
    obtain ⟨q, hqi⟩ := get_lt hlt
    obtain ⟨z, hz⟩ := get_lt (l := r) (i := i) (by omega)
    have hrow : rowN l (i : Int) = q := rowN_get hqi
    have hza : atN r i = z := by simp [atN, hz]
    have hrf := refsN_get (p := H0.length) hqi
    have hrE : ∀ h, (refsN H0.length l)[i]'h = .ref (H0.length + 1 + i) q.length := fun h => (List.getElem?_eq_some_iff.1 hrf).2
    have w2 : IntKind.i64.wrap ((i : Int) + 1) = ((i + 1 : Nat) : Int) := by rw [wrap64 (by omega) (by omega)]; omega
    have a0 := mE_at0 (H0 := H0) (X := X) (l := l) (r := r) (i := i) (k := i)
    have a1 := mE_row (H0 := H0) (X := X) (l := l) (r := r) (i := i) (k := i) hlt
    rw [extB_get hlt, if_neg (by omega), hrow] at a1
    have a2 := mE_x (H0 := H0) (l := l) (r := r) (i := i) (k := i) (List.getElem?_eq_some_iff.1 hX).1
    rw [hX] at a2
    have a3 := mE_set (H0 := H0) (X := X) (l := l) (r := r) (i := i) (k := i) hlt
    rw [hrow, hza] at a3
    have a4 := mE_D (H0 := H0) (X := X) (l := l) (r := r) (i := i + 1) (k := i)
    have a5 := mE_setD (H0 := H0) (X := X) (l := l) (r := r) (i := i + 1) (k := i) hlt
    rw [hrow] at a5
    have hcl := extC_len H0.length l i
    have hcg := extC_get (p := H0.length) (i := i) hlt
    rw [if_neg (by omega)] at hcg
    have hcgE : ∀ h, (extC H0.length l i)[i]'h = .nilslice := fun h => (List.getElem?_eq_some_iff.1 hcg).2
    have hS := kEnc1 i (H0.length + 1 + i) _ q r z w hz (hq q (List.mem_of_getElem? hqi)) _ a2 a1
    rw [a3] at hS
    have hfin : ∀ fr' : AFr, fr' 1 = .func (.func 88) [] [.ptr (H0.length + (l.length + 1 + kc)) 1 0 0] → fr' 5 = .ref (H0.length + (l.length + 1 + X.length)) l.length → fr' 11 = .ref H0.length l.length → fr' 12 = .int .i64 l.length → fr' 13 = .int .i64 (i + 1 : Nat) →
        Again (LMe H0 X l r 88 [.ptr (H0.length + (l.length + 1 + kc)) 1 0 0]) (fun i => l.length - i) i fr' (mE H0 X l r (i + 1) (i + 1)) := fun fr' h1 h2 h3 h4 h5 => ⟨i + 1, by show l.length - (i + 1) < l.length - i; omega, h1, h2, h3, h4, h5, by omega, rfl⟩
    rw [← a5] at hfin
    generalize mE H0 X l r (i + 1) i = M1 at *
    generalize mE H0 X l r i i = M2 at *
    generalize extC H0.length l i = C at *
    simp [g1, g5, g11, g13, a0, refsN_len, hlt, hrf, hrE]
    refine call_ret (by simpa using hS) ?_
    simp [g5, g13, a4, hcl, hlt, hcg, hcgE, w2]
    exact hfin _ (by simp [g1]) (by simp [g5]) (by simp [g11]) (by simp [g12]) (by simp)
  · have hi' : i = l.length := by have : ¬ i < l.length := by simpa using hc
                                  omega
    subst hi'
    simp [g5]
    rw [mE_end]
    have hA : (H0 ++ [ABlk.row true 1 (refsN H0.length l)]).length = H0.length + 1 := by simp
    have hlw := withRem_len l r
    generalize hl' : withRem l r = l' at *
    have hcv := convs_refs l' (H0 ++ [.row true 1 (refsN H0.length l)]) (X ++ [.row true 1 (refsF (H0.length + 1) l')])
    rw [hA] at hcv
    have hD : ∀ (f : List (List I) → List ABlk), (∀ l, (f l).length = l.length) → ∀ y, (H0 ++ [ABlk.row true 1 (refsN H0.length l)] ++ (f l' ++ (X ++ [y])))[H0.length + (l.length + 1 + X.length)]? = some y := by
      intro f hf y
      rw [List.append_assoc, getAt, show l.length + 1 + X.length = 1 + (l.length + X.length) by omega]
      have := getAt (H := [ABlk.row true 1 (refsN H0.length l)]) (J := f l' ++ (X ++ [y])) (b := l.length + X.length)
      rw [List.length_singleton] at this
      rw [this]
      have := getAt (H := f l') (J := X ++ [y]) (b := X.length)
      rw [hf, hlw] at this
      rw [this]
      simp
    have hDs : ∀ y y', (H0 ++ [ABlk.row true 1 (refsN H0.length l)] ++ (l'.map rowF ++ (X ++ [y]))).set (H0.length + (l.length + 1 + X.length)) y' = H0 ++ [.row true 1 (refsN H0.length l)] ++ (l'.map rowF ++ (X ++ [y'])) := by
      intro y y'
      rw [List.append_assoc, setAt, show l.length + 1 + X.length = 1 + (l.length + X.length) by omega]
      have := setAt (H := [ABlk.row true 1 (refsN H0.length l)]) (J := l'.map rowF ++ (X ++ [y])) (b := l.length + X.length) (y := y')
      rw [List.length_singleton] at this
      rw [this]
      have := setAt (H := l'.map rowF) (J := X ++ [y]) (b := X.length) (y := y')
      rw [List.length_map, hlw] at this
      rw [this]
      simp
    refine ⟨[.ref (H0.length + (l.length + 1 + X.length)) l.length], [bxs l'], by simp [show (Tryz.f85).results.toList = [.tmp 4] from rfl, resA], ?_, rfl⟩
    refine .deep (H0.length + (l.length + 1 + X.length)) true (refsF (H0.length + 1) l') (hD (fun l => l.map rowB) (fun l => by simp) _) (by rw [hcv]; exact hD (fun l => l.map rowF) (fun l => by simp) _) (fun x hx => ?_) (fun x hx => ?_) ?_
    · obtain ⟨j, hj⟩ := List.mem_iff_getElem?.1 hx
      have hjl : j < l'.length := by rw [← refsF_len l' (H0.length + 1)]; exact (List.getElem?_eq_some_iff.1 hj).1
      have := refsF_get (p := H0.length + 1) (List.getElem?_eq_getElem hjl)
      rw [hj] at this; cases this; rfl
    · rw [hcv] at hx
      simp only [List.mem_map] at hx
      obtain ⟨q, _, rfl⟩ := hx; rfl
    rw [hcv]
    dsimp only
    rw [hDs]
    refine .conv ?_
    have h6 := hD (fun l => l.map rowF) (fun l => by simp) (.row true 1 (l'.map bx))
    have h7 : convL (H0 ++ [ABlk.row true 1 (refsN H0.length l)] ++ (l'.map rowF ++ (X ++ [.row true 1 (l'.map bx)]))) [.ref (H0.length + (l.length + 1 + X.length)) l.length] = ([bxs l'], H0 ++ [.row true 1 (refsN H0.length l)] ++ (l'.map rowF ++ (X ++ [.row false 1 (l'.map bx)]))) := by
      simp only [convL, conv, conv1, h6]
      rw [if_pos (by simp [hlw])]
      simp only [hDs]
      rfl
    rw [h7]
    dsimp only
    refine .cut M.length (Nat.le_refl _) ?_ (fun b hb => ?_) ?_
    · rw [hM0, show H0.length + (l.length + 1 + X.length) = (H0 ++ ABlk.row true 1 (refsN H0.length l) :: (l'.map rowF ++ X)).length by simp [hlw]; omega]
      have : H0 ++ [ABlk.row true 1 (refsN H0.length l)] ++ (l'.map rowF ++ (X ++ [.row false 1 (l'.map bx)])) = (H0 ++ ABlk.row true 1 (refsN H0.length l) :: (l'.map rowF ++ X)) ++ [.row false 1 (l'.map bx)] := by simp
      rw [this, List.take_left]
    · rw [← hM]
      rcases Nat.lt_or_ge b H0.length with h | h
      · exact .inl (head_eq h)
      · obtain ⟨c, rfl⟩ : ∃ c, b = H0.length + c := ⟨b - H0.length, by omega⟩
        rw [getAt, getAt]
        cases c with
        | zero => exact .inl rfl
        | succ c =>
          unfold outJ
          rw [List.cons_append, List.getElem?_cons_succ, List.getElem?_cons_succ]
          by_cases hcl : c < l.length
          · right; left
            have hcl' : c < l'.length := by omega
            refine ⟨rowF l'[c], by rw [List.getElem?_append_left (by simp; exact hcl'), List.getElem?_map, List.getElem?_eq_getElem hcl']; rfl, ?_⟩
            simp only [rowF, noFB]
            rw [noFs_iff]
            exact rowB_noF _ _
          · left
            rw [List.getElem?_append_right (by simp; omega), List.getElem?_append_right (by simp; omega)]
            simp [hlw]
    · simp only [noFs, bxs, noF, Bool.and_true]
      rw [noFs_iff]
      intro x hx
      obtain ⟨q, _, rfl⟩ := List.mem_map.1 hx
      simp only [bx, noF, iv_noFs]
end Go.Proofs.YtgabeieooemfeaaGreatDoor.Arm

namespace Go.Proofs.YtgabeieooemfeaaGreatDoor.Arm
open Go.Arm Go.Pl

theorem restr_eq (p q : I) : (if interB p q then inter p q else q) = restrI p q := by
  unfold restrI inter
  cases interB p q <;> rfl
theorem kRestr1 (i c : Nat) (p q : I) (b : List I) (w : Bool) (hz : b[i]? = some q) (H : AH) (hc : H[c]? = some (.row w 1 [bx b])) : Sound E 122 [.int .i64 i, iv p, .ptr c 1 0 0] H (.ret (iv (restrI p q))) H := by
  refine sound_of_awp tabOk mixed Tryz.func122 rfl (by rfl) Tryz.ntmps122 (by kernel_rfl) (by simp) ?_
  have hcl := (List.getElem?_eq_some_iff.1 hc).1
  have hlt := (List.getElem?_eq_some_iff.1 hz).1
  have hzE : ∀ h, b[i]'h = q := fun h => (List.getElem?_eq_some_iff.1 hz).2
  have he := restr_eq p q
  simp only [bx] at hc
  simp [hc, get_old hc, hz, hzE, hlt]
  refine callD_ret0 (fun Hx => iIntersect p q Hx) ?_
  simp
  refine endD [(9, 10)] (by rfl) (by simp [okW, note, Eff.triv, Eff.wr, Eff.none, upTo, newAt]; omega) ?_
  simp
  refine branch (fun m => ?_) (fun m => ?_)
  · rw [if_pos m] at he
    simp
    exact fin1 (rs := [.cell 5 59]) (by rfl) (by simp [resA, ← he]) (by simp [noFs, noF])
  · rw [if_neg (by simp [m])] at he
    simp [hc, get_old hc, hz, hzE, hlt]
    exact fin1 (rs := [.cell 5 59]) (by rfl) (by simp [resA, ← he]) (by simp [noFs, noF])
def LMi (l : List I) (f : Nat → I) (g : FuncId) (caps : List AV) (H : AH) (i : Nat) (fr : AFr) (H' : AH) : Prop :=
  fr 1 = .func (.func g) [] caps ∧ fr 5 = .ref H.length l.length ∧ fr 11 = bx l ∧ fr 12 = .int .i64 l.length ∧ fr 13 = .int .i64 i ∧ i ≤ l.length ∧ ∃ J, H' = H ++ J ∧ J[0]? = some (.row true 2 (padI ((List.range i).map f) l.length))
theorem kMapI (l : List I) (f : Nat → I) (g : FuncId) (caps : List AV) (hl : l.length ≤ 1000000) (H : AH)
    (hf : ∀ (j : Nat) p, l[j]? = some p → ∀ X : AH, Sound E g ([.int .i64 j, iv p] ++ caps) (H ++ X) (.ret (iv (f j))) (H ++ X)) :
    Sound E 121 [bx l, .func (.func g) [] caps] H (.ret (bx ((List.range l.length).map f))) H := by
  refine sound_of_awp tabOk mixed Tryz.func121 rfl (by rfl) Tryz.ntmps121 (by kernel_rfl) (by simp) ?_
  generalize hR : (List.range l.length).map f = R
  simp [bx]
  refine bind_if (by omega) ?_
  simp
  refine loop_count (LMi l f g caps H) (fun i => l.length - i) 0 ⟨by simp, by simp, by simp [bx], by simp, by simp, by omega, _, rfl, by simp [padI_nil]⟩ ?_
  rintro i fr H' ⟨g1, g5, g11, g12, g13, hi, J, rfl, hJ0⟩
  have hJl := (List.getElem?_eq_some_iff.1 hJ0).1
  simp [g12, g13]
  refine branch (fun hc => ?_) (fun hc => ?_)
  · have hlt : i < l.length := by simpa using hc
    obtain ⟨q, hq⟩ := get_lt hlt
    have hqE : ∀ h, l[i]'h = q := fun h => (List.getElem?_eq_some_iff.1 hq).2
    have w2 : IntKind.i64.wrap ((i : Int) + 1) = ((i + 1 : Nat) : Int) := by rw [wrap64 (by omega) (by omega)]; omega
    have hW0 : (padI ((List.range i).map f) l.length)[i]? = some (iv (0, 0)) := padI_zero (by simp) hlt
    have hWl : (padI ((List.range i).map f) l.length).length = l.length := padI_len (by simp; omega)
    have hWset : (padI ((List.range i).map f) l.length).set i (iv (f i)) = padI ((List.range (i + 1)).map f) l.length := by
      have := padI_set (l := (List.range i).map f) (n := l.length) (p := f i) (by simp; omega)
      rw [List.length_map, List.length_range] at this
      rw [this, List.range_succ, List.map_append]
      simp
    have hS := hf i q hq
    generalize padI ((List.range i).map f) l.length = W at *
    have hW0E : ∀ h, W[i]'h = iv (0, 0) := fun h => (List.getElem?_eq_some_iff.1 hW0).2
    simp [g1, g5, g11, g13, bx, hlt, hq, hqE]
    refine call_ret (by simpa using hS _) ?_
    simp [g5, g13, ↓old hJ0, olds hJ0, hWl, hlt, hW0, hW0E, w2]
    refine ⟨i + 1, by show l.length - (i + 1) < l.length - i; omega, by simp [g1], by simp [g5], by simp [g11], by simp [g12], by simp, by omega, _, rfl, ?_⟩
    rw [← hWset]
    exact set_get' hJ0
  · have hi' : i = l.length := by have : ¬ i < l.length := by simpa using hc
                                  omega
    subst hi'
    rw [padI_all (by simp), hR] at hJ0
    have hRl : R.length = l.length := by rw [← hR]; simp
    simp [g5]
    exact finS (t := 4) (v := .ref (H.length + 0) l.length) (v0 := .nilslice) (sz := 2) (xs := R.map iv) (by rfl) (by simp) (.inr ⟨0, by simp [hRl], by simpa using hJ0⟩) rfl (iv_noFs _ _)
theorem kRestr (a b : List I) (c : Nat) (w : Bool) (hab : a.length ≤ b.length) (hl : a.length ≤ 1000000) (H : AH) (hc : H[c]? = some (.row w 1 [bx b])) : Sound E 120 [bx a, .ptr c 1 0 0] H (.ret (bx (restrB a b))) H := by
  refine sound_of_awp tabOk mixed Tryz.func120 rfl (by rfl) Tryz.ntmps120 (by kernel_rfl) (by simp) ?_
  have hS := kMapI a (fun i => restrI (atN a i) (atN b i)) 122 [.ptr c 1 0 0] hl H (fun j p hj X => by
    obtain ⟨q, hq⟩ := get_lt (l := b) (i := j) (by have := (List.getElem?_eq_some_iff.1 hj).1; omega)
    have e1 : atN a j = p := by simp [atN, hj]
    have e2 : atN b j = q := by simp [atN, hq]
    rw [e1, e2]
    exact kRestr1 j c p q b w hq _ (get_old hc))
  simp
  refine call_ret (by simpa using hS) ?_
  simp
  exact fin0 (rs := [.tmp 3]) (by rfl) (by simp [resA, restrB])
theorem kRestrict0 (b : List I) (H : AH) : Sound E 89 [bx b] H (.ret (.func (.func 120) [] [.ptr H.length 1 0 0])) (H ++ [.row true 1 [bx b]]) := by
  refine sound_of_awp tabOk mixed Tryz.func89 rfl (by rfl) Tryz.ntmps89 (by kernel_rfl) (by simp) ?_
  simp [bx]
  exact finK (rs := [.tmp 2]) (vs := [.func (.func 120) [] [.ptr H.length 1 0 0]]) (by rfl) (by simp [resA]) rfl
theorem kRestrict (b : List I) (p : Nat) (H : AH) (hd : H[p]? = some .dead) : Sound E 89 [bx b] H (.ret (.func (.func 120) [] [.ptr p 1 0 0])) (H.set p (.row true 1 [bx b])) := by
  have hp := (List.getElem?_eq_some_iff.1 hd).1
  refine (kRestrict0 b H).fills (σ := fun c => if c = p then some H.length else none) ⟨?_, ?_, by simp, ?_, ?_, ?_⟩
  · intro c k h
    split at h
    · rename_i e; cases h; subst e
      exact ⟨hp, hd, get_old hd, Nat.le_refl _⟩
    · cases h
  · intro c c' k h h'
    split at h <;> split at h' <;> first | (cases h; done) | (cases h'; done) | skip
    rename_i e1 e2; rw [e1, e2]
  · intro c hc h
    split at h
    · cases h
    · rename_i hne
      exact ⟨List.getElem?_append_left hc, List.getElem?_set_ne (Ne.symm hne)⟩
  · intro c k h
    split at h
    · rename_i e; cases h; subst e
      refine ⟨true, 1, [bx b], [bx b], by simp, List.getElem?_set_self hp, rfl, fun i x x' hx hx' => ?_⟩
      rw [hx] at hx'; cases hx'
      refine ⟨rfl, fun i a a' ha ha' => ?_⟩
      rw [ha] at ha'; cases ha'
      have hxe : x = bx b := by
        have := List.mem_of_getElem? hx
        simpa using this
      subst hxe
      have hae : a = bx b := by
        have := List.mem_of_getElem? ha
        simpa [AV.cells, bx] using this
      subst hae
      exact .old (by simp only [bx, noF, iv_noFs])
    · cases h
  · refine .func (by simp) (by simp [noFs]) (fun i a a' ha ha' => ?_)
    cases i with
    | zero =>
      simp at ha ha'
      subst ha; subst ha'
      exact .ptr (by simp) hp
    | succ i => simp at ha
end Go.Proofs.YtgabeieooemfeaaGreatDoor.Arm

namespace Go.Proofs.YtgabeieooemfeaaGreatDoor.Arm
open Go.Arm Go.Pl

theorem coefS_rows {T : Tp} {x : List I} {t : I} {order : Nat} (hT : tpOk T) (hx : allV x) (ht : vB t = true) : ∀ q ∈ coefS T x t order, q.length = order + 1 ∧ allV q := fun q hq => by
  have h := (expS_ok hT hx ht order).2
  refine ⟨?_, h.val q hq⟩
  obtain ⟨j, hj⟩ := List.mem_iff_getElem?.1 hq
  have := h.row j (by rw [← h.len]; exact (List.getElem?_eq_some_iff.1 hj).1)
  rw [show (expS T x t order).2 = coefS T x t order from rfl, rowN_get hj] at this
  simpa using this
theorem remS_valid {T : Tp} {b : List I} {t h : Int} {order : Nat} (hT : tpOk T) (hb : allV b) (ht : vB (t, t + h) = true) : allV (remS T b t h order) := fun p hp => by
  obtain ⟨q, hq, rfl⟩ := List.mem_map.1 hp
  exact atN_valid (coefS_rows hT hb ht q hq).2 _
theorem remS_len {T : Tp} {b : List I} {t h : Int} {order : Nat} (hT : tpOk T) (hb : allV b) (ht : vB (t, t + h) = true) : (remS T b t h order).length = T.n := by
  simp [remS, coefS_len hT hb ht]
theorem withRem_rows {l : List (List I)} {r : List I} {k : Nat} (hl : ∀ q ∈ l, q.length = k ∧ allV q) (hr : allV r) : ∀ q ∈ withRem l r, q.length = k + 1 ∧ allV q := fun q hq => by
  simp only [withRem, List.mem_map, List.mem_range] at hq
  obtain ⟨j, hj, rfl⟩ := hq
  have e : rowN l (j : Int) = l[j] := rowN_get (List.getElem?_eq_getElem hj)
  obtain ⟨h1, h2⟩ := hl l[j] (List.getElem_mem hj)
  rw [e]
  exact ⟨by simp [h1], allV_snoc h2 (atN_valid hr j)⟩
theorem evalS_len (l : List (List I)) (h : I) : (evalS l h).length = l.length := by simp [evalS]
theorem pt_num {t : Int} (h : -2147483648 < t ∧ t < 2147483648) : pt t = (t, t) := by
  unfold pt mk
  rw [if_pos (by rw [Bool.and_eq_true, numB_iff]; exact ⟨h, h⟩)]
theorem kEnclosureAt (T : Tp) (x b : List I) (t h : Int) (part : I) (order : Nat) (hT : tpOk T) (hx : allV x) (hxn : x.length = T.n) (hb : allV b) (hbn : b.length = T.n) (hh : 0 ≤ h ∧ h ≤ 1000000000) (ht : -1000000000 ≤ t ∧ t ≤ 1000000000) (hp : vB part = true) (ho : 1 ≤ order ∧ order ≤ 900) (H : AH) :
    Sound E 69 [tpA T, bx x, bx b, .agg [.int .i64 t, .int .i64 h, .int .i64 part.1, .int .i64 part.2, .int .i64 order]] H (.ret (bx (enclAt T x b t h part order))) H := by
  refine sound_of_awp_pad (T.n + 2) tabOk mixed Tryz.func69 rfl (by rfl) Tryz.ntmps69 (by kernel_rfl) (by simp) ?_
  rw [show List.replicate (T.n + 2) ABlk.dead = deadJ T.n ++ [.dead] by unfold deadJ; rw [List.replicate_succ']]
  have hsm := hT.small
  have htv : vB (t, t + h) = true := vB_pair (by omega) (by omega) (by omega)
  have htp : pt t = (t, t) := pt_num (by omega)
  have htv2 : vB (t, t) = true := vB_pair (by omega) (by omega) (by omega)
  have hR := kRemainder T b t h order hT hb hbn hh ht (by omega)
  have hC := sCoef T x (t, t) order hT hx hxn htv2 (by omega)
  have hl := coefS_len (order := order) hT hx htv2
  have hrows := coefS_rows (order := order) hT hx htv2
  have hrv := remS_valid (order := order) hT hb htv
  have hrl := remS_len (order := order) hT hb htv
  unfold enclAt
  generalize coefS T x (t, t) order = l at *
  generalize remS T b t h order = r at *
  simp [tpA]
  refine call_ret (by simpa [tpA] using hR _) ?_
  simp [bx]
  refine callD_ret0 (fun Hx => iPoint t Hx) ?_
  rw [htp]
  simp
  refine callD_all (r := .ref H.length T.n) (K := H ++ (outJ H.length l ++ [.dead, .row true 3 [tpA T], .row true 5 [.agg [.int .i64 t, .int .i64 h, .int .i64 part.1, .int .i64 part.2, .int .i64 order]], .row true 1 [bx r]])) (by simp [outJ_len, deadJ_len, hl]) (fun Y => by
    have := hC H ([.dead, .row true 3 [tpA T], .row true 5 [.agg [.int .i64 t, .int .i64 h, .int .i64 part.1, .int .i64 part.2, .int .i64 order]], .row true 1 [bx r]] ++ Y)
    simp [tpA, bx] at this ⊢
    exact this) ?_
  simp
  refine callD_all (r := bxs (withRem l r)) (K := H ++ (.row true 1 (refsN H.length l) :: ((withRem l r).map rowF ++ [.dead, .row true 3 [tpA T], .row true 5 [.agg [.int .i64 t, .int .i64 h, .int .i64 part.1, .int .i64 part.2, .int .i64 order]], .row true 1 [bx r]]))) (by simp [outJ_len, withRem_len]) (fun Y => by
    have := kMapE l r 3 true (by omega) (by omega) (fun q hq => by rw [(hrows q hq).1]; omega) H ([.dead, .row true 3 [tpA T], .row true 5 [.agg [.int .i64 t, .int .i64 h, .int .i64 part.1, .int .i64 part.2, .int .i64 order]], .row true 1 [bx r]] ++ Y) rfl
    rw [hl] at this
    simp [tpA, bx, deadJ_len] at this ⊢
    exact this) ?_
  have hwr := withRem_rows hrows hrv
  have hwl := withRem_len l r
  rw [hl] at hwl
  generalize hw : withRem l r = l' at *
  generalize hJ : ABlk.row true 1 (refsN H.length l) :: l'.map rowF = J1
  have hJl : J1.length = T.n + 1 := by rw [← hJ]; simp [hwl]
  have hJa : ∀ Y, ABlk.row true 1 (refsN H.length l) :: (l'.map rowF ++ Y) = J1 ++ Y := fun Y => by rw [← hJ]; rfl
  rw [hJa]
  simp
  refine endD [(0, 7), (3, 7), (6, 7), (0, 9), (3, 9), (6, 9), (7, 9)] (by rfl) (by simp [okW, note, Eff.triv, Eff.wr, Eff.none, upTo, newAt, deadJ_len, outJ_len, hl]) ?_
  simp
  have hJg : ∀ (c : Nat) (Y : AH), (H ++ (J1 ++ Y))[H.length + (T.n + 1 + c)]? = Y[c]? := fun c Y => by
    rw [getAt]
    have := getAt (H := J1) (J := Y) (b := c)
    rw [hJl] at this; exact this
  have hJg2 : ∀ (c : Nat) (Y : AH), (J1 ++ Y)[T.n + 1 + c]? = Y[c]? := fun c Y => by
    have := getAt (H := J1) (J := Y) (b := c)
    rw [hJl] at this; exact this
  have hJs : ∀ (y : ABlk) (Y : AH), (H ++ (J1 ++ .dead :: Y)).set (H.length + (T.n + 1)) y = H ++ (J1 ++ y :: Y) := fun y Y => by
    rw [setAt]
    have := setAt (H := J1) (J := .dead :: Y) (b := 0) (y := y)
    rw [hJl] at this; rw [show T.n + 1 = T.n + 1 + 0 from rfl, this]; rfl
  refine callD_at (b := H.length + (T.n + 1)) (k := .dead) (k' := .row true 1 [bx b]) (hJg 0 _) (fun Hx hx => by simpa [bx] using kRestrict b _ Hx hx) ?_
  rw [hJs]
  simp [deadJ_len, hJg2]
  refine callD_ret0 (fun Hx => by simpa [bxs] using sEval l' part (fun q hq => ⟨(hwr q hq).2, by intro h; have := (hwr q hq).1; rw [h] at this; simp at this, by rw [(hwr q hq).1]; omega⟩) (by omega) hp Hx) ?_
  have hel := evalS_len l' part
  generalize evalS l' part = e at *
  simp
  refine callD_rdc [H.length + (T.n + 1)] (fun c hc => by simp at hc; subst hc; simp [hJl]) (fun Hx hx => by
    have hc : Hx[H.length + (T.n + 1)]? = some (.row true 1 [bx b]) := by rw [hx _ (by simp), show H.length + (T.n + 1) = H.length + (T.n + 1 + 0) from rfl, hJg]; rfl
    simpa using kRestr e b _ true (by omega) (by omega) Hx hc) ?_
  simp
  refine endD [(1, 6)] (by rfl) (by simp [okW, note, Eff.triv, Eff.wr, Eff.none, upTo, newAt]) ?_
  simp
  exact fin1 (rs := [.tmp 8]) (by rfl) (by simp [resA, bx]) (by simp only [noF, iv_noFs])
end Go.Proofs.YtgabeieooemfeaaGreatDoor.Arm

namespace Go.Proofs.YtgabeieooemfeaaGreatDoor.Arm
open Go.Arm Go.Pl

/-- What the iterator of pairs needs of the memory. -/
def PairM (a b : List I) (ca cb : Nat) (M : AH) : Prop := (∃ w, M[ca]? = some (.row w 1 [bx a])) ∧ ∃ w, M[cb]? = some (.row w 1 [bx b])
def pairsA (a b : List I) (i : Nat) : List (List AV) := (List.range (a.length - i)).map fun k => [iv (atN a (i + k)), iv (atN b (i + k))]
theorem pairsA_cons {a b : List I} {i : Nat} (h : i < a.length) : pairsA a b i = [iv (atN a i), iv (atN b i)] :: pairsA a b (i + 1) := by
  unfold pairsA
  rw [show a.length - i = a.length - (i + 1) + 1 by omega, List.range_succ_eq_map, List.map_cons, List.map_map]
  congr 1
  apply List.map_congr_left
  intro k _
  simp only [Function.comp]
  rw [show i + 1 + k = i + k.succ by omega]
theorem pairsA_nil {a b : List I} {i : Nat} (h : a.length ≤ i) : pairsA a b i = [] := by simp [pairsA, show a.length - i = 0 by omega]
def LPr (a b : List I) (ca cb bl : Nat) (H H1 : AH) (i : Nat) (fr : AFr) (H' : AH) : Prop :=
  fr 0 = .yld bl ∧ fr 2 = .ptr cb 1 0 0 ∧ fr 6 = bx a ∧ fr 7 = .int .i64 a.length ∧ fr 8 = .int .i64 i ∧ i ≤ a.length ∧
  ∃ M J, H' = M ++ J ∧ alters H M ∧ PairM a b ca cb M ∧ YRuns E bl (PairM a b ca cb) (pairsA a b i) M H1
theorem bPairs1 (a b : List I) (ca cb bl : Nat) (H H1 : AH) (hab : a.length ≤ b.length) (hl : a.length ≤ 1000000) (hM : PairM a b ca cb H) (hY : YRuns E bl (PairM a b ca cb) (pairsA a b 0) H H1) :
    Sound E 135 [.yld bl, .ptr ca 1 0 0, .ptr cb 1 0 0] H (.ret (.tuple [])) H1 := by
  refine sound_of_awp tabOk mixed Tryz.func135 rfl (by rfl) Tryz.ntmps135 (by kernel_rfl) (by simp) ?_
  obtain ⟨⟨wa, ha⟩, ⟨wb, hb⟩⟩ := hM
  have hal := (List.getElem?_eq_some_iff.1 ha).1
  simp only [bx] at ha hb
  simp [ha, get_old ha]
  refine loop_count (LPr a b ca cb bl H H1) (fun i => a.length - i) 0 ⟨by simp, by simp, by simp [bx], by simp, by simp, by omega, H, [], by simp, .refl H, ⟨⟨wa, ha⟩, ⟨wb, hb⟩⟩, hY⟩ ?_
  clear ha hb hal hY
  rintro i fr H' ⟨g0, g2, g6, g7, g8, hi, M, J, rfl, hal, hM, hY⟩
  simp [g7, g8]
  refine branch (fun hc => ?_) (fun hc => ?_)
  · have hlt : i < a.length := by simpa using hc
    obtain ⟨p, hp⟩ := get_lt hlt
    obtain ⟨q, hq⟩ := get_lt (l := b) (i := i) (by omega)
    have hpE : ∀ h, a[i]'h = p := fun h => (List.getElem?_eq_some_iff.1 hp).2
    have hqE : ∀ h, b[i]'h = q := fun h => (List.getElem?_eq_some_iff.1 hq).2
    have w2 : IntKind.i64.wrap ((i : Int) + 1) = ((i + 1 : Nat) : Int) := by rw [wrap64 (by omega) (by omega)]; omega
    rw [pairsA_cons hlt, show atN a i = p by simp [atN, hp], show atN b i = q by simp [atN, hq]] at hY
    obtain ⟨go, M1, h1, h2, h3, h4, h5⟩ := hY.cases_cons
    obtain ⟨⟨wa, ha⟩, ⟨wb, hb⟩⟩ := hM
    have hbl := (List.getElem?_eq_some_iff.1 hb).1
    simp only [bx] at ha hb
    simp [g0, g2, g6, g8, bx, hp, hpE, hq, hqE, hb, get_old hb]
    refine callD_yld (K := M1 ++ (J ++ [.row true 2 [iv p]])) (v := .bool go) (by simp [h1.1]) (fun X => by
      have := h3 (J ++ [.row true 2 [iv p]] ++ X)
      simp at this ⊢
      exact this) ?_
    simp
    refine endD [(1, 6), (2, 6)] (by rfl) (by simp [okW, note, Eff.triv, Eff.wr, Eff.none, upTo, newAt]) ?_
    simp
    refine branch (fun hg => ?_) (fun hg => ?_)
    · have hg : go = false := by simpa using hg
      rw [h4 hg]
      simp
      exact finY (by rfl) (hal.trans (by rw [← h4 hg]; exact h1))
    · have hg : go = true := by simpa using hg
      simp [g8, w2]
      exact ⟨i + 1, by show a.length - (i + 1) < a.length - i; omega, by simp [g0], by simp [g2], by simp [g6, bx], by simp [g7], by simp, by omega, M1, J ++ [.row true 2 [iv p]], by simp, hal.trans h1, h2, h5 hg⟩
  · have hi' : i = a.length := by have : ¬ i < a.length := by simpa using hc
                                  omega
    subst hi'
    rw [pairsA_nil (by omega)] at hY
    cases hY
    simp
    exact finY (by rfl) hal
end Go.Proofs.YtgabeieooemfeaaGreatDoor.Arm

namespace Go.Proofs.YtgabeieooemfeaaGreatDoor.Arm
open Go.Arm Go.Pl

theorem bSubset (a b : List I) (hab : a.length ≤ b.length) (hl : a.length ≤ 1000000) (H : AH) : Sound E 83 [bx a, bx b] H (.ret (.bool (subI a b))) H := by
  refine sound_of_awp tabOk mixed Tryz.func83 rfl (by rfl) Tryz.ntmps83 (by kernel_rfl) (by simp) ?_
  simp
  refine call_ret (by simpa using bPairs a b _) ?_
  simp
  refine range_it 5 (by rfl) (fun N hN => ?_)
  generalize hk : (LK.mk N _ _ _) = k at hN ⊢
  generalize hf : List.map _ (List.range 5) = frs
  have h4 : frs[4]? = some (.ptr H.length 1 0 0) := by rw [← hf]; simp
  have halt : ∀ st, alters (H ++ [.row true 1 [.bool false], .row true 1 [bx a], .row true 1 [bx b], .loop k .ready frs]) (H ++ [.row true 1 [.bool false], .row true 1 [bx a], .row true 1 [bx b], .loop k st frs]) := fun st => alters_of ⟨.same _, .same _, .same _, .loop, trivial⟩
  have hP : ∀ st, PairM a b (H.length + 1) (H.length + 2) (H ++ [.row true 1 [.bool false], .row true 1 [bx a], .row true 1 [bx b], .loop k st frs]) := fun st => ⟨⟨true, by simp⟩, ⟨true, by simp⟩⟩
  have hround : ∀ (p q : I) (J : AH), YSound E (H.length + 3) [iv p, iv q] (H ++ [.row true 1 [.bool false], .row true 1 [bx a], .row true 1 [bx b], .loop k .ready frs] ++ J) (.bool (subB p q))
      (H ++ [.row true 1 [.bool false], .row true 1 [bx a], .row true 1 [bx b], .loop k (if subB p q then .ready else .done .ret) frs] ++ J) := by
    intro p q J
    refine yield_sound tabOk mixed (k := k) (frs := frs) (by simp) (by rw [← hk]; rfl) hN ?_
    have ka := congrArg LK.assign hk
    have kb := congrArg LK.body hk
    have kp := congrArg LK.ps hk
    dsimp only at ka kb kp
    rw [← ka, ← kb, ← kp]
    clear ka kb kp hk hf hN
    simp [roundFr]
    rw [assignK_normal]
    refine ⟨by simp, ?_⟩
    simp
    refine call_ret (iSubset p q _) ?_
    simp
    refine branch (fun hs => ?_) (fun hs => ?_)
    · have hs : subB p q = false := by simpa using hs
      simp [h4, hs]
      rw [roundK_ret]
      refine ⟨by simp, rfl, ?_⟩
      have := Leaves.alters (J := J) (X := [.row true 2 [iv p], .row true 2 [iv q]]) (halt (.done .ret))
      simpa using this
    · have hs : subB p q = true := by simpa using hs
      simp [hs]
      rw [roundK_normal]
      refine ⟨by simp, rfl, ?_⟩
      have := Leaves.alters (J := J) (X := [.row true 2 [iv p], .row true 2 [iv q]]) (halt .ready)
      simpa using this
  have hrun : ∀ n i, a.length - i = n → YRuns E (H.length + 3) (PairM a b (H.length + 1) (H.length + 2)) (pairsA a b i) (H ++ [.row true 1 [.bool false], .row true 1 [bx a], .row true 1 [bx b], .loop k .ready frs])
      (H ++ [.row true 1 [.bool false], .row true 1 [bx a], .row true 1 [bx b], .loop k (if (List.range n).all (fun j => subB (atN a (i + j)) (atN b (i + j))) then .ready else .done .ret) frs]) := by
    intro n
    induction n with
    | zero => intro i hi; rw [pairsA_nil (by omega)]; exact .nil _
    | succ n ih =>
      intro i hi
      rw [pairsA_cons (by omega)]
      have hr := fun J => hround (atN a i) (atN b i) J
      have he : (List.range (n + 1)).all (fun j => subB (atN a (i + j)) (atN b (i + j))) = (subB (atN a i) (atN b i) && (List.range n).all fun j => subB (atN a (i + 1 + j)) (atN b (i + 1 + j))) := by
        rw [List.range_succ_eq_map, List.all_cons, List.all_map]
        congr 1
        congr 1
        funext j
        simp only [Function.comp]
        rw [show i + j.succ = i + 1 + j by omega]
      rw [he]
      cases hs : subB (atN a i) (atN b i) with
      | false =>
        rw [hs] at hr
        exact .stop (halt _) (hP _) hr
      | true =>
        rw [hs] at hr
        simp only [Bool.true_and]
        exact .go (halt _) (hP _) hr (ih (i + 1) (by omega))
  have hrun0 := hrun a.length 0 rfl
  have he : (List.range a.length).all (fun j => subB (atN a (0 + j)) (atN b (0 + j))) = subI a b := by
    unfold subI; congr 1; funext j; rw [Nat.zero_add]
  rw [he] at hrun0
  have hS := bPairs1 a b _ _ (H.length + 3) _ _ hab hl (hP .ready) hrun0
  cases hs : subI a b with
  | true =>
    rw [hs] at hS
    refine ⟨_, _, k, .ready, frs, by simpa using hS, by simp, ?_⟩
    simp [jumpA]
    exact fin1 (rs := [.cell 4 4]) (by rfl) (by simp [resA]) (by simp [noFs, noF])
  | false =>
    rw [hs] at hS
    refine ⟨_, _, k, .done .ret, frs, by simpa using hS, by simp, ?_⟩
    simp [jumpA]
    exact fin1 (rs := [.cell 4 4]) (by rfl) (by simp [resA]) (by simp [noFs, noF])
end Go.Proofs.YtgabeieooemfeaaGreatDoor.Arm

namespace Go.Proofs.YtgabeieooemfeaaGreatDoor.Arm
open Go.Arm Go.Pl

theorem pCandidates (T : Tp) (x : List I) (t h : Int) (H : AH) : Sound E 82 [tpA T, bx x, .agg [.int .i64 t, .int .i64 h]] H (.ret (.func (.func 107) [] [.ptr (H.length + 1) 1 0 0, .ptr H.length 1 0 0, .ptr (H.length + 2) 1 0 0]))
    (H ++ [.row true 3 [tpA T], .row true 1 [bx x], .row true 2 [.agg [.int .i64 t, .int .i64 h]]]) := by
  refine sound_of_awp tabOk mixed Tryz.func82 rfl (by rfl) Tryz.ntmps82 (by kernel_rfl) (by simp) ?_
  simp [bx, tpA]
  exact finK (rs := [.tmp 6]) (vs := [.func (.func 107) [] [.ptr (H.length + 1) 1 0 0, .ptr H.length 1 0 0, .ptr (H.length + 2) 1 0 0]]) (by rfl) (by simp [resA]) rfl
/-- What the iterator of candidates needs of the memory. -/
def CandM (T : Tp) (x : List I) (t h : Int) (cx cT cg : Nat) (M : AH) : Prop := (∃ w, M[cx]? = some (.row w 1 [bx x])) ∧ (∃ w, M[cT]? = some (.row w 3 [tpA T])) ∧ ∃ w, M[cg]? = some (.row w 2 [.agg [.int .i64 t, .int .i64 h]])
def candA (l : List (List I × List I)) : List (List AV) := l.map fun p => [bx p.1, bx p.2]
def LCd (T : Tp) (x : List I) (t h : Int) (cx cT cg bl : Nat) (H H1 : AH) (i : Nat) (fr : AFr) (H' : AH) : Prop :=
  fr 0 = .yld bl ∧ fr 1 = .ptr cx 1 0 0 ∧ fr 2 = .ptr cT 1 0 0 ∧ fr 3 = .ptr cg 1 0 0 ∧ fr 14 = .int .i64 i ∧ i ≤ 8 ∧
  ∃ b M J, fr 5 = bx b ∧ allV b ∧ b.length = x.length ∧ H' = M ++ J ∧ alters H M ∧ CandM T x t h cx cT cg M ∧ YRuns E bl (CandM T x t h cx cT cg) (candA (candP T x t h (8 - i) b)) M H1
theorem pCandidates1 (T : Tp) (x : List I) (t h : Int) (cx cT cg bl : Nat) (H H1 : AH) (hT : tpOk T) (hx : allV x) (hxn : x.length = T.n) (hh : 0 ≤ h ∧ h ≤ 1000000000) (ht : -1000000000 ≤ t ∧ t ≤ 1000000000) (hM : CandM T x t h cx cT cg H)
    (hY : YRuns E bl (CandM T x t h cx cT cg) (candA (candP T x t h 8 (hullB x (imageB T x x t h)))) H H1) :
    Sound E 107 [.yld bl, .ptr cx 1 0 0, .ptr cT 1 0 0, .ptr cg 1 0 0] H (.ret (.tuple [])) H1 := by
  refine sound_of_awp tabOk mixed Tryz.func107 rfl (by rfl) Tryz.ntmps107 (by kernel_rfl) (by simp) ?_
  have hsm := hT.small
  have hI := fun b hb hbn Hx => pImage T x b t h hT hx hb hxn hbn hh ht Hx
  have hZ : ∀ a b Hx, a.length ≤ b.length → a.length ≤ 1000000 → allV a → allV b → Sound E 108 [bx a, bx b, fnA 110] Hx (.ret (bx (hullB a b))) Hx := fun a b Hx h1 h2 h3 h4 =>
    pZip hull a b 110 [] [] h1 h2 Hx (by simp) (.inl rfl) (fun p hp q hq Hx _ => by simpa using iHull p q Hx)
  obtain ⟨⟨w1, m1⟩, ⟨w2, m2⟩, ⟨w3, m3⟩⟩ := hM
  have m1' := m1
  have m2' := m2
  simp only [bx] at m1
  simp only [tpA] at m2
  simp [m1, m2, m3]
  refine callD_ret0 (fun Hx => by simpa [tpA, bx] using hI x hx hxn Hx) ?_
  have hil := imageB_len (T := T) (x := x) (b := x) (t := t) (h := h)
  have hiv := imageB_valid (T := T) (x := x) (b := x) (t := t) (h := h) hx
  generalize imageB T x x t h = d0 at *
  simp
  refine callD_ret0 (fun Hx => by simpa [fnA, bx] using hZ x d0 Hx (by omega) (by omega) hx hiv) ?_
  simp
  refine endD [] (by rfl) (by simp [okW, note, Eff.triv, Eff.wr, Eff.none, upTo, newAt]) ?_
  simp
  refine loop_count (LCd T x t h cx cT cg bl H H1) (fun i => 8 - i) 0 ⟨by simp, by simp, by simp, by simp, by simp, by omega, hullB x d0, H, [], by simp [bx], hullB_valid hx hiv, by rw [hullB_len], by simp, .refl H, ⟨⟨w1, m1'⟩, ⟨w2, m2'⟩, ⟨w3, m3⟩⟩, hY⟩ ?_
  clear m1 m2 m1' m2' m3 hY hil hiv
  rintro i fr H' ⟨g0, g1, g2, g3, g14, hi, b, M, J, g5, hb, hbl, rfl, hal, hM, hY⟩
  simp [g14]
  refine branch (fun hc => ?_) (fun hc => ?_)
  · have hlt : i < 8 := by simp at hc; omega
    have w2 : IntKind.i64.wrap ((i : Int) + 1) = ((i + 1 : Nat) : Int) := by rw [wrap64 (by omega) (by omega)]; omega
    rw [show 8 - i = (8 - (i + 1)) + 1 by omega] at hY
    simp only [candP] at hY
    have hib := inflB_valid hb
    have hil := inflB_len b
    have hdv := imageB_valid (T := T) (x := x) (b := inflB b) (t := t) (h := h) hx
    have hdl := imageB_len (T := T) (x := x) (b := inflB b) (t := t) (h := h)
    obtain ⟨⟨w1, m1⟩, ⟨w2', m2⟩, ⟨w3, m3⟩⟩ := hM
    simp only [bx] at m1
    simp only [tpA] at m2
    simp [g5]
    refine call_ret (pBounded b (by omega) _) ?_
    simp
    refine branch (fun n1 => ?_) (fun n1 => ?_)
    · rw [if_pos (by simpa using n1)] at hY
      cases hY
      simp
      exact finY (by rfl) hal
    rw [if_neg (by simpa using n1)] at hY
    simp [g5]
    refine call_ret (pInflate b hb (by omega) _) ?_
    generalize inflB b = b1 at *
    simp
    refine call_ret (pBounded b1 (by omega) _) ?_
    simp
    refine branch (fun n2 => ?_) (fun n2 => ?_)
    · rw [if_pos (by simpa using n2)] at hY
      cases hY
      simp
      exact finY (by rfl) hal
    rw [if_neg (by simpa using n2)] at hY
    simp [g1, g2, g3, m1, m2, m3, get_old m1, get_old m2, get_old m3]
    refine call_ret (by simpa [tpA, bx] using hI b1 hib (by omega) _) ?_
    generalize imageB T x b1 t h = d at *
    simp
    refine call_ret (by simpa [bx] using pBounded d (by omega) _) ?_
    simp
    refine gateF (fun n3 => ?_) (fun n3 => ?_)
    · have n3' : ¬ boundedB d = false := by simpa using n3
      rw [if_neg n3'] at hY
      obtain ⟨go, M1, h1, h2, h3, h4, h5⟩ := YRuns.cases_cons (show YRuns E bl (CandM T x t h cx cT cg) ([bx b1, bx d] :: candA (candP T x t h (8 - (i + 1)) (hullB b1 d))) M H1 from hY)
      simp [n3, g0]
      refine call_yld (by simpa [bx] using h3 J) ?_
      simp [n3]
      refine branch (fun hg => ?_) (fun hg => ?_)
      · have hg : go = false := by simpa using hg
        have e := h4 hg
        subst e
        simp
        exact finY (by rfl) (hal.trans h1)
      · have hg : go = true := by simpa using hg
        simp
        refine call_ret (by simpa [fnA, bx] using hZ b1 d _ (by omega) (by omega) hib hdv) ?_
        simp [g14, w2]
        exact ⟨i + 1, by show 8 - (i + 1) < 8 - i; omega, by simp [g0], by simp [g1], by simp [g2], by simp [g3], by simp, by omega, hullB b1 d, M1, J, by simp [bx], hullB_valid hib hdv, by rw [hullB_len]; omega, rfl, hal.trans h1, h2, h5 hg⟩
    · have n3' : boundedB d = false := by simpa using n3
      rw [if_pos n3'] at hY
      cases hY
      simp [n3]
      exact finY (by rfl) hal
  · have hi' : i = 8 := by simp at hc; omega
    subst hi'
    cases hY
    simp
    exact finY (by rfl) hal
end Go.Proofs.YtgabeieooemfeaaGreatDoor.Arm

namespace Go.Proofs.YtgabeieooemfeaaGreatDoor.Arm
open Go.Arm Go.Pl

/-- The box found so far. -/
def fndA : Option (List I) → AV
  | some d => bx d
  | none => .nilslice
theorem pEnclose (T : Tp) (x : List I) (t h : Int) (hT : tpOk T) (hx : allV x) (hxn : x.length = T.n) (hn : 1 ≤ T.n) (hh : 0 ≤ h ∧ h ≤ 1000000000) (ht : -1000000000 ≤ t ∧ t ≤ 1000000000) (H : AH) :
    Sound E 67 [tpA T, bx x, .agg [.int .i64 t, .int .i64 h]] H (.ret (encA (enclS T x t h))) H := by
  refine sound_of_awp tabOk mixed Tryz.func67 rfl (by rfl) Tryz.ntmps67 (by kernel_rfl) (by simp) ?_
  have hsm := hT.small
  have henc : enclS T x t h = (candP T x t h 8 (hullB x (imageB T x x t h))).findSome? hitP := encS_cand T x t h 8 _
  have hcand := candP_ok (T := T) (t := t) (h := h) hx 8 (hullB x (imageB T x x t h)) (hullB_valid hx (imageB_valid hx)) (by rw [hullB_len])
  rw [henc]
  have hI1 := fun bl H1 M hM hY => pCandidates1 T x t h (H.length + 4) (H.length + 3) (H.length + 5) bl M H1 hT hx hxn hh ht hM hY
  generalize candP T x t h 8 (hullB x (imageB T x x t h)) = L at *
  simp [tpA]
  refine call_ret (by simpa [tpA] using pCandidates T x t h _) ?_
  simp
  refine range_it 9 (by rfl) (fun N hN => ?_)
  generalize hk : (LK.mk N _ _ _) = k at hN ⊢
  generalize hf : List.map _ (List.range 9) = frs
  have h4 : frs[8]? = some (.ptr (H.length + 2) 1 0 0) := by rw [← hf]; simp
  let MM : Option (List I) → LSt → AH := fun r st => H ++ [.row true 3 [tpA T], .row true 2 [.agg [.int .i64 t, .int .i64 h]], .row true 1 [fndA r], .row true 3 [tpA T], .row true 1 [bx x], .row true 2 [.agg [.int .i64 t, .int .i64 h]], .loop k st frs]
  have halt : ∀ r st, alters (MM none .ready) (MM r st) := fun r st => alters_of ⟨.same _, .same _, .inr (.inl (by cases r <;> simp [fndA, noFB, noFs, noF, bx, iv_noFs])), .same _, .same _, .same _, .loop, trivial⟩
  have hP : ∀ r st, CandM T x t h (H.length + 4) (H.length + 3) (H.length + 5) (MM r st) := fun r st => ⟨⟨true, by simp [MM]⟩, ⟨true, by simp [MM]⟩, ⟨true, by simp [MM]⟩⟩
  have hround : ∀ p ∈ L, ∀ (J : AH), YSound E (H.length + 6) [bx p.1, bx p.2] (MM none .ready ++ J) (.bool (!(subI p.2 p.1))) (MM (hitP p) (if subI p.2 p.1 then .done (.exit 0) else .ready) ++ J) := by
    intro p hp J
    obtain ⟨q1, q2, q3, q4⟩ := hcand p hp
    refine yield_sound tabOk mixed (k := k) (frs := frs) (by simp [MM]) (by rw [← hk]; rfl) hN ?_
    have ka := congrArg LK.assign hk
    have kb := congrArg LK.body hk
    have kp := congrArg LK.ps hk
    dsimp only at ka kb kp
    rw [← ka, ← kb, ← kp]
    clear ka kb kp hk hf hN
    simp [roundFr]
    rw [assignK_normal]
    refine ⟨by simp [MM], ?_⟩
    simp [MM]
    refine call_ret (bSubset p.2 p.1 (by omega) (by omega) _) ?_
    simp
    refine branch (fun hs => ?_) (fun hs => ?_)
    · simp [h4, hs, fndA, bx]
      rw [roundK_exit]
      refine ⟨by simp, rfl, ?_⟩
      have := Leaves.alters (J := J) (X := []) (halt (some p.2) (.done (.exit 0)))
      simpa [MM, hitP, hs, fndA, bx] using this
    · simp [hs]
      rw [roundK_normal]
      refine ⟨by simp, rfl, ?_⟩
      have := Leaves.alters (J := J) (X := []) (halt none .ready)
      simpa [MM, hitP, hs, fndA, bx] using this
  have hrun : ∀ l : List (List I × List I), (∀ p ∈ l, p ∈ L) → YRuns E (H.length + 6) (CandM T x t h (H.length + 4) (H.length + 3) (H.length + 5)) (candA l) (MM none .ready) (MM (l.findSome? hitP) (if (l.findSome? hitP).isSome then .done (.exit 0) else .ready)) := by
    intro l
    induction l with
    | nil => intro _; exact .nil _
    | cons p l ih =>
      intro hl
      have hr := hround p (hl p (by simp))
      rw [List.findSome?_cons]
      cases hs : subI p.2 p.1 with
      | true =>
        have e : hitP p = some p.2 := by simp [hitP, hs]
        rw [hs, e] at hr
        rw [e]
        exact .stop (halt _ _) (hP _ _) hr
      | false =>
        have e : hitP p = none := by simp [hitP, hs]
        rw [hs, e] at hr
        rw [e]
        exact .go (halt _ _) (hP _ _) hr (ih fun q hq => hl q (by simp [hq]))
  have hS := hI1 (H.length + 6) _ _ (hP none .ready) (hrun L fun p hp => hp)
  have hmem : ∀ d, L.findSome? hitP = some d → d ≠ [] := by
    intro d hd
    obtain ⟨p, hp, hpd⟩ := List.exists_of_findSome?_eq_some hd
    have := hcand p hp
    unfold hitP at hpd
    split at hpd
    · cases hpd
      intro h0
      have h1 := this.2.2.2
      rw [h0] at h1
      simp at h1; omega
    · cases hpd
  cases hr : L.findSome? hitP with
  | none =>
    rw [hr] at hS
    refine ⟨_, _, k, .ready, frs, by simpa [MM, fndA, tpA] using hS, by simp, ?_⟩
    simp [jumpA, binOpA, binA, eqA, nilI]
    refine endD [] (by rfl) (by simp [okW, note, Eff.triv, Eff.wr, Eff.none, upTo, newAt]) ?_
    simp
    exact ⟨[.nilslice, .bool false], [.nilslice, .bool false], by simp [show (Tryz.f67).results.toList = [.tmp 6, .tmp 7] from rfl, resA], .drop (by simp [noFs, noF]), rfl⟩
  | some d =>
    rw [hr] at hS
    refine ⟨_, _, k, .done (.exit 0), frs, by simpa [MM, fndA, tpA] using hS, by simp, ?_⟩
    have hd := hmem d hr
    obtain ⟨p, r, rfl⟩ : ∃ p r, d = p :: r := by cases d with
      | nil => exact absurd rfl hd
      | cons p r => exact ⟨p, r, rfl⟩
    simp [jumpA, bx, binOpA, binA, eqA, nilI]
    refine endD [] (by rfl) (by simp [okW, note, Eff.triv, Eff.wr, Eff.none, upTo, newAt]) ?_
    simp
    exact ⟨[bx (p :: r), .bool true], [bx (p :: r), .bool true], by simp [show (Tryz.f67).results.toList = [.tmp 6, .tmp 7] from rfl, resA, bx], .drop (by simp only [noFs, noF, bx, iv_noFs, Bool.and_self]), rfl⟩
end Go.Proofs.YtgabeieooemfeaaGreatDoor.Arm

namespace Go.Proofs.YtgabeieooemfeaaGreatDoor.Arm
open Go.Arm Go.Pl

/-- The zero segment. -/
def zsA : AV := .agg [.int .i64 0, .int .i64 0, .nilslice, .nilslice, .nilslice, .nilslice]
def sgO : Option Sg → AV
  | some s => .tuple [sgA s, .bool true]
  | none => .tuple [zsA, .bool false]
theorem kBounded (s : Sg) (h1 : s.to.length ≤ 1000000) (h2 : s.tube.length ≤ 1000000) (H : AH) : Sound E 70 [sgA s] H (.ret (sgO (if boundedB s.tube && boundedB s.to then some s else none))) H := by
  refine sound_of_awp tabOk mixed Tryz.func70 rfl (by rfl) Tryz.ntmps70 (by kernel_rfl) (by simp) ?_
  have hS := fun b Hx hl => sContainsFunc b 91 [] entB Hx hl (fun p _ => by simpa using iIsEntire p Hx)
  have e : ∀ b : List I, boundedB b = !(b.any entB) := fun b => by
    unfold boundedB
    rw [List.not_any_eq_all_not]
  simp only [e]
  obtain ⟨t, h, frm, pre, tube, to⟩ := s
  simp only at h1 h2 ⊢
  simp [sgA, bx]
  refine call_ret (by simpa [bx] using hS tube _ h2) ?_
  simp
  cases m1 : tube.any entB with
  | true =>
    simp
    exact ⟨[zsA, .bool false], [zsA, .bool false], by simp [show (Tryz.f70).results.toList = [.cell 2 43, .tmp 3] from rfl, resA, zsA], .drop (by simp [noFs, noF, zsA]), rfl⟩
  | false =>
    simp
    refine call_ret (by simpa [bx] using hS to _ h1) ?_
    simp
    cases m2 : to.any entB with
    | true =>
      simp
      exact ⟨[zsA, .bool false], [zsA, .bool false], by simp [show (Tryz.f70).results.toList = [.cell 2 43, .tmp 3] from rfl, resA, zsA], .drop (by simp [noFs, noF, zsA]), rfl⟩
    | false =>
      simp
      exact ⟨[sgA ⟨t, h, frm, pre, tube, to⟩, .bool true], [sgA ⟨t, h, frm, pre, tube, to⟩, .bool true], by simp [show (Tryz.f70).results.toList = [.cell 2 43, .tmp 3] from rfl, resA, sgA, bx], .drop (by simp only [noFs, noF, sgA, bx, iv_noFs, Bool.and_self]), rfl⟩
theorem kStep1 (T : Tp) (x b : List I) (t h lo hi : Int) (order : Nat) (c4 c5 c10 c6 c7 : Nat) (w4 w5 w10 w6 w7 : Bool) (hT : tpOk T) (hx : allV x) (hxn : x.length = T.n) (hb : allV b) (hbn : b.length = T.n) (hh : 0 ≤ h ∧ h ≤ 1000000000) (ht : -1000000000 ≤ t ∧ t ≤ 1000000000) (hp : vB (lo, hi) = true) (ho : 1 ≤ order ∧ order ≤ 900) (H : AH)
    (m4 : H[c4]? = some (.row w4 3 [tpA T])) (m5 : H[c5]? = some (.row w5 1 [bx x])) (m10 : H[c10]? = some (.row w10 1 [bx b])) (m6 : H[c6]? = some (.row w6 2 [.agg [.int .i64 t, .int .i64 h]])) (m7 : H[c7]? = some (.row w7 1 [.int .i64 order])) :
    Sound E 68 [.int .i64 lo, .int .i64 hi, .ptr c4 1 0 0, .ptr c5 1 0 0, .ptr c10 1 0 0, .ptr c6 1 0 0, .ptr c7 1 0 0] H (.ret (bx (enclAt T x b t h (lo, hi) order))) H := by
  refine sound_of_awp tabOk mixed Tryz.func68 rfl (by rfl) Tryz.ntmps68 (by kernel_rfl) (by simp) ?_
  have hS := kEnclosureAt T x b t h (lo, hi) order hT hx hxn hb hbn hh ht hp ho H
  generalize enclAt T x b t h (lo, hi) order = r at *
  simp only [tpA] at m4
  simp only [bx] at m5 m10
  simp [m4, m5, m6, m7, m10]
  refine call_ret (by simpa [tpA, bx] using hS) ?_
  simp
  exact fin0 (rs := [.tmp 9]) (by rfl) (by simp [resA, bx])
theorem restrB_valid {a b : List I} (ha : allV a) (hb : allV b) : allV (restrB a b) := rangeV fun i => restrI_valid (atN_valid ha i) (atN_valid hb i)
theorem restrB_len (a b : List I) : (restrB a b).length = a.length := by simp [restrB]
theorem enclAt_ok {T : Tp} {x b : List I} {t h : Int} {part : I} {order : Nat} (hT : tpOk T) (hx : allV x) (hb : allV b) (hh : 0 ≤ h ∧ h ≤ 1000000000) (ht : -1000000000 ≤ t ∧ t ≤ 1000000000) (hp : vB part = true) :
    allV (enclAt T x b t h part order) ∧ (enclAt T x b t h part order).length = T.n := by
  have htv : vB (t, t + h) = true := vB_pair (by omega) (by omega) (by omega)
  have htv2 : vB (t, t) = true := vB_pair (by omega) (by omega) (by omega)
  have hr := withRem_rows (coefS_rows (order := order) hT hx htv2) (remS_valid (order := order) hT hb htv)
  unfold enclAt
  refine ⟨restrB_valid (fun p hp => ?_) hb, by rw [restrB_len, evalS_len, withRem_len, coefS_len hT hx htv2]⟩
  obtain ⟨q, hq, rfl⟩ := List.mem_map.1 hp
  exact hornS_valid (hr q hq).2
theorem enclS_ok {T : Tp} {x d : List I} {t h : Int} (hx : allV x) (h0 : enclS T x t h = some d) : allV d ∧ d.length = x.length := by
  rw [show enclS T x t h = (candP T x t h 8 (hullB x (imageB T x x t h))).findSome? hitP from encS_cand T x t h 8 _] at h0
  obtain ⟨p, hp, hpd⟩ := List.exists_of_findSome?_eq_some h0
  have := candP_ok hx 8 _ (hullB_valid hx (imageB_valid hx)) (by rw [hullB_len]) p hp
  unfold hitP at hpd
  split at hpd
  · cases hpd; exact this.2.2
  · cases hpd
theorem kIntervalStep (T : Tp) (x : List I) (t h : Int) (order : Nat) (hT : tpOk T) (hx : allV x) (hxn : x.length = T.n) (hn : 1 ≤ T.n) (hh : 0 ≤ h ∧ h ≤ 1000000000) (ht : -1000000000 ≤ t ∧ t ≤ 1000000000) (ho : 1 ≤ order ∧ order ≤ 900) (H : AH) :
    Sound E 48 [tpA T, bx x, .agg [.int .i64 t, .int .i64 h], .int .i64 order] H (.ret (sgO (istepS T x t h order))) H := by
  refine sound_of_awp tabOk mixed Tryz.func48 rfl (by rfl) Tryz.ntmps48 (by kernel_rfl) (by simp) ?_
  have hsm := hT.small
  have hE := pEnclose T x t h hT hx hxn hn hh ht
  unfold istepS
  cases hr : enclS T x t h with
  | none =>
    rw [hr] at hE
    simp [tpA, bx]
    refine call_ret (by simpa [tpA, bx] using hE _) ?_
    simp [encA]
    exact ⟨[zsA, .bool false], [zsA, .bool false], by simp [show (Tryz.f48).results.toList = [.cell 8 43, .tmp 9] from rfl, resA, zsA], .drop (by simp [noFs, noF, zsA]), rfl⟩
  | some b =>
    rw [hr] at hE
    obtain ⟨hbv, hbl⟩ := enclS_ok hx hr
    have hp1 : vB (0, h) = true := vB_pair (by omega) (by omega) (by omega)
    have hp2 : vB (h, h) = true := vB_pair (by omega) (by omega) (by omega)
    have hS1 := fun lo hi hp c4 c5 c10 c6 c7 Hx m4 m5 m10 m6 m7 => kStep1 T x b t h lo hi order c4 c5 c10 c6 c7 true true true true true hT hx hxn hbv (by omega) hh ht hp ho Hx m4 m5 m10 m6 m7
    have k1 := enclAt_ok (order := order) hT hx hbv hh ht hp1
    have k2 := enclAt_ok (order := order) hT hx hbv hh ht hp2
    have hA := hS1 0 h hp1
    have hB := hS1 h h hp2
    have hK := kBounded ⟨t, h, x, b, enclAt T x b t h (0, h) order, enclAt T x b t h (h, h) order⟩ (by simp only; omega) (by simp only; omega)
    simp only at hK ⊢
    generalize (if (boundedB (enclAt T x b t h (0, h) order) && boundedB (enclAt T x b t h (h, h) order)) = true then some (Sg.mk t h x b (enclAt T x b t h (0, h) order) (enclAt T x b t h (h, h) order)) else none) = R at *
    generalize enclAt T x b t h (0, h) order = A at *
    generalize enclAt T x b t h (h, h) order = B at *
    simp [tpA, bx]
    refine call_ret (by simpa [tpA, bx] using hE _) ?_
    simp [encA, bx]
    refine callD_rdA (fun X => by simpa using hA _ _ _ _ _ _ (by simp [tpA]) (by simp [bx]) (by simp [bx]) (by simp) (by simp)) ?_
    simp
    refine callD_rdA (fun X => by simpa using hB _ _ _ _ _ _ (by simp [tpA]) (by simp [bx]) (by simp [bx]) (by simp) (by simp)) ?_
    simp [bx]
    refine callD_ret0 (fun Hx => by simpa [sgA, bx] using hK Hx) ?_
    cases R with
    | none =>
      simp [sgO, zsA]
      refine endD [(9, 20), (15, 20)] (by rfl) (by simp [okW, note, Eff.triv, Eff.wr, Eff.none, upTo, newAt]) ?_
      simp
      exact ⟨[zsA, .bool false], [zsA, .bool false], by simp [show (Tryz.f48).results.toList = [.cell 8 43, .tmp 9] from rfl, resA, zsA], .drop (by simp [noFs, noF, zsA]), rfl⟩
    | some s =>
      simp [sgO, sgA, bx]
      refine endD [(9, 20), (15, 20)] (by rfl) (by simp [okW, note, Eff.triv, Eff.wr, Eff.none, upTo, newAt]) ?_
      simp
      exact ⟨[sgA s, .bool true], [sgA s, .bool true], by simp [show (Tryz.f48).results.toList = [.cell 8 43, .tmp 9] from rfl, resA, sgA, bx], .drop (by simp only [noFs, noF, sgA, bx, iv_noFs, Bool.and_self]), rfl⟩
end Go.Proofs.YtgabeieooemfeaaGreatDoor.Arm

/- Iterators that change what they hold between two rounds. -/
namespace Go.Arm
open Go.RowKit

theorem noFB_mono {m m' : Nat} (hm : m ≤ m') {k : ABlk} (h : noFB m k = true) : noFB m' k = true := by
  cases k with
  | dead => rfl
  | row wr sz xs => simp only [noFB] at h ⊢; rw [noFs_iff] at h ⊢; exact fun x hx => noF_mono hm (h x hx)
  | map es =>
    simp only [noFB, List.all_eq_true, Bool.and_eq_true] at h ⊢
    exact fun e hx => ⟨noF_mono hm (h e hx).1, noF_mono hm (h e hx).2⟩
  | loop k st frs => simp only [noFB] at h ⊢; rw [noFs_iff] at h ⊢; exact fun x hx => noF_mono hm (h x hx)

theorem alters.set (H : AH) (b : Nat) {k : ABlk} (hk : noFB H.length k = true) : alters H (H.set b k) := by
  refine ⟨by simp, fun c => ?_⟩
  by_cases h : b = c
  · subst h
    by_cases hlt : b < H.length
    · exact .inr (.inl ⟨k, by simp [hlt], hk⟩)
    · left; rw [List.set_eq_of_length_le (by omega)]
  · left; rw [List.getElem?_set_ne h]

/-- The rounds of a loop; behind a round that says yes the iterator turns the memory by the function that goes with it. C: the blocks that the rounds leave alone. -/
inductive YTurns (E : Env) (b : Nat) (C : List Nat) : List (List AV × (AH → AH)) → AH → AH → Prop
  | nil (H : AH) : YTurns E b C [] H H
  | stop {a : List AV} {f : AH → AH} {r : List (List AV × (AH → AH))} {H H' : AH} (h1 : alters H H') (h2 : ∀ c ∈ C, H'[c]? = H[c]?) (h3 : ∀ J : AH, YSound E b a (H ++ J) (.bool false) (H' ++ J)) : YTurns E b C ((a, f) :: r) H H'
  | go {a : List AV} {f : AH → AH} {r : List (List AV × (AH → AH))} {H H1 H' : AH} (h1 : alters H H1) (h2 : ∀ c ∈ C, H1[c]? = H[c]?) (h3 : ∀ J : AH, YSound E b a (H ++ J) (.bool true) (H1 ++ J)) (h4 : YTurns E b C r (f H1) H') : YTurns E b C ((a, f) :: r) H H'

theorem YTurns.cases_cons {E : Env} {b : Nat} {C : List Nat} {a : List AV} {f : AH → AH} {r : List (List AV × (AH → AH))} {H H' : AH} (h : YTurns E b C ((a, f) :: r) H H') :
    ∃ (go : Bool) (H1 : AH), Arm.alters H H1 ∧ (∀ c ∈ C, H1[c]? = H[c]?) ∧ (∀ J : AH, YSound E b a (H ++ J) (.bool go) (H1 ++ J)) ∧ (go = false → H1 = H') ∧ (go = true → YTurns E b C r (f H1) H') := by
  cases h with
  | stop h1 h2 h3 => exact ⟨false, _, h1, h2, h3, fun _ => rfl, nofun⟩
  | go h1 h2 h3 h4 => exact ⟨true, _, h1, h2, h3, nofun, fun _ => h4⟩
end Go.Arm

/- Laws of the step's spec: the candidates. -/
namespace Go.Pl

theorem tdiv2 {h : Int} (h0 : 0 ≤ h) : h.tdiv 2 = h / 2 := Int.tdiv_eq_ediv_of_nonneg h0
theorem candS_fuel (c : Ct) (hl : 1 ≤ c.least) : ∀ (k : Nat) (h : Int) (n : Nat), 1 ≤ h → h.toNat ≤ k → h.toNat < n → candS c n h = candS c (h.toNat + 1) h
  | 0, h, n, h1, hk, hn => by omega
  | k + 1, h, n, h1, hk, hn => by
    obtain ⟨m, rfl⟩ : ∃ m, n = m + 1 := ⟨n - 1, by omega⟩
    simp only [candS]
    split
    · rfl
    · rename_i hd
      have e := tdiv2 (h := h) (by omega)
      have h2 : 1 ≤ h.tdiv 2 := by omega
      have h3 : (h.tdiv 2).toNat < h.toNat := by omega
      rw [candS_fuel c hl k (h.tdiv 2) m h2 (by omega) (by omega), candS_fuel c hl k (h.tdiv 2) h.toNat h2 (by omega) h3]
/-- The candidates behind the first. -/
theorem cands_cons {c : Ct} {h : Int} (hl : 1 ≤ c.least) (h1 : 1 ≤ h) : cands c h = h :: if h.tdiv 2 < c.least then [] else cands c (h.tdiv 2) := by
  unfold cands
  have : candS c (h.toNat + 1) h = h :: if h.tdiv 2 < c.least then [] else candS c h.toNat (h.tdiv 2) := rfl
  rw [this]
  split
  · rfl
  · have e := tdiv2 (h := h) (by omega)
    rw [candS_fuel c hl _ (h.tdiv 2) h.toNat (by omega) (Nat.le_refl _) (by omega)]
theorem cands_bound {c : Ct} (hl : 1 ≤ c.least) : ∀ (k : Nat) {h : Int}, 1 ≤ h → h.toNat ≤ k → ∀ g ∈ cands c h, 1 ≤ g ∧ g ≤ h
  | 0, h, h1, hk, g, hg => by omega
  | k + 1, h, h1, hk, g, hg => by
    rw [cands_cons hl h1] at hg
    rcases List.mem_cons.1 hg with rfl | hg
    · omega
    · split at hg
      · cases hg
      · have e := tdiv2 (h := h) (by omega)
        have := cands_bound hl k (h := h.tdiv 2) (by omega) (by omega) g hg
        omega
end Go.Pl

namespace Go.Proofs.YtgabeieooemfeaaGreatDoor.Arm
open Go.Arm Go.Pl

theorem cCandidates (c : Ct) (h : Int) (H : AH) : Sound E 47 [ctA c, .int .i64 h] H (.ret (.func (.func 66) [] [.ptr (H.length + 1) 1 0 0, .ptr H.length 1 0 0])) (H ++ [.row true 5 [ctA c], .row true 1 [.int .i64 h]]) := by
  refine sound_of_awp tabOk mixed Tryz.func47 rfl (by rfl) Tryz.ntmps47 (by kernel_rfl) (by simp) ?_
  simp [ctA]
  exact finK (rs := [.tmp 4]) (vs := [.func (.func 66) [] [.ptr (H.length + 1) 1 0 0, .ptr H.length 1 0 0]]) (by rfl) (by simp [resA]) rfl
/-- The rounds' arguments; the iterator's own cell turns behind each. -/
def turnA (c : Ct) (ch : Nat) (l : List Int) : List (List AV × (AH → AH)) := l.map fun h => ([.int .i64 h], fun M => M.set ch (.row true 1 [.int .i64 (shrinkS c h).1]))
def LCn (c : Ct) (ch cc bl : Nat) (H H1 : AH) (n : Nat) (fr : AFr) (H' : AH) : Prop :=
  fr 0 = .yld bl ∧ fr 1 = .ptr ch 1 0 0 ∧ fr 2 = .ptr cc 1 0 0 ∧ ∃ M J, H' = M ++ J ∧ alters H M ∧ (∃ w, M[cc]? = some (.row w 5 [ctA c])) ∧
  ((n = 0 ∧ (∃ e, fr 4 = .int .i64 e ∧ e ≠ 0) ∧ M = H1) ∨ ∃ h : Int, 1 ≤ h ∧ h ≤ 1000000000 ∧ n = h.toNat + 1 ∧ fr 4 = .int .i64 0 ∧ M[ch]? = some (.row true 1 [.int .i64 h]) ∧ YTurns E bl [ch, cc] (turnA c ch (cands c h)) M H1)
theorem cCandidates1 (c : Ct) (h : Int) (ch cc bl : Nat) (H H1 : AH) (hh : 1 ≤ h ∧ h ≤ 1000000000) (hl : 1 ≤ c.least) (hne : ch ≠ cc) (hc : ∃ w, H[cc]? = some (.row w 5 [ctA c])) (hm : H[ch]? = some (.row true 1 [.int .i64 h]))
    (hY : YTurns E bl [ch, cc] (turnA c ch (cands c h)) H H1) :
    Sound E 66 [.yld bl, .ptr ch 1 0 0, .ptr cc 1 0 0] H (.ret (.tuple [])) H1 := by
  refine sound_of_awp tabOk mixed Tryz.func66 rfl (by rfl) Tryz.ntmps66 (by kernel_rfl) (by simp) ?_
  simp
  refine loop_count (LCn c ch cc bl H H1) (fun n => n) (h.toNat + 1) ⟨by simp, by simp, by simp, H, [], by simp, .refl H, hc, .inr ⟨h, hh.1, hh.2, rfl, by simp, hm, hY⟩⟩ ?_
  clear hc hm hY hh
  clear h
  rintro n fr H' ⟨g0, g1, g2, M, J, rfl, hal, ⟨w, hc⟩, hst⟩
  rcases hst with ⟨rfl, ⟨e, g4, he⟩, rfl⟩ | ⟨h, h1, h2, rfl, g4, hm, hY⟩
  · have he2 : (e == 0) = false := by simpa using he
    simp [g4, he2]
    exact finY (by rfl) hal
  · have hml := (List.getElem?_eq_some_iff.1 hm).1
    rw [cands_cons hl h1] at hY
    obtain ⟨go, M1, a1, a2, a3, a4, a5⟩ := YTurns.cases_cons (show YTurns E bl [ch, cc] (([.int .i64 h], fun M => M.set ch (.row true 1 [.int .i64 (shrinkS c h).1])) :: turnA c ch (if h.tdiv 2 < c.least then [] else cands c (h.tdiv 2))) M H1 from hY)
    have b1 := a2 ch (by simp)
    have b2 := a2 cc (by simp)
    rw [hm] at b1
    rw [hc] at b2
    have hm1l := (List.getElem?_eq_some_iff.1 b1).1
    simp only [ctA] at b2
    simp [g0, g1, g4, hm, get_old hm]
    refine call_yld (by simpa using a3 J) ?_
    simp
    refine branch (fun hg => ?_) (fun hg => ?_)
    · simp [g1, g2, b1, b2, get_old b1, get_old b2]
      refine call_ret (by simpa [ctA] using cShrink c h (by omega) _) ?_
      simp [shA, g1, b1, get_old b1]
      have hY2 := a5 (by simpa using hg)
      have e2 := tdiv2 (h := h) (by omega)
      have hcc : (M1.set ch (.row true 1 [.int .i64 (shrinkS c h).1]))[cc]? = some (.row w 5 [ctA c]) := by rw [List.getElem?_set_ne hne]; simpa [ctA] using b2
      by_cases hs : h.tdiv 2 < c.least
      · rw [if_pos hs] at hY2
        cases hY2
        have hs2 : shrinkS c h = (0, 130) := by unfold shrinkS; rw [if_pos hs]
        exact ⟨0, by show 0 < h.toNat + 1; omega, by simp [g0], by simp [g1], by simp [g2], _, J, List.set_append_left _ _ hm1l, (hal.trans a1).trans (alters.set _ _ (by simp [noFB, noFs, noF])), ⟨w, hcc⟩, .inl ⟨rfl, ⟨130, by simp [hs2], by omega⟩, rfl⟩⟩
      · rw [if_neg hs] at hY2
        have hs2 : shrinkS c h = (h.tdiv 2, 0) := by unfold shrinkS; rw [if_neg hs]
        refine ⟨(h.tdiv 2).toNat + 1, by show (h.tdiv 2).toNat + 1 < h.toNat + 1; omega, by simp [g0], by simp [g1], by simp [g2], _, J, List.set_append_left _ _ hm1l, (hal.trans a1).trans (alters.set _ _ (by simp [noFB, noFs, noF])), ⟨w, hcc⟩, .inr ⟨h.tdiv 2, by omega, by omega, rfl, by simp [hs2], ?_, hY2⟩⟩
        rw [List.getElem?_set_self hm1l, hs2]
    · have e := a4 hg
      subst e
      simp
      exact finY (by rfl) (hal.trans a1)
end Go.Proofs.YtgabeieooemfeaaGreatDoor.Arm

namespace Go.Proofs.YtgabeieooemfeaaGreatDoor.Arm
open Go.Arm Go.Pl

/-- What a step hands out. -/
structure SgOk (T : Tp) (x : List I) (t h : Int) (s : Sg) : Prop where
  ht : s.t = t
  hh : s.h = h
  hx : s.frm = x
  vpre : allV s.pre
  npre : s.pre.length = T.n
  vtube : allV s.tube
  ntube : s.tube.length = T.n
  vto : allV s.to
  nto : s.to.length = T.n
theorem istepS_ok {T : Tp} {x : List I} {t h : Int} {order : Nat} {s : Sg} (hT : tpOk T) (hx : allV x) (hxn : x.length = T.n) (hh : 0 ≤ h ∧ h ≤ 1000000000) (ht : -1000000000 ≤ t ∧ t ≤ 1000000000) (hs : istepS T x t h order = some s) : SgOk T x t h s := by
  unfold istepS at hs
  cases hr : enclS T x t h with
  | none => rw [hr] at hs; cases hs
  | some b =>
    rw [hr] at hs
    obtain ⟨hbv, hbl⟩ := enclS_ok hx hr
    have k1 := enclAt_ok (part := (0, h)) (order := order) hT hx hbv hh ht (vB_pair (by omega) (by omega) (by omega))
    have k2 := enclAt_ok (part := (h, h)) (order := order) hT hx hbv hh ht (vB_pair (by omega) (by omega) (by omega))
    simp only at hs
    split at hs
    · cases hs
      exact ⟨rfl, rfl, rfl, hbv, by simp only; omega, k1.1, k1.2, k2.1, k2.2⟩
    · cases hs
theorem accS_ok {T : Tp} {x : List I} {c : Ct} {t h : Int} {s : Sg} (hT : tpOk T) (hx : allV x) (hxn : x.length = T.n) (hh : 0 ≤ h ∧ h ≤ 1000000000) (ht : -1000000000 ≤ t ∧ t ≤ 1000000000) (hs : accS T x c t h = some s) : SgOk T x t h s := by
  unfold accS at hs
  split at hs
  · rename_i s' h'
    split at hs
    · cases hs; exact istepS_ok hT hx hxn hh ht h'
    · cases hs
  · cases hs
def segC : Option Sg → AV
  | some s => sgA s
  | none => zsA
def nxC (w : Rq) : Option Sg → Int
  | some s => growS w.ctrl (if s.h = firstH w then w.h else s.h)
  | none => 0
structure rqOk (w : Rq) : Prop where
  order : 1 ≤ w.ctrl.order ∧ w.ctrl.order ≤ 900
  least : 1 ≤ w.ctrl.least
  t : -1000000000 ≤ w.t ∧ w.t ≤ 1000000000
  last : w.t < w.last ∧ w.last ≤ 1000000000
  h : 1 ≤ w.h ∧ w.h ≤ 1000000000
def advA (p : Sg × Int × Int) : AV := .tuple [sgA p.1, .int .i64 p.2.1, .int .i64 p.2.2]
def advZ : AV := .tuple [zsA, .int .i64 0, .int .i64 130]
/-- The result of a step request; a failure hands out the zero segment. -/
def advO (w : Rq) : Option Sg → AV
  | some s => advA (s, nxC w (some s), 0)
  | none => advZ
theorem cAdvance (T : Tp) (x : List I) (w : Rq) (hT : tpOk T) (hx : allV x) (hxn : x.length = T.n) (hn : 1 ≤ T.n) (hw : rqOk w) (H : AH) :
    Sound E 23 [tpA T, bx x, rqA w] H (.ret (advO w (advS T x w))) H := by
  refine sound_of_awp tabOk mixed Tryz.func23 rfl (by rfl) Tryz.ntmps23 (by kernel_rfl) (by simp) ?_
  have hsm := hT.small
  obtain ⟨wo, wl, wt, wlast, wh⟩ := hw
  have hf1 : 1 ≤ firstH w ∧ firstH w ≤ 1000000000 := by unfold firstH; omega
  have hfe : (if w.last - w.t < w.h then w.last - w.t else w.h) = firstH w := by unfold firstH; split <;> omega
  have wsub : IntKind.i64.wrap (w.last - w.t) = w.last - w.t := wrap64 (by omega) (by omega)
  have hor : ((w.ctrl.order.toNat : Nat) : Int) = w.ctrl.order := by omega
  have hst := fun (h : Int) (h1 : 1 ≤ h ∧ h ≤ firstH w) => kIntervalStep T x w.t h w.ctrl.order.toNat hT hx hxn hn (by omega) wt (by omega)
  have hok := fun (h : Int) (h1 : 1 ≤ h ∧ h ≤ firstH w) s (hs : istepS T x w.t h w.ctrl.order.toNat = some s) => istepS_ok hT hx hxn (by omega) wt hs
  have hcb := cands_bound wl (firstH w).toNat (h := firstH w) hf1.1 (Nat.le_refl _)
  simp [tpA, bx, rqA, wsub, hfe]
  refine call_ret (by simpa [ctA] using cCandidates w.ctrl (firstH w) _) ?_
  simp
  refine range_it 10 (by rfl) (fun N hN => ?_)
  generalize hk : (LK.mk N _ _ _) = k at hN ⊢
  generalize hf : List.map _ (List.range 10) = frs
  have q3 : frs[3]? = some (.ptr H.length 1 0 0) := by rw [← hf]; simp
  have q4 : frs[4]? = some (.ptr (H.length + 1) 1 0 0) := by rw [← hf]; simp
  have q5 : frs[5]? = some (.ptr (H.length + 2) 1 0 0) := by rw [← hf]; simp
  have q6 : frs[6]? = some (.ptr (H.length + 3) 1 0 0) := by rw [← hf]; simp
  have q7 : frs[7]? = some (.ptr (H.length + 4) 1 0 0) := by rw [← hf]; simp
  have q8 : frs[8]? = some (.ptr (H.length + 5) 1 0 0) := by rw [← hf]; simp
  have q9 : frs[9]? = some (.ptr (H.length + 6) 1 0 0) := by rw [← hf]; simp
  let MM : Int → Option Sg → LSt → AH := fun hv o st => H ++ [.row true 3 [tpA T], .row true 1 [bx x], .row true 8 [rqA w], .row true 6 [segC o], .row true 1 [.int .i64 (nxC w o)], .row true 1 [.int .i64 0], .row true 1 [.int .i64 (firstH w)], .row true 5 [ctA w.ctrl], .row true 1 [.int .i64 hv], .loop k st frs]
  have halt : ∀ hv o st, alters (MM hv none .ready) (MM hv o st) := fun hv o st => alters_of ⟨.same _, .same _, .same _, .inr (.inl (by cases o <;> simp [segC, zsA, sgA, noFB, noFs, noF, bx, iv_noFs])), .inr (.inl (by simp [noFB, noFs, noF])), .same _, .same _, .same _, .same _, .loop, trivial⟩
  have hC : ∀ hv o st, ∀ c ∈ [H.length + 8, H.length + 7], (MM hv o st)[c]? = (MM hv none .ready)[c]? := fun hv o st c hc => by
    simp at hc
    rcases hc with rfl | rfl <;> simp [MM]
  have hround : ∀ (hv h : Int), 1 ≤ h ∧ h ≤ firstH w → ∀ (J : AH), YSound E (H.length + 9) [.int .i64 h] (MM hv none .ready ++ J) (.bool (accS T x w.ctrl w.t h).isNone) (MM hv (accS T x w.ctrl w.t h) (if (accS T x w.ctrl w.t h).isSome then .done .ret else .ready) ++ J) := by
    intro hv h h1 J
    refine yield_sound tabOk mixed (k := k) (frs := frs) (by simp [MM]) (by rw [← hk]; rfl) hN ?_
    have ka := congrArg LK.assign hk
    have kb := congrArg LK.body hk
    have kp := congrArg LK.ps hk
    dsimp only at ka kb kp
    rw [← ka, ← kb, ← kp]
    clear ka kb kp hk hf hN
    have hS := hst h h1
    rw [hor] at hS
    cases hr : istepS T x w.t h w.ctrl.order.toNat with
    | none =>
      have hacc : accS T x w.ctrl w.t h = none := by unfold accS; rw [hr]
      rw [hacc]
      rw [hr] at hS
      simp [roundFr]
      rw [assignK_normal]
      refine ⟨by simp [MM], ?_⟩
      simp [MM, q3, q4, q5, tpA, bx, rqA]
      refine call_ret (by simpa [tpA, bx] using hS _) ?_
      simp [sgO, zsA]
      rw [roundK_normal]
      refine ⟨by simp, rfl, ?_⟩
      have := Leaves.alters (J := J) (X := [.row true 6 [zsA]]) (halt hv none .ready)
      simpa [MM, segC, zsA, tpA, bx, rqA, nxC] using this
    | some s =>
      have hso := hok h h1 s hr
      rw [hr] at hS
      have hA := cAccept w.ctrl s hso.vto hso.vtube (by rw [hso.nto]; omega) (by rw [hso.ntube]; omega)
      cases ha : (narrowB w.ctrl.wide s.to && narrowB w.ctrl.wide s.tube) with
      | false =>
        have hacc : accS T x w.ctrl w.t h = none := by unfold accS; rw [hr]; simp only [ha]; rfl
        rw [hacc]
        rw [ha] at hA
        simp [roundFr]
        rw [assignK_normal]
        refine ⟨by simp [MM], ?_⟩
        simp [MM, q3, q4, q5, tpA, bx, rqA]
        refine call_ret (by simpa [tpA, bx] using hS _) ?_
        simp [sgO, sgA, bx, q5]
        refine call_ret (by simpa [sgA, bx, ctA] using hA _) ?_
        simp
        rw [roundK_normal]
        refine ⟨by simp, rfl, ?_⟩
        have := Leaves.alters (J := J) (X := [.row true 6 [sgA s]]) (halt hv none .ready)
        simpa [MM, segC, sgA, zsA, tpA, bx, rqA, nxC, ctA] using this
      | true =>
        have hacc : accS T x w.ctrl w.t h = some s := by unfold accS; rw [hr]; simp only [ha]; rfl
        rw [hacc]
        rw [ha] at hA
        simp [roundFr]
        rw [assignK_normal]
        refine ⟨by simp [MM], ?_⟩
        simp [MM, q3, q4, q5, tpA, bx, rqA]
        refine call_ret (by simpa [tpA, bx] using hS _) ?_
        simp [sgO, sgA, bx, q5]
        refine call_ret (by simpa [sgA, bx, ctA] using hA _) ?_
        simp [q9]
        refine branch (fun he => ?_) (fun he => ?_)
        · have heP : h = firstH w := by simpa using he
          simp [q5, q6, q7, q8, heP]
          refine callD_ret0 (fun Hx => by simpa [ctA] using cGrow w.ctrl w.h (by omega) Hx) ?_
          simp [q5, q6, q7, q8]
          refine endD [] (by rfl) (by simp [okW, note, Eff.triv, Eff.wr, Eff.none, upTo, newAt]) ?_
          simp
          rw [roundK_ret]
          refine ⟨by simp, rfl, ?_⟩
          have := Leaves.alters (J := J) (X := [.row true 6 [sgA s]]) (halt hv (some s) (.done .ret))
          simpa [MM, segC, sgA, zsA, tpA, bx, rqA, nxC, hso.hh, heP, ctA] using this
        · have heP : h ≠ firstH w := by simpa using he
          simp [q5, q6, q7, q8, heP]
          refine callD_ret0 (fun Hx => by simpa [ctA] using cGrow w.ctrl h (by omega) Hx) ?_
          simp [q5, q6, q7, q8]
          refine endD [] (by rfl) (by simp [okW, note, Eff.triv, Eff.wr, Eff.none, upTo, newAt]) ?_
          simp
          rw [roundK_ret]
          refine ⟨by simp, rfl, ?_⟩
          have := Leaves.alters (J := J) (X := [.row true 6 [sgA s]]) (halt hv (some s) (.done .ret))
          simpa [MM, segC, sgA, zsA, tpA, bx, rqA, nxC, hso.hh, heP, ctA] using this
  have hrun : ∀ l : List Int, (∀ g ∈ l, 1 ≤ g ∧ g ≤ firstH w) → ∀ hv, ∃ hv', YTurns E (H.length + 9) [H.length + 8, H.length + 7] (turnA w.ctrl (H.length + 8) l) (MM hv none .ready) (MM hv' (l.findSome? (accS T x w.ctrl w.t)) (if (l.findSome? (accS T x w.ctrl w.t)).isSome then .done .ret else .ready)) := by
    intro l
    induction l with
    | nil => intro _ hv; exact ⟨hv, .nil _⟩
    | cons h l ih =>
      intro hl hv
      have hr := hround hv h (hl h (by simp))
      rw [List.findSome?_cons]
      cases hs : accS T x w.ctrl w.t h with
      | some s =>
        rw [hs] at hr
        exact ⟨hv, .stop (halt _ _ _) (hC _ _ _) hr⟩
      | none =>
        rw [hs] at hr
        obtain ⟨hv', hY⟩ := ih (fun g hg => hl g (by simp [hg])) (shrinkS w.ctrl h).1
        refine ⟨hv', .go (halt hv none .ready) (hC hv none .ready) hr ?_⟩
        have e : (MM hv none .ready).set (H.length + 8) (.row true 1 [.int .i64 (shrinkS w.ctrl h).1]) = MM (shrinkS w.ctrl h).1 none .ready := by simp [MM]
        dsimp only
        rw [e]; exact hY
  obtain ⟨hv', hY⟩ := hrun (cands w.ctrl (firstH w)) hcb (firstH w)
  have hS := cCandidates1 w.ctrl (firstH w) (H.length + 8) (H.length + 7) (H.length + 9) (MM (firstH w) none .ready) _ hf1 wl (by omega) ⟨true, by simp [MM]⟩ (by simp [MM]) hY
  have hadv : (cands w.ctrl (firstH w)).findSome? (accS T x w.ctrl w.t) = advS T x w := rfl
  rw [hadv] at hS
  cases hr : advS T x w with
  | none =>
    rw [hr] at hS
    refine ⟨_, _, k, .ready, frs, by simpa [MM, segC, nxC, zsA, tpA, bx, rqA, ctA] using hS, by simp, ?_⟩
    simp [jumpA]
    exact ⟨[zsA, .int .i64 0, .int .i64 130], [zsA, .int .i64 0, .int .i64 130], by simp [show (Tryz.f23).results.toList = [.cell 6 43, .cell 7 2, .cell 8 33] from rfl, resA, zsA], .drop (by simp [noFs, noF, zsA]), rfl⟩
  | some s =>
    rw [hr] at hS
    refine ⟨_, _, k, .done .ret, frs, by simpa [MM, segC, nxC, zsA, tpA, bx, rqA, ctA] using hS, by simp, ?_⟩
    simp [jumpA]
    exact ⟨[sgA s, .int .i64 (nxC w (some s)), .int .i64 0], [sgA s, .int .i64 (nxC w (some s)), .int .i64 0], by simp [show (Tryz.f23).results.toList = [.cell 6 43, .cell 7 2, .cell 8 33] from rfl, resA, sgA, bx, nxC], .drop (by simp only [noFs, noF, sgA, bx, iv_noFs, Bool.and_self]), rfl⟩
end Go.Proofs.YtgabeieooemfeaaGreatDoor.Arm

namespace Go.Proofs.YtgabeieooemfeaaGreatDoor.Arm
open Go.Arm Go.Pl

def oneT : Tp := ⟨1, [⟨1, 0, 0, (65536, 65536)⟩], [0]⟩
def sC : Ct := ⟨2, 32768, 1024, 65536, 20000⟩
def sN : Ct := ⟨2, 32768, 1024, 65536, 1000⟩
def sS1 : Sg := ⟨0, 16384, [(0, 0)], [(0, 16384)], [(0, 16384)], [(16384, 16384)]⟩
def sS2 : Sg := ⟨0, 5000, [(0, 0)], [(0, 5000)], [(0, 5000)], [(5000, 5000)]⟩
theorem oneT_eq : cmpT [.num (65536, 65536)] = oneT := by kernel_rfl
theorem sAdv1 : advS oneT [(0, 0)] ⟨sC, 0, 65536, 32768⟩ = some sS1 := by kernel_rfl
theorem sAdv2 : advS oneT [(0, 0)] ⟨sC, 0, 5000, 32768⟩ = some sS2 := by kernel_rfl
theorem sAdv3 : advS oneT [(0, 0)] ⟨sN, 0, 65536, 32768⟩ = none := by kernel_rfl
theorem oneT_ok : tpOk oneT := by
  refine ⟨fun i x hx => ?_, rfl, fun k hk => ?_, by simp [oneT]⟩
  · cases i with
    | zero => simp [oneT] at hx; subst hx; exact .inl ⟨rfl, vB_pair (by omega) (by omega) (by omega)⟩
    | succ i => simp [oneT] at hx
  · simp [oneT] at hk; subst hk; simp [oneT]
theorem zeroX : allV [(0, 0)] := fun p hp => by simp at hp; subst hp; exact vB_pair (by omega) (by omega) (by omega)
theorem sReq (c : Ct) (hc : c = sC ∨ c = sN) (l : Int) (hl : 0 < l ∧ l ≤ 1000000000) : rqOk ⟨c, 0, l, 32768⟩ := by
  rcases hc with rfl | rfl <;> exact ⟨by simp [sC, sN], by simp [sC, sN], by simp, by simp; omega, by simp⟩
theorem sAdv (c : Ct) (hc : c = sC ∨ c = sN) (l : Int) (hl : 0 < l ∧ l ≤ 1000000000) (o : Option Sg) (h : advS oneT [(0, 0)] ⟨c, 0, l, 32768⟩ = o) (H : AH) :
    Sound E 23 [tpA oneT, bx [(0, 0)], rqA ⟨c, 0, l, 32768⟩] H (.ret (advO ⟨c, 0, l, 32768⟩ o)) H := by
  subst h
  exact cAdvance oneT [(0, 0)] ⟨c, 0, l, 32768⟩ oneT_ok zeroX rfl (by simp [oneT]) (sReq c hc l hl) H
set_option maxHeartbeats 4000000 in
set_option maxRecDepth 100000 in
theorem lSanity (H : AH) : Sound E 9 [] H (.ret (.bool true)) H := by
  refine sound_of_awp tabOk mixed Tryz.func9 rfl (by rfl) Tryz.ntmps9 (by kernel_rfl) (by simp) ?_
  have h1 := sAdv sC (.inl rfl) 65536 (by omega) _ sAdv1
  have h2 := sAdv sC (.inl rfl) 5000 (by omega) _ sAdv2
  have h3 := sAdv sN (.inr rfl) 65536 (by omega) _ sAdv3
  have e1 : nxC ⟨sC, 0, 65536, 32768⟩ (some sS1) = 32768 := by kernel_rfl
  have e2 : nxC ⟨sC, 0, 5000, 32768⟩ (some sS2) = 65536 := by kernel_rfl
  simp only [advO, advA, e1] at h1
  simp only [advO, advA, e2] at h2
  have hp : pt 65536 = (65536, 65536) := by kernel_rfl
  have hp2 : pt 16384 = (16384, 16384) := by kernel_rfl
  have hC := r8Compile ⟨[⟨#[120]⟩], [.num (65536, 65536)]⟩ (by simp) (fun e he => by simp at he; subst he; simp [sz, ser])
  simp only [oneT_eq] at hC
  simp
  refine call_ret (rPoint 65536 _) ?_
  rw [hp]
  simp
  refine call_ret (by simpa using r7Const (65536, 65536) _) ?_
  simp [xs]
  refine call_conv0 (hC _) (by simp [sys, xs]; rfl) ?_
  simp [tpA, oneT, outA, insA]
  refine call_conv0 (h1 _) (by simp [tpA, oneT, outA, insA, bx, rqA, sC]; rfl) ?_
  simp [sgA, sS1, bx, tpA, oneT, outA, insA]
  refine call_conv0 (h2 _) (by simp [tpA, oneT, outA, insA, bx, rqA, sC]; rfl) ?_
  simp [sgA, sS2, bx, tpA, oneT, outA, insA]
  refine call_conv0 (h3 _) (by simp [tpA, oneT, outA, insA, bx, rqA, sN]; rfl) ?_
  simp [advO, advZ, zsA]
  have hs1 := cShrink sC 4096 (by omega)
  rw [show shrinkS sC 4096 = (2048, 0) by kernel_rfl] at hs1
  have hs2 := cShrink sC 2047 (by omega)
  rw [show shrinkS sC 2047 = (0, 130) by kernel_rfl] at hs2
  refine call_ret (by simpa [ctA, sC] using hs1 _) ?_
  simp [shA]
  refine call_ret (by simpa [ctA, sC] using hs2 _) ?_
  simp [shA]
  have v1 := cValid sC
  rw [show validC sC = true by kernel_rfl] at v1
  have v2 := cValid ⟨0, 0, 0, 0, 0⟩
  rw [show validC ⟨0, 0, 0, 0, 0⟩ = false by kernel_rfl] at v2
  have v3 := cValid ⟨8, 2, 1, 3, 1⟩
  rw [show validC ⟨8, 2, 1, 3, 1⟩ = false by kernel_rfl] at v3
  have g1 := cGrow sC 40000 (by omega)
  rw [show growS sC 40000 = 65536 by kernel_rfl] at g1
  have g2 := cGrow sC 3 (by omega)
  rw [show growS sC 3 = 6 by kernel_rfl] at g2
  have n1 := cInitial sC 100
  rw [show initS sC 100 = 100 by kernel_rfl] at n1
  have n2 := cInitial sC 40000
  rw [show initS sC 40000 = 32768 by kernel_rfl] at n2
  have aT : allV sS1.to ∧ allV sS1.tube := ⟨fun p hp => by simp [sS1] at hp; subst hp; exact vB_pair (by omega) (by omega) (by omega), fun p hp => by simp [sS1] at hp; subst hp; exact vB_pair (by omega) (by omega) (by omega)⟩
  have a1 := cAccept sC sS1 aT.1 aT.2 (by simp [sS1]) (by simp [sS1])
  rw [show (narrowB sC.wide sS1.to && narrowB sC.wide sS1.tube) = true by kernel_rfl] at a1
  have a2 := cAccept sN sS1 aT.1 aT.2 (by simp [sS1]) (by simp [sS1])
  rw [show (narrowB sN.wide sS1.to && narrowB sN.wide sS1.tube) = false by kernel_rfl] at a2
  have rp := rPoint 16384
  rw [hp2] at rp
  refine callD_ret0 (fun Hx => by simpa [ctA, sC] using v1 Hx) ?_
  simp
  refine callD_ret0 (fun Hx => by simpa [ctA] using v2 Hx) ?_
  simp
  refine callD_ret0 (fun Hx => by simpa [ctA] using v3 Hx) ?_
  simp [sgA, sS1, bx]
  refine callD_ret0 (fun Hx => rp Hx) ?_
  simp [iv]
  refine callD_ret0 (fun Hx => by simpa [ctA, sC] using g1 Hx) ?_
  simp
  refine callD_ret0 (fun Hx => by simpa [ctA, sC] using g2 Hx) ?_
  simp
  refine callD_ret0 (fun Hx => by simpa [ctA, sC] using n1 Hx) ?_
  simp
  refine callD_ret0 (fun Hx => by simpa [ctA, sC] using n2 Hx) ?_
  simp
  refine callD_ret0 (fun Hx => by simpa [ctA, sC, sgA, sS1, bx, iv] using a1 Hx) ?_
  simp
  refine callD_ret0 (fun Hx => by simpa [ctA, sN, sgA, sS1, bx, iv] using a2 Hx) ?_
  simp
  refine endD [] (by rfl) (by simp [okW, note, Eff.triv, Eff.wr, Eff.none, upTo, newAt]) ?_
  simp
  exact fin1 (rs := [.tmp 0]) (by rfl) (by simp [resA]) (by simp [noFs, noF])
end Go.Proofs.YtgabeieooemfeaaGreatDoor.Arm

namespace Go.Proofs.YtgabeieooemfeaaGreatDoor.Arm
open Go.Arm Go.Pl

/-- What a law of the chapter takes. -/
structure Pq where
  F : List (List Nd)
  b : List I
  w : Rq
  k : Int
structure PqOk (q : Pq) : Prop where
  hF : ∀ r ∈ q.F, r.length ≤ 200000000000000
  hF2 : q.F.length ≤ 200000000000000
  hb : q.b.length ≤ 200000000000000
  hk : 0 ≤ q.k ∧ q.k ≤ 255
def pqA (q : Pq) : AV := .agg [.slice (q.F.map xs) false, bx q.b, .int .i64 q.w.ctrl.order, .int .i64 q.w.ctrl.first, .int .i64 q.w.ctrl.least, .int .i64 q.w.ctrl.most, .int .i64 q.w.ctrl.wide, .int .i64 q.w.t, .int .i64 q.w.last, .int .i64 q.w.h, .int .u8 q.k]
def pqN (q : Pq) : Nat := (1 + q.k.tmod 3).toNat
def pqT (q : Pq) : Tp := cmpT (mds q.F 7 (pqN q) (pqN q))
def pqX (q : Pq) : List I := nrb q.b 4096 (pqN q)
theorem pqN_ok {q : Pq} (h : PqOk q) : (pqN q : Int) = 1 + q.k.tmod 3 ∧ 1 ≤ pqN q ∧ pqN q ≤ 3 := by
  have h1 := h.hk
  have h2 := Int.tmod_nonneg 3 h1.1
  have h3 := Int.tmod_lt_of_pos q.k (b := 3) (by decide)
  unfold pqN
  omega
theorem cmpT_ok {F : List Ex} (h : F.length ≤ 1000) (hw : ∀ e ∈ F, wf F.length e = true) (hz : (F.map sz).sum ≤ 100000) : tpOk (cmpT F) := by
  obtain ⟨h1, h2, h3, h4⟩ := cmpAll_ok (F := F) (s := ([], [])) hw (fun i x hx => by simp at hx) (fun k hk => by simp at hk)
  exact ⟨h1, by simpa [cmpT] using h3, h2, h, by simp at h4; show (cmpAll F ([], [])).1.length ≤ 100000; omega⟩
theorem sum_le {l : List Nat} {c : Nat} (h : ∀ x ∈ l, x ≤ c) : l.sum ≤ l.length * c := by
  induction l with
  | nil => simp
  | cons a l ih =>
    have h1 := ih fun x hx => h x (by simp [hx])
    have h2 := h a (by simp)
    simp only [List.sum_cons, List.length_cons]
    rw [Nat.add_mul]; omega
theorem mds_all {l : List (List Nd)} {most N i : Nat} (hN : 0 < N) : ∀ e ∈ mds l most N i, sz e ≤ 31 ∧ wf N e = true := fun e he => by
  obtain ⟨k, _, rfl⟩ := List.mem_map.1 he
  exact ⟨mde_sz N _ most, mde_wf hN _ _⟩
theorem pqT_ok {q : Pq} (h : PqOk q) : tpOk (pqT q) ∧ (pqT q).n = pqN q := by
  obtain ⟨h1, h2, h3⟩ := pqN_ok h
  have hl := mds_len q.F 7 (pqN q) (pqN q)
  have ha := mds_all (l := q.F) (most := 7) (i := pqN q) (N := pqN q) (by omega)
  have hs := sum_le (l := (mds q.F 7 (pqN q) (pqN q)).map sz) (c := 31) (fun x hx => by obtain ⟨e, he, rfl⟩ := List.mem_map.1 hx; exact (ha e he).1)
  rw [List.length_map, hl] at hs
  refine ⟨cmpT_ok (by rw [hl]; omega) (fun e he => by rw [hl]; exact (ha e he).2) (by omega), hl⟩
theorem pqX_ok {q : Pq} (h : PqOk q) : allV (pqX q) ∧ (pqX q).length = (pqT q).n := ⟨nrb_valid _ (by omega) _, by rw [(pqT_ok h).2]; exact nrb_len _ _ _⟩
theorem reqS_rq (w : Rq) : rqOk (reqS w) := by
  have h1 := reqS_ok w
  have h2 := madeC_ok w.ctrl
  have h3 : (reqS w).ctrl = madeC w.ctrl := rfl
  have h4 : 1 ≤ (madeC w.ctrl).order := by have := of_decide_eq_true h2.1; omega
  exact ⟨by rw [h3]; omega, by rw [h3]; omega, by omega, by omega, by omega⟩
set_option maxHeartbeats 2000000 in
theorem lProblem (q : Pq) (hq : PqOk q) (H : AH) : Sound E 15 [pqA q] H (.ret (.tuple [tpA (pqT q), bx (pqX q), rqA (reqS q.w)])) H := by
  refine sound_of_awp tabOk mixed Tryz.func15 rfl (by rfl) Tryz.ntmps15 (by kernel_rfl) (by simp) ?_
  obtain ⟨hN, hN0, hN3⟩ := pqN_ok hq
  have hl := mds_len q.F 7 (pqN q) (pqN q)
  have ha := mds_all (l := q.F) (most := 7) (i := pqN q) (N := pqN q) (by omega)
  have wk : IntKind.i64.wrap q.k = q.k := wrap64 (by have := hq.hk; omega) (by have := hq.hk; omega)
  have w0 : IntKind.i64.wrap (q.k.tmod 3) = q.k.tmod 3 := wrap64 (by omega) (by omega)
  have w1 : IntKind.i64.wrap (1 + q.k.tmod 3) = (pqN q : Int) := by rw [← hN]; exact wrap64 (by omega) (by omega)
  have hC := r8Compile ⟨nms.take (pqN q), mds q.F 7 (pqN q) (pqN q)⟩ (by show 0 < (mds q.F 7 (pqN q) (pqN q)).length ∧ _; rw [hl]; omega) (fun e he => (ha e he).1)
  have hC' : ∀ Hx, Sound E 32 [sys ⟨nms.take (pqN q), mds q.F 7 (pqN q) (pqN q)⟩] Hx (.ret (tpA (pqT q))) Hx := hC
  generalize pqT q = T at hC' ⊢
  generalize hR : reqS q.w = R
  have hR' : ∀ Hx, Sound E 39 [rqA q.w] Hx (.ret (rqA R)) Hx := fun Hx => hR ▸ r13Request q.w Hx
  simp [pqA, wk, w0, w1]
  refine callD_ret0 (fun Hx => r7MadeSystem q.F 7 (pqN q) ⟨by omega, by omega⟩ (by decide) hq.hF hq.hF2 Hx) ?_
  simp
  refine callD_ret0 (fun Hx => hC' Hx) ?_
  simp
  refine callD_ret0 (fun Hx => r8Boxes q.b (pqN q) 4096 (by omega) (by omega) hq.hb Hx) ?_
  simp
  refine callD_ret0 (fun Hx => by simpa [rqA] using hR' Hx) ?_
  simp [tpA, rqA, outA, bx]
  refine endD [] (by rfl) (by simp [okW, note, Eff.triv, Eff.wr, Eff.none, upTo, newAt]) ?_
  simp
  exact ⟨[.agg [.int .i64 T.n, .slice (T.L.map insA) false, .slice (T.out.map fun k : Nat => .int .i64 k) false], .slice ((pqX q).map iv) false, .agg [.int .i64 R.ctrl.order, .int .i64 R.ctrl.first, .int .i64 R.ctrl.least, .int .i64 R.ctrl.most, .int .i64 R.ctrl.wide, .int .i64 R.t, .int .i64 R.last, .int .i64 R.h]], _, by simp [show (Tryz.f15).results.toList = [.cell 2 39, .tmp 3, .cell 4 27] from rfl, resA, pqX], .drop (by simp [noFs, noF, ins_noFs, iv_noFs, noFs_iff]), rfl⟩
theorem lZero (H : AH) : Sound E 26 [zsA] H (.ret (.bool true)) H := by
  refine sound_of_awp tabOk mixed Tryz.func26 rfl (by rfl) Tryz.ntmps26 (by kernel_rfl) (by simp) ?_
  have w0 : IntKind.i64.wrap 0 = 0 := wrap64 (by omega) (by omega)
  simp [zsA]
  exact fin1 (rs := [.tmp 2]) (by rfl) (by simp [resA, w0]) (by simp [noFs, noF])
end Go.Proofs.YtgabeieooemfeaaGreatDoor.Arm

/- The arguments of a law as plain data. -/
namespace Go.Arm

theorem list_of {α : Type} {f : α → AV} {p : α → Prop} : ∀ {xs : List AV}, (∀ x ∈ xs, ∃ a, x = f a ∧ p a) → ∃ l : List α, xs = l.map f ∧ ∀ a ∈ l, p a
  | [], h => ⟨[], rfl, fun a ha => by cases ha⟩
  | x :: r, h => by
    obtain ⟨a, rfl, ha⟩ := h x (by simp)
    obtain ⟨l, rfl, hl⟩ := list_of (xs := r) (fun y hy => h y (by simp [hy]))
    exact ⟨a :: l, rfl, fun b hb => by
      rcases List.mem_cons.1 hb with rfl | hb
      · exact ha
      · exact hl b hb⟩
theorem okL_cons {ok : TypeId → AV → Prop} {f : TypeId × Nat} {fs : List (TypeId × Nat)} {vs : List AV} (h : OkL ok (f :: fs) vs) : ∃ v vs', vs = v :: vs' ∧ ok f.1 v ∧ OkL ok fs vs' := by
  cases vs with
  | nil => exact h.elim
  | cons v vs' => exact ⟨v, vs', rfl, h.1, h.2⟩
theorem okL_nil {ok : TypeId → AV → Prop} {vs : List AV} (h : OkL ok [] vs) : vs = [] := by
  cases vs with
  | nil => rfl
  | cons v vs' => exact h.elim
section
variable {tab : Tab}
theorem okBool {n : Nat} {t : TypeId} {i : TI} {v : AV} (hi : tab t = some i) (hd : i.d = .bool) (h : OkA tab (n + 1) t v) : ∃ x, v = .bool x := by
  unfold OkA at h
  rw [hi] at h
  simp only [hd] at h
  exact h
theorem okInt {n : Nat} {t : TypeId} {i : TI} {k : IntKind} {v : AV} (hi : tab t = some i) (hd : i.d = .int k) (h : OkA tab (n + 1) t v) : ∃ x, v = .int k x ∧ (Lit.int k x).wf = true := by
  unfold OkA at h
  rw [hi] at h
  simp only [hd] at h
  exact h
theorem okStr {n : Nat} {t : TypeId} {i : TI} {v : AV} (hi : tab t = some i) (hd : i.d = .str) (h : OkA tab (n + 1) t v) : ∃ s, v = .str s ∧ s.size ≤ maxLen := by
  unfold OkA at h
  rw [hi] at h
  simp only [hd] at h
  exact h
theorem okSlice {n : Nat} {t e : TypeId} {i ie : TI} {v : AV} (hi : tab t = some i) (hd : i.d = .slice e) (he : tab e = some ie) (h : OkA tab (n + 1) t v) : ∃ xs, v = .slice xs false ∧ (∀ x ∈ xs, OkA tab n e x) ∧ xs.length * ie.bytes ≤ reachBytes ∧ xs.length ≤ maxLen := by
  unfold OkA at h
  rw [hi] at h
  simp only [hd] at h
  obtain ⟨xs, h1, h2, h3, h4⟩ := h
  exact ⟨xs, h1, h2, h3 ie he, h4⟩
theorem okStruct {n : Nat} {t : TypeId} {i : TI} {fs : List (TypeId × Nat)} {v : AV} (hi : tab t = some i) (hd : i.d = .struct fs) (h : OkA tab (n + 1) t v) : ∃ vs : List AV, v = .agg (vs.flatMap AV.cells) ∧ OkL (OkA tab n) fs vs := by
  unfold OkA at h
  rw [hi] at h
  simp only [hd] at h
  exact h
theorem okArr {n m : Nat} {t e : TypeId} {i : TI} {v : AV} (hi : tab t = some i) (hd : i.d = .arr m e) (h : OkA tab (n + 1) t v) : ∃ vs : List AV, vs.length = m ∧ v = .agg (vs.flatMap AV.cells) ∧ ∀ x ∈ vs, OkA tab n e x := by
  unfold OkA at h
  rw [hi] at h
  simp only [hd] at h
  exact h
/-- A slice whose elements are told by f. -/
theorem okRow {α : Type} {f : α → AV} {p : α → Prop} {n : Nat} {t e : TypeId} {i ie : TI} {v : AV} (hi : tab t = some i) (hd : i.d = .slice e) (he : tab e = some ie) (hb : 0 < ie.bytes) (hf : ∀ x, OkA tab n e x → ∃ a, x = f a ∧ p a) (h : OkA tab (n + 1) t v) :
    ∃ l : List α, v = .slice (l.map f) false ∧ (∀ a ∈ l, p a) ∧ l.length ≤ 140737488351232 := by
  obtain ⟨xs, rfl, h1, h2, h3⟩ := okSlice hi hd he h
  obtain ⟨l, rfl, hl⟩ := list_of (f := f) (p := p) (fun x hx => hf x (h1 x hx))
  refine ⟨l, rfl, hl, ?_⟩
  have e : reachBytes = 140737488351232 := rfl
  rw [e, List.length_map] at h2
  exact Nat.le_trans (Nat.le_mul_of_pos_right _ hb) h2
end
theorem okArgs1 {T : Tab} {m : Nat} {a : TypeId} {av : List AV} (h : OkArgs T m [a] av) : ∃ x, av = [x] ∧ OkA T m a x := by
  match av, h with
  | [x], h => exact ⟨x, rfl, h.1⟩
theorem okArgs2 {T : Tab} {m : Nat} {a b : TypeId} {av : List AV} (h : OkArgs T m [a, b] av) : ∃ x y, av = [x, y] ∧ OkA T m a x ∧ OkA T m b y := by
  match av, h with
  | [x, y], h => exact ⟨x, y, rfl, h.1, h.2.1⟩
theorem okArgs3 {T : Tab} {m : Nat} {a b c : TypeId} {av : List AV} (h : OkArgs T m [a, b, c] av) : ∃ x y z, av = [x, y, z] ∧ OkA T m a x ∧ OkA T m b y ∧ OkA T m c z := by
  match av, h with
  | [x, y, z], h => exact ⟨x, y, z, rfl, h.1, h.2.1, h.2.2.1⟩
theorem okArgs4 {T : Tab} {m : Nat} {a b c d : TypeId} {av : List AV} (h : OkArgs T m [a, b, c, d] av) : ∃ x y z u, av = [x, y, z, u] ∧ OkA T m a x ∧ OkA T m b y ∧ OkA T m c z ∧ OkA T m d u := by
  match av, h with
  | [x, y, z, u], h => exact ⟨x, y, z, u, rfl, h.1, h.2.1, h.2.2.1, h.2.2.2.1⟩
/-- Bounds of whole numbers. -/
theorem wfI {k : IntKind} {x : Int} (h : (Lit.int k x).wf = true) : k.min ≤ x ∧ x ≤ k.max := by
  simp [Lit.wf] at h
  exact h
theorem wfU8 {x : Int} (h : (Lit.int .u8 x).wf = true) : 0 ≤ x ∧ x ≤ 255 := by have := wfI h; simp [IntKind.min, IntKind.max, IntKind.signed, IntKind.bits] at this; exact this
theorem wfU16 {x : Int} (h : (Lit.int .u16 x).wf = true) : 0 ≤ x ∧ x ≤ 65535 := by have := wfI h; simp [IntKind.min, IntKind.max, IntKind.signed, IntKind.bits] at this; exact this
theorem wfI8 {x : Int} (h : (Lit.int .i8 x).wf = true) : -128 ≤ x ∧ x ≤ 127 := by have := wfI h; simp [IntKind.min, IntKind.max, IntKind.signed, IntKind.bits] at this; exact this
theorem wfI32 {x : Int} (h : (Lit.int .i32 x).wf = true) : -2147483648 ≤ x ∧ x ≤ 2147483647 := by have := wfI h; simp [IntKind.min, IntKind.max, IntKind.signed, IntKind.bits] at this; exact this
theorem wfI64 {x : Int} (h : (Lit.int .i64 x).wf = true) : -9223372036854775808 ≤ x ∧ x ≤ 9223372036854775807 := by have := wfI h; simp [IntKind.min, IntKind.max, IntKind.signed, IntKind.bits] at this; exact this
end Go.Arm

namespace Go.Proofs.YtgabeieooemfeaaGreatDoor.Arm
open Go.Arm Go.Pl

theorem okIv {n : Nat} {v : AV} (h : OkA tab (n + 2) 59 v) : ∃ p : I, v = iv p ∧ True := by
  obtain ⟨vs, rfl, hv⟩ := okStruct tab59 rfl h
  obtain ⟨a, vs, rfl, ha, hv⟩ := okL_cons hv
  obtain ⟨b, vs, rfl, hb, hv⟩ := okL_cons hv
  cases okL_nil hv
  obtain ⟨x, rfl, hx⟩ := okInt tab2 rfl ha
  obtain ⟨y, rfl, hy⟩ := okInt tab2 rfl hb
  exact ⟨(x, y), rfl, trivial⟩
theorem okNd {n : Nat} {v : AV} (h : OkA tab (n + 3) 91 v) : ∃ p : Nd, v = nd p ∧ True := by
  obtain ⟨vs, rfl, hv⟩ := okStruct tab91 rfl h
  obtain ⟨a, vs, rfl, ha, hv⟩ := okL_cons hv
  obtain ⟨b, vs, rfl, hb, hv⟩ := okL_cons hv
  obtain ⟨c, vs, rfl, hc, hv⟩ := okL_cons hv
  cases okL_nil hv
  obtain ⟨x, rfl, hx⟩ := okInt tab3 rfl ha
  obtain ⟨y, rfl, hy⟩ := okInt tab3 rfl hb
  obtain ⟨p, rfl, -⟩ := okIv hc
  exact ⟨⟨x, y, p⟩, rfl, trivial⟩
theorem okXs {n : Nat} {v : AV} (h : OkA tab (n + 4) 66 v) : ∃ l : List Nd, v = xs l ∧ l.length ≤ 140737488351232 := by
  obtain ⟨l, rfl, _, hl⟩ := okRow (f := nd) tab66 rfl tab91 (by decide) (fun x hx => okNd hx) h
  exact ⟨l, rfl, hl⟩
theorem okBx {n : Nat} {v : AV} (h : OkA tab (n + 3) 25 v) : ∃ l : List I, v = bx l ∧ l.length ≤ 140737488351232 := by
  obtain ⟨l, rfl, _, hl⟩ := okRow (f := iv) tab25 rfl tab59 (by decide) (fun x hx => okIv hx) h
  exact ⟨l, rfl, hl⟩
theorem okXss {n : Nat} {v : AV} (h : OkA tab (n + 5) 24 v) : ∃ l : List (List Nd), v = .slice (l.map xs) false ∧ (∀ r ∈ l, r.length ≤ 140737488351232) ∧ l.length ≤ 140737488351232 := by
  obtain ⟨l, rfl, hr, hl⟩ := okRow (f := xs) tab24 rfl tab66 (by decide) (fun x hx => okXs hx) h
  exact ⟨l, rfl, hr, hl⟩
theorem okCt {n : Nat} {v : AV} (h : OkA tab (n + 2) 23 v) : ∃ c : Ct, v = ctA c ∧ True := by
  obtain ⟨vs, rfl, hv⟩ := okStruct tab23 rfl h
  obtain ⟨a, vs, rfl, ha, hv⟩ := okL_cons hv
  obtain ⟨b, vs, rfl, hb, hv⟩ := okL_cons hv
  obtain ⟨c, vs, rfl, hc, hv⟩ := okL_cons hv
  obtain ⟨d, vs, rfl, hd, hv⟩ := okL_cons hv
  obtain ⟨e, vs, rfl, he, hv⟩ := okL_cons hv
  cases okL_nil hv
  obtain ⟨x1, rfl, -⟩ := okInt tab3 rfl ha
  obtain ⟨x2, rfl, -⟩ := okInt tab2 rfl hb
  obtain ⟨x3, rfl, -⟩ := okInt tab2 rfl hc
  obtain ⟨x4, rfl, -⟩ := okInt tab2 rfl hd
  obtain ⟨x5, rfl, -⟩ := okInt tab2 rfl he
  exact ⟨⟨x1, x2, x3, x4, x5⟩, rfl, trivial⟩
theorem okRq {n : Nat} {v : AV} (h : OkA tab (n + 3) 27 v) : ∃ c : Rq, v = rqA c ∧ True := by
  obtain ⟨vs, rfl, hv⟩ := okStruct tab27 rfl h
  obtain ⟨a, vs, rfl, ha, hv⟩ := okL_cons hv
  obtain ⟨b, vs, rfl, hb, hv⟩ := okL_cons hv
  obtain ⟨c, vs, rfl, hc, hv⟩ := okL_cons hv
  obtain ⟨d, vs, rfl, hd, hv⟩ := okL_cons hv
  cases okL_nil hv
  obtain ⟨x1, rfl, -⟩ := okCt ha
  obtain ⟨x3, rfl, -⟩ := okInt tab2 rfl hb
  obtain ⟨x4, rfl, -⟩ := okInt tab2 rfl hc
  obtain ⟨x5, rfl, -⟩ := okInt tab2 rfl hd
  exact ⟨⟨x1, x3, x4, x5⟩, rfl, trivial⟩
theorem okPq {n : Nat} {v : AV} (h : OkA tab (n + 7) 29 v) : ∃ q, v = pqA q ∧ PqOk q := by
  obtain ⟨vs, rfl, hv⟩ := okStruct tab29 rfl h
  obtain ⟨a, vs, rfl, ha, hv⟩ := okL_cons hv
  obtain ⟨b, vs, rfl, hb, hv⟩ := okL_cons hv
  obtain ⟨c, vs, rfl, hc, hv⟩ := okL_cons hv
  obtain ⟨d, vs, rfl, hd, hv⟩ := okL_cons hv
  cases okL_nil hv
  obtain ⟨F, rfl, h1, h2⟩ := okXss ha
  obtain ⟨x, rfl, h4⟩ := okBx hb
  obtain ⟨w, rfl, -⟩ := okRq hc
  obtain ⟨k, rfl, hk⟩ := okInt tab5 rfl hd
  exact ⟨⟨F, x, w, k⟩, rfl, ⟨fun r hr => by have := h1 r hr; omega, by show F.length ≤ _; omega, by show x.length ≤ _; omega, wfU8 hk⟩⟩
end Go.Proofs.YtgabeieooemfeaaGreatDoor.Arm

namespace Go.Proofs.YtgabeieooemfeaaGreatDoor.Arm
open Go.Arm Go.Pl Go.ChangeShapes Go.WideShapes Go.ChangeAt Go.RowKit

theorem own : ownKnob Tryz.prog.godebug = none := by kernel_rfl
theorem laidOut : laidOutB Tryz.prog = true := by kernel_rfl
def laidL : List (String × DataW Unit) := [("armillary/interval.products", Rows.laid_armillary_interval_products), ("armillary/interval.quotients", Rows.laid_armillary_interval_quotients), ("armillary/tape.ops", Rows.laid_armillary_tape_ops)]
/-- The door's own heap meets the condition. -/
theorem door_met (os : Os) (args : Array Value) : laidMetH Tryz.prog laidL ((World.doorLaid Tryz.prog 600 os).forCall (fun _ _ => 0) ⟨#[], args, []⟩).memory :=
  laidMetH_of_parts3 (fuel := 12) (laidMet_of_run' 8 (by kernel_rfl) (by kernel_rfl)) (by kernel_rfl) (by kernel_rfl)
def fnames : List (List UInt8 × FuncId) := [([97, 114, 109, 105, 108, 108, 97, 114, 121, 47, 105, 110, 116, 101, 114, 118, 97, 108, 46, 104, 104], 181), ([97, 114, 109, 105, 108, 108, 97, 114, 121, 47, 105, 110, 116, 101, 114, 118, 97, 108, 46, 108, 108], 182), ([97, 114, 109, 105, 108, 108, 97, 114, 121, 47, 105, 110, 116, 101, 114, 118, 97, 108, 46, 108, 104], 183), ([97, 114, 109, 105, 108, 108, 97, 114, 121, 47, 105, 110, 116, 101, 114, 118, 97, 108, 46, 104, 108], 184), ([97, 114, 109, 105, 108, 108, 97, 114, 121, 47, 105, 110, 116, 101, 114, 118, 97, 108, 46, 78, 101, 103], 137), ([97, 114, 109, 105, 108, 108, 97, 114, 121, 47, 105, 110, 116, 101, 114, 118, 97, 108, 46, 83, 113, 117, 97, 114, 101], 139), ([97, 114, 109, 105, 108, 108, 97, 114, 121, 47, 116, 97, 112, 101, 46, 114, 111, 111, 116], 185), ([97, 114, 109, 105, 108, 108, 97, 114, 121, 47, 105, 110, 116, 101, 114, 118, 97, 108, 46, 65, 100, 100], 127), ([97, 114, 109, 105, 108, 108, 97, 114, 121, 47, 105, 110, 116, 101, 114, 118, 97, 108, 46, 83, 117, 98], 138), ([97, 114, 109, 105, 108, 108, 97, 114, 121, 47, 105, 110, 116, 101, 114, 118, 97, 108, 46, 77, 117, 108], 126), ([97, 114, 109, 105, 108, 108, 97, 114, 121, 47, 105, 110, 116, 101, 114, 118, 97, 108, 46, 68, 105, 118], 150)]
theorem fnames_ok : ∀ p ∈ fnames, ((List.range Tryz.prog.funcs.size).filter fun f => (Tryz.prog.funcs[f]?).any (·.name.toUTF8.data.toList == p.1)) = [p.2] := by
  intro p hp
  simp only [fnames, List.mem_cons, List.not_mem_nil, or_false] at hp
  rcases hp with rfl | rfl | rfl | rfl | rfl | rfl | rfl | rfl | rfl | rfl | rfl <;> kernel_rfl
theorem fnames_ne : ∀ p ∈ fnames, p.1 ≠ [] := by
  intro p hp
  simp only [fnames, List.mem_cons, List.not_mem_nil, or_false] at hp
  rcases hp with rfl | rfl | rfl | rfl | rfl | rfl | rfl | rfl | rfl | rfl | rfl <;> exact List.cons_ne_nil _ _
theorem gProd : Tryz.prog.globalNamed "armillary/interval.products" = some 0 := by kernel_rfl
theorem gQuot : Tryz.prog.globalNamed "armillary/interval.quotients" = some 2 := by kernel_rfl
theorem gOps : Tryz.prog.globalNamed "armillary/tape.ops" = some 1 := by kernel_rfl
theorem glob_met {W : World} (h : laidMetH Tryz.prog laidL W) : ∀ g cs, E.Γ g = some cs → VR [] W (.eptr cs 0) (.pointer (some ⟨g, 0, none⟩)) := by
  intro g cs hg
  have hg' : glob g = some cs := hg
  unfold glob at hg'
  split at hg'
  · cases hg'
    exact glob_of (P := Tryz.prog) (T := tab) (L := fnames) tab_ok h (name := "armillary/interval.products") (List.mem_cons_self ..) gProd (t := 159) (by kernel_rfl) (m := 8) (by kernel_rfl) fnames_ok fnames_ne (by kernel_rfl) (by decide)
  · cases hg'
    exact glob_of (P := Tryz.prog) (T := tab) (L := fnames) tab_ok h (name := "armillary/interval.quotients") (List.mem_cons_of_mem _ (List.mem_cons_self ..)) gQuot (t := 170) (by kernel_rfl) (m := 8) (by kernel_rfl) fnames_ok fnames_ne (by kernel_rfl) (by decide)
  · cases hg'
    exact glob_of (P := Tryz.prog) (T := tab) (L := fnames) tab_ok h (name := "armillary/tape.ops") (List.mem_cons_of_mem _ (List.mem_cons_of_mem _ (List.mem_cons_self ..))) gOps (t := 163) (by kernel_rfl) (m := 8) (by kernel_rfl) fnames_ok fnames_ne (by kernel_rfl) (by decide)
  · cases hg'
end Go.Proofs.YtgabeieooemfeaaGreatDoor.Arm

namespace Go.Proofs.YtgabeieooemfeaaGreatDoor.Arm
open Go.Arm Go.Pl

theorem advS_ok {T : Tp} {x : List I} {w : Rq} {s : Sg} (hT : tpOk T) (hx : allV x) (hxn : x.length = T.n) (hw : rqOk w) (h : advS T x w = some s) :
    s.h ∈ cands w.ctrl (firstH w) ∧ 1 ≤ s.h ∧ s.h ≤ firstH w ∧ accS T x w.ctrl w.t s.h = some s ∧ SgOk T x w.t s.h s := by
  unfold advS at h
  obtain ⟨g, hg, hs⟩ := List.exists_of_findSome?_eq_some h
  have hb := cands_bound (c := w.ctrl) hw.least _ (by have := hw.last; have := hw.h; unfold firstH; omega) (Nat.le_refl _) g hg
  have hf : firstH w ≤ 1000000000 := by have := hw.h; unfold firstH; omega
  have hok := accS_ok hT hx hxn (by omega) hw.t hs
  have := hok.hh
  subst this
  exact ⟨hg, hb.1, hb.2, hs, hok⟩
def erO : Option Sg → Int
  | some _ => 0
  | none => 130
theorem advO_eq (w : Rq) (o : Option Sg) : advO w o = .tuple [segC o, .int .i64 (nxC w o), .int .i64 (erO o)] := by cases o <;> rfl
end Go.Proofs.YtgabeieooemfeaaGreatDoor.Arm

/- Differences up to the square of the step: sums, products, quotients, roots; in rational numbers. -/
namespace Go.Pl

/-- x lies between -K and K. -/
def Bn (K x : Rat) : Prop := -K ≤ x ∧ x ≤ K
theorem Bn.nn {K x : Rat} (h : Bn K x) : 0 ≤ K := by unfold Bn at h; grind
theorem Bn.mono {K L x : Rat} (h : Bn K x) (k : K ≤ L) : Bn L x := by unfold Bn at *; grind
theorem Bn.add {K L x y : Rat} (h : Bn K x) (k : Bn L y) : Bn (K + L) (x + y) := by unfold Bn at *; grind
theorem Bn.sub {K L x y : Rat} (h : Bn K x) (k : Bn L y) : Bn (K + L) (x - y) := by unfold Bn at *; grind
theorem Bn.neg {K x : Rat} (h : Bn K x) : Bn K (-x) := by unfold Bn at *; grind
theorem Bn.zero {K : Rat} (h : 0 ≤ K) : Bn K 0 := by unfold Bn; grind
theorem Bn.mul {K L x y : Rat} (h : Bn K x) (k : Bn L y) : Bn (K * L) (x * y) := by
  unfold Bn at *
  have h1 : 0 ≤ (K - x) * (L + y) := Rat.mul_nonneg (by grind) (by grind)
  have h2 : 0 ≤ (K + x) * (L - y) := Rat.mul_nonneg (by grind) (by grind)
  have h3 : 0 ≤ (K + x) * (L + y) := Rat.mul_nonneg (by grind) (by grind)
  have h4 : 0 ≤ (K - x) * (L - y) := Rat.mul_nonneg (by grind) (by grind)
  grind
/-- Far from zero. -/
def Far (β b : Rat) : Prop := β ≤ b ∨ b ≤ -β
theorem Bn.cancel {K β b x : Rat} (hβ : 0 < β) (hb : Far β b) (h : Bn K (b * x)) : Bn (K / β) x := by
  have key : ∀ b x : Rat, β ≤ b → Bn K (b * x) → Bn (K / β) x := by
    intro b x hb h
    have hK : 0 ≤ K := h.nn
    have e : K / β * β = K := by grind
    have hq : 0 ≤ K / β := by
      rw [Rat.div_def]; exact Rat.mul_nonneg hK (Rat.le_of_lt (Rat.inv_pos.2 hβ))
    have hm : K ≤ K / β * b := by
      have := Rat.mul_le_mul_of_nonneg_left hb hq
      grind
    unfold Bn at *
    refine ⟨Rat.not_lt.1 fun hx => ?_, Rat.not_lt.1 fun hx => ?_⟩
    · have hbp : 0 < b := by grind
      have := Rat.mul_lt_mul_of_pos_left hx hbp
      grind
    · have hbp : 0 < b := by grind
      have := Rat.mul_lt_mul_of_pos_left hx hbp
      grind
  rcases hb with hb | hb
  · exact key b x hb h
  · have := key (-b) (-x) (by grind) (by have e : -b * -x = b * x := by grind
                                         rw [e]; exact h)
    have := this.neg
    have e : - -x = x := by grind
    rwa [e] at this

theorem nn_of {K δ : Rat} (hp : 0 < δ) (h : 0 ≤ K * (δ * δ)) : 0 ≤ K := by
  have h2 : 0 < δ * δ := Rat.mul_pos hp hp
  refine Rat.not_lt.1 fun hk => ?_
  have := Rat.mul_pos (show (0 : Rat) < -K by grind) h2
  grind
section
variable {δ D W : Rat}
/-- u' is u + δ d up to the square of δ. -/
def Df (K δ u u' d : Rat) : Prop := Bn (K * (δ * δ)) (u' - u - δ * d)
theorem Df.add {K L u u' d v v' e : Rat} (h : Df K δ u u' d) (k : Df L δ v v' e) : Df (K + L) δ (u + v) (u' + v') (d + e) := by
  have := Bn.add h k
  unfold Df
  have e1 : K * (δ * δ) + L * (δ * δ) = (K + L) * (δ * δ) := by grind
  have e2 : u' - u - δ * d + (v' - v - δ * e) = u' + v' - (u + v) - δ * (d + e) := by grind
  rwa [e1, e2] at this
theorem Df.neg {K u u' d : Rat} (h : Df K δ u u' d) : Df K δ (-u) (-u') (-d) := by
  have := Bn.neg h
  unfold Df
  have e2 : -(u' - u - δ * d) = -u' - -u - δ * -d := by grind
  rwa [e2] at this
theorem Df.sub {K L u u' d v v' e : Rat} (h : Df K δ u u' d) (k : Df L δ v v' e) : Df (K + L) δ (u - v) (u' - v') (d - e) := by
  have := h.add k.neg
  have e1 : u + -v = u - v := by grind
  have e2 : u' + -v' = u' - v' := by grind
  have e3 : d + -e = d - e := by grind
  rwa [e1, e2, e3] at this
theorem Df.smul {K u u' d : Rat} (c : Rat) {C : Rat} (hc : Bn C c) (h : Df K δ u u' d) : Df (C * K) δ (c * u) (c * u') (c * d) := by
  have := Bn.mul hc h
  unfold Df
  have e1 : C * (K * (δ * δ)) = C * K * (δ * δ) := by grind
  have e2 : c * (u' - u - δ * d) = c * u' - c * u - δ * (c * d) := by grind
  rwa [e1, e2] at this
theorem Df.mono {K L u u' d : Rat} (h : Df K δ u u' d) (k : K ≤ L) : Df L δ u u' d := Bn.mono h (Rat.mul_le_mul_of_nonneg_right k (sq_nonneg δ))
theorem Df.const (u : Rat) : Df 0 δ u u 0 := by
  unfold Df
  have e : u - u - δ * 0 = 0 := by grind
  rw [e]; exact Bn.zero (by grind)
theorem Df.mul {K L u u' d v v' e : Rat} (hδ : 0 ≤ δ) (hD : δ ≤ D) (h : Df K δ u u' d) (k : Df L δ v v' e) (hu' : Bn W u') (hv : Bn W v) (hd : Bn W d) (he : Bn W e) :
    Df (W * W + D * W * K + W * L + W * K) δ (u * v) (u' * v') (d * v + u * e) := by
  unfold Df at *
  have hW : 0 ≤ W := hv.nn
  have b1 : Bn ((δ * δ) * (W * W)) ((δ * δ) * (e * d)) := Bn.mul (by unfold Bn; have := sq_nonneg δ; grind) (Bn.mul he hd)
  have b2 : Bn ((δ * W) * (K * (δ * δ))) ((δ * e) * (u' - u - δ * d)) := Bn.mul (Bn.mul (by unfold Bn; grind) he) h
  have b3 : Bn (W * (L * (δ * δ))) (u' * (v' - v - δ * e)) := Bn.mul hu' k
  have b4 : Bn (W * (K * (δ * δ))) (v * (u' - u - δ * d)) := Bn.mul hv h
  have hK : 0 ≤ K * (δ * δ) := h.nn
  have m2 : (δ * W) * (K * (δ * δ)) ≤ (D * W) * (K * (δ * δ)) := Rat.mul_le_mul_of_nonneg_right (Rat.mul_le_mul_of_nonneg_right hD hW) hK
  have := ((b1.add (b2.mono m2)).add b3).add b4
  have e1 : (δ * δ) * (W * W) + (D * W) * (K * (δ * δ)) + W * (L * (δ * δ)) + W * (K * (δ * δ)) = (W * W + D * W * K + W * L + W * K) * (δ * δ) := by grind
  have e2 : (δ * δ) * (e * d) + (δ * e) * (u' - u - δ * d) + u' * (v' - v - δ * e) + v * (u' - u - δ * d) = u' * v' - u * v - δ * (d * v + u * e) := by grind
  rwa [e1, e2] at this
/-- A quotient: b q and b are known. -/
theorem Df.cancel {K L β b b' db q q' dq : Rat} (hδ : 0 ≤ δ) (hD : δ ≤ D) (hβ : 0 < β) (hb : Far β b) (hb' : Far β b') (hP : Df K δ (b * q) (b' * q') (db * q + b * dq)) (hB : Df L δ b b' db) (wb : Bn W b) (wq : Bn W q) (wdb : Bn W db) (wdq : Bn W dq) :
    Df ((K + W * L + (W * W + D * K + D * W * L) / β * (W + D * L)) / β) δ q q' dq := by
  have hW : 0 ≤ W := wb.nn
  have hdd := sq_nonneg δ
  unfold Df at hP hB
  have hK : 0 ≤ K * (δ * δ) := hP.nn
  have hL : 0 ≤ L * (δ * δ) := hB.nn
  -- the first estimate
  have a1 : Bn (δ * (W * W)) (δ * (b * dq)) := Bn.mul (by unfold Bn; grind) (Bn.mul wb wdq)
  have a2 : Bn (W * (L * (δ * δ))) (q * (b' - b - δ * db)) := Bn.mul wq hB
  have a3 := (a1.add hP).sub a2
  have e3 : δ * (b * dq) + (b' * q' - b * q - δ * (db * q + b * dq)) - q * (b' - b - δ * db) = b' * (q' - q) := by grind
  rw [e3] at a3
  by_cases h0 : δ = 0
  · subst h0
    have a4 : Bn 0 (b' * (q' - q)) := by
      have e : (0 : Rat) * (W * W) + K * (0 * 0) + W * (L * (0 * 0)) = 0 := by grind
      rwa [e] at a3
    have a5 := Bn.cancel hβ hb' a4
    have e0 : (0 : Rat) / β = 0 := by grind
    rw [e0] at a5
    unfold Df
    have e1 : ∀ X : Rat, X * (0 * 0) = 0 := by intro X; grind
    rw [e1]
    have e2 : q' - q - 0 * dq = q' - q := by grind
    rw [e2]; exact a5
  · have hp : 0 < δ := by grind
    have m1 : K * (δ * δ) ≤ D * K * δ := by
      have hK' : 0 ≤ K := nn_of hp hK
      have := Rat.mul_le_mul_of_nonneg_left (Rat.mul_le_mul_of_nonneg_right hD hδ) hK'
      grind
    have m2 : W * (L * (δ * δ)) ≤ D * W * L * δ := by
      have hL' : 0 ≤ L := nn_of hp hL
      have := Rat.mul_le_mul_of_nonneg_left (Rat.mul_le_mul_of_nonneg_right hD hδ) (Rat.mul_nonneg hW hL')
      grind
    have a4 : Bn ((W * W + D * K + D * W * L) * δ) (b' * (q' - q)) := a3.mono (by grind)
    have a5 := Bn.cancel hβ hb' a4
    have e5 : (W * W + D * K + D * W * L) * δ / β = (W * W + D * K + D * W * L) / β * δ := by grind
    rw [e5] at a5
    generalize (W * W + D * K + D * W * L) / β = C at *
    -- the second
    have b1 : Bn (W * δ) (db * δ) := Bn.mul wdb (by unfold Bn; grind)
    have hBL : Bn ((W + D * L) * δ) (b' - b) := by
      have := b1.add hB
      have e : db * δ + (b' - b - δ * db) = b' - b := by grind
      rw [e] at this
      refine this.mono ?_
      have hL' : 0 ≤ L := nn_of hp hL
      have := Rat.mul_le_mul_of_nonneg_left (Rat.mul_le_mul_of_nonneg_right hD hδ) hL'
      grind
    have b2 := Bn.mul a5 hBL
    have b3 := (hP.sub a2).sub b2
    have e6 : b' * q' - b * q - δ * (db * q + b * dq) - q * (b' - b - δ * db) - (q' - q) * (b' - b) = b * (q' - q - δ * dq) := by grind
    rw [e6] at b3
    have e7 : K * (δ * δ) + W * (L * (δ * δ)) + C * δ * ((W + D * L) * δ) = (K + W * L + C * (W + D * L)) * (δ * δ) := by grind
    rw [e7] at b3
    have b4 := Bn.cancel hβ hb b3
    unfold Df
    have e8 : (K + W * L + C * (W + D * L)) * (δ * δ) / β = (K + W * L + C * (W + D * L)) / β * (δ * δ) := by grind
    rwa [e8] at b4
/-- A root: its square is known. -/
theorem Df.root {K β q q' dq : Rat} (hδ : 0 ≤ δ) (hβ : 0 < β) (hD : δ ≤ D) (hb : β ≤ q) (hb' : β ≤ q') (hP : Df K δ (q * q) (q' * q') (2 * q * dq)) (hK : 0 ≤ K) (wq : Bn W q) (wdq : Bn W dq) :
    Df ((K + (2 * W * W + D * K) / (2 * β) * ((2 * W * W + D * K) / (2 * β))) / (2 * β)) δ q q' dq := by
  have hW : 0 ≤ W := wq.nn
  unfold Df at hP
  have h2 : Bn 2 (2 : Rat) := by unfold Bn; grind
  have a1 : Bn (δ * (2 * (W * W))) (δ * (2 * (q * dq))) := Bn.mul (by unfold Bn; grind) (Bn.mul h2 (Bn.mul wq wdq))
  have a2 := a1.add hP
  have e2 : δ * (2 * (q * dq)) + (q' * q' - q * q - δ * (2 * q * dq)) = (q' + q) * (q' - q) := by grind
  rw [e2] at a2
  have m1 : δ * (2 * (W * W)) + K * (δ * δ) ≤ (2 * W * W + D * K) * δ := by
    have := Rat.mul_le_mul_of_nonneg_left (Rat.mul_le_mul_of_nonneg_right hD hδ) hK
    grind
  have a3 := Bn.cancel (β := 2 * β) (by grind) (.inl (by grind)) (a2.mono m1)
  have e3 : (2 * W * W + D * K) * δ / (2 * β) = (2 * W * W + D * K) / (2 * β) * δ := by grind
  rw [e3] at a3
  generalize (2 * W * W + D * K) / (2 * β) = C at *
  have b1 := hP.sub (Bn.mul a3 a3)
  have e4 : q' * q' - q * q - δ * (2 * q * dq) - (q' - q) * (q' - q) = (2 * q) * (q' - q - δ * dq) := by grind
  have e5 : K * (δ * δ) + C * δ * (C * δ) = (K + C * C) * (δ * δ) := by grind
  rw [e4, e5] at b1
  have b2 := Bn.cancel (β := 2 * β) (by grind) (.inl (by grind)) b1
  unfold Df
  have e6 : (K + C * C) * (δ * δ) / (2 * β) = (K + C * C) / (2 * β) * (δ * δ) := by grind
  rwa [e6] at b2
end
end Go.Pl

/- Simplification: the value on a box gets no greater; a simplified expression stays as it is. -/
namespace Go.Pl

theorem mk_num {lo hi : Int} (h1 : -2147483648 < lo ∧ lo < 2147483648) (h2 : -2147483648 < hi ∧ hi < 2147483648) : mk lo hi = (lo, hi) := by
  unfold mk; rw [if_pos (by rw [Bool.and_eq_true, numB_iff, numB_iff]; exact ⟨h1, h2⟩)]
theorem mk_self {v : I} (h : vB v = true) (hne : entB v = false) : mk v.1 v.2 = v := by
  have := entB_false h hne
  rw [mk_num ⟨by omega, by omega⟩ ⟨by omega, by omega⟩]
theorem add_zero_l {v : I} (h : vB v = true) : add (0, 0) v = v := by
  unfold add
  cases he : entB v with
  | true => simp [entB_iff.1 he]
  | false => simp only [entB, Bool.or_false]; simp; exact mk_self h he
theorem add_zero_r {v : I} (h : vB v = true) : add v (0, 0) = v := by
  unfold add
  cases he : entB v with
  | true => simp [entB_iff.1 he]
  | false => simp [entB]; exact mk_self h he
theorem sub_zero_r {v : I} (h : vB v = true) : sub v (0, 0) = v := add_zero_r h
theorem sub_zero_l {v : I} (h : vB v = true) : sub (0, 0) v = neg v := add_zero_l (neg_valid h)
theorem neg_neg' (v : I) : neg (neg v) = v := by simp [neg]
theorem number0 : number 0 = .num (0, 0) := by decide
theorem number1 : number 1 = .num (65536, 65536) := by decide
theorem mul_zero_l {v : I} (h : entB v = false) : mul (0, 0) v = (0, 0) := by
  unfold mul
  rw [h]; simp [entB, min4, max4, fl, ce]; rfl
theorem mul_zero_r {v : I} (h : entB v = false) : mul v (0, 0) = (0, 0) := by
  unfold mul
  rw [h]; simp [entB, min4, max4, fl, ce]; rfl
theorem fl_one (x : Int) : fl (x * 65536) 65536 = x := by unfold fl; simp
theorem ce_one (x : Int) : ce (x * 65536) 65536 = x := by
  unfold ce
  rw [← Int.neg_mul, fl_one, Int.neg_neg]
theorem mul_one_l {v : I} (h : vB v = true) : mul (65536, 65536) v = v := by
  unfold mul
  cases he : entB v with
  | true => simp [entB_iff.1 he]
  | false =>
    have hb := entB_false h he
    have e1 : min4 (65536 * v.1) (65536 * v.2) (65536 * v.1) (65536 * v.2) = v.1 * 65536 := by simp only [min4]; omega
    have e2 : max4 (65536 * v.1) (65536 * v.2) (65536 * v.1) (65536 * v.2) = v.2 * 65536 := by simp only [max4]; omega
    simp only [entB, Bool.or_false]
    simp [e1, e2, fl_one, ce_one]
    exact mk_self h he
theorem mul_one_r {v : I} (h : vB v = true) : mul v (65536, 65536) = v := by
  unfold mul
  cases he : entB v with
  | true => simp [entB_iff.1 he]
  | false =>
    have hb := entB_false h he
    have e1 : min4 (v.1 * 65536) (v.1 * 65536) (v.2 * 65536) (v.2 * 65536) = v.1 * 65536 := by simp only [min4]; omega
    have e2 : max4 (v.1 * 65536) (v.1 * 65536) (v.2 * 65536) (v.2 * 65536) = v.2 * 65536 := by simp only [max4]; omega
    simp [entB, e1, e2, fl_one, ce_one]
    exact mk_self h he
theorem div_one {v : I} (h : vB v = true) : div v (65536, 65536) = v := by
  unfold div
  cases he : entB v with
  | true => simp [entB_iff.1 he]
  | false =>
    have hb := entB_false h he
    have e1 : min4 v.1 v.1 v.2 v.2 = v.1 := by simp only [min4]; omega
    have e2 : max4 v.1 v.1 v.2 v.2 = v.2 := by simp only [max4]; omega
    simp [entB, fl_one, ce_one, e1, e2]
    exact mk_self h he
theorem div_zero_l {v : I} : div (0, 0) v = (0, 0) ∨ div (0, 0) v = ent := by
  unfold div
  split
  · exact .inr rfl
  · left
    have f0 : ∀ b : Int, fl (0 * 65536) b = 0 := fun b => by unfold fl; split <;> simp
    have c0 : ∀ b : Int, ce (0 * 65536) b = 0 := fun b => by unfold ce; rw [show -(0 * 65536 : Int) = 0 * 65536 by decide, f0]; rfl
    simp only [f0, c0]
    decide
section
variable {x : List I} {t : I}
theorem ev_isK {e : Ex} {k : Int} (h : isK e k = true) : ev x t e = (k, k) := by rw [isK_num h]; rfl
theorem ev_isPt {e : Ex} {k : Int} (h : isPt e = some k) : e = .num (k, k) := by
  cases e <;> simp [isPt] at h
  rename_i c
  obtain ⟨a, b⟩ := c
  simp only at h
  obtain ⟨h1, h2⟩ := h
  rw [← h2, h1]
theorem ev_smpNeg {a : Ex} (h : wf x.length a = true) : ev x t (smpNeg a) = neg (ev x t a) := by
  unfold smpNeg
  split
  · rename_i c hc
    have e := ev_isPt hc
    subst e
    have hb : -2147483648 < c ∧ c < 2147483648 := by
      have he : entB (c, c) = false := by simp [entB]; omega
      have := entB_false h he
      simp only at this; omega
    simp only [ev, neg, pt]
    rw [mk_num ⟨by omega, by omega⟩ ⟨by omega, by omega⟩]
  · split
    · simp only [ev, unV]; rw [neg_neg']
    · rfl
theorem ev_foldC {o : B} {a b : Ex} : ev x t ((foldC (binV o) a b).getD (.bin o a b)) = binV o (ev x t a) (ev x t b) := by
  unfold foldC
  split
  · split <;> rfl
  · rfl
theorem ev_smpU {o : U} {a : Ex} (h : wf x.length a = true) : ev x t (smpU o a) = unV o (ev x t a) := by
  cases o with
  | neg => exact ev_smpNeg h
  | sqr =>
    simp only [smpU]
    split
    · rename_i hk
      rw [Bool.or_eq_true] at hk
      rcases hk with hk | hk <;> rw [ev_isK hk] <;> decide
    · rfl
  | sqrt =>
    simp only [smpU]
    split
    · rename_i hk
      rw [Bool.or_eq_true] at hk
      have r0 : root 0 = 0 := root_unique (by decide) (by decide) (by decide)
      have r1 : root (65536 * 65536) = 65536 := root_unique (by decide) (by decide) (by decide)
      rcases hk with hk | hk <;> rw [ev_isK hk]
      · simp [unV, sqrt, entB, rootU, r0]; rfl
      · simp only [unV, sqrt, entB, rootU]
        rw [show max (65536 : Int) 0 = 65536 by decide, r1]; decide
    · rfl
theorem ev_smpB {o : B} {a b : Ex} (hx : ∀ p ∈ x, vB p = true) (ht : vB t = true) (h : wf x.length a = true) (k : wf x.length b = true) : Sb (ev x t (smpB o a b)) (binV o (ev x t a) (ev x t b)) := by
  have va := ev_valid hx ht a h
  have vb := ev_valid hx ht b k
  have eq : ∀ {u v : I}, u = v → Sb u v := fun h => h ▸ Sb.refl _
  cases o with
  | add =>
    simp only [smpB, smpAdd, binV]
    split
    · rename_i hk; rw [ev_isK hk, add_zero_l vb]; exact Sb.refl _
    · split
      · rename_i hk; rw [ev_isK hk, add_zero_r va]; exact Sb.refl _
      · exact eq (ev_foldC (o := .add))
  | sub =>
    simp only [smpB, smpSub, binV]
    split
    · rename_i hk; rw [ev_isK hk, sub_zero_r va]; exact Sb.refl _
    · split
      · rename_i hk; rw [ev_isK hk, sub_zero_l vb, ev_smpNeg k]; exact Sb.refl _
      · exact eq (ev_foldC (o := .sub))
  | mul =>
    simp only [smpB, smpMul, binV]
    split
    · rename_i hk
      rw [Bool.or_eq_true] at hk
      rw [number0]
      simp only [ev]
      have z : Sb (0, 0) ent := ⟨by decide, by decide⟩
      rcases hk with hk | hk <;> rw [ev_isK hk]
      · cases he : entB (ev x t b) with
        | true => rw [entB_iff.1 he]; exact z
        | false => rw [mul_zero_l he]; exact Sb.refl _
      · cases he : entB (ev x t a) with
        | true => rw [entB_iff.1 he]; exact z
        | false => rw [mul_zero_r he]; exact Sb.refl _
    · split
      · rename_i hk; rw [ev_isK hk, mul_one_l vb]; exact Sb.refl _
      · split
        · rename_i hk; rw [ev_isK hk, mul_one_r va]; exact Sb.refl _
        · exact eq (ev_foldC (o := .mul))
  | div =>
    simp only [smpB, binV]
    split
    · rename_i hk
      rw [Bool.or_eq_true] at hk
      rcases hk with hk | hk
      · rw [ev_isK hk]
        rcases div_zero_l (v := ev x t b) with e | e <;> rw [e]
        · exact Sb.refl _
        · exact ⟨by decide, by decide⟩
      · rw [ev_isK hk, div_one va]; exact Sb.refl _
    · exact Sb.refl _
/-- Simplification: values get no greater. -/
theorem ev_smp (hx : ∀ p ∈ x, vB p = true) (ht : vB t = true) : ∀ e : Ex, wf x.length e = true → Sb (ev x t (smp e)) (ev x t e)
  | .num _, _ | .var _, _ | .time, _ => Sb.refl _
  | .un o a, h => by
    have h1 := smp_wf a h
    simp only [smp, ev]
    rw [ev_smpU h1]
    exact un_mono (ev_valid hx ht _ h1) (ev_valid hx ht a h) (ev_smp hx ht a h)
  | .bin o a b, h => by
    simp only [wf, Bool.and_eq_true] at h
    have h1 := smp_wf a h.1
    have h2 := smp_wf b h.2
    simp only [smp, ev]
    exact (ev_smpB hx ht h1 h2).trans (bin_mono (ev_valid hx ht _ h1) (ev_valid hx ht _ h2) (ev_valid hx ht a h.1) (ev_valid hx ht b h.2) (ev_smp hx ht a h.1) (ev_smp hx ht b h.2))
end

/-! ### A normal form -/
theorem smp_inner {b : Ex} (h : smp (.un .neg b) = .un .neg b) : smp b = b := by
  simp only [smp, smpU] at h
  generalize hs : smp b = s at h
  have hz := smp_sz b
  rw [hs] at hz
  unfold smpNeg at h
  split at h
  · cases h
  · split at h
    · rename_i c _
      have := congrArg sz h
      rw [sz_un] at hz this
      omega
    · simpa using h
theorem nrmNeg {a : Ex} (h : smp a = a) : smp (smpNeg a) = smpNeg a := by
  unfold smpNeg
  split
  · rfl
  · split
    · exact smp_inner h
    · rename_i heq e h2
      simp only [smp, smpU, h]
      unfold smpNeg
      rw [heq]
      dsimp only
      split
      · rename_i b; exact absurd rfl (h2 b)
      · rfl
theorem nrmFold {o : B} {f : I → I → I} {a b : Ex} (h : smp (.bin o a b) = (foldC f a b).getD (.bin o a b)) : smp ((foldC f a b).getD (.bin o a b)) = (foldC f a b).getD (.bin o a b) := by
  have key : ∀ r, foldC f a b = some r → smp r = r := by
    intro r hr
    unfold foldC at hr
    split at hr
    · split at hr
      · cases hr; rfl
      · cases hr
    · cases hr
  cases hf : foldC f a b with
  | some r => exact key r hf
  | none =>
    rw [hf] at h
    exact h
theorem nrmU {o : U} {a : Ex} (h : smp a = a) : smp (smpU o a) = smpU o a := by
  cases o with
  | neg => exact nrmNeg h
  | sqr =>
    simp only [smpU]
    split
    · exact h
    · rename_i hk; simp only [smp, smpU, h]; rw [if_neg hk]
  | sqrt =>
    simp only [smpU]
    split
    · exact h
    · rename_i hk; simp only [smp, smpU, h]; rw [if_neg hk]
theorem nrmB {o : B} {a b : Ex} (h : smp a = a) (k : smp b = b) : smp (smpB o a b) = smpB o a b := by
  cases o with
  | add =>
    simp only [smpB, smpAdd]
    split
    · exact k
    · split
      · exact h
      · rename_i h1 h2
        refine nrmFold ?_
        simp only [smp, smpB, smpAdd, h, k]; rw [if_neg h1, if_neg h2]
  | sub =>
    simp only [smpB, smpSub]
    split
    · exact h
    · split
      · exact nrmNeg k
      · rename_i h1 h2
        refine nrmFold ?_
        simp only [smp, smpB, smpSub, h, k]; rw [if_neg h1, if_neg h2]
  | mul =>
    simp only [smpB, smpMul]
    split
    · rfl
    · split
      · exact k
      · split
        · exact h
        · rename_i h1 h2 h3
          refine nrmFold ?_
          simp only [smp, smpB, smpMul, h, k]; rw [if_neg h1, if_neg h2, if_neg h3]
  | div =>
    simp only [smpB]
    split
    · exact h
    · rename_i h1
      simp only [smp, smpB, h, k]; rw [if_neg h1]
theorem smp_smp : ∀ e : Ex, smp (smp e) = smp e
  | .num _ | .var _ | .time => rfl
  | .un o a => nrmU (smp_smp a)
  | .bin o a b => nrmB (smp_smp a) (smp_smp b)
end Go.Pl

/- Exact values of expressions in rational numbers (with 1 / 0 = 0, and roots rounded to the grid): enclosed by the intervals, kept by simplification, symmetric second derivatives. -/
namespace Go.Pl

def unR : U → Rat → Rat
  | .neg, v => -v
  | .sqr, v => v * v
  | .sqrt, v => rt 0 v
def binR : B → Rat → Rat → Rat
  | .add, v, w => v + w
  | .sub, v, w => v - w
  | .mul, v, w => v * w
  | .div, v, w => v / w
def val (x : List Rat) (t : Rat) : Ex → Rat
  | .num c => (c.1 : Rat) / 65536
  | .var i => (x[i]?).getD 0
  | .time => t
  | .un o a => unR o (val x t a)
  | .bin o a b => binR o (val x t a) (val x t b)
/-- The values lie in the box. -/
def inBox (b : List I) (x : List Rat) : Prop := ∀ i, i < b.length → InI ((b[i]?).getD (0, 0)) ((x[i]?).getD 0)
theorem inI_num {c : I} (h : vB c = true) : InI c ((c.1 : Rat) / 65536) := by
  have h1 := vB_bounds h
  refine .inr ⟨?_, ?_⟩
  · grind
  · have : (c.1 : Rat) ≤ (c.2 : Rat) := Rat.intCast_le_intCast.2 h1.2.1
    grind
theorem in_un {o : U} {a : I} {x : Rat} (h : InI a x) : InI (unV o a) (unR o x) := by
  cases o with
  | neg => exact in_neg h
  | sqr => exact in_sq h
  | sqrt => exact in_rt 0 h
theorem in_bin {o : B} {a b : I} {x y : Rat} (h : InI a x) (k : InI b y) : InI (binV o a b) (binR o x y) := by
  cases o with
  | add => exact in_add h k
  | sub => exact in_sub h k
  | mul => exact in_mul h k
  | div => exact in_div h (fun _ => k)
theorem in_ev {b : List I} {x : List Rat} {T : I} {t : Rat} (hb : inBox b x) (ht : InI T t) : ∀ e : Ex, wf b.length e = true → InI (ev b T e) (val x t e)
  | .num c, h => inI_num h
  | .var i, h => by
    simp only [wf, decide_eq_true_eq] at h
    exact hb i h
  | .time, _ => ht
  | .un o a, h => in_un (in_ev hb ht a h)
  | .bin o a b', h => by
    simp only [wf, Bool.and_eq_true] at h
    exact in_bin (in_ev hb ht a h.1) (in_ev hb ht b' h.2)

/-! ### Simplification keeps values, and the values of derivatives -/
theorem val_number (x : List Rat) (t : Rat) (n : Int) (h : -32768 < n ∧ n < 32768) : val x t (number n) = n := by
  have : number n = .num (n * 65536, n * 65536) := by
    unfold number pt mk
    rw [if_pos (by simp [numB]; omega)]
  rw [this]
  simp only [val, Rat.intCast_mul]
  have e : ((65536 : Int) : Rat) = 65536 := rfl
  rw [e]; grind
theorem val_isK {x : List Rat} {t : Rat} {e : Ex} {k : Int} (h : isK e k = true) : val x t e = (k : Rat) / 65536 := by rw [isK_num h]; rfl
/-- Two expressions have the same value and the same values of derivatives. -/
def Like (x : List Rat) (t : Rat) (a b : Ex) : Prop := val x t a = val x t b ∧ ∀ v, val x t (dif v a) = val x t (dif v b)
section
variable {x : List Rat} {t : Rat}
theorem Like.refl (a : Ex) : Like x t a a := ⟨rfl, fun _ => rfl⟩
theorem Like.symm {a b : Ex} (h : Like x t a b) : Like x t b a := ⟨h.1.symm, fun v => (h.2 v).symm⟩
theorem Like.trans {a b c : Ex} (h : Like x t a b) (k : Like x t b c) : Like x t a c := ⟨h.1.trans k.1, fun v => (h.2 v).trans (k.2 v)⟩
theorem val2 : val x t (number 2) = 2 := val_number x t 2 (by decide)
theorem val1 : val x t (number 1) = 1 := val_number x t 1 (by decide)
theorem val0 : val x t (number 0) = 0 := val_number x t 0 (by decide)
theorem d_neg (v : Vr) (a : Ex) : dif v (.un .neg a) = .un .neg (dif v a) := rfl
theorem d_sqr (v : Vr) (a : Ex) : dif v (.un .sqr a) = .bin .mul (.bin .mul (number 2) a) (dif v a) := rfl
theorem d_sqrt (v : Vr) (a : Ex) : dif v (.un .sqrt a) = .bin .div (dif v a) (.bin .mul (number 2) (.un .sqrt a)) := rfl
theorem d_add (v : Vr) (a b : Ex) : dif v (.bin .add a b) = .bin .add (dif v a) (dif v b) := rfl
theorem d_sub (v : Vr) (a b : Ex) : dif v (.bin .sub a b) = .bin .sub (dif v a) (dif v b) := rfl
theorem d_mul (v : Vr) (a b : Ex) : dif v (.bin .mul a b) = .bin .add (.bin .mul (dif v a) b) (.bin .mul a (dif v b)) := rfl
theorem d_div (v : Vr) (a b : Ex) : dif v (.bin .div a b) = .bin .div (.bin .sub (.bin .mul (dif v a) b) (.bin .mul a (dif v b))) (.un .sqr b) := rfl
theorem dif_num (v : Vr) (c : I) : dif v (.num c) = number 0 := by
  unfold dif
  cases v <;> rfl
theorem Like.un {a b : Ex} (o : U) (h : Like x t a b) : Like x t (.un o a) (.un o b) := by
  refine ⟨by simp only [val, h.1], fun v => ?_⟩
  have := h.2 v
  cases o <;> simp only [dif, val, this, h.1, unR, binR]
theorem Like.bin {a b c d : Ex} (o : B) (h : Like x t a b) (k : Like x t c d) : Like x t (.bin o a c) (.bin o b d) := by
  refine ⟨by simp only [val, h.1, k.1], fun v => ?_⟩
  have h2 := h.2 v
  have k2 := k.2 v
  cases o <;> simp only [dif, val, h2, k2, h.1, k.1, binR, unR]
theorem like_num {c : I} {e : Ex} (h : val x t e = (c.1 : Rat) / 65536) (k : ∀ v, val x t (dif v e) = 0) : Like x t (.num c) e :=
  ⟨h.symm, fun v => by rw [dif_num, k v, val0]⟩
theorem like_k {k : Int} {e : Ex} (h : val x t e = (k : Rat) / 65536) (d : ∀ v, val x t (dif v e) = 0) : Like x t (.num (k, k)) e := like_num h d
theorem isPt_wf {n : Nat} {c : Int} (h : wf n (.num (c, c)) = true) : -2147483648 < c ∧ c < 2147483648 := by
  have he : entB (c, c) = false := by simp [entB]; omega
  have := entB_false h he
  simp only at this; omega
theorem like_neg {n : Nat} {a : Ex} (hw : wf n a = true) : Like x t (smpNeg a) (.un .neg a) := by
  unfold smpNeg
  split
  · rename_i c h
    have e := ev_isPt h
    subst e
    have hb := isPt_wf hw
    have e : pt (-c) = (-c, -c) := mk_num ⟨by omega, by omega⟩ ⟨by omega, by omega⟩
    rw [e]
    refine like_num ?_ fun v => ?_
    · simp only [val, unR, Rat.intCast_neg]; grind
    · simp only [d_neg, dif_num, val, unR, val0]; grind
  · split
    · refine ⟨?_, fun v => ?_⟩
      · simp only [val, unR]; grind
      · simp only [d_neg, d_sqr, d_sqrt, d_add, d_sub, d_mul, d_div, val, unR]; grind
    · exact Like.refl _
theorem kZero {e : Ex} (h : isK e 0 = true) : val x t e = 0 ∧ ∀ v, val x t (dif v e) = 0 := by
  rw [isK_num h]
  exact ⟨by simp only [val]; decide +kernel, fun v => by rw [dif_num, val0]⟩
theorem kOne {e : Ex} (h : isK e 65536 = true) : val x t e = 1 ∧ ∀ v, val x t (dif v e) = 0 := by
  rw [isK_num h]
  exact ⟨by simp only [val]; decide +kernel, fun v => by rw [dif_num, val0]⟩
/-- Folding two point constants whose result is one. -/
theorem like_fold {o : B} {f : I → I → I} {a b : Ex} (hf : ∀ c d : Int, ((f (c, c) (d, d)).1 = (f (c, c) (d, d)).2) → ((f (c, c) (d, d)).1 : Rat) / 65536 = binR o ((c : Rat) / 65536) ((d : Rat) / 65536)) (ho : o ≠ .div) : Like x t ((foldC f a b).getD (.bin o a b)) (.bin o a b) := by
  unfold foldC
  split
  · rename_i c d
    split
    · rename_i h
      obtain ⟨c1, c2⟩ := c
      obtain ⟨d1, d2⟩ := d
      simp only at h
      obtain ⟨rfl, rfl, h3⟩ := h
      refine ⟨?_, fun v => ?_⟩
      · simp only [Option.getD_some, val]; exact hf c1 d1 h3
      · rw [Option.getD_some, dif_num, val0]
        cases o with
        | div => exact absurd rfl ho
        | add => simp only [d_add, d_sub, dif_num, val, binR, val0]; grind
        | sub => simp only [d_add, d_sub, dif_num, val, binR, val0]; grind
        | mul => simp only [d_mul, dif_num, val, binR, val0]; grind
    · exact Like.refl _
  · exact Like.refl _
theorem ent12 : ¬ (ent.1 = ent.2) := by decide
theorem mk_pt {lo hi : Int} (h : (mk lo hi).1 = (mk lo hi).2) : mk lo hi = (lo, hi) := by
  unfold mk at h ⊢
  split
  · rfl
  · rename_i hn; rw [if_neg hn] at h; exact absurd h ent12
theorem fold_add (c d : Int) (h : (add (c, c) (d, d)).1 = (add (c, c) (d, d)).2) : ((add (c, c) (d, d)).1 : Rat) / 65536 = (c : Rat) / 65536 + (d : Rat) / 65536 := by
  unfold add at h ⊢
  split
  · rename_i he; rw [if_pos he] at h; exact absurd h ent12
  · rename_i he
    rw [if_neg he] at h
    rw [mk_pt h]
    simp only [Rat.intCast_add]; grind
theorem fold_sub (c d : Int) (h : (sub (c, c) (d, d)).1 = (sub (c, c) (d, d)).2) : ((sub (c, c) (d, d)).1 : Rat) / 65536 = (c : Rat) / 65536 - (d : Rat) / 65536 := by
  have := fold_add c (-d) h
  rw [Rat.intCast_neg] at this
  have e : sub (c, c) (d, d) = add (c, c) (-d, -d) := rfl
  rw [e, this]; grind
theorem fold_mul (c d : Int) (h : (mul (c, c) (d, d)).1 = (mul (c, c) (d, d)).2) : ((mul (c, c) (d, d)).1 : Rat) / 65536 = (c : Rat) / 65536 * ((d : Rat) / 65536) := by
  unfold mul at h ⊢
  split
  · rename_i he; rw [if_pos he] at h; exact absurd h ent12
  · rename_i he
    rw [if_neg he] at h
    have e1 : min4 (c * d) (c * d) (c * d) (c * d) = c * d := by simp only [min4]; omega
    have e2 : max4 (c * d) (c * d) (c * d) (c * d) = c * d := by simp only [max4]; omega
    simp only [e1, e2] at h ⊢
    have h2 := mk_pt h
    rw [h2] at h ⊢
    simp only at h ⊢
    have f1 := (fl_le (x := c * d) (b := 65536) (by decide)).1
    have f2 := (le_ce (x := c * d) (b := 65536) (by decide)).1
    rw [← h] at f2
    have e : ((65536 : Int) : Rat) = 65536 := rfl
    have e3 : ((fl (c * d) 65536 : Int) : Rat) = ((c * d : Int) : Rat) / ((65536 : Int) : Rat) := Rat.le_antisymm f1 f2
    rw [e3, Rat.intCast_mul, e]; grind
theorem rt1 (k : Rat) (h : k = 1) : rt 0 k = 1 := by rw [h]; exact rt_one
theorem rt0 (k : Rat) (h : k = 0) : rt 0 k = 0 := by rw [h]; exact rt_zero 0
theorem like_U {n : Nat} {o : U} {a : Ex} (hw : wf n a = true) : Like x t (smpU o a) (.un o a) := by
  cases o with
  | neg => exact like_neg hw
  | sqr =>
    simp only [smpU]
    split
    · rename_i hk
      rw [Bool.or_eq_true] at hk
      rcases hk with hk | hk
      · obtain ⟨h1, h2⟩ := kZero (x := x) (t := t) hk
        refine ⟨by simp only [val, unR, h1]; grind, fun v => ?_⟩
        simp only [d_neg, d_sqr, d_sqrt, d_add, d_sub, d_mul, d_div, val, binR, h1, h2, val2]; grind
      · obtain ⟨h1, h2⟩ := kOne (x := x) (t := t) hk
        refine ⟨by simp only [val, unR, h1]; grind, fun v => ?_⟩
        simp only [d_neg, d_sqr, d_sqrt, d_add, d_sub, d_mul, d_div, val, binR, h1, h2, val2]; grind
    · exact Like.refl _
  | sqrt =>
    simp only [smpU]
    split
    · rename_i hk
      rw [Bool.or_eq_true] at hk
      rcases hk with hk | hk
      · obtain ⟨h1, h2⟩ := kZero (x := x) (t := t) hk
        refine ⟨by simp only [val, unR]; rw [rt0 _ h1, h1], fun v => ?_⟩
        simp only [d_neg, d_sqr, d_sqrt, d_add, d_sub, d_mul, d_div, val, binR, h2]; grind
      · obtain ⟨h1, h2⟩ := kOne (x := x) (t := t) hk
        refine ⟨by simp only [val, unR]; rw [rt1 _ h1, h1], fun v => ?_⟩
        simp only [d_neg, d_sqr, d_sqrt, d_add, d_sub, d_mul, d_div, val, binR, h2]; grind
    · exact Like.refl _
theorem like_B {n : Nat} {o : B} {a b : Ex} (hb : wf n b = true) : Like x t (smpB o a b) (.bin o a b) := by
  cases o with
  | add =>
    simp only [smpB, smpAdd]
    split
    · rename_i hk
      obtain ⟨h1, h2⟩ := kZero (x := x) (t := t) hk
      refine ⟨by simp only [val, binR, h1]; grind, fun v => ?_⟩
      simp only [d_neg, d_sqr, d_sqrt, d_add, d_sub, d_mul, d_div, val, binR, h2]; grind
    · split
      · rename_i hk
        obtain ⟨h1, h2⟩ := kZero (x := x) (t := t) hk
        refine ⟨by simp only [val, binR, h1]; grind, fun v => ?_⟩
        simp only [d_neg, d_sqr, d_sqrt, d_add, d_sub, d_mul, d_div, val, binR, h2]; grind
      · exact like_fold (o := .add) fold_add (by simp)
  | sub =>
    simp only [smpB, smpSub]
    split
    · rename_i hk
      obtain ⟨h1, h2⟩ := kZero (x := x) (t := t) hk
      refine ⟨by simp only [val, binR, h1]; grind, fun v => ?_⟩
      simp only [d_neg, d_sqr, d_sqrt, d_add, d_sub, d_mul, d_div, val, binR, h2]; grind
    · split
      · rename_i hk
        obtain ⟨h1, h2⟩ := kZero (x := x) (t := t) hk
        refine (like_neg hb).trans ⟨by simp only [val, binR, unR, h1]; grind, fun v => ?_⟩
        simp only [d_neg, d_sqr, d_sqrt, d_add, d_sub, d_mul, d_div, val, binR, unR, h2]; grind
      · exact like_fold (o := .sub) fold_sub (by simp)
  | mul =>
    simp only [smpB, smpMul]
    split
    · rename_i hk
      rw [Bool.or_eq_true] at hk
      rw [number0]
      rcases hk with hk | hk
      · obtain ⟨h1, h2⟩ := kZero (x := x) (t := t) hk
        refine like_num (by simp only [val, binR, h1]; grind) fun v => ?_
        simp only [d_neg, d_sqr, d_sqrt, d_add, d_sub, d_mul, d_div, val, binR, h1, h2]; grind
      · obtain ⟨h1, h2⟩ := kZero (x := x) (t := t) hk
        refine like_num (by simp only [val, binR, h1]; grind) fun v => ?_
        simp only [d_neg, d_sqr, d_sqrt, d_add, d_sub, d_mul, d_div, val, binR, h1, h2]; grind
    · split
      · rename_i hk
        obtain ⟨h1, h2⟩ := kOne (x := x) (t := t) hk
        refine ⟨by simp only [val, binR, h1]; grind, fun v => ?_⟩
        simp only [d_neg, d_sqr, d_sqrt, d_add, d_sub, d_mul, d_div, val, binR, h1, h2]; grind
      · split
        · rename_i hk
          obtain ⟨h1, h2⟩ := kOne (x := x) (t := t) hk
          refine ⟨by simp only [val, binR, h1]; grind, fun v => ?_⟩
          simp only [d_neg, d_sqr, d_sqrt, d_add, d_sub, d_mul, d_div, val, binR, h1, h2]; grind
        · exact like_fold (o := .mul) fold_mul (by simp)
  | div =>
    simp only [smpB]
    split
    · rename_i hk
      rw [Bool.or_eq_true] at hk
      rcases hk with hk | hk
      · obtain ⟨h1, h2⟩ := kZero (x := x) (t := t) hk
        refine ⟨by simp only [val, binR, h1]; grind, fun v => ?_⟩
        simp only [d_neg, d_sqr, d_sqrt, d_add, d_sub, d_mul, d_div, val, binR, unR, h1, h2]; grind
      · obtain ⟨h1, h2⟩ := kOne (x := x) (t := t) hk
        refine ⟨by simp only [val, binR, h1]; grind, fun v => ?_⟩
        simp only [d_neg, d_sqr, d_sqrt, d_add, d_sub, d_mul, d_div, val, binR, unR, h1, h2]; grind
    · exact Like.refl _
theorem like_smp {n : Nat} : ∀ e : Ex, wf n e = true → Like x t (smp e) e
  | .num _, _ | .var _, _ | .time, _ => Like.refl _
  | .un o a, h => (like_U (smp_wf a h)).trans ((like_smp a h).un o)
  | .bin o a b, h => by
    simp only [wf, Bool.and_eq_true] at h
    exact (like_B (smp_wf b h.2)).trans ((like_smp a h.1).bin o (like_smp b h.2))
theorem val_smp {n : Nat} {e : Ex} (h : wf n e = true) : val x t (smp e) = val x t e := (like_smp e h).1
theorem val_der {n : Nat} {e : Ex} {v : Vr} (h : wf n e = true) : val x t (der v e) = val x t (dif v e) := val_smp (dif_wf v e h)
theorem val_der2 {n : Nat} {e : Ex} {v w : Vr} (h : wf n e = true) : val x t (der w (der v e)) = val x t (dif w (dif v e)) := by
  rw [val_der (der_wf h)]
  exact (like_smp (dif v e) (dif_wf v e h)).2 w

/-! ### Second derivatives are symmetric -/
theorem leaf_dd (v w : Vr) (e : Ex) (h : dif v e = number 1 ∨ dif v e = number 0) : val x t (dif w (dif v e)) = 0 := by
  rcases h with h | h <;> rw [h] <;> exact (by unfold number; rw [dif_num, val0])
theorem dif_leaf (v : Vr) (e : Ex) (h : kids e = []) : dif v e = number 1 ∨ dif v e = number 0 := by
  cases e with
  | num c => right; exact dif_num v c
  | var i => simp only [dif]; split <;> simp
  | time => simp only [dif]; split <;> simp
  | un o a => simp [kids] at h
  | bin o a b => simp [kids] at h
theorem mixed_alg_mul (a b av aw bv bw avw bvw : Rat) : avw * b + av * bw + (aw * bv + a * bvw) = avw * b + aw * bv + (av * bw + a * bvw) := by grind
theorem val_mixed (v w : Vr) : ∀ e : Ex, val x t (dif w (dif v e)) = val x t (dif v (dif w e))
  | .num c => by rw [leaf_dd v w _ (dif_leaf v _ rfl), leaf_dd w v _ (dif_leaf w _ rfl)]
  | .var i => by rw [leaf_dd v w _ (dif_leaf v _ rfl), leaf_dd w v _ (dif_leaf w _ rfl)]
  | .time => by rw [leaf_dd v w _ (dif_leaf v _ rfl), leaf_dd w v _ (dif_leaf w _ rfl)]
  | .un o a => by
    have ih := val_mixed v w a
    cases o with
    | neg => simp only [d_neg, d_sqr, d_sqrt, d_add, d_sub, d_mul, d_div, val, unR, ih]
    | sqr =>
      simp only [d_neg, d_sqr, d_sqrt, d_add, d_sub, d_mul, d_div, val, binR, ih]
      unfold number
      simp only [dif_num, val0]
      generalize val x t (.num (pt (2 * 65536))) = two
      grind
    | sqrt =>
      have h2 : ∀ u, val x t (dif u (number 2)) = 0 := fun u => by unfold number; rw [dif_num, val0]
      simp only [d_neg, d_sqr, d_sqrt, d_add, d_sub, d_mul, d_div, val, binR, unR, ih, h2]
      generalize val x t (number 2) = two
      generalize rt 0 (val x t a) = s
      generalize val x t (dif v (dif w a)) = d
      generalize val x t (dif v a) = p
      generalize val x t (dif w a) = q
      grind
  | .bin o a b => by
    have iha := val_mixed v w a
    have ihb := val_mixed v w b
    cases o with
    | add => simp only [d_neg, d_sqr, d_sqrt, d_add, d_sub, d_mul, d_div, val, binR, iha, ihb]
    | sub => simp only [d_neg, d_sqr, d_sqrt, d_add, d_sub, d_mul, d_div, val, binR, iha, ihb]
    | mul => simp only [d_neg, d_sqr, d_sqrt, d_add, d_sub, d_mul, d_div, val, binR, iha, ihb]; grind
    | div =>
      simp only [d_neg, d_sqr, d_sqrt, d_add, d_sub, d_mul, d_div, val, binR, unR, iha, ihb, val2]
      generalize val x t (dif v (dif w a)) = d
      generalize val x t (dif v (dif w b)) = e
      generalize val x t (dif v a) = p
      generalize val x t (dif w a) = q
      generalize val x t (dif v b) = r
      generalize val x t (dif w b) = s
      generalize val x t a = A
      generalize val x t b = B
      grind
end
end Go.Pl

/- The lengths of derivatives, by the depth of the expression. -/
namespace Go.Pl

def dp : Ex → Nat
  | .num _ | .var _ | .time => 1
  | .un _ a => dp a + 1
  | .bin _ a b => max (dp a) (dp b) + 1
def f0 : Nat → Nat
  | 0 => 0
  | k + 1 => 1 + 2 * f0 k
def f1 : Nat → Nat
  | 0 => 0
  | k + 1 => 5 + 2 * f1 k + 3 * f0 k
def f2 : Nat → Nat
  | 0 => 0
  | k + 1 => 21 + 2 * f2 k + 7 * f0 k + 7 * f1 k
theorem bld_dp (n : Nat) : ∀ (d : Nat) (l : List Nd), dp (bld n d l).1 ≤ d + 1
  | 0, [] => by simp [bld, number, dp]
  | d + 1, [] => by simp [bld, number, dp]
  | 0, x :: r => by
    simp only [bld]
    split
    · simp [dp]
    · split
      · simp [dp]
      · simp [bNum, dp]
  | d + 1, x :: r => by
    have h1 := bld_dp n d r
    have h2 := bld_dp n d (bld n d r).2
    simp only [bld]
    split
    · simp [bNum, dp]
    · split
      · simp [dp]
      · split
        · simp [dp]
        · split
          · simp only [dp]; omega
          · simp only [dp]; omega
theorem mde_dp (n : Nat) (raw : List Nd) (most : Nat) : dp (mde n raw most) ≤ 5 := bld_dp n 4 _
theorem sz_number (n : Int) : sz (number n) = 1 := rfl
theorem sz_neg (v : Vr) (a : Ex) : sz (dif v (.un .neg a)) = sz (dif v a) + 1 := by simp only [dif, sz_un]
theorem sz_sqr (v : Vr) (a : Ex) : sz (dif v (.un .sqr a)) = 3 + sz a + sz (dif v a) := by simp only [dif, sz_bin, sz_number]; omega
theorem sz_sqrt (v : Vr) (a : Ex) : sz (dif v (.un .sqrt a)) = 4 + sz a + sz (dif v a) := by simp only [dif, sz_bin, sz_un, sz_number]; omega
theorem sz_add (v : Vr) (a b : Ex) : sz (dif v (.bin .add a b)) = 1 + sz (dif v a) + sz (dif v b) := by simp only [dif, sz_bin]; omega
theorem sz_sub (v : Vr) (a b : Ex) : sz (dif v (.bin .sub a b)) = 1 + sz (dif v a) + sz (dif v b) := by simp only [dif, sz_bin]; omega
theorem sz_mul (v : Vr) (a b : Ex) : sz (dif v (.bin .mul a b)) = 3 + sz (dif v a) + sz (dif v b) + sz a + sz b := by simp only [dif, sz_bin]; omega
theorem sz_div (v : Vr) (a b : Ex) : sz (dif v (.bin .div a b)) = 5 + sz (dif v a) + sz (dif v b) + sz a + 2 * sz b := by simp only [dif, sz_bin, sz_un]; omega
theorem sz_leaf (v : Vr) {e : Ex} (h : kids e = []) : sz (dif v e) = 1 := by
  cases e with
  | num c => simp only [dif]; split <;> rfl
  | var i => simp only [dif]; split <;> rfl
  | time => simp only [dif]; split <;> rfl
  | un o a => simp [kids] at h
  | bin o a b => simp [kids] at h
theorem sz_knum (v : Vr) (n : Int) : sz (dif v (number n)) = 1 := sz_leaf v rfl
theorem sz_dp : ∀ (k : Nat) (e : Ex), dp e ≤ k → sz e ≤ f0 k ∧ ∀ v, sz (dif v e) ≤ f1 k ∧ ∀ w, sz (dif w (dif v e)) ≤ f2 k
  | 0, e, h => by cases e <;> simp [dp] at h
  | k + 1, .num c, h => ⟨by simp only [sz_num, f0]; omega, fun v => ⟨by rw [sz_leaf v rfl]; simp only [f1]; omega, fun w => by
      have : dif v (.num c) = number 0 := by simp only [dif]; cases v <;> rfl
      rw [this, sz_knum]; simp only [f2]; omega⟩⟩
  | k + 1, .var i, h => ⟨by simp only [sz_var, f0]; omega, fun v => ⟨by rw [sz_leaf v rfl]; simp only [f1]; omega, fun w => by
      have : dif v (.var i) = number 1 ∨ dif v (.var i) = number 0 := by simp only [dif]; split <;> simp
      rcases this with h | h <;> rw [h, sz_knum] <;> simp only [f2] <;> omega⟩⟩
  | k + 1, .time, h => ⟨by simp only [sz_time, f0]; omega, fun v => ⟨by rw [sz_leaf v rfl]; simp only [f1]; omega, fun w => by
      have : dif v .time = number 1 ∨ dif v .time = number 0 := by simp only [dif]; split <;> simp
      rcases this with h | h <;> rw [h, sz_knum] <;> simp only [f2] <;> omega⟩⟩
  | k + 1, .un o a, h => by
    simp only [dp] at h
    obtain ⟨h0, h1⟩ := sz_dp k a (by omega)
    have h0' := sz_pos a
    refine ⟨by simp only [sz_un, f0]; omega, fun v => ?_⟩
    obtain ⟨hv, hvw⟩ := h1 v
    refine ⟨?_, fun w => ?_⟩
    · cases o <;> simp only [sz_neg, sz_sqr, sz_sqrt, f1] <;> omega
    · have := hvw w
      have hw := (h1 w).1
      cases o <;> simp only [d_neg, d_sqr, d_sqrt, sz_neg, sz_sqr, sz_sqrt, sz_add, sz_sub, sz_mul, sz_div, sz_knum, sz_number, sz_un, sz_bin, f2] <;> omega
  | k + 1, .bin o a b, h => by
    simp only [dp] at h
    obtain ⟨a0, a1⟩ := sz_dp k a (by omega)
    obtain ⟨b0, b1⟩ := sz_dp k b (by omega)
    refine ⟨by simp only [sz_bin, f0]; omega, fun v => ?_⟩
    obtain ⟨av, avw⟩ := a1 v
    obtain ⟨bv, bvw⟩ := b1 v
    refine ⟨?_, fun w => ?_⟩
    · cases o <;> simp only [sz_add, sz_sub, sz_mul, sz_div, f1] <;> omega
    · have := avw w
      have := bvw w
      have := (a1 w).1
      have := (b1 w).1
      cases o <;> simp only [d_add, d_sub, d_mul, d_div, sz_neg, sz_sqr, sz_sqrt, sz_add, sz_sub, sz_mul, sz_div, sz_knum, sz_number, sz_un, sz_bin, f2] <;> omega
/-- Simplification shortens derivatives too. -/
theorem number_dif (v : Vr) (c : I) : sz (dif v (.num c)) = 1 := sz_leaf v rfl
theorem sz_dif_pos (v : Vr) (e : Ex) : 1 ≤ sz (dif v e) := sz_pos _
theorem dneg_sz (v : Vr) (a : Ex) : sz (dif v (smpNeg a)) ≤ sz (dif v a) + 1 := by
  unfold smpNeg
  split
  · rw [number_dif]; omega
  · split
    · rw [sz_neg]; omega
    · rw [sz_neg]; omega
theorem dfold_sz (v : Vr) (o : B) (f : I → I → I) (a b : Ex) : sz (dif v ((foldC f a b).getD (.bin o a b))) ≤ sz (dif v (.bin o a b)) := by
  unfold foldC
  split
  · split
    · rw [Option.getD_some, number_dif]; exact sz_pos _
    · exact Nat.le_refl _
  · exact Nat.le_refl _
theorem dif_smp (v : Vr) : ∀ e : Ex, sz (dif v (smp e)) ≤ sz (dif v e)
  | .num _ | .var _ | .time => Nat.le_refl _
  | .un o a => by
    have h := dif_smp v a
    have h2 := smp_sz a
    simp only [smp]
    cases o with
    | neg => have := dneg_sz v (smp a); rw [sz_neg]; simp only [smpU]; omega
    | sqr =>
      simp only [smpU]; rw [sz_sqr]; split
      · omega
      · rw [sz_sqr]; omega
    | sqrt =>
      simp only [smpU]; rw [sz_sqrt]; split
      · omega
      · rw [sz_sqrt]; omega
  | .bin o a b => by
    have h := dif_smp v a
    have h2 := smp_sz a
    have k := dif_smp v b
    have k2 := smp_sz b
    have hf := fun f => dfold_sz v o f (smp a) (smp b)
    have hp := sz_pos (dif v a)
    simp only [smp]
    cases o with
    | add =>
      simp only [sz_add] at hf
      simp only [smpB, smpAdd]; rw [sz_add]; split
      · omega
      · split
        · omega
        · have := hf add; omega
    | sub =>
      simp only [sz_sub] at hf
      simp only [smpB, smpSub]; rw [sz_sub]; split
      · omega
      · split
        · have := dneg_sz v (smp b); omega
        · have := hf sub; omega
    | mul =>
      simp only [sz_mul] at hf
      simp only [smpB, smpMul]; rw [sz_mul]; split
      · rw [sz_knum]; omega
      · split
        · omega
        · split
          · omega
          · have := hf mul; omega
    | div =>
      simp only [smpB]; rw [sz_div]; split
      · omega
      · rw [sz_div]; omega
theorem der_sz {k : Nat} {e : Ex} (h : dp e ≤ k) (v : Vr) : sz (der v e) ≤ f1 k := Nat.le_trans (smp_sz _) ((sz_dp k e h).2 v).1
theorem der2_sz {k : Nat} {e : Ex} (h : dp e ≤ k) (v w : Vr) : sz (dif w (der v e)) ≤ f2 k := Nat.le_trans (dif_smp w _) (((sz_dp k e h).2 v).2 w)
theorem f1_5 : f1 5 = 302 := by decide
theorem f1_6 : f1 6 = 702 := by decide
theorem f2_5 : f2 5 = 3360 := by decide
end Go.Pl

/- Derivatives by variables that do not occur; the leaves of derivatives; Lie derivatives of coordinates; linearity. -/
namespace Go.Pl

/-- The variable of differentiation occurs. -/
def occ (v : Vr) : Ex → Bool
  | .un _ a => occ v a
  | .bin _ a b => occ v a || occ v b
  | e => isV v e
def zeroE : Ex := .num (0, 0)
theorem zero_isK : isK zeroE 0 = true := by decide
theorem smp_num (n : Int) : smp (number n) = number n := rfl
theorem number_zero : number 0 = zeroE := number0
theorem der_un_neg (v : Vr) (a : Ex) : der v (.un .neg a) = smpNeg (der v a) := rfl
theorem der_sqr (v : Vr) (a : Ex) : der v (.un .sqr a) = smpMul (smpMul (number 2) (smp a)) (der v a) := rfl
theorem der_sqrt (v : Vr) (a : Ex) : der v (.un .sqrt a) = smpB .div (der v a) (smpMul (number 2) (smpU .sqrt (smp a))) := rfl
theorem der_add (v : Vr) (a b : Ex) : der v (.bin .add a b) = smpAdd (der v a) (der v b) := rfl
theorem der_sub (v : Vr) (a b : Ex) : der v (.bin .sub a b) = smpSub (der v a) (der v b) := rfl
theorem der_mul (v : Vr) (a b : Ex) : der v (.bin .mul a b) = smpAdd (smpMul (der v a) (smp b)) (smpMul (smp a) (der v b)) := rfl
theorem der_div (v : Vr) (a b : Ex) : der v (.bin .div a b) = smpB .div (smpSub (smpMul (der v a) (smp b)) (smpMul (smp a) (der v b))) (smpU .sqr (smp b)) := rfl
theorem mul_z_l (b : Ex) : smpMul zeroE b = zeroE := by simp [smpMul, zero_isK, number_zero]
theorem mul_z_r (a : Ex) : smpMul a zeroE = zeroE := by simp [smpMul, zero_isK, number_zero]
theorem add_z : smpAdd zeroE zeroE = zeroE := by simp [smpAdd, zero_isK]
theorem sub_z : smpSub zeroE zeroE = zeroE := by simp [smpSub, zero_isK]
theorem neg_z : smpNeg zeroE = zeroE := by decide
theorem div_z (b : Ex) : smpB .div zeroE b = zeroE := by simp [smpB, zero_isK]
theorem der_leaf {v : Vr} {e : Ex} (h : kids e = []) : der v e = if isV v e then number 1 else number 0 := by
  cases e with
  | num c => unfold der; simp only [dif]; split <;> rfl
  | var i => unfold der; simp only [dif]; split <;> rfl
  | time => unfold der; simp only [dif]; split <;> rfl
  | un o a => simp [kids] at h
  | bin o a b => simp [kids] at h
theorem der_none {v : Vr} : ∀ e : Ex, occ v e = false → der v e = zeroE
  | .num c, h => by rw [der_leaf rfl, if_neg (by simpa [occ] using h), number_zero]
  | .var i, h => by rw [der_leaf rfl, if_neg (by simpa [occ] using h), number_zero]
  | .time, h => by rw [der_leaf rfl, if_neg (by simpa [occ] using h), number_zero]
  | .un o a, h => by
    have ih := der_none a (by simpa [occ] using h)
    cases o with
    | neg => rw [der_un_neg, ih, neg_z]
    | sqr => rw [der_sqr, ih, mul_z_r]
    | sqrt => rw [der_sqrt, ih, div_z]
  | .bin o a b, h => by
    simp only [occ, Bool.or_eq_false_iff] at h
    have iha := der_none a h.1
    have ihb := der_none b h.2
    cases o with
    | add => rw [der_add, iha, ihb, add_z]
    | sub => rw [der_sub, iha, ihb, sub_z]
    | mul => rw [der_mul, iha, ihb, mul_z_l, mul_z_r, add_z]
    | div => rw [der_div, iha, ihb, mul_z_l, mul_z_r, sub_z, div_z]

/-! ### Leaves -/
/-- Every variable of a occurs in b. -/
def Lv (a b : Ex) : Prop := ∀ v, occ v a = true → occ v b = true
theorem Lv.refl (a : Ex) : Lv a a := fun _ h => h
theorem Lv.trans {a b c : Ex} (h : Lv a b) (k : Lv b c) : Lv a c := fun v hv => k v (h v hv)
theorem lv_num (c : I) (b : Ex) : Lv (.num c) b := fun v h => by cases v <;> simp [occ, isV] at h
theorem lv_neg (a : Ex) : Lv (smpNeg a) a := by
  unfold smpNeg
  split
  · exact lv_num _ _
  · split
    · exact fun v h => h
    · exact fun v h => h
theorem lv_fold (o : B) (f : I → I → I) (a b : Ex) : Lv ((foldC f a b).getD (.bin o a b)) (.bin o a b) := by
  unfold foldC
  split
  · split
    · exact lv_num _ _
    · exact Lv.refl _
  · exact Lv.refl _
theorem lv_l (o : B) (a b : Ex) : Lv a (.bin o a b) := fun v h => by simp [occ, h]
theorem lv_r (o : B) (a b : Ex) : Lv b (.bin o a b) := fun v h => by simp [occ, h]
theorem lv_bin {o o' : B} {a b a' b' : Ex} (h : Lv a a') (k : Lv b b') : Lv (.bin o a b) (.bin o' a' b') := fun v hv => by
  simp only [occ, Bool.or_eq_true] at hv ⊢
  rcases hv with hv | hv
  · exact .inl (h v hv)
  · exact .inr (k v hv)
theorem lv_U (o : U) (a : Ex) : Lv (smpU o a) a := by
  cases o with
  | neg => exact lv_neg a
  | sqr => simp only [smpU]; split <;> exact fun v h => h
  | sqrt => simp only [smpU]; split <;> exact fun v h => h
theorem lv_B (o : B) (a b : Ex) : Lv (smpB o a b) (.bin o a b) := by
  cases o with
  | add => simp only [smpB, smpAdd]; split; exact lv_r _ _ _; split; exact lv_l _ _ _; exact lv_fold _ _ _ _
  | sub => simp only [smpB, smpSub]; split; exact lv_l _ _ _; split; exact (lv_neg b).trans (lv_r _ _ _); exact lv_fold _ _ _ _
  | mul => simp only [smpB, smpMul]; split; exact lv_num _ _; split; exact lv_r _ _ _; split; exact lv_l _ _ _; exact lv_fold _ _ _ _
  | div => simp only [smpB]; split; exact lv_l _ _ _; exact Lv.refl _
theorem lv_smp : ∀ e : Ex, Lv (smp e) e
  | .num _ | .var _ | .time => Lv.refl _
  | .un o a => (lv_U o (smp a)).trans (lv_smp a)
  | .bin o a b => (lv_B o (smp a) (smp b)).trans (lv_bin (lv_smp a) (lv_smp b))
theorem lv_number (n : Int) (b : Ex) : Lv (number n) b := lv_num _ b
theorem lv_bin2 {o : B} {a b c : Ex} (h : Lv a c) (k : Lv b c) : Lv (.bin o a b) c := fun v hv => by
  simp only [occ, Bool.or_eq_true] at hv
  rcases hv with hv | hv
  · exact h v hv
  · exact k v hv
theorem lv_un2 {o : U} {a c : Ex} (h : Lv a c) : Lv (.un o a) c := fun v hv => h v hv
theorem lv_dif (v : Vr) : ∀ e : Ex, Lv (dif v e) e
  | .num c => by simp only [dif]; split <;> exact lv_number _ _
  | .var i => by simp only [dif]; split <;> exact lv_number _ _
  | .time => by simp only [dif]; split <;> exact lv_number _ _
  | .un o a => by
    have ih := lv_dif v a
    have ih' : Lv (dif v a) (.un o a) := ih
    cases o with
    | neg => exact ih
    | sqr => exact lv_bin2 (lv_bin2 (lv_number _ _) (Lv.refl _)) ih'
    | sqrt => exact lv_bin2 ih' (lv_bin2 (lv_number _ _) (Lv.refl _))
  | .bin o a b => by
    have iha : Lv (dif v a) (.bin o a b) := (lv_dif v a).trans (lv_l _ _ _)
    have ihb : Lv (dif v b) (.bin o a b) := (lv_dif v b).trans (lv_r _ _ _)
    have ha := lv_l o a b
    have hb := lv_r o a b
    cases o with
    | add => exact lv_bin2 iha ihb
    | sub => exact lv_bin2 iha ihb
    | mul => exact lv_bin2 (lv_bin2 iha hb) (lv_bin2 ha ihb)
    | div => exact lv_bin2 (lv_bin2 (lv_bin2 iha hb) (lv_bin2 ha ihb)) (lv_un2 hb)
theorem lv_der (v : Vr) (e : Ex) : Lv (der v e) e := (lv_smp _).trans (lv_dif v e)
/-- The nodes of an expression that are variables. -/
theorem mem_var {i : Nat} : ∀ {e : Ex}, leafN 2 i ∈ ser e ↔ occ (.st i) e = true
  | .num c => by simp [ser, occ, isV, leafN]
  | .var k => by simp [ser, occ, isV, leafN]; omega
  | .time => by simp [ser, occ, isV, leafN]
  | .un o a => by
    have ih := mem_var (i := i) (e := a)
    simp only [ser, List.mem_cons, occ, ih]
    cases o <;> simp [leafN, U.code]
  | .bin o a b => by
    have iha := mem_var (i := i) (e := a)
    have ihb := mem_var (i := i) (e := b)
    simp only [ser, List.mem_cons, List.mem_append, occ, iha, ihb, Bool.or_eq_true]
    cases o <;> simp [leafN, B.code]
theorem mem_time : ∀ {e : Ex}, leafN 3 0 ∈ ser e ↔ occ .tm e = true
  | .num c => by simp [ser, occ, isV, leafN]
  | .var k => by simp [ser, occ, isV, leafN]
  | .time => by simp [ser, occ, isV, leafN]
  | .un o a => by
    have ih := mem_time (e := a)
    simp only [ser, List.mem_cons, occ, ih]
    cases o <;> simp [leafN, U.code]
  | .bin o a b => by
    have iha := mem_time (e := a)
    have ihb := mem_time (e := b)
    simp only [ser, List.mem_cons, List.mem_append, occ, iha, ihb, Bool.or_eq_true]
    cases o <;> simp [leafN, B.code]
end Go.Pl

/- Mean values: the difference of an expression's values at two points is a sum of slopes times differences, with slopes in the enclosures of the derivatives; in rational numbers. -/
namespace Go.Pl

theorem inI_conv {V : I} {x y m : Rat} (h : InI V x) (k : InI V y) (h1 : x ≤ m) (h2 : m ≤ y) : InI V m := by
  rcases h with rfl | ⟨a, b⟩
  · exact .inl rfl
  · rcases k with rfl | ⟨c, d⟩
    · exact .inl rfl
    · exact .inr ⟨by grind, by grind⟩
theorem inI_K {k : Int} {x : Rat} (h : InI (k, k) x) : x = (k : Rat) / 65536 := by
  rcases h with h | ⟨h1, h2⟩
  · have := congrArg (fun p : I => p.1 = p.2) h
    simp only [eq_iff_iff, true_iff] at this
    exact absurd this ent12
  · simp only at h1 h2; grind
theorem inI_k0 {x : Rat} (h : InI (0, 0) x) : x = 0 := by
  have := inI_K h
  rw [this]; decide +kernel
theorem inI_k1 {x : Rat} (h : InI (65536, 65536) x) : x = 1 := by
  have := inI_K h
  rw [this]; decide +kernel
theorem inI_00 : InI (0, 0) 0 := .inr ⟨by decide +kernel, by decide +kernel⟩
theorem inI_11 : InI (65536, 65536) 1 := .inr ⟨by decide +kernel, by decide +kernel⟩
theorem defn_ne {V : I} {x : Rat} (hd : defn V) (h : InI V x) : x ≠ 0 := by
  rintro rfl
  obtain ⟨a, b⟩ := h.resolve_left hd.1
  rw [Rat.zero_mul] at a b
  have := Rat.intCast_nonpos.1 a
  have := Rat.intCast_nonneg.1 b
  have := hd.2
  omega
section
variable {x : List I} {t : I}
theorem T_number (n : Int) (h : -32768 < n ∧ n < 32768) : InI (ev x t (number n)) (n : Rat) := by
  have : number n = .num (n * 65536, n * 65536) := by
    unfold number pt
    rw [mk_num ⟨by omega, by omega⟩ ⟨by omega, by omega⟩]
  rw [this]
  refine .inr ⟨?_, ?_⟩ <;> simp only [ev, Rat.intCast_mul] <;> exact Rat.le_refl
theorem T_neg {A : Ex} {a : Rat} (hw : wf x.length A = true) (h : InI (ev x t A) a) : InI (ev x t (smpNeg A)) (-a) := by
  rw [ev_smpNeg hw]; exact in_neg h
theorem T_add {A B : Ex} {a b : Rat} (h : InI (ev x t A) a) (k : InI (ev x t B) b) : InI (ev x t (smpAdd A B)) (a + b) := by
  unfold smpAdd
  split
  · rename_i hk; rw [ev_isK hk] at h; rw [inI_k0 h, Rat.zero_add]; exact k
  · split
    · rename_i hk; rw [ev_isK hk] at k; rw [inI_k0 k, Rat.add_zero]; exact h
    · have := ev_foldC (x := x) (t := t) (o := .add) (a := A) (b := B)
      simp only [binV] at this
      rw [this]; exact in_add h k
theorem T_sub {A B : Ex} {a b : Rat} (hw : wf x.length B = true) (h : InI (ev x t A) a) (k : InI (ev x t B) b) : InI (ev x t (smpSub A B)) (a - b) := by
  unfold smpSub
  split
  · rename_i hk; rw [ev_isK hk] at k; rw [inI_k0 k]; have : a - 0 = a := by grind
    rw [this]; exact h
  · split
    · rename_i hk; rw [ev_isK hk] at h; rw [inI_k0 h]; have : 0 - b = -b := by grind
      rw [this]; exact T_neg hw k
    · have := ev_foldC (x := x) (t := t) (o := .sub) (a := A) (b := B)
      simp only [binV] at this
      rw [this]; exact in_sub h k
theorem T_mul {A B : Ex} {a b : Rat} (h : InI (ev x t A) a) (k : InI (ev x t B) b) : InI (ev x t (smpMul A B)) (a * b) := by
  unfold smpMul
  split
  · rename_i hk
    rw [Bool.or_eq_true] at hk
    rw [number0]
    have : a * b = 0 := by
      rcases hk with hk | hk
      · rw [ev_isK hk] at h; rw [inI_k0 h, Rat.zero_mul]
      · rw [ev_isK hk] at k; rw [inI_k0 k, Rat.mul_zero]
    rw [this]; exact inI_00
  · split
    · rename_i hk; rw [ev_isK hk] at h; rw [inI_k1 h, Rat.one_mul]; exact k
    · split
      · rename_i hk; rw [ev_isK hk] at k; rw [inI_k1 k, Rat.mul_one]; exact h
      · have := ev_foldC (x := x) (t := t) (o := .mul) (a := A) (b := B)
        simp only [binV] at this
        rw [this]; exact in_mul h k
theorem T_div {A B : Ex} {a b : Rat} (h : InI (ev x t A) a) (k : defn (ev x t B) → InI (ev x t B) b) : InI (ev x t (smpB .div A B)) (a / b) := by
  simp only [smpB]
  split
  · rename_i hk
    rw [Bool.or_eq_true] at hk
    rcases hk with hk | hk
    · rw [ev_isK hk] at h ⊢
      have : a / b = 0 := by rw [inI_k0 h]; grind
      rw [this]; exact inI_00
    · rw [ev_isK hk] at k
      have := inI_k1 (k ⟨by decide, .inl (by decide)⟩)
      have e : a / b = a := by rw [this]; grind
      rw [e]; exact h
  · exact in_div h k
theorem T_free {A B : Ex} {r : Rat} (h : ¬ defn (ev x t B)) (k : isK A 0 = true → r = 0) : InI (ev x t (smpB .div A B)) r := by
  simp only [smpB]
  split
  · rename_i hk
    rw [Bool.or_eq_true] at hk
    rcases hk with hk | hk
    · rw [k hk, ev_isK hk]; exact inI_00
    · rw [ev_isK hk] at h; exact absurd ⟨by decide, .inl (by decide)⟩ h
  · show InI (div _ _) r
    rw [div_undef h]; exact .inl rfl
/-- The product of two values of one sign lies in the square. -/
theorem T_sqp {A : Ex} {a b : Rat} (hw : wf x.length A = true) (h : InI (ev x t A) a) (k : InI (ev x t A) b) (hd : defn (ev x t (smpU .sqr A))) : InI (ev x t (smpU .sqr A)) (a * b) := by
  rw [ev_smpU hw] at hd ⊢
  simp only [unV] at hd ⊢
  generalize ev x t A = V at *
  have hV : V ≠ ent := by
    rintro rfl
    exact hd.1 rfl
  obtain ⟨a1, a2⟩ := h.resolve_left hV
  obtain ⟨b1, b2⟩ := k.resolve_left hV
  have he : ¬ entB V = true := by rw [entB_iff]; exact hV
  unfold sq at hd ⊢
  rw [if_neg he] at hd ⊢
  have hz : ¬ (V.1 ≤ 0 ∧ 0 ≤ V.2) := by
    intro hz
    rw [if_pos hz] at hd
    have e0 : fl 0 65536 = 0 := by decide
    rw [e0] at hd
    have hM : 0 ≤ max (V.1 * V.1) (V.2 * V.2) := by have := sqnn V.1; omega
    have hc : 0 ≤ ce (max (V.1 * V.1) (V.2 * V.2)) 65536 := by
      have := ce_mono (b := 65536) (by decide) hM
      have e : ce 0 65536 = 0 := by decide
      omega
    obtain ⟨d1, d2⟩ := hd
    unfold mk at d1 d2
    split at d2
    · simp only at d2; omega
    · rename_i hn; rw [if_neg hn] at d1; exact d1 rfl
  rw [if_neg hz]
  have hx : (((min (V.1 * V.1) (V.2 * V.2) : Int)) : Rat) ≤ (a * 65536) * (b * 65536) ∧ (a * 65536) * (b * 65536) ≤ ((max (V.1 * V.1) (V.2 * V.2) : Int) : Rat) := by
    by_cases hp : 0 < V.1
    · have hp' : (0 : Rat) ≤ (V.1 : Rat) := Rat.intCast_nonneg.2 (by omega)
      have k1 := rmulL hp' b1
      have k2 := rmulL (Rat.le_trans (Rat.le_trans hp' b1) (Rat.le_refl)) a1
      have k3 := rmulL (Rat.le_trans hp' a1) b2
      have k4 := rmulL (Rat.le_trans hp' (Rat.le_trans a1 a2)) a2
      have m1 : ((min (V.1 * V.1) (V.2 * V.2) : Int) : Rat) ≤ ((V.1 * V.1 : Int) : Rat) := ic.2 (by omega)
      have m2 : ((V.2 * V.2 : Int) : Rat) ≤ ((max (V.1 * V.1) (V.2 * V.2) : Int) : Rat) := ic.2 (by omega)
      rw [Rat.intCast_mul] at m1 m2
      constructor <;> grind
    · have hn : V.2 < 0 := by omega
      have hn' : (V.2 : Rat) ≤ 0 := Rat.intCast_nonpos.2 (by omega)
      have k1 := rmulL' hn' b2
      have k2 := rmulL' (Rat.le_trans b2 hn') a2
      have k3 := rmulL' (Rat.le_trans a2 hn') b1
      have k4 := rmulL' (Rat.le_trans (Rat.le_trans a1 a2) hn') a1
      have m1 : ((min (V.1 * V.1) (V.2 * V.2) : Int) : Rat) ≤ ((V.2 * V.2 : Int) : Rat) := ic.2 (by omega)
      have m2 : ((V.1 * V.1 : Int) : Rat) ≤ ((max (V.1 * V.1) (V.2 * V.2) : Int) : Rat) := ic.2 (by omega)
      rw [Rat.intCast_mul] at m1 m2
      constructor <;> grind
  obtain ⟨p, q⟩ := hx
  generalize (min (V.1 * V.1) (V.2 * V.2) : Int) = m at *
  generalize (max (V.1 * V.1) (V.2 * V.2) : Int) = M at *
  obtain ⟨f1, _⟩ := fl_le (x := m) (b := 65536) (by decide)
  obtain ⟨f2, _⟩ := le_ce (x := M) (b := 65536) (by decide)
  have e : ((65536 : Int) : Rat) = 65536 := rfl
  rw [e] at f1 f2
  exact in_mk (by grind) (by grind)
end

/-! ### Slopes of square roots -/
theorem small (δ : Rat) (h : 0 < δ) : ∃ k, 1 / (grid k : Rat) ≤ δ := by
  refine ⟨(1 / δ).ceil.toNat, ?_⟩
  have hN := grid_posR (1 / δ).ceil.toNat
  have h1 : 1 / δ ≤ ((1 / δ).ceil : Rat) := Rat.le_ceil
  have h2 : ((1 / δ).ceil : Rat) ≤ (grid (1 / δ).ceil.toNat : Rat) := ic.2 (by unfold grid; omega)
  have h3 : 1 / δ ≤ (grid (1 / δ).ceil.toNat : Rat) := Rat.le_trans h1 h2
  generalize (grid (1 / δ).ceil.toNat : Rat) = N at *
  refine le_rdiv hN ?_
  have h4 := rmulL (Rat.le_of_lt h) h3
  have h5 : δ * (1 / δ) = 1 := by grind
  rw [h5] at h4; exact h4
theorem slope {u v : Rat} (hu : 0 ≤ u) (huv : u < v) : ∃ k, rt k u < rt k v ∧ 2 * rt k u * (rt k v - rt k u) ≤ v - u ∧ v - u ≤ 2 * rt k v * (rt k v - rt k u) := by
  have hv : 0 < v := by grind
  obtain ⟨M, hM⟩ : ∃ M : Rat, M = 2 * v + 3 := ⟨_, rfl⟩
  have hM0 : 0 < M := by grind
  obtain ⟨g, hg⟩ : ∃ g : Rat, g = (v - u) / M := ⟨_, rfl⟩
  have hg0 : 0 < g := by rw [hg]; exact (Rat.lt_div_iff hM0).2 (by grind)
  have hgM : g * M = v - u := by rw [hg]; exact Rat.div_mul_cancel (by grind)
  obtain ⟨δ, hδ⟩ : ∃ δ : Rat, δ = g * g / (4 * M) := ⟨_, rfl⟩
  have hδ0 : 0 < δ := by rw [hδ]; exact (Rat.lt_div_iff (by grind)).2 (by have := Rat.mul_pos hg0 hg0; grind)
  have hδM : δ * (4 * M) = g * g := by rw [hδ]; exact Rat.div_mul_cancel (by grind)
  have hm : 0 < min (min (g / 2) δ) 1 := by
    have : 0 < g / 2 := (Rat.lt_div_iff (by decide +kernel)).2 (by grind)
    grind
  obtain ⟨k, hk⟩ := small _ hm
  have hk1 : 1 / (grid k : Rat) ≤ g / 2 := by grind
  have hk2 : 1 / (grid k : Rat) ≤ δ := by grind
  have hk3 : 1 / (grid k : Rat) ≤ 1 := by grind
  have hN := grid_posR k
  have hh0 : 0 < 1 / (grid k : Rat) := (Rat.lt_div_iff hN).2 (by grind)
  obtain ⟨e0, e1, e2⟩ := rt_spec k hu
  obtain ⟨f0, f1, f2⟩ := rt_spec k (Rat.le_of_lt hv)
  refine ⟨k, ?_⟩
  generalize rt k u = e at *
  generalize rt k v = f at *
  generalize 1 / (grid k : Rat) = h at *
  have hf : f ≤ v + 1 := Rat.not_lt.1 fun hc => by
    have c1 := Rat.mul_lt_mul_of_pos_left (c := f) hc (by grind)
    have c2 := rmulL (a := (1 : Rat)) (b := f) (c := v) (by grind) (by grind)
    grind
  have he : e ≤ v + 1 := Rat.not_lt.1 fun hc => by
    have c1 := Rat.mul_lt_mul_of_pos_left (c := e) hc (by grind)
    have c2 := rmulL (a := (1 : Rat)) (b := e) (c := v) (by grind) (by grind)
    grind
  -- the difference of the roots is at least g / 2
  have d1 : v - u < (f - e + h) * (f + e + h) := by grind
  have d2 : 0 < f - e + h := Rat.not_le.1 fun hc => by
    have := rmulL' hc (a := 0) (b := f + e + h) (by grind)
    grind
  have d3 : (f - e + h) * (f + e + h) ≤ (f - e + h) * M := rmulL (Rat.le_of_lt d2) (by grind)
  have d4 : g < f - e + h := Rat.lt_of_mul_lt_mul_right (c := M) (by grind) (Rat.le_of_lt hM0)
  have d5 : g / 2 < f - e := by grind
  have g2 : 0 < g / 2 := (Rat.lt_div_iff (by decide +kernel)).2 (by grind)
  have d6 : g / 2 * (g / 2) ≤ (f - e) * (f - e) := by
    have a1 := rmulL (Rat.le_of_lt g2) (Rat.le_of_lt d5)
    have a2 := rmulL (c := f - e) (by grind) (Rat.le_of_lt d5)
    grind
  have d7 : h * M ≤ g / 2 * (g / 2) := by
    have := rmulL (Rat.le_of_lt hM0) hk2
    grind
  have d8 : 2 * f * h + h * h ≤ h * M := by
    have := rmulL (Rat.le_of_lt hh0) (a := 2 * f + h) (b := M) (by grind)
    grind
  have d9 : 2 * e * h + h * h ≤ h * M := by
    have := rmulL (Rat.le_of_lt hh0) (a := 2 * e + h) (b := M) (by grind)
    grind
  refine ⟨by grind, by grind, by grind⟩
end Go.Pl

/- Taylor coefficients of a tape as equations, over any algebra; intervals and rational numbers; inclusion. -/
namespace Go.Pl

structure Alg (α : Type) where
  zero : α
  one : α
  num : I → α
  neg : α → α
  add : α → α → α
  sub : α → α → α
  mul : α → α → α
  sq : α → α
  div : α → α → α
  root : α → α
  dbl : α → α

section
variable {α : Type} (G : Alg α)
def sumA (f : Nat → α) : Nat → α
  | 0 => G.zero
  | 1 => f 0
  | m + 2 => G.add (sumA f (m + 1)) (f (m + 1))
def convA (f g : Nat → α) (frm m k : Nat) : α := sumA G (fun i => G.mul (f (frm + i)) (g (k - (frm + i)))) m
/-- Coefficient m of an instruction that is no variable. -/
def fA (x : Ins) (A : Nat → Nat → α) (q : Nat → α) (t : α) (m : Nat) : α :=
  if x.op = 4 then G.neg (A x.a.toNat m)
  else if x.op = 7 then G.add (A x.a.toNat m) (A x.b.toNat m)
  else if x.op = 8 then G.sub (A x.a.toNat m) (A x.b.toNat m)
  else if x.op = 9 then convA G (A x.a.toNat) (A x.b.toNat) 0 (m + 1) m
  else if x.op = 5 then (if m = 0 then G.sq (A x.a.toNat 0) else convA G (A x.a.toNat) (A x.a.toNat) 0 (m + 1) m)
  else if x.op = 10 then (if m = 0 then G.div (A x.a.toNat 0) (A x.b.toNat 0) else G.div (G.sub (A x.a.toNat m) (convA G (A x.b.toNat) q 1 m m)) (A x.b.toNat 0))
  else if x.op = 6 then (if m = 0 then G.root (A x.a.toNat 0) else G.div (G.sub (A x.a.toNat m) (convA G q q 1 (m - 1) m)) (G.dbl (q 0)))
  else if x.op = 1 then (if m = 0 then G.num x.c else G.zero)
  else if x.op = 3 then (if m = 0 then t else if m = 1 then G.one else G.zero)
  else G.zero
variable {G}
theorem sumA_congr {f g : Nat → α} : ∀ {m : Nat}, (∀ i, i < m → f i = g i) → sumA G f m = sumA G g m
  | 0, _ => rfl
  | 1, h => h 0 (by omega)
  | m + 2, h => by simp only [sumA]; rw [sumA_congr (m := m + 1) (fun i hi => h i (by omega)), h (m + 1) (by omega)]
theorem convA_congr {f g f' g' : Nat → α} {frm m k : Nat} (hf : ∀ i, frm ≤ i → i < frm + m → f i = f' i) (hg : ∀ i, frm ≤ i → i < frm + m → g (k - i) = g' (k - i)) : convA G f g frm m k = convA G f' g' frm m k :=
  sumA_congr fun i hi => by rw [hf (frm + i) (by omega) (by omega), hg (frm + i) (by omega) (by omega)]
/-- Only earlier instructions' coefficients up to m and the own ones below m count. -/
theorem fA_congr {x : Ins} {n j : Nat} (hx : insOk n j x) {A A' : Nat → Nat → α} {q q' : Nat → α} {t : α} {m : Nat} (hA : ∀ j' i, j' < j → i ≤ m → A j' i = A' j' i) (hq : ∀ i, i < m → q i = q' i) : fA G x A q t m = fA G x A' q' t m := by
  have h2 : 4 ≤ x.op → x.a.toNat < j := fun h => by rcases hx with h1 | h1 | h1 | h1 | h1 <;> omega
  have h3 : 7 ≤ x.op → x.b.toNat < j := fun h => by rcases hx with h1 | h1 | h1 | h1 | h1 <;> omega
  unfold fA
  by_cases o4 : x.op = 4
  · rw [if_pos o4, if_pos o4, hA _ _ (h2 (by omega)) (Nat.le_refl _)]
  rw [if_neg o4, if_neg o4]
  by_cases o7 : x.op = 7
  · rw [if_pos o7, if_pos o7, hA _ _ (h2 (by omega)) (Nat.le_refl _), hA _ _ (h3 (by omega)) (Nat.le_refl _)]
  rw [if_neg o7, if_neg o7]
  by_cases o8 : x.op = 8
  · rw [if_pos o8, if_pos o8, hA _ _ (h2 (by omega)) (Nat.le_refl _), hA _ _ (h3 (by omega)) (Nat.le_refl _)]
  rw [if_neg o8, if_neg o8]
  by_cases o9 : x.op = 9
  · rw [if_pos o9, if_pos o9]
    exact convA_congr (fun i _ h => hA _ _ (h2 (by omega)) (by omega)) (fun i _ h => hA _ _ (h3 (by omega)) (by omega))
  rw [if_neg o9, if_neg o9]
  by_cases o5 : x.op = 5
  · rw [if_pos o5, if_pos o5]
    by_cases m0 : m = 0
    · rw [if_pos m0, if_pos m0, hA _ _ (h2 (by omega)) (by omega)]
    · rw [if_neg m0, if_neg m0]
      exact convA_congr (fun i _ h => hA _ _ (h2 (by omega)) (by omega)) (fun i _ h => hA _ _ (h2 (by omega)) (by omega))
  rw [if_neg o5, if_neg o5]
  by_cases o10 : x.op = 10
  · rw [if_pos o10, if_pos o10]
    by_cases m0 : m = 0
    · rw [if_pos m0, if_pos m0, hA _ _ (h2 (by omega)) (by omega), hA _ _ (h3 (by omega)) (by omega)]
    · rw [if_neg m0, if_neg m0, hA _ _ (h2 (by omega)) (Nat.le_refl _), hA _ 0 (h3 (by omega)) (by omega)]
      rw [convA_congr (f' := A' x.b.toNat) (g' := q') (fun i _ h => hA _ _ (h3 (by omega)) (by omega)) (fun i _ h => hq _ (by omega))]
  rw [if_neg o10, if_neg o10]
  by_cases o6 : x.op = 6
  · rw [if_pos o6, if_pos o6]
    by_cases m0 : m = 0
    · rw [if_pos m0, if_pos m0, hA _ _ (h2 (by omega)) (by omega)]
    · rw [if_neg m0, if_neg m0, hA _ _ (h2 (by omega)) (Nat.le_refl _), hq 0 (by omega)]
      rw [convA_congr (f' := q') (g' := q') (fun i _ h => hq _ (by omega)) (fun i _ h => hq _ (by omega))]
  rw [if_neg o6, if_neg o6]
end

/-! ### Intervals -/
def algI : Alg I := ⟨(0, 0), (65536, 65536), fun c => c, neg, add, sub, mul, sq, div, rootI, fun q => mulr q 2 1⟩
theorem sumA_I (f : Nat → I) : ∀ m, sumA algI f m = sumF f m
  | 0 => rfl
  | 1 => rfl
  | m + 2 => by simp only [sumA, sumF]; rw [sumA_I f (m + 1)]; rfl
theorem convA_I (a b : List I) (frm m k : Nat) : convA algI (atN a) (atN b) frm m k = convI a b frm m k := sumA_I _ _
theorem rowN_toNat (l : List (List I)) (k : Int) : rowN l (k.toNat : Int) = rowN l k := by unfold rowN; rw [Int.toNat_natCast]
theorem nextC_fA (x : Ins) (l : List (List I)) (own : List I) (t : I) : nextC x l own t = fA algI x (fun j i => atN (rowN l (j : Int)) i) (atN own) t own.length := by
  unfold nextC fA nextQ nextR
  simp only [rowN_toNat, convA_I]
  rfl

section
variable {T : Tp} {x : List I} {t : I} (hT : tpOk T) (hx : allV x) (ht : vB t = true)
/-- Row a begins row b. -/
def pre1 (a b : List I) : Prop := ∃ r, b = a ++ r
theorem pre1.refl (a : List I) : pre1 a a := ⟨[], by simp⟩
theorem pre1.trans {a b c : List I} (h : pre1 a b) (k : pre1 b c) : pre1 a c := by
  obtain ⟨r, rfl⟩ := h; obtain ⟨s, rfl⟩ := k; exact ⟨r ++ s, by simp⟩
theorem pre1.at {a b : List I} (h : pre1 a b) {i : Nat} (hi : i < a.length) : atN b i = atN a i := by
  obtain ⟨r, rfl⟩ := h
  unfold atN; rw [List.getElem?_append_left hi]
def preL (l l' : List (List I)) : Prop := ∀ j : Nat, pre1 (rowN l (j : Int)) (rowN l' (j : Int))
theorem preL.refl (l : List (List I)) : preL l l := fun _ => .refl _
theorem preL.trans {l l' l'' : List (List I)} (h : preL l l') (k : preL l' l'') : preL l l'' := fun j => (h j).trans (k j)
theorem preL.push (l : List (List I)) (i : Nat) (p : I) : preL l (l.set i (rowN l (i : Int) ++ [p])) := fun j => by
  by_cases h : i = j
  · subst h
    by_cases hi : i < l.length
    · rw [rowN_set_self hi]; exact ⟨[p], rfl⟩
    · rw [List.set_eq_of_length_le (by omega)]; exact .refl _
  · rw [rowN_set_ne h]; exact .refl _
theorem stepL_pre (L : List Ins) (out : List (List I)) (t : I) (k : Nat) (l : List (List I)) : ∀ i, preL l (stepL L out t k l i)
  | 0 => .refl _
  | i + 1 => by
    cases hy : L[i]? with
    | none => simp only [stepL, hy]; exact stepL_pre L out t k l i
    | some y => rw [stepL_succ hy]; exact (stepL_pre L out t k l i).trans (.push _ _ _)
theorem stepL_pre2 (L : List Ins) (out : List (List I)) (t : I) (k : Nat) (l : List (List I)) (i : Nat) : ∀ d, preL (stepL L out t k l i) (stepL L out t k l (i + d))
  | 0 => .refl _
  | d + 1 => by
    refine (stepL_pre2 L out t k l i d).trans ?_
    rw [show i + (d + 1) = (i + d) + 1 by omega]
    cases hy : L[i + d]? with
    | none => simp only [stepL, hy]; exact .refl _
    | some y => rw [stepL_succ hy]; exact .push _ _ _
theorem stepO_pre (T : Tp) (l out : List (List I)) (k : Nat) : ∀ i, preL out (stepO T l k out i)
  | 0 => .refl _
  | i + 1 => by
    cases hy : T.out[i]? with
    | none => simp only [stepO, hy]; exact stepO_pre T l out k i
    | some y => rw [stepO_succ hy]; exact (stepO_pre T l out k i).trans (.push _ _ _)
theorem stepO_pre2 (T : Tp) (l out : List (List I)) (k i : Nat) : ∀ d, preL (stepO T l k out i) (stepO T l k out (i + d))
  | 0 => .refl _
  | d + 1 => by
    refine (stepO_pre2 T l out k i d).trans ?_
    rw [show i + (d + 1) = (i + d) + 1 by omega]
    cases hy : T.out[i + d]? with
    | none => simp only [stepO, hy]; exact .refl _
    | some y => rw [stepO_succ hy]; exact .push _ _ _
theorem expS_pre (T : Tp) (x : List I) (t : I) (k : Nat) : ∀ d, preL (expS T x t k).1 (expS T x t (k + d)).1 ∧ preL (expS T x t k).2 (expS T x t (k + d)).2
  | 0 => ⟨.refl _, .refl _⟩
  | d + 1 => ⟨(expS_pre T x t k d).1.trans (stepL_pre _ _ _ _ _ _), (expS_pre T x t k d).2.trans (stepO_pre _ _ _ _ _)⟩
/-- Coefficient m of instruction j; of variable i. -/
def cL (T : Tp) (x : List I) (t : I) (j m : Nat) : I := atN (rowN (expS T x t (m + 1)).1 (j : Int)) m
def cO (T : Tp) (x : List I) (t : I) (i m : Nat) : I := atN (rowN (expS T x t m).2 (i : Int)) m
include hT hx ht in
theorem cL_at {k j m : Nat} (hj : j < T.L.length) (hm : m < k) : atN (rowN (expS T x t k).1 (j : Int)) m = cL T x t j m := by
  have h := (expS_pre T x t (m + 1) (k - (m + 1))).1 j
  rw [show m + 1 + (k - (m + 1)) = k by omega] at h
  exact h.at (by rw [(expS_ok hT hx ht (m + 1)).1.row j hj, if_neg (by omega)]; omega)
include hT hx ht in
theorem cO_at {k i m : Nat} (hi : i < T.n) (hm : m ≤ k) : atN (rowN (expS T x t k).2 (i : Int)) m = cO T x t i m := by
  have h := (expS_pre T x t m (k - m)).2 i
  rw [show m + (k - m) = k by omega] at h
  exact h.at (by rw [(expS_ok hT hx ht m).2.row i hi, if_neg (by omega)]; omega)
theorem cO_zero {i : Nat} (hi : i < T.n) : cO T x t i 0 = atN x i := by
  simp [cO, expS, rowN, hi, atN]
include hT hx ht in
theorem cO_succ {i m o : Nat} (hi : i < T.n) (ho : T.out[i]? = some o) : cO T x t i (m + 1) = mulr (cL T x t o m) 1 (m + 1) := by
  obtain ⟨e1, e2⟩ := expS_ok hT hx ht m
  have hl := stepL_ok hT ht e1 e2.val T.L.length (Nat.le_refl _)
  have hs := stepO_ok hT hl.val e2 i (by omega)
  have hp := stepO_pre2 T (expS T x t (m + 1)).1 (expS T x t m).2 m (i + 1) (T.out.length - (i + 1)) i
  have hil : i < T.out.length := (List.getElem?_eq_some_iff.1 ho).1
  rw [show i + 1 + (T.out.length - (i + 1)) = T.out.length by omega] at hp
  have hrow := hs.row i hi
  rw [if_neg (by omega)] at hrow
  have hsl : i < (stepO T (expS T x t (m + 1)).1 m (expS T x t m).2 i).length := by rw [show (expS T x t (m + 1)).1 = stepL T.L (expS T x t m).2 t m (expS T x t m).1 T.L.length from rfl, hs.len]; exact hi
  have e : rowN (stepO T (expS T x t (m + 1)).1 m (expS T x t m).2 (i + 1)) (i : Int) = rowN (stepO T (expS T x t (m + 1)).1 m (expS T x t m).2 i) (i : Int) ++ [mulr (atN (rowN (expS T x t (m + 1)).1 (o : Int)) m) 1 (m + 1)] := by
    rw [stepO_succ ho, rowN_set_self hsl]
  have hrow' : (rowN (stepO T (expS T x t (m + 1)).1 m (expS T x t m).2 i) (i : Int)).length = m + 1 := hrow
  show atN (rowN (stepO T (expS T x t (m + 1)).1 m (expS T x t m).2 T.out.length) (i : Int)) (m + 1) = _
  rw [hp.at (by rw [e]; simp [hrow']), e]
  unfold atN
  rw [List.getElem?_append_right (by omega), hrow', Nat.sub_self]
  rfl
include hT hx ht in
theorem cL_eq {j m : Nat} {y : Ins} (hy : T.L[j]? = some y) : cL T x t j m = if y.op = 2 then cO T x t y.a.toNat m else fA algI y (cL T x t) (cL T x t j) t m := by
  have hj := (List.getElem?_eq_some_iff.1 hy).1
  obtain ⟨e1, e2⟩ := expS_ok hT hx ht m
  have hl := stepL_ok hT ht e1 e2.val j (by omega)
  have hp := stepL_pre2 T.L (expS T x t m).2 t m (expS T x t m).1 (j + 1) (T.L.length - (j + 1)) j
  rw [show j + 1 + (T.L.length - (j + 1)) = T.L.length by omega] at hp
  have hp0 := stepL_pre2 T.L (expS T x t m).2 t m (expS T x t m).1 j (T.L.length - j)
  rw [show j + (T.L.length - j) = T.L.length by omega] at hp0
  have hrow := hl.row j hj
  rw [if_neg (by omega)] at hrow
  have hsl : j < (stepL T.L (expS T x t m).2 t m (expS T x t m).1 j).length := by rw [hl.len]; exact hj
  have e := stepL_succ (out := (expS T x t m).2) (l := (expS T x t m).1) (t := t) (k := m) hy
  have er : rowN (stepL T.L (expS T x t m).2 t m (expS T x t m).1 (j + 1)) (j : Int) = rowN (stepL T.L (expS T x t m).2 t m (expS T x t m).1 j) (j : Int) ++ [coefV y (expS T x t m).2 (stepL T.L (expS T x t m).2 t m (expS T x t m).1 j) t m j] := by
    rw [e, rowN_set_self hsl]
  have h1 : cL T x t j m = coefV y (expS T x t m).2 (stepL T.L (expS T x t m).2 t m (expS T x t m).1 j) t m j := by
    show atN (rowN (stepL T.L (expS T x t m).2 t m (expS T x t m).1 T.L.length) (j : Int)) m = _
    rw [hp.at (by rw [er]; simp [hrow]), er]
    unfold atN
    rw [List.getElem?_append_right (by omega), hrow, Nat.sub_self]
    rfl
  rw [h1]
  have hins := hT.ins j y hy
  unfold coefV
  by_cases o2 : y.op = 2
  · rw [if_pos o2, if_pos o2]
    have hn : y.a.toNat < T.n := by rcases hins with h | h | h | h | h <;> omega
    rw [← rowN_toNat]
    exact cO_at hT hx ht hn (Nat.le_refl _)
  · rw [if_neg o2, if_neg o2, nextC_fA, hrow]
    refine fA_congr hins (fun j' i hj' hi => ?_) (fun i hi => ?_)
    · have hr := hl.row j' (by omega)
      rw [if_pos hj'] at hr
      rw [← (hp0 j').at (by omega)]
      exact cL_at (k := m + 1) hT hx ht (by omega) (by omega)
    · rw [← (hp0 j).at (by omega)]
      exact cL_at (k := m + 1) hT hx ht hj (by omega)
end
end Go.Pl

/- Taylor coefficients in rational numbers; they lie in the intervals. -/
namespace Go.Pl

def algR (p : Nat) : Alg Rat := ⟨0, 1, fun c => (c.1 : Rat) / 65536, fun x => -x, fun x y => x + y, fun x y => x - y, fun x y => x * y, fun x => x * x, fun x y => x / y, rt p, fun x => 2 * x⟩
/-- A column: the first i instructions' coefficients m. -/
def colR (T : Tp) (p : Nat) (s : Rat) (A : Nat → Nat → Rat) (o : Nat → Rat) (m : Nat) : Nat → Nat → Rat
  | 0 => fun _ => 0
  | i + 1 => fun j => if j = i then (match T.L[i]? with
      | some x => if x.op = 2 then o x.a.toNat else fA (algR p) x (fun j' i' => if i' = m then colR T p s A o m i j' else A j' i') (A i) s m
      | none => 0) else colR T p s A o m i j
/-- The columns below m, and the variables' coefficients m. -/
def runR (T : Tp) (p : Nat) (s : Rat) (y : Nat → Rat) : Nat → (Nat → Nat → Rat) × (Nat → Rat)
  | 0 => (fun _ _ => 0, y)
  | m + 1 => (fun j i => if i = m then colR T p s (runR T p s y m).1 (runR T p s y m).2 m T.L.length j else (runR T p s y m).1 j i,
      fun i => colR T p s (runR T p s y m).1 (runR T p s y m).2 m T.L.length ((T.out[i]?).getD 0) / ((m + 1 : Nat) : Rat))
def rL (T : Tp) (p : Nat) (s : Rat) (y : Nat → Rat) (j m : Nat) : Rat := (runR T p s y (m + 1)).1 j m
def rO (T : Tp) (p : Nat) (s : Rat) (y : Nat → Rat) (i m : Nat) : Rat := (runR T p s y m).2 i
section
variable {T : Tp} {p : Nat} {s : Rat} {y : Nat → Rat}
theorem runR_at {m : Nat} : ∀ {k : Nat}, m < k → ∀ j, (runR T p s y k).1 j m = rL T p s y j m
  | 0, h, j => by omega
  | k + 1, h, j => by
    by_cases e : m = k
    · subst e; rfl
    · show (if m = k then _ else (runR T p s y k).1 j m) = _
      rw [if_neg e]; exact runR_at (by omega) j
theorem colR_at {A : Nat → Nat → Rat} {o : Nat → Rat} {m i j : Nat} (hj : j < i) : ∀ {k : Nat}, i ≤ k → colR T p s A o m k j = colR T p s A o m i j
  | k, h => by
    induction k with
    | zero => rw [show i = 0 by omega]
    | succ k ih =>
      by_cases e : i = k + 1
      · rw [e]
      · show (if j = k then _ else colR T p s A o m k j) = _
        rw [if_neg (by omega)]; exact ih (by omega)
theorem rO_zero (i : Nat) : rO T p s y i 0 = y i := rfl
theorem rL_col (j m : Nat) : rL T p s y j m = colR T p s (runR T p s y m).1 (runR T p s y m).2 m T.L.length j := by
  show (if m = m then _ else _) = _
  rw [if_pos rfl]
theorem rO_succ {i m o : Nat} (ho : T.out[i]? = some o) : rO T p s y i (m + 1) = rL T p s y o m / ((m + 1 : Nat) : Rat) := by
  rw [rL_col]
  show colR T p s (runR T p s y m).1 (runR T p s y m).2 m T.L.length ((T.out[i]?).getD 0) / ((m + 1 : Nat) : Rat) = _
  rw [ho]; rfl
theorem rL_eq (hT : tpOk T) {j m : Nat} {x : Ins} (hx : T.L[j]? = some x) : rL T p s y j m = if x.op = 2 then rO T p s y x.a.toNat m else fA (algR p) x (rL T p s y) (rL T p s y j) s m := by
  have hj := (List.getElem?_eq_some_iff.1 hx).1
  rw [rL_col, colR_at (i := j + 1) (by omega) (by omega)]
  show (if j = j then (match T.L[j]? with
      | some x => if x.op = 2 then (runR T p s y m).2 x.a.toNat else fA (algR p) x (fun j' i' => if i' = m then colR T p s (runR T p s y m).1 (runR T p s y m).2 m j j' else (runR T p s y m).1 j' i') ((runR T p s y m).1 j) s m
      | none => 0) else _) = _
  rw [if_pos rfl, hx]
  simp only
  by_cases o2 : x.op = 2
  · rw [if_pos o2, if_pos o2]; rfl
  · rw [if_neg o2, if_neg o2]
    refine fA_congr (hT.ins j x hx) (fun j' i hj' hi => ?_) (fun i hi => runR_at hi j)
    by_cases e : i = m
    · subst e
      rw [if_pos rfl, rL_col, colR_at (i := j' + 1) (k := T.L.length) (by omega) (by omega), colR_at (i := j' + 1) (k := j) (by omega) (by omega)]
    · rw [if_neg e]; exact runR_at (by omega) j'
end

/-! ### Inclusion -/
theorem in_mulr {a : I} {x : Rat} {n d : Int} (hn : 0 ≤ n) (hd : 0 < d) (h : InI a x) : InI (mulr a n d) (x * n / d) := by
  unfold mulr
  rcases h with rfl | ⟨h1, h2⟩
  · rw [if_pos (by decide)]; exact .inl rfl
  · split
    · rename_i he; rw [entB_iff] at he; exact .inl he
    · have hdR : (0 : Rat) < (d : Rat) := Rat.intCast_pos.2 hd
      have hnR : (0 : Rat) ≤ (n : Rat) := Rat.intCast_nonneg.2 hn
      have f1 := (fl_le (x := a.1 * n) (b := d) (by omega)).1
      have f2 := (le_ce (x := a.2 * n) (b := d) (by omega)).1
      have m1 := Rat.mul_le_mul_of_nonneg_right h1 hnR
      have m2 := Rat.mul_le_mul_of_nonneg_right h2 hnR
      have c1 : ((a.1 * n : Int) : Rat) = (a.1 : Rat) * (n : Rat) := Rat.intCast_mul _ _
      have c2 : ((a.2 * n : Int) : Rat) = (a.2 : Rat) * (n : Rat) := Rat.intCast_mul _ _
      rw [c1] at f1
      rw [c2] at f2
      have e : x * n / d * 65536 = (x * 65536 * n) / d := by grind
      refine in_mk ?_ ?_
      · rw [e]
        refine Rat.le_trans f1 ?_
        exact rdiv_le hdR (by have : (a.1 : Rat) * n / d * d = a.1 * n := by grind
                              rw [this]; exact m1)
      · rw [e]
        refine Rat.le_trans ?_ f2
        exact le_rdiv hdR (by have : (a.2 : Rat) * n / d * d = a.2 * n := by grind
                              rw [this]; exact m2)
theorem in_sumA {p : Nat} {f : Nat → I} {g : Nat → Rat} : ∀ {m : Nat}, (∀ i, i < m → InI (f i) (g i)) → InI (sumA algI f m) (sumA (algR p) g m)
  | 0, _ => inI_00
  | 1, h => h 0 (by omega)
  | m + 2, h => in_add (in_sumA fun i hi => h i (by omega)) (h (m + 1) (by omega))
theorem in_convA {p : Nat} {f g : Nat → I} {f' g' : Nat → Rat} {frm m k : Nat} (hf : ∀ i, frm ≤ i → i < frm + m → InI (f i) (f' i)) (hg : ∀ i, frm ≤ i → i < frm + m → InI (g (k - i)) (g' (k - i))) : InI (convA algI f g frm m k) (convA (algR p) f' g' frm m k) :=
  in_sumA fun i hi => in_mul (hf (frm + i) (by omega) (by omega)) (hg (frm + i) (by omega) (by omega))
theorem in_root {p : Nat} {a : I} {x : Rat} (h : InI a x) : InI (rootI a) (rt p x) := in_rt p h
theorem in_dbl {a : I} {x : Rat} (h : InI a x) : InI (mulr a 2 1) (2 * x) := by
  have := in_mulr (n := 2) (d := 1) (by decide) (by decide) h
  have e : x * ((2 : Int) : Rat) / ((1 : Int) : Rat) = 2 * x := by
    have e1 : ((2 : Int) : Rat) = 2 := rfl
    have e2 : ((1 : Int) : Rat) = 1 := rfl
    rw [e1, e2]; grind
  rwa [e] at this
theorem in_fA {x : Ins} {n j : Nat} (hx : insOk n j x) (o2 : x.op ≠ 2) {p : Nat} {A : Nat → Nat → I} {A' : Nat → Nat → Rat} {q : Nat → I} {q' : Nat → Rat} {t : I} {s : Rat} {m : Nat} (hA : ∀ j' i, j' < j → i ≤ m → InI (A j' i) (A' j' i)) (hq : ∀ i, i < m → InI (q i) (q' i)) (ht : InI t s) :
    InI (fA algI x A q t m) (fA (algR p) x A' q' s m) := by
  have h2 : 4 ≤ x.op → x.a.toNat < j := fun h => by rcases hx with h1 | h1 | h1 | h1 | h1 <;> omega
  have h3 : 7 ≤ x.op → x.b.toNat < j := fun h => by rcases hx with h1 | h1 | h1 | h1 | h1 <;> omega
  unfold fA
  by_cases o4 : x.op = 4
  · rw [if_pos o4, if_pos o4]; exact in_neg (hA _ _ (h2 (by omega)) (Nat.le_refl _))
  rw [if_neg o4, if_neg o4]
  by_cases o7 : x.op = 7
  · rw [if_pos o7, if_pos o7]; exact in_add (hA _ _ (h2 (by omega)) (Nat.le_refl _)) (hA _ _ (h3 (by omega)) (Nat.le_refl _))
  rw [if_neg o7, if_neg o7]
  by_cases o8 : x.op = 8
  · rw [if_pos o8, if_pos o8]; exact in_sub (hA _ _ (h2 (by omega)) (Nat.le_refl _)) (hA _ _ (h3 (by omega)) (Nat.le_refl _))
  rw [if_neg o8, if_neg o8]
  by_cases o9 : x.op = 9
  · rw [if_pos o9, if_pos o9]
    exact in_convA (fun i _ h => hA _ _ (h2 (by omega)) (by omega)) (fun i _ h => hA _ _ (h3 (by omega)) (by omega))
  rw [if_neg o9, if_neg o9]
  by_cases o5 : x.op = 5
  · rw [if_pos o5, if_pos o5]
    by_cases m0 : m = 0
    · rw [if_pos m0, if_pos m0]; exact in_sq (hA _ _ (h2 (by omega)) (by omega))
    · rw [if_neg m0, if_neg m0]
      exact in_convA (fun i _ h => hA _ _ (h2 (by omega)) (by omega)) (fun i _ h => hA _ _ (h2 (by omega)) (by omega))
  rw [if_neg o5, if_neg o5]
  by_cases o10 : x.op = 10
  · rw [if_pos o10, if_pos o10]
    by_cases m0 : m = 0
    · rw [if_pos m0, if_pos m0]; exact in_div (hA _ _ (h2 (by omega)) (by omega)) (fun _ => hA _ _ (h3 (by omega)) (by omega))
    · rw [if_neg m0, if_neg m0]
      exact in_div (in_sub (hA _ _ (h2 (by omega)) (Nat.le_refl _)) (in_convA (fun i _ h => hA _ _ (h3 (by omega)) (by omega)) (fun i _ h => hq _ (by omega)))) (fun _ => hA _ _ (h3 (by omega)) (by omega))
  rw [if_neg o10, if_neg o10]
  by_cases o6 : x.op = 6
  · rw [if_pos o6, if_pos o6]
    by_cases m0 : m = 0
    · rw [if_pos m0, if_pos m0]; exact in_root (hA _ _ (h2 (by omega)) (by omega))
    · rw [if_neg m0, if_neg m0]
      exact in_div (in_sub (hA _ _ (h2 (by omega)) (Nat.le_refl _)) (in_convA (fun i _ h => hq _ (by omega)) (fun i _ h => hq _ (by omega)))) (fun _ => in_dbl (hq 0 (by omega)))
  rw [if_neg o6, if_neg o6]
  by_cases o1 : x.op = 1
  · rw [if_pos o1, if_pos o1]
    by_cases m0 : m = 0
    · rw [if_pos m0, if_pos m0]
      have hv : vB x.c = true := by rcases hx with h1 | h1 | h1 | h1 | h1 <;> first | exact h1.2 | omega
      exact inI_num hv
    · rw [if_neg m0, if_neg m0]; exact inI_00
  rw [if_neg o1, if_neg o1]
  by_cases o3 : x.op = 3
  · rw [if_pos o3, if_pos o3]
    by_cases m0 : m = 0
    · rw [if_pos m0, if_pos m0]; exact ht
    · rw [if_neg m0, if_neg m0]
      by_cases m1 : m = 1
      · rw [if_pos m1, if_pos m1]; exact inI_11
      · rw [if_neg m1, if_neg m1]; exact inI_00
  rw [if_neg o3, if_neg o3]; exact inI_00
/-- All coefficients lie in the intervals. -/
theorem in_coef {T : Tp} {x : List I} {t : I} (hT : tpOk T) (hx : allV x) (ht : vB t = true) (p : Nat) {s : Rat} {y : Nat → Rat} (hy : ∀ i, i < T.n → InI (atN x i) (y i)) (hs : InI t s) :
    ∀ m, (∀ i, i < T.n → InI (cO T x t i m) (rO T p s y i m)) ∧ (∀ j, j < T.L.length → InI (cL T x t j m) (rL T p s y j m)) := by
  intro m
  induction m using Nat.strongRecOn with
  | ind m ih =>
    have hO : ∀ i, i < T.n → InI (cO T x t i m) (rO T p s y i m) := by
      intro i hi
      cases m with
      | zero => rw [cO_zero hi, rO_zero]; exact hy i hi
      | succ m =>
        obtain ⟨o, ho⟩ : ∃ o, T.out[i]? = some o := ⟨T.out[i]'(by rw [hT.len]; exact hi), by simp⟩
        rw [cO_succ hT hx ht hi ho, rO_succ ho]
        have := in_mulr (n := 1) (d := (m : Int) + 1) (by decide) (by omega) ((ih m (by omega)).2 o (hT.out o (List.mem_of_getElem? ho)))
        have e : rL T p s y o m * ((1 : Int) : Rat) / (((m : Int) + 1 : Int) : Rat) = rL T p s y o m / ((m + 1 : Nat) : Rat) := by
          have e1 : ((1 : Int) : Rat) = 1 := rfl
          have e2 : (((m : Int) + 1 : Int) : Rat) = ((m + 1 : Nat) : Rat) := by
            have : ((m : Int) + 1) = ((m + 1 : Nat) : Int) := by omega
            rw [this]; exact Rat.intCast_natCast _
          rw [e1, e2]; grind
        rwa [e] at this
    refine ⟨hO, fun j => ?_⟩
    induction j using Nat.strongRecOn with
    | ind j ihj =>
      intro hj
      obtain ⟨x', hx'⟩ : ∃ x', T.L[j]? = some x' := ⟨T.L[j], by simp [hj]⟩
      rw [cL_eq hT hx ht hx', rL_eq hT hx']
      by_cases o2 : x'.op = 2
      · rw [if_pos o2, if_pos o2]
        refine hO _ ?_
        have := hT.ins j x' hx'
        rcases this with h | h | h | h | h <;> omega
      · rw [if_neg o2, if_neg o2]
        refine in_fA (hT.ins j x' hx') o2 (fun j' i hj' hi => ?_) (fun i hi => (ih i hi).2 j hj) hs
        rcases Nat.lt_or_eq_of_le hi with h | h
        · exact (ih i h).2 j' (by omega)
        · rw [h]; exact ihj j' hj' (by omega)
end Go.Pl

/- The Taylor coefficients along a small step: their differences up to the square of the step. -/
namespace Go.Pl

def sm (f : Nat → Rat) : Nat → Rat
  | 0 => 0
  | m + 1 => sm f m + f m
theorem sumA_sm (p : Nat) (f : Nat → Rat) : ∀ m, sumA (algR p) f m = sm f m
  | 0 => rfl
  | 1 => by show f 0 = 0 + f 0; grind
  | m + 2 => by
    show sumA (algR p) f (m + 1) + f (m + 1) = sm f (m + 1) + f (m + 1)
    rw [sumA_sm p f (m + 1)]
theorem sm_congr {f g : Nat → Rat} : ∀ {m : Nat}, (∀ i, i < m → f i = g i) → sm f m = sm g m
  | 0, _ => rfl
  | m + 1, h => by simp only [sm]; rw [sm_congr fun i hi => h i (by omega), h m (by omega)]
theorem sm_add (f g : Nat → Rat) : ∀ m, sm (fun i => f i + g i) m = sm f m + sm g m
  | 0 => by simp only [sm]; grind
  | m + 1 => by simp only [sm]; rw [sm_add f g m]; grind
theorem sm_mul (c : Rat) (f : Nat → Rat) : ∀ m, sm (fun i => c * f i) m = c * sm f m
  | 0 => by simp only [sm]; grind
  | m + 1 => by simp only [sm]; rw [sm_mul c f m]; grind
theorem sm_shift (f : Nat → Rat) : ∀ m, sm f (m + 1) = f 0 + sm (fun i => f (i + 1)) m
  | 0 => by simp only [sm]; grind
  | m + 1 => by
    have := sm_shift f m
    simp only [sm] at this ⊢
    grind
/-- The coefficient m of a product. -/
def cv (a b : Nat → Rat) (m : Nat) : Rat := sm (fun i => a i * b (m - i)) (m + 1)
theorem natCast_succ (i : Nat) : ((i + 1 : Nat) : Rat) = (i : Rat) + 1 := by
  have : ((i + 1 : Nat) : Rat) = ((((i : Int) + 1 : Int)) : Rat) := (Rat.intCast_natCast (i + 1)).symm
  rw [this, Rat.intCast_add]
  rfl
theorem conv_der (a b : Nat → Rat) (m : Nat) : sm (fun i => ((i + 1 : Nat) : Rat) * a (i + 1) * b (m - i) + a i * (((m - i + 1 : Nat) : Rat) * b (m - i + 1))) (m + 1) = ((m + 1 : Nat) : Rat) * cv a b (m + 1) := by
  rw [sm_add]
  have h1 : sm (fun i => ((i + 1 : Nat) : Rat) * a (i + 1) * b (m - i)) (m + 1) = sm (fun i => (i : Rat) * (a i * b (m + 1 - i))) (m + 2) := by
    rw [sm_shift (fun i => (i : Rat) * (a i * b (m + 1 - i))) (m + 1)]
    have e0 : ((0 : Nat) : Rat) * (a 0 * b (m + 1 - 0)) = 0 := by
      have : ((0 : Nat) : Rat) = 0 := rfl
      rw [this]; grind
    rw [e0]
    have : ∀ x : Rat, 0 + x = x := by intro x; grind
    rw [this]
    refine sm_congr fun i hi => ?_
    rw [show m + 1 - (i + 1) = m - i by omega]
    grind
  have h2 : sm (fun i => a i * (((m - i + 1 : Nat) : Rat) * b (m - i + 1))) (m + 1) = sm (fun i => ((m + 1 - i : Nat) : Rat) * (a i * b (m + 1 - i))) (m + 2) := by
    show _ = sm (fun i => ((m + 1 - i : Nat) : Rat) * (a i * b (m + 1 - i))) (m + 1) + ((m + 1 - (m + 1) : Nat) : Rat) * (a (m + 1) * b (m + 1 - (m + 1)))
    have e0 : ((m + 1 - (m + 1) : Nat) : Rat) * (a (m + 1) * b (m + 1 - (m + 1))) = 0 := by
      have : ((m + 1 - (m + 1) : Nat) : Rat) = 0 := by rw [Nat.sub_self]; rfl
      rw [this]; grind
    rw [e0]
    have : ∀ x : Rat, x + 0 = x := by intro x; grind
    rw [this]
    refine sm_congr fun i hi => ?_
    rw [show m + 1 - i = m - i + 1 by omega]
    grind
  rw [h1, h2, ← sm_add, cv, ← sm_mul]
  refine sm_congr fun i hi => ?_
  have e : ((m + 1 - i : Nat) : Rat) = ((m + 1 : Nat) : Rat) - (i : Rat) := by
    have h3 : ((m + 1 - i : Nat) : Int) = ((m + 1 : Nat) : Int) - (i : Int) := by omega
    have h4 : ((m + 1 - i : Nat) : Rat) = (((m + 1 - i : Nat) : Int) : Rat) := (Rat.intCast_natCast _).symm
    rw [h4, h3, Rat.intCast_sub, Rat.intCast_natCast, Rat.intCast_natCast]
  rw [e]; grind

/-- Small steps of the polygon inside a box. -/
structure StR (T : Tp) (X : List I) (τ : I) where
  p : Nat
  δ : Rat
  s : Rat
  y : Nat → Rat
  y' : Nat → Rat
  hy : ∀ i, i < T.n → InI (atN X i) (y i)
  hy' : ∀ i, i < T.n → InI (atN X i) (y' i)
  hs : InI τ s
  hs' : InI τ (s + δ)
  pos : 0 < δ
  small : δ ≤ 4
  fine : 1 / (grid p : Rat) ≤ δ * δ
  euler : ∀ i o, T.out[i]? = some o → y' i = y i + δ * rL T p s y o 0
section
variable {T : Tp} {X : List I} {τ : I}
def Dfx (u u' d : StR T X τ → Rat) : Prop := ∃ K, 0 ≤ K ∧ ∀ r, Df K r.δ (u r) (u' r) (d r)
def Bdx (u : StR T X τ → Rat) : Prop := ∃ W, 0 ≤ W ∧ ∀ r, Bn W (u r)
variable {u u' d v v' e : StR T X τ → Rat}
theorem Bdx.add (h : Bdx u) (k : Bdx v) : Bdx fun r => u r + v r := by
  obtain ⟨K, k0, hK⟩ := h; obtain ⟨L, l0, hL⟩ := k
  exact ⟨K + L, by grind, fun r => (hK r).add (hL r)⟩
theorem Bdx.mul (h : Bdx u) (k : Bdx v) : Bdx fun r => u r * v r := by
  obtain ⟨K, k0, hK⟩ := h; obtain ⟨L, l0, hL⟩ := k
  exact ⟨K * L, Rat.mul_nonneg k0 l0, fun r => (hK r).mul (hL r)⟩
theorem Bdx.smul (c : Rat) (h : Bdx u) : Bdx fun r => c * u r := by
  obtain ⟨K, k0, hK⟩ := h
  have hc : ∃ C, 0 ≤ C ∧ Bn C c := by
    by_cases h : 0 ≤ c
    · exact ⟨c, h, by unfold Bn; grind⟩
    · exact ⟨-c, by grind, by unfold Bn; grind⟩
  obtain ⟨C, c0, hC⟩ := hc
  exact ⟨C * K, Rat.mul_nonneg c0 k0, fun r => Bn.mul hC (hK r)⟩
theorem Dfx.add (h : Dfx u u' d) (k : Dfx v v' e) : Dfx (fun r => u r + v r) (fun r => u' r + v' r) (fun r => d r + e r) := by
  obtain ⟨K, k0, hK⟩ := h; obtain ⟨L, l0, hL⟩ := k
  exact ⟨K + L, by grind, fun r => (hK r).add (hL r)⟩
theorem Dfx.sub (h : Dfx u u' d) (k : Dfx v v' e) : Dfx (fun r => u r - v r) (fun r => u' r - v' r) (fun r => d r - e r) := by
  obtain ⟨K, k0, hK⟩ := h; obtain ⟨L, l0, hL⟩ := k
  exact ⟨K + L, by grind, fun r => (hK r).sub (hL r)⟩
theorem Dfx.neg (h : Dfx u u' d) : Dfx (fun r => - u r) (fun r => - u' r) (fun r => - d r) := by
  obtain ⟨K, k0, hK⟩ := h
  exact ⟨K, k0, fun r => (hK r).neg⟩
theorem Dfx.const (c : Rat) : Dfx (fun _ : StR T X τ => c) (fun _ => c) (fun _ => 0) := ⟨0, by grind, fun r => Df.const c⟩
theorem Dfx.congr (h : Dfx u u' d) (h1 : ∀ r, u r = v r) (h2 : ∀ r, u' r = v' r) (h3 : ∀ r, d r = e r) : Dfx v v' e := by
  obtain ⟨K, k0, hK⟩ := h
  exact ⟨K, k0, fun r => by rw [← h1, ← h2, ← h3]; exact hK r⟩
theorem Dfx.smul (c : Rat) (h : Dfx u u' d) : Dfx (fun r => c * u r) (fun r => c * u' r) (fun r => c * d r) := by
  obtain ⟨K, k0, hK⟩ := h
  have hc : ∃ C, 0 ≤ C ∧ Bn C c := by
    by_cases h : 0 ≤ c
    · exact ⟨c, h, by unfold Bn; grind⟩
    · exact ⟨-c, by grind, by unfold Bn; grind⟩
  obtain ⟨C, c0, hC⟩ := hc
  exact ⟨C * K, Rat.mul_nonneg c0 k0, fun r => (hK r).smul c hC⟩
theorem Dfx.mul (h : Dfx u u' d) (k : Dfx v v' e) (bu' : Bdx u') (bv : Bdx v) (bd : Bdx d) (be : Bdx e) : Dfx (fun r => u r * v r) (fun r => u' r * v' r) (fun r => d r * v r + u r * e r) := by
  obtain ⟨K, k0, hK⟩ := h; obtain ⟨L, l0, hL⟩ := k
  obtain ⟨W1, w1, h1⟩ := bu'; obtain ⟨W2, w2, h2⟩ := bv; obtain ⟨W3, w3, h3⟩ := bd; obtain ⟨W4, w4, h4⟩ := be
  generalize hW : W1 + W2 + W3 + W4 = W
  have w0 : 0 ≤ W := by grind
  have n1 := Rat.mul_nonneg w0 w0
  have n2 := Rat.mul_nonneg (Rat.mul_nonneg (show (0 : Rat) ≤ 4 by grind) w0) k0
  have n3 := Rat.mul_nonneg w0 l0
  have n4 := Rat.mul_nonneg w0 k0
  exact ⟨W * W + 4 * W * K + W * L + W * K, by grind, fun r => (hK r).mul (Rat.le_of_lt r.pos) r.small (hL r) ((h1 r).mono (by grind)) ((h2 r).mono (by grind)) ((h3 r).mono (by grind)) ((h4 r).mono (by grind))⟩
theorem Dfx.sum {f f' g : Nat → StR T X τ → Rat} : ∀ {m : Nat}, (∀ i, i < m → Dfx (f i) (f' i) (g i)) → Dfx (fun r => sm (fun i => f i r) m) (fun r => sm (fun i => f' i r) m) (fun r => sm (fun i => g i r) m)
  | 0, _ => Dfx.const 0
  | m + 1, h => Dfx.add (Dfx.sum fun i hi => h i (by omega)) (h m (by omega))
theorem Bdx.sum {f : Nat → StR T X τ → Rat} : ∀ {m : Nat}, (∀ i, i < m → Bdx (f i)) → Bdx (fun r => sm (fun i => f i r) m)
  | 0, _ => ⟨0, by grind, fun r => Bn.zero (by grind)⟩
  | m + 1, h => Bdx.add (Bdx.sum fun i hi => h i (by omega)) (h m (by omega))
theorem nndiv {a b : Rat} (ha : 0 ≤ a) (hb : 0 < b) : 0 ≤ a / b := by
  rw [Rat.div_def]; exact Rat.mul_nonneg ha (Rat.le_of_lt (Rat.inv_pos.2 hb))
theorem Dfx.cancel {b b' db q q' dq : StR T X τ → Rat} {β : Rat} (hβ : 0 < β) (hb : ∀ r, Far β (b r)) (hb' : ∀ r, Far β (b' r)) (hP : Dfx (fun r => b r * q r) (fun r => b' r * q' r) (fun r => db r * q r + b r * dq r)) (hB : Dfx b b' db)
    (wb : Bdx b) (wq : Bdx q) (wdb : Bdx db) (wdq : Bdx dq) : Dfx q q' dq := by
  obtain ⟨K, k0, hK⟩ := hP; obtain ⟨L, l0, hL⟩ := hB
  obtain ⟨W1, w1, h1⟩ := wb; obtain ⟨W2, w2, h2⟩ := wq; obtain ⟨W3, w3, h3⟩ := wdb; obtain ⟨W4, w4, h4⟩ := wdq
  generalize hW : W1 + W2 + W3 + W4 = W
  have w0 : 0 ≤ W := by grind
  have n1 := Rat.mul_nonneg w0 w0
  have n2 := Rat.mul_nonneg (show (0 : Rat) ≤ 4 by grind) k0
  have n3 := Rat.mul_nonneg (Rat.mul_nonneg (show (0 : Rat) ≤ 4 by grind) w0) l0
  have n4 := Rat.mul_nonneg (show (0 : Rat) ≤ 4 by grind) l0
  have n5 := Rat.mul_nonneg w0 l0
  have n6 : 0 ≤ (W * W + 4 * K + 4 * W * L) / β := nndiv (by grind) hβ
  have n7 : 0 ≤ (W * W + 4 * K + 4 * W * L) / β * (W + 4 * L) := Rat.mul_nonneg n6 (by grind)
  exact ⟨(K + W * L + (W * W + 4 * K + 4 * W * L) / β * (W + 4 * L)) / β, nndiv (by grind) hβ, fun r => Df.cancel (Rat.le_of_lt r.pos) r.small hβ (hb r) (hb' r) (hK r) (hL r) ((h1 r).mono (by grind)) ((h2 r).mono (by grind)) ((h3 r).mono (by grind)) ((h4 r).mono (by grind))⟩
theorem Dfx.root {q q' dq : StR T X τ → Rat} {β : Rat} (hβ : 0 < β) (hb : ∀ r, β ≤ q r) (hb' : ∀ r, β ≤ q' r) (hP : Dfx (fun r => q r * q r) (fun r => q' r * q' r) (fun r => 2 * q r * dq r)) (wq : Bdx q) (wdq : Bdx dq) : Dfx q q' dq := by
  obtain ⟨K, k0, hK⟩ := hP
  obtain ⟨W1, w1, h1⟩ := wq; obtain ⟨W2, w2, h2⟩ := wdq
  generalize hW : W1 + W2 = W
  have w0 : 0 ≤ W := by grind
  have n1 := Rat.mul_nonneg w0 w0
  have n2 : 0 ≤ (2 * W * W + 4 * K) / (2 * β) := nndiv (by grind) (by grind)
  have n3 := Rat.mul_nonneg n2 n2
  exact ⟨(K + (2 * W * W + 4 * K) / (2 * β) * ((2 * W * W + 4 * K) / (2 * β))) / (2 * β), nndiv (by grind) (by grind), fun r => Df.root (Rat.le_of_lt r.pos) hβ r.small (hb r) (hb' r) (hK r) k0 ((h1 r).mono (by grind)) ((h2 r).mono (by grind))⟩
/-- A change of the order of the square does not matter. -/
theorem Dfx.near (h : Dfx u u' d) {C : Rat} (hC : 0 ≤ C) (h1 : ∀ r, Bn (C * (r.δ * r.δ)) (v r - u r)) (h2 : ∀ r, Bn (C * (r.δ * r.δ)) (v' r - u' r)) : Dfx v v' d := by
  obtain ⟨K, k0, hK⟩ := h
  refine ⟨K + 2 * C, by grind, fun r => ?_⟩
  have h0 : Bn (K * (r.δ * r.δ)) (u' r - u r - r.δ * d r) := hK r
  have := (Bn.add h0 (h2 r)).sub (h1 r)
  unfold Df
  have e1 : K * (r.δ * r.δ) + C * (r.δ * r.δ) + C * (r.δ * r.δ) = (K + 2 * C) * (r.δ * r.δ) := by grind
  have e2 : u' r - u r - r.δ * d r + (v' r - u' r) - (v r - u r) = v' r - v r - r.δ * d r := by grind
  rwa [e1, e2] at this
end
end Go.Pl

/- Along a small step every rational coefficient moves by its derivative, up to the square of the step. -/
namespace Go.Pl

theorem add_ne {a b : I} (h : add a b ≠ ent) : a ≠ ent ∧ b ≠ ent := by
  refine ⟨fun e => h ?_, fun e => h ?_⟩ <;> subst e <;> unfold add <;> simp [show entB ent = true from rfl]
theorem neg_ne {a : I} (h : neg a ≠ ent) : a ≠ ent := fun e => h (by subst e; rfl)
theorem sub_ne {a b : I} (h : sub a b ≠ ent) : a ≠ ent ∧ b ≠ ent := by
  unfold sub at h
  exact ⟨(add_ne h).1, neg_ne (add_ne h).2⟩
theorem mul_ne {a b : I} (h : mul a b ≠ ent) : a ≠ ent ∧ b ≠ ent := by
  refine ⟨fun e => h ?_, fun e => h ?_⟩ <;> subst e <;> unfold mul <;> simp [show entB ent = true from rfl]
theorem div_ne {a b : I} (h : div a b ≠ ent) : a ≠ ent ∧ b ≠ ent ∧ (0 < b.1 ∨ b.2 < 0) := by
  refine ⟨fun e => h ?_, fun e => h ?_, ?_⟩
  · subst e; unfold div; simp [show entB ent = true from rfl]
  · subst e; unfold div; simp [show entB ent = true from rfl]
  · by_cases k : 0 < b.1 ∨ b.2 < 0
    · exact k
    · exfalso
      apply h
      unfold div
      rw [if_pos]
      simp
      omega
theorem mulr_ne {a : I} {n d : Int} (h : mulr a n d ≠ ent) : a ≠ ent := fun e => h (by subst e; rfl)
theorem sumA_ne {f : Nat → I} : ∀ {m : Nat}, sumA algI f m ≠ ent → ∀ i, i < m → f i ≠ ent
  | 0, _, i, hi => by omega
  | 1, h, i, hi => by rw [show i = 0 by omega]; exact h
  | m + 2, h, i, hi => by
    have h' : add (sumA algI f (m + 1)) (f (m + 1)) ≠ ent := h
    obtain ⟨h1, h2⟩ := add_ne h'
    by_cases e : i = m + 1
    · rw [e]; exact h2
    · exact sumA_ne h1 i (by omega)
theorem convA_ne {f g : Nat → I} {frm m k : Nat} (h : convA algI f g frm m k ≠ ent) : ∀ i, frm ≤ i → i < frm + m → f i ≠ ent ∧ g (k - i) ≠ ent := fun i h1 h2 => by
  have := sumA_ne h (i - frm) (by omega)
  rw [show frm + (i - frm) = i by omega] at this
  exact mul_ne this
theorem sqrt_ent_root : rootI ent = ent := by
  unfold rootI
  rw [if_pos (by decide)]
theorem rootI_ne {a : I} (h : rootI a ≠ ent) : a ≠ ent ∧ 0 ≤ a.1 := by
  refine ⟨fun e => h (by subst e; exact sqrt_ent_root), ?_⟩
  unfold rootI at h
  split at h
  · exact absurd rfl h
  · omega
section
variable {T : Tp} {X : List I} {τ : I}
def aL (j m : Nat) (r : StR T X τ) : Rat := rL T r.p r.s r.y j m
def aL' (j m : Nat) (r : StR T X τ) : Rat := rL T r.p (r.s + r.δ) r.y' j m
def aO (i m : Nat) (r : StR T X τ) : Rat := rO T r.p r.s r.y i m
def aO' (i m : Nat) (r : StR T X τ) : Rat := rO T r.p (r.s + r.δ) r.y' i m
variable (hT : tpOk T) (hX : allV X) (hτ : vB τ = true)
include hT hX hτ in
theorem aL_in (j m : Nat) (hj : j < T.L.length) (r : StR T X τ) : InI (cL T X τ j m) (aL j m r) ∧ InI (cL T X τ j m) (aL' j m r) :=
  ⟨(in_coef hT hX hτ r.p r.hy r.hs m).2 j hj, (in_coef hT hX hτ r.p r.hy' r.hs' m).2 j hj⟩
theorem InI_bn {c : I} (hc : c ≠ ent) : ∃ W, 0 ≤ W ∧ ∀ x, InI c x → Bn W x := by
  have w0 : (0 : Int) ≤ max (max c.1 (-c.1)) (max c.2 (-c.2)) := by omega
  have w1 : -(max (max c.1 (-c.1)) (max c.2 (-c.2))) ≤ c.1 := by omega
  have w2 : c.2 ≤ max (max c.1 (-c.1)) (max c.2 (-c.2)) := by omega
  generalize max (max c.1 (-c.1)) (max c.2 (-c.2)) = W at *
  have r0 : (0 : Rat) ≤ (W : Rat) := Rat.intCast_nonneg.2 w0
  have r1 : -(W : Rat) ≤ (c.1 : Rat) := by
    have := Rat.intCast_le_intCast.2 w1
    rwa [Rat.intCast_neg] at this
  have r2 : (c.2 : Rat) ≤ (W : Rat) := Rat.intCast_le_intCast.2 w2
  refine ⟨(W : Rat), r0, fun x hx => ?_⟩
  rcases hx with hx | ⟨h1, h2⟩
  · exact absurd hx hc
  · unfold Bn
    constructor <;> grind
include hT hX hτ in
theorem aL_bd (j m : Nat) (hj : j < T.L.length) (hc : cL T X τ j m ≠ ent) : Bdx (T := T) (X := X) (τ := τ) (aL j m) ∧ Bdx (T := T) (X := X) (τ := τ) (aL' j m) := by
  obtain ⟨W, w0, hW⟩ := InI_bn hc
  exact ⟨⟨W, w0, fun r => hW _ (aL_in hT hX hτ j m hj r).1⟩, ⟨W, w0, fun r => hW _ (aL_in hT hX hτ j m hj r).2⟩⟩
theorem dO_step {i o m : Nat} (ho : T.out[i]? = some o) (h : Dfx (T := T) (X := X) (τ := τ) (aL o m) (aL' o m) (fun r => ((m + 1 : Nat) : Rat) * aL o (m + 1) r)) :
    Dfx (T := T) (X := X) (τ := τ) (aO i (m + 1)) (aO' i (m + 1)) (fun r => ((m + 1 + 1 : Nat) : Rat) * aO i (m + 1 + 1) r) := by
  have m1 : ((m + 1 : Nat) : Rat) ≠ 0 := by
    have : (0 : Rat) < ((m + 1 : Nat) : Rat) := by rw [← Rat.intCast_natCast]; exact Rat.intCast_pos.2 (by omega)
    grind
  have m2 : ((m + 1 + 1 : Nat) : Rat) ≠ 0 := by
    have : (0 : Rat) < ((m + 1 + 1 : Nat) : Rat) := by rw [← Rat.intCast_natCast]; exact Rat.intCast_pos.2 (by omega)
    grind
  refine (Dfx.smul (1 / ((m + 1 : Nat) : Rat)) h).congr (fun r => ?_) (fun r => ?_) (fun r => ?_)
  · show _ = rO T r.p r.s r.y i (m + 1)
    rw [rO_succ ho]
    show 1 / ((m + 1 : Nat) : Rat) * rL T r.p r.s r.y o m = _
    grind
  · show _ = rO T r.p (r.s + r.δ) r.y' i (m + 1)
    rw [rO_succ ho]
    show 1 / ((m + 1 : Nat) : Rat) * rL T r.p (r.s + r.δ) r.y' o m = _
    grind
  · show _ = ((m + 1 + 1 : Nat) : Rat) * rO T r.p r.s r.y i (m + 1 + 1)
    rw [rO_succ ho]
    show 1 / ((m + 1 : Nat) : Rat) * (((m + 1 : Nat) : Rat) * rL T r.p r.s r.y o (m + 1)) = _
    grind
theorem dO_zero {i o : Nat} (ho : T.out[i]? = some o) : Dfx (T := T) (X := X) (τ := τ) (aO i 0) (aO' i 0) (fun r => ((0 + 1 : Nat) : Rat) * aO i (0 + 1) r) := by
  refine ⟨0, by grind, fun r => ?_⟩
  show Df 0 r.δ (r.y i) (r.y' i) (((0 + 1 : Nat) : Rat) * rO T r.p r.s r.y i (0 + 1))
  rw [rO_succ ho, r.euler i o ho]
  have e4 : ((0 + 1 : Nat) : Rat) = 1 := rfl
  rw [e4]
  unfold Df Bn
  constructor <;> grind
theorem convA_cv (p : Nat) (a b : Nat → Rat) (m : Nat) : convA (algR p) a b 0 (m + 1) m = cv a b m := by
  unfold convA
  rw [sumA_sm]
  refine sm_congr fun i hi => ?_
  rw [Nat.zero_add]
  rfl
theorem Dfx.conv {f f' g g' : Nat → StR T X τ → Rat} {m : Nat} (hf : ∀ i, i ≤ m → Dfx (f i) (f' i) (fun r => ((i + 1 : Nat) : Rat) * f (i + 1) r)) (hg : ∀ i, i ≤ m → Dfx (g i) (g' i) (fun r => ((i + 1 : Nat) : Rat) * g (i + 1) r))
    (bf : ∀ i, i ≤ m + 1 → Bdx (f i)) (bf' : ∀ i, i ≤ m → Bdx (f' i)) (bg : ∀ i, i ≤ m + 1 → Bdx (g i)) :
    Dfx (fun r => cv (fun i => f i r) (fun i => g i r) m) (fun r => cv (fun i => f' i r) (fun i => g' i r) m) (fun r => ((m + 1 : Nat) : Rat) * cv (fun i => f i r) (fun i => g i r) (m + 1)) := by
  have h := Dfx.sum (m := m + 1) (fun i (hi : i < m + 1) => Dfx.mul (hf i (by omega)) (hg (m - i) (by omega)) (bf' i (by omega)) (bg (m - i) (by omega)) (Bdx.smul _ (bf (i + 1) (by omega))) (Bdx.smul _ (bg (m - i + 1) (by omega))))
  refine h.congr (fun r => rfl) (fun r => rfl) (fun r => ?_)
  rw [← conv_der]
/-- The same without the terms at both ends: what a quotient needs. -/
theorem Dfx.tail {f f' g g' : Nat → StR T X τ → Rat} {m : Nat} (hf : ∀ i, 1 ≤ i → i ≤ m → Dfx (f i) (f' i) (fun r => ((i + 1 : Nat) : Rat) * f (i + 1) r)) (hg : ∀ i, i < m → Dfx (g i) (g' i) (fun r => ((i + 1 : Nat) : Rat) * g (i + 1) r))
    (bf : ∀ i, 1 ≤ i → i ≤ m + 1 → Bdx (f i)) (bf' : ∀ i, 1 ≤ i → i ≤ m → Bdx (f' i)) (bg : ∀ i, i ≤ m → Bdx (g i)) :
    Dfx (fun r => sm (fun i => f (1 + i) r * g (m - (1 + i)) r) m) (fun r => sm (fun i => f' (1 + i) r * g' (m - (1 + i)) r) m)
      (fun r => ((m + 1 : Nat) : Rat) * cv (fun i => f i r) (fun i => g i r) (m + 1) - (((0 + 1 : Nat) : Rat) * f (0 + 1) r * g m r + f 0 r * (((m + 1 : Nat) : Rat) * g (m + 1) r))) := by
  have h := Dfx.sum (m := m) (fun i (hi : i < m) => Dfx.mul (hf (1 + i) (by omega) (by omega)) (hg (m - (1 + i)) (by omega)) (bf' (1 + i) (by omega) (by omega)) (bg (m - (1 + i)) (by omega)) (Bdx.smul _ (bf (1 + i + 1) (by omega) (by omega))) (Bdx.smul _ (bg (m - (1 + i) + 1) (by omega))))
  refine h.congr (fun r => rfl) (fun r => rfl) (fun r => ?_)
  rw [← conv_der, sm_shift]
  have e : ∀ a b c : Rat, a = b → a = c + b - c := by intro a b c h; grind
  refine e _ _ _ (sm_congr fun i hi => ?_)
  rw [show 1 + i = i + 1 by omega]
end
end Go.Pl
