/- Part of a proof: what the functions of the program do to abstract states, step by step. -/
import Derived.Test.YtfjjckepnkkgjaaGreatDoorM4
import Derived.WalkKit
import Derived.Stop.Asserts
import Derived.Lib.IfaceEq
import Derived.RowKitTokens
import Derived.Test.YtfjjckepnkkgjaaGreatDoorTie
import Derived.Test.YtfjjckepnkkgjaaGreatDoorCards
import Derived.ProofKit
import Derived.Stop.Joined
import Derived.SevenTiedAt
set_option linter.unusedVariables false
set_option linter.unusedSimpArgs false
namespace Go.Proofs.YtfjjckepnkkgjaaGreatDoor.Arm
open Go.Arm Go.Pl
theorem getAt {H J : AH} {b : Nat} : (H ++ J)[H.length + b]? = J[b]? := by rw [List.getElem?_append_right (by omega), Nat.add_sub_cancel_left]
def rowB (q : List I) : ABlk := .row true 2 (q.map iv)
def NewV (z : AV) (s : Nat) (v : AV) (q : List I) : Prop := (q = [] ∧ v = z) ∨ (s = 0 ∧ ∃ p, q = [p] ∧ v = .slice [iv p] true)
def OwnF (z : AV) (tag : Nat → Nat) (B : Nat) (J : AH) (s c : Nat) (v : AV) (q : List I) : Prop := NewV z s v q ∨ ∃ b, v = .ref (B + b) q.length ∧ J[b]? = some (rowB q) ∧ 5 ≤ b ∧ tag b = c
def Fam (z : AV) (tag : Nat → Nat) (B : Nat) (J : AH) (s : Nat) (cells : List AV) (l : List (List I)) : Prop := cells.length = l.length ∧ ∀ (j : Nat) v q, cells[j]? = some v → l[j]? = some q → OwnF z tag B J s (2 * j + s) v q
def updT (tag : Nat → Nat) (b c : Nat) : Nat → Nat := fun i => if i = b then c else tag i
theorem Fam.ext {z : AV} {tag : Nat → Nat} {B s : Nat} {J J' : AH} {cells : List AV} {l : List (List I)} (h : Fam z tag B J s cells l) (hJ : ∀ b y, 5 ≤ b → J[b]? = some y → J'[b]? = some y) : Fam z tag B J' s cells l :=
  ⟨h.1, fun j v q hv hq => (h.2 j v q hv hq).imp id fun ⟨b, h1, h2, h3, h4⟩ => ⟨b, h1, hJ b _ h3 h2, h3, h4⟩⟩
theorem Fam.app {z : AV} {tag : Nat → Nat} {B s : Nat} {J : AH} (K : AH) {cells : List AV} {l : List (List I)} (h : Fam z tag B J s cells l) : Fam z tag B (J ++ K) s cells l := h.ext fun b y _ hb => get_old hb
theorem Fam.set {z : AV} {tag : Nat → Nat} {B s c : Nat} {J : AH} {y : ABlk} {cells : List AV} {l : List (List I)} (h : Fam z tag B J s cells l) (hc : c < 5) : Fam z tag B (J.set c y) s cells l :=
  h.ext fun b z h5 hb => by rw [List.getElem?_set_ne (by omega)]; exact hb
theorem Fam.otherN {z : AV} {tag : Nat → Nat} {B s c : Nat} {J : AH} {y : ABlk} {cells : List AV} {l : List (List I)} (h : Fam z tag B J s cells l) : Fam z (updT tag J.length c) B (J ++ [y]) s cells l :=
  ⟨h.1, fun j v q hv hq => (h.2 j v q hv hq).imp id fun ⟨b, h1, h2, h3, h4⟩ => ⟨b, h1, get_old h2, h3, by have := (List.getElem?_eq_some_iff.1 h2).1; unfold updT; rw [if_neg (by omega)]; exact h4⟩⟩
theorem Fam.otherR {z : AV} {tag : Nat → Nat} {B s c b : Nat} {J : AH} {y : ABlk} {cells : List AV} {l : List (List I)} (h : Fam z tag B J s cells l) (hb : tag b = c) (hc : ∀ j, 2 * j + s ≠ c) : Fam z tag B (J.set b y) s cells l :=
  ⟨h.1, fun j v q hv hq => (h.2 j v q hv hq).imp id fun ⟨b', h1, h2, h3, h4⟩ => ⟨b', h1, by rw [List.getElem?_set_ne (by intro e; subst e; exact hc j (h4.symm.trans hb))]; exact h2, h3, h4⟩⟩
theorem Fam.pushN {z : AV} {tag : Nat → Nat} {B s j : Nat} {J : AH} {cells : List AV} {l : List (List I)} {q : List I} {p : I} (h : Fam z tag B J s cells l) (h5 : 5 ≤ J.length) :
    Fam z (updT tag J.length (2 * j + s)) B (J ++ [rowB (q ++ [p])]) s (cells.set j (.ref (B + J.length) (q.length + 1))) (l.set j (q ++ [p])) := by
  refine ⟨by simpa using h.1, fun i v r hv hr => ?_⟩
  by_cases hij : j = i
  · subst hij
    have h1 := (List.getElem?_eq_some_iff.1 hv).1
    have h2 := (List.getElem?_eq_some_iff.1 hr).1
    simp only [List.length_set] at h1 h2
    rw [List.getElem?_set_self h1] at hv
    rw [List.getElem?_set_self h2] at hr
    cases hv; cases hr
    exact .inr ⟨J.length, by simp, by simp, h5, by simp [updT]⟩
  · rw [List.getElem?_set_ne hij] at hv hr
    exact (Fam.otherN h).2 i v r hv hr
theorem Fam.pushR {z : AV} {tag : Nat → Nat} {B s j b : Nat} {J : AH} {cells : List AV} {l : List (List I)} {q : List I} {p : I} (h : Fam z tag B J s cells l) (hJ : J[b]? = some (rowB q)) (h5 : 5 ≤ b) (ht : tag b = 2 * j + s) :
    Fam z tag B (J.set b (rowB (q ++ [p]))) s (cells.set j (.ref (B + b) (q.length + 1))) (l.set j (q ++ [p])) := by
  refine ⟨by simpa using h.1, fun i v r hv hr => ?_⟩
  by_cases hij : j = i
  · subst hij
    have h1 := (List.getElem?_eq_some_iff.1 hv).1
    have h2 := (List.getElem?_eq_some_iff.1 hr).1
    simp only [List.length_set] at h1 h2
    rw [List.getElem?_set_self h1] at hv
    rw [List.getElem?_set_self h2] at hr
    cases hv; cases hr
    exact .inr ⟨b, by simp, set_get hJ, h5, ht⟩
  · rw [List.getElem?_set_ne hij] at hv hr
    refine (h.2 i v r hv hr).imp id fun ⟨b', g1, g2, g3, g4⟩ => ⟨b', g1, ?_, g3, g4⟩
    rw [List.getElem?_set_ne (by intro e; subst e; omega)]; exact g2
theorem Fam.rows {z : AV} {tag : Nat → Nat} {L : Nat} {H J : AH} {cells : List AV} {l : List (List I)} (h : Fam z tag H.length J 1 cells l) (hL : (H ++ J)[L]? = some (.row true 1 cells)) (hz : z = .nilslice ∨ z = .slice [] true) : RowsAt (H ++ J) L cells l := by
  refine ⟨hL, h.1, fun j v q hv hq => ?_⟩
  rcases h.2 j v q hv hq with (⟨h0, h1⟩ | ⟨h1, _⟩) | ⟨b, h1, h2, _, _⟩
  · exact .inl ⟨h0, by rw [h1]; exact hz⟩
  · cases h1
  · exact .inr ⟨H.length + b, true, h1, by rw [getAt]; exact h2⟩
theorem Fam.own {z : AV} {tag : Nat → Nat} {H J : AH} {j : Nat} {v : AV} {q : List I} {cells : List AV} {l : List (List I)} (h : Fam z tag H.length J 1 cells l) (hv : cells[j]? = some v) (hq : l[j]? = some q) (hz : z = .nilslice ∨ z = .slice [] true) : Own (H ++ J) v q := by
  rcases h.2 j v q hv hq with (⟨h0, h1⟩ | ⟨h1, _⟩) | ⟨b, h1, h2, _, _⟩
  · exact .inl ⟨h0, by rw [h1]; exact hz⟩
  · cases h1
  · exact .inr ⟨H.length + b, true, h1, by rw [getAt]; exact h2⟩
theorem app_new0 {H : AH} {p : I} {f : Bool} {v : AV} (h : v = .nilslice ∨ v = .slice [] true) : appendA tab H 26 v (.slice [iv p] f) = some (.ref H.length 1, H ++ [rowB ([] ++ [p])]) := by
  rcases h with rfl | rfl <;> simp [appendA, els, growA, growNew, okc, rowB]
theorem app_new1 {H : AH} {p a : I} {f : Bool} : appendA tab H 26 (.slice [iv a] true) (.slice [iv p] f) = some (.ref H.length 2, H ++ [rowB ([a] ++ [p])]) := by
  simp [appendA, els, growA, growNew, okc, rowB]
theorem app_rowB {H : AH} {p : I} {q : List I} {b : Nat} {f : Bool} (hn : q.length ≤ 1000000) (hH : H[b]? = some (rowB q)) : appendA tab H 26 (.ref b q.length) (.slice [iv p] f) = some (.ref b (q.length + 1), H.set b (rowB (q ++ [p]))) := by
  have := app_iv (H := H) (p := p) (l := q.map iv) (b := b) (n := q.length) (f := f) (by simp) (by omega) hH
  rw [this]
  simp [rowB]
theorem callD_rdA {g : FuncId} {captured args : List AV} {next : NxD} {H : AH} {r : AV} (h : ∀ X : AH, Sound E g (args ++ captured) (H ++ X) (.ret r) (H ++ X))
    (kk : next .go r ⟨List.range H.length, [], none, true⟩ H) : callD E (.func (.func g) [] captured) args next H := by
  refine callD_rdc (List.range H.length) (fun c hc => List.mem_range.1 hc) (fun Hx hx => ?_) kk
  have hle : H.length ≤ Hx.length := by
    rcases Nat.lt_or_ge Hx.length H.length with h | h
    · have := hx Hx.length (List.mem_range.2 h)
      rw [List.getElem?_eq_none (Nat.le_refl _)] at this
      rw [List.getElem?_eq_getElem h] at this
      cases this
    · exact h
  have e : Hx = H ++ Hx.drop H.length := by
    apply List.ext_getElem?
    intro c
    by_cases hc : c < H.length
    · rw [List.getElem?_append_left hc]; exact hx c (List.mem_range.2 hc)
    · rw [List.getElem?_append_right (by omega), List.getElem?_drop]
      congr 1; omega
  rw [e]; exact h _
theorem callD_all {g : FuncId} {captured args : List AV} {next : NxD} {H K : AH} {r : AV} (hl : K.length = H.length) (h : ∀ X : AH, Sound E g (args ++ captured) (H ++ X) (.ret r) (K ++ X))
    (kk : next .go r ⟨List.range H.length, allUps K H.length, none, true⟩ K) : callD E (.func (.func g) [] captured) args next H := by
  refine ⟨r, List.range H.length, allUps K H.length, ⟨fun c hc => List.mem_range.1 hc, fun p hp => ?_, fun Hx hx => ?_⟩, ?_⟩
  · unfold allUps at hp
    obtain ⟨i, hi, rfl⟩ := List.mem_map.1 hp
    exact hi
  · have hle : H.length ≤ Hx.length := by
      rcases Nat.lt_or_ge Hx.length H.length with h | h
      · have := hx Hx.length (List.mem_range.2 h)
        rw [List.getElem?_eq_none (Nat.le_refl _)] at this
        rw [List.getElem?_eq_getElem h] at this
        cases this
      · exact h
    have e : Hx = H ++ Hx.drop H.length := by
      apply List.ext_getElem?
      intro c
      by_cases hc : c < H.length
      · rw [List.getElem?_append_left hc]; exact hx c (List.mem_range.2 hc)
      · rw [List.getElem?_append_right (by omega), List.getElem?_drop]
        congr 1; omega
    rw [e, applyUps_all hl]
    exact .inl (by rw [List.nil_append]; exact h _)
  · have := applyUps_all (X := []) hl
    rw [List.append_nil, List.append_nil] at this
    rw [this]
    exact kk
def refsN (p : Nat) (l : List (List I)) : List AV := (List.range l.length).map fun j : Nat => .ref (p + 1 + j) (rowN l (j : Int)).length
theorem rowB_noF (m : Nat) (q : List I) : ∀ x ∈ q.map iv, noF m x = true := fun x hx => by obtain ⟨y, _, rfl⟩ := List.mem_map.1 hx; simp [noF, noFs]
theorem fam_fills {z : AV} {tag : Nat → Nat} {H J H' : AH} {c0 p : Nat} {co : List AV} {l : List (List I)} (hF : Fam z tag H.length J 0 co l) (h3 : J[c0]? = some (.row true 1 co)) (hc0 : c0 < 5) (h2 : ∀ q ∈ l, 2 ≤ q.length)
    (hd : ∀ j, j ≤ l.length → H[p + j]? = some .dead) (hlen : H'.length = H.length) (g1 : H'[p]? = some (.row true 1 (refsN p l))) (g2 : ∀ (j : Nat) q, l[j]? = some q → H'[p + 1 + j]? = some (rowB q)) (g3 : ∀ c, c < H.length → (c < p ∨ p + l.length < c) → H'[c]? = H[c]?) :
    ∃ σ, Fills H (H ++ J) H' (.ref (H.length + c0) l.length) (.ref p l.length) σ := by
  have hb : ∀ j : Nat, ∃ b, ∀ q, l[j]? = some q → co[j]? = some (.ref (H.length + b) q.length) ∧ J[b]? = some (rowB q) ∧ 5 ≤ b ∧ tag b = 2 * j := by
    intro j
    cases hq : l[j]? with
    | none => exact ⟨0, fun q h => by cases h⟩
    | some q =>
      have hlt := (List.getElem?_eq_some_iff.1 hq).1
      have hv : co[j]? = some (co[j]'(by rw [hF.1]; exact hlt)) := by simp
      have hm := h2 q (List.mem_of_getElem? hq)
      rcases hF.2 j _ q hv hq with (⟨h1, _⟩ | ⟨_, a, h1, _⟩) | ⟨b, h1, h4, h5, h6⟩
      · rw [h1] at hm; simp at hm
      · rw [h1] at hm; simp at hm
      · refine ⟨b, fun q' hq' => ?_⟩
        cases hq'
        exact ⟨by rw [hv, h1], h4, h5, by simpa using h6⟩
  let β : Nat → Nat := fun j => Classical.choose (hb j)
  have hβ : ∀ j q, l[j]? = some q → co[j]? = some (.ref (H.length + β j) q.length) ∧ J[β j]? = some (rowB q) ∧ 5 ≤ β j ∧ tag (β j) = 2 * j := fun j => Classical.choose_spec (hb j)
  have hβ' : ∀ j, j < l.length → J[β j]? = some (rowB l[j]!) ∧ 5 ≤ β j ∧ tag (β j) = 2 * j := fun j hj => by
    have := hβ j l[j] (by simp [hj])
    exact ⟨by rw [this.2.1]; simp [hj], this.2.2⟩
  refine ⟨fun c => if c = p then some (H.length + c0) else if p < c ∧ c ≤ p + l.length then some (H.length + β (c - p - 1)) else none, ?_⟩
  have hpl : ∀ j, j ≤ l.length → p + j < H.length := fun j hj => (List.getElem?_eq_some_iff.1 (hd j hj)).1
  have hcas : ∀ c k, (if c = p then some (H.length + c0) else if p < c ∧ c ≤ p + l.length then some (H.length + β (c - p - 1)) else none) = some k → (c = p ∧ k = H.length + c0) ∨ ∃ j, j < l.length ∧ c = p + 1 + j ∧ k = H.length + β j := by
    intro c k h
    split at h
    · rename_i e; cases h; exact .inl ⟨e, rfl⟩
    · split at h
      · rename_i e; cases h; exact .inr ⟨c - p - 1, by omega, by omega, rfl⟩
      · cases h
  refine ⟨?_, ?_, hlen, ?_, ?_, ?_⟩
  · intro c k h
    rcases hcas c k h with ⟨rfl, rfl⟩ | ⟨j, hj, rfl, rfl⟩
    · have h0 := hd 0 (by omega)
      exact ⟨hpl 0 (by omega), h0, get_old h0, by omega⟩
    · have h0 := hd (1 + j) (by omega)
      have e : p + (1 + j) = p + 1 + j := by omega
      rw [e] at h0
      exact ⟨(List.getElem?_eq_some_iff.1 h0).1, h0, get_old h0, by omega⟩
  · intro c c' k h h'
    rcases hcas c k h with ⟨rfl, rfl⟩ | ⟨j, hj, rfl, rfl⟩ <;> rcases hcas c' _ h' with ⟨h4, h5⟩ | ⟨j', hj', h4, h5⟩
    · exact h4.symm
    · have := (hβ' j' hj').2.1; omega
    · have := (hβ' j hj).2.1; omega
    · have e1 := (hβ' j hj).2.2
      have e2 := (hβ' j' hj').2.2
      have : β j = β j' := by omega
      rw [this] at e1
      omega
  · intro c hc h
    have hn : c < p ∨ p + l.length < c := by
      split at h
      · cases h
      · split at h
        · cases h
        · omega
    exact ⟨List.getElem?_append_left hc, g3 c hc hn⟩
  · intro c k h
    rcases hcas c k h with ⟨rfl, rfl⟩ | ⟨j, hj, rfl, rfl⟩
    · refine ⟨true, 1, co, refsN c l, by rw [getAt]; exact h3, g1, by simp [refsN, hF.1], fun i x x' hx hx' => ?_⟩
      have hlt : i < l.length := by rw [← hF.1]; exact (List.getElem?_eq_some_iff.1 hx).1
      have hq : l[i]? = some l[i] := by simp
      obtain ⟨e1, _, e3, _⟩ := hβ i _ hq
      rw [hx] at e1; cases e1
      have e2 : (refsN c l)[i]? = some (.ref (c + 1 + i) l[i].length) := by simp [refsN, hlt, rowN]
      rw [hx'] at e2; cases e2
      refine ⟨rfl, fun j a a' ha ha' => ?_⟩
      have hj0 : j = 0 := by have := (List.getElem?_eq_some_iff.1 ha).1; simp [AV.cells] at this; omega
      subst hj0
      simp [AV.cells] at ha ha'
      subst ha; subst ha'
      refine .ref (b := c + 1 + i) (k := H.length + β i) ?_ (by have := hpl (1 + i) (by omega); omega)
      rw [if_neg (by omega), if_pos (by omega), show c + 1 + i - c - 1 = i by omega]
    · have hq : l[j]? = some l[j] := by simp
      obtain ⟨_, e2, _, _⟩ := hβ j _ hq
      refine ⟨true, 2, l[j].map iv, l[j].map iv, by rw [getAt]; exact e2, g2 j _ hq, rfl, fun i x x' hx hx' => ?_⟩
      rw [hx] at hx'; cases hx'
      refine ⟨rfl, fun i a a' ha ha' => ?_⟩
      rw [ha] at ha'; cases ha'
      have := rowB_noF H.length l[j] x (List.mem_of_getElem? hx)
      exact .old (noFs_get (noF_cells.2 this) ha)
  · exact .ref (b := p) (k := H.length + c0) (by rw [if_pos rfl]) (hpl 0 (by omega))
end Go.Proofs.YtfjjckepnkkgjaaGreatDoor.Arm

namespace Go.Proofs.YtfjjckepnkkgjaaGreatDoor.Arm
open Go.Arm Go.Pl
def inC (x : List I) (n i : Nat) : List AV := (List.range n).map fun j => if j < i then .slice [iv (atN x j)] true else .nilslice
theorem inC_zero (x : List I) (n : Nat) : inC x n 0 = List.replicate n .nilslice := by
  unfold inC
  apply List.ext_getElem
  · simp
  · intro i h1 h2; simp
theorem inC_len (x : List I) (n i : Nat) : (inC x n i).length = n := by simp [inC]
theorem inC_get {x : List I} {n i j : Nat} (h : j < n) : (inC x n i)[j]? = some (if j < i then .slice [iv (atN x j)] true else .nilslice) := by
  unfold inC
  rw [List.getElem?_map, List.getElem?_range h]; rfl
theorem inC_set {x : List I} {n i : Nat} (h : i < n) : (inC x n i).set i (.slice [iv (atN x i)] true) = inC x n (i + 1) := by
  apply List.ext_getElem?
  intro j
  by_cases hj : j < n
  · by_cases hij : i = j
    · subst hij
      rw [List.getElem?_set_self (by rw [inC_len]; exact h), inC_get h, if_pos (by omega)]
    · rw [List.getElem?_set_ne hij, inC_get hj, inC_get hj]
      by_cases h1 : j < i
      · rw [if_pos h1, if_pos (by omega)]
      · rw [if_neg h1, if_neg (by omega)]
  · rw [List.getElem?_eq_none (by rw [List.length_set, inC_len]; omega), List.getElem?_eq_none (by rw [inC_len]; omega)]
theorem fam_out0 {z : AV} {tag : Nat → Nat} {B : Nat} {J : AH} (x : List I) (n : Nat) : Fam z tag B J 0 (inC x n n) ((List.range n).map fun i => [atN x i]) := by
  refine ⟨by simp [inC], fun j v q hv hq => .inl (.inr ⟨rfl, atN x j, ?_⟩)⟩
  have hj : j < n := by have := (List.getElem?_eq_some_iff.1 hq).1; simpa using this
  rw [inC_get hj, if_pos hj] at hv
  rw [List.getElem?_map, List.getElem?_range hj] at hq
  cases hv; cases hq
  exact ⟨rfl, rfl⟩
theorem fam_l0 {z : AV} {tag : Nat → Nat} {B : Nat} {J : AH} (m : Nat) : Fam z tag B J 1 (List.replicate m z) (List.replicate m []) := by
  refine ⟨by simp, fun j u q hu hq => .inl (.inl ⟨List.eq_of_mem_replicate (List.mem_of_getElem? hq), ?_⟩)⟩
  exact List.eq_of_mem_replicate (List.mem_of_getElem? hu)
structure MemX (z : AV) (T : Tp) (t : I) (B : Nat) (J : AH) (tag : Nat → Nat) (co cl : List AV) (out l : List (List I)) : Prop where
  h0 : J[0]? = some (.row true 9 [algA])
  h1 : J[1]? = some (.row true 3 [tpA T])
  h2 : J[2]? = some (.row true 2 [iv t])
  h3 : J[3]? = some (.row true 1 co)
  h4 : J[4]? = some (.row true 1 cl)
  ho : Fam z tag B J 0 co out
  hl : Fam z tag B J 1 cl l
theorem MemX.len {z : AV} {T : Tp} {t : I} {B : Nat} {J : AH} {tag : Nat → Nat} {co cl : List AV} {out l : List (List I)} (h : MemX z T t B J tag co cl out l) : 5 ≤ J.length := (List.getElem?_eq_some_iff.1 h.h4).1
theorem MemX.app {z : AV} {T : Tp} {t : I} {B : Nat} {J : AH} {tag : Nat → Nat} {co cl : List AV} {out l : List (List I)} (h : MemX z T t B J tag co cl out l) (K : AH) : MemX z T t B (J ++ K) tag co cl out l :=
  ⟨get_old h.h0, get_old h.h1, get_old h.h2, get_old h.h3, get_old h.h4, h.ho.app K, h.hl.app K⟩
theorem MemX.lN {z : AV} {T : Tp} {t : I} {B i : Nat} {J : AH} {tag : Nat → Nat} {co cl : List AV} {out l : List (List I)} {q : List I} {p : I} (h : MemX z T t B J tag co cl out l) :
    MemX z T t B ((J ++ [rowB (q ++ [p])]).set 4 (.row true 1 (cl.set i (.ref (B + J.length) (q.length + 1))))) (updT tag J.length (2 * i + 1)) co (cl.set i (.ref (B + J.length) (q.length + 1))) out (l.set i (q ++ [p])) := by
  have hJ := h.len
  refine ⟨?_, ?_, ?_, ?_, ?_, ?_, ?_⟩
  · rw [List.getElem?_set_ne (by omega)]; exact get_old h.h0
  · rw [List.getElem?_set_ne (by omega)]; exact get_old h.h1
  · rw [List.getElem?_set_ne (by omega)]; exact get_old h.h2
  · rw [List.getElem?_set_ne (by omega)]; exact get_old h.h3
  · rw [List.getElem?_set_self (by simp; omega)]
  · exact h.ho.otherN.set (by omega)
  · exact (h.hl.pushN (by omega)).set (by omega)
theorem MemX.lR {z : AV} {T : Tp} {t : I} {B i b : Nat} {J : AH} {tag : Nat → Nat} {co cl : List AV} {out l : List (List I)} {q : List I} {p : I} (h : MemX z T t B J tag co cl out l) (hb : J[b]? = some (rowB q)) (h5 : 5 ≤ b) (ht : tag b = 2 * i + 1) :
    MemX z T t B ((J.set b (rowB (q ++ [p]))).set 4 (.row true 1 (cl.set i (.ref (B + b) (q.length + 1))))) tag co (cl.set i (.ref (B + b) (q.length + 1))) out (l.set i (q ++ [p])) := by
  have hJ := h.len
  refine ⟨?_, ?_, ?_, ?_, ?_, ?_, ?_⟩
  · rw [List.getElem?_set_ne (by omega), List.getElem?_set_ne (by omega)]; exact h.h0
  · rw [List.getElem?_set_ne (by omega), List.getElem?_set_ne (by omega)]; exact h.h1
  · rw [List.getElem?_set_ne (by omega), List.getElem?_set_ne (by omega)]; exact h.h2
  · rw [List.getElem?_set_ne (by omega), List.getElem?_set_ne (by omega)]; exact h.h3
  · rw [List.getElem?_set_self (by simp; omega)]
  · exact (h.ho.otherR ht (fun j => by omega)).set (by omega)
  · exact (h.hl.pushR hb h5 ht).set (by omega)
theorem MemX.oN {z : AV} {T : Tp} {t : I} {B i : Nat} {J : AH} {tag : Nat → Nat} {co cl : List AV} {out l : List (List I)} {q : List I} {p : I} (h : MemX z T t B J tag co cl out l) :
    MemX z T t B ((J ++ [rowB (q ++ [p])]).set 3 (.row true 1 (co.set i (.ref (B + J.length) (q.length + 1))))) (updT tag J.length (2 * i + 0)) (co.set i (.ref (B + J.length) (q.length + 1))) cl (out.set i (q ++ [p])) l := by
  have hJ := h.len
  refine ⟨?_, ?_, ?_, ?_, ?_, ?_, ?_⟩
  · rw [List.getElem?_set_ne (by omega)]; exact get_old h.h0
  · rw [List.getElem?_set_ne (by omega)]; exact get_old h.h1
  · rw [List.getElem?_set_ne (by omega)]; exact get_old h.h2
  · rw [List.getElem?_set_self (by simp; omega)]
  · rw [List.getElem?_set_ne (by omega)]; exact get_old h.h4
  · exact (h.ho.pushN (by omega)).set (by omega)
  · exact h.hl.otherN.set (by omega)
theorem MemX.oR {z : AV} {T : Tp} {t : I} {B i b : Nat} {J : AH} {tag : Nat → Nat} {co cl : List AV} {out l : List (List I)} {q : List I} {p : I} (h : MemX z T t B J tag co cl out l) (hb : J[b]? = some (rowB q)) (h5 : 5 ≤ b) (ht : tag b = 2 * i + 0) :
    MemX z T t B ((J.set b (rowB (q ++ [p]))).set 3 (.row true 1 (co.set i (.ref (B + b) (q.length + 1))))) tag (co.set i (.ref (B + b) (q.length + 1))) cl (out.set i (q ++ [p])) l := by
  have hJ := h.len
  refine ⟨?_, ?_, ?_, ?_, ?_, ?_, ?_⟩
  · rw [List.getElem?_set_ne (by omega), List.getElem?_set_ne (by omega)]; exact h.h0
  · rw [List.getElem?_set_ne (by omega), List.getElem?_set_ne (by omega)]; exact h.h1
  · rw [List.getElem?_set_ne (by omega), List.getElem?_set_ne (by omega)]; exact h.h2
  · rw [List.getElem?_set_self (by simp; omega)]
  · rw [List.getElem?_set_ne (by omega), List.getElem?_set_ne (by omega)]; exact h.h4
  · exact (h.ho.pushR hb h5 ht).set (by omega)
  · exact (h.hl.otherR ht (fun j => by omega)).set (by omega)
end Go.Proofs.YtfjjckepnkkgjaaGreatDoor.Arm

namespace Go.Proofs.YtfjjckepnkkgjaaGreatDoor.Arm
open Go.Arm Go.Pl
def fK (H : AH) (n m order k : Nat) (fr : AFr) : Prop := fr 5 = .ptr H.length 1 0 0 ∧ fr 6 = .ptr (H.length + 1) 1 0 0 ∧ fr 8 = .ptr (H.length + 2) 1 0 0 ∧ fr 11 = .ref (H.length + 3) n ∧ fr 12 = .ref (H.length + 4) m ∧ fr 40 = .int .i64 order ∧ fr 41 = .int .i64 k ∧ k ≤ order
def SxK (T : Tp) (x : List I) (t : I) (order : Nat) (H : AH) (k : Nat) (fr : AFr) (H' : AH) : Prop :=
  fK H T.n T.L.length order k fr ∧ ∃ J tag co cl, H' = H ++ J ∧ MemX .nilslice T t H.length J tag co cl (expS T x t k).2 (expS T x t k).1
def SxL (T : Tp) (x : List I) (t : I) (order : Nat) (H : AH) (k i : Nat) (fr : AFr) (H' : AH) : Prop :=
  fK H T.n T.L.length order k fr ∧ fr 14 = .int .i64 k ∧ fr 45 = .slice (T.L.map insA) false ∧ fr 46 = .int .i64 T.L.length ∧ fr 47 = .int .i64 i ∧ i ≤ T.L.length ∧
  ∃ J tag co cl, H' = H ++ J ∧ MemX .nilslice T t H.length J tag co cl (expS T x t k).2 (stepL T.L (expS T x t k).2 t k (expS T x t k).1 i)
def SxO (T : Tp) (x : List I) (t : I) (order : Nat) (H : AH) (k i : Nat) (fr : AFr) (H' : AH) : Prop :=
  fK H T.n T.L.length order k fr ∧ fr 14 = .int .i64 k ∧ fr 92 = outA T.out ∧ fr 93 = .int .i64 T.out.length ∧ fr 94 = .int .i64 i ∧ i ≤ T.out.length ∧
  ∃ J tag co cl, H' = H ++ J ∧ MemX .nilslice T t H.length J tag co cl (stepO T (expS T x t (k + 1)).1 k (expS T x t k).2 i) (expS T x t (k + 1)).1
def SxI (T : Tp) (x : List I) (t : I) (order : Nat) (H : AH) (i : Nat) (fr : AFr) (H' : AH) : Prop :=
  fr 2 = bx x ∧ fr 4 = .int .i64 order ∧ fr 5 = .ptr H.length 1 0 0 ∧ fr 6 = .ptr (H.length + 1) 1 0 0 ∧ fr 8 = .ptr (H.length + 2) 1 0 0 ∧ fr 11 = .ref (H.length + 3) T.n ∧ fr 12 = .ref (H.length + 4) T.L.length ∧ fr 27 = .int .i64 T.n ∧ fr 28 = .int .i64 i ∧ i ≤ T.n ∧
  H' = H ++ [.row true 9 [algA], .row true 3 [tpA T], .row true 2 [iv t], .row true 1 (inC x T.n i), .row true 1 (List.replicate T.L.length .nilslice)]
set_option maxHeartbeats 4000000 in
theorem sExpand (T : Tp) (x : List I) (t : I) (order : Nat) (hT : tpOk T) (hx : allV x) (hxn : x.length = T.n) (ht : vB t = true) (ho : 1 ≤ order ∧ order ≤ 1000) (H H' : AH) (p : Nat)
    (hd : ∀ j, j ≤ T.n → H[p + j]? = some .dead) (hlen : H'.length = H.length) (g1 : H'[p]? = some (.row true 1 (refsN p (coefS T x t order)))) (g2 : ∀ (j : Nat) q, (coefS T x t order)[j]? = some q → H'[p + 1 + j]? = some (rowB q)) (g3 : ∀ c, c < H.length → (c < p ∨ p + T.n < c) → H'[c]? = H[c]?) :
    Sound E 167 [algA, tpA T, bx x, iv t, .int .i64 order] H (.ret (.ref p T.n)) H' := by
  refine soundX_of_awp tabOk mixed Tryz.func167 rfl (by rfl) Tryz.ntmps167 (by kernel_rfl) (by simp) ?_
  have hsm := hT.small
  simp [tpA, algA, fnA]
  refine bind_if (by omega) ?_
  simp
  refine bind_if (by omega) ?_
  simp
  refine endD [] (by rfl) (by simp [okW, note, Eff.triv, Eff.wr, Eff.none, upTo, newAt]) ?_
  simp
  refine loop_count (SxI T x t order H) (fun i => T.n - i) 0 ⟨by simp, by simp, by simp, by simp, by simp, by simp [bx], by simp, by simp, by simp, by omega, by rw [inC_zero]; simp [algA, tpA, fnA]⟩ ?_
  rintro i fr H1 ⟨f2, f4, f5, f6, f8, f11, f12, f27, f28, hi, rfl⟩
  simp [f27, f28]
  refine branch (fun hc => ?_) (fun hc => ?_)
  · have hlt : i < T.n := by simpa using hc
    obtain ⟨q, hq⟩ := get_lt (l := x) (i := i) (by omega)
    have hqE : ∀ h, x[i]'h = q := fun h => (List.getElem?_eq_some_iff.1 hq).2
    have hqa : atN x i = q := by simp [atN, hq]
    have w2 : IntKind.i64.wrap ((i : Int) + 1) = ((i + 1 : Nat) : Int) := by rw [wrap64 (by omega) (by omega)]; omega
    have hs := inC_set (x := x) hlt
    have hl := inC_len x T.n i
    have hg := inC_get (x := x) (i := i) hlt
    rw [if_neg (by omega)] at hg
    have hgE : ∀ h, (inC x T.n i)[i]'h = .nilslice := fun h => (List.getElem?_eq_some_iff.1 hg).2
    rw [hqa] at hs
    simp only [iv_eq] at hs
    simp [f2, f11, f12, f28, bx, hq, hqE, hl, hlt, hg, hgE, hs, w2]
    exact ⟨i + 1, by show T.n - (i + 1) < T.n - i; omega, by simp [f2, bx], by simp [f4], by simp [f5], by simp [f6], by simp [f8], by simp [f11], by simp [f12], by simp [f27], by simp, by omega, by simp⟩
  · have hin : i = T.n := by have : ¬ i < T.n := by simpa using hc
                             omega
    subst hin
    simp [f4]
    refine loop_count (SxK T x t order H) (fun k => order - k) 0 ⟨⟨by simp [f5], by simp [f6], by simp [f8], by simp [f11], by simp [f12], by simp, by simp, by omega⟩, _, fun _ => 0, _, _, rfl, ⟨rfl, rfl, rfl, rfl, rfl, fam_out0 x T.n, fam_l0 _⟩⟩ ?_
    clear f2 f4 f5 f6 f8 f11 f12 f27 f28
    rintro k fr H1 ⟨⟨f5, f6, f8, f11, f12, f40, f41, hk⟩, J, tag, co, cl, rfl, hM⟩
    have hJl := hM.len
    have h1 := hM.h1
    simp only [tpA] at h1
    simp [f40, f41]
    refine branch (fun hc => ?_) (fun hc => ?_)
    · have hklt : k < order := by simpa using hc
      simp [f6, h1]
      have wk : IntKind.i64.wrap ((k : Int) + 1) = ((k + 1 : Nat) : Int) := by rw [wrap64 (by omega) (by omega)]; omega
      refine loop_count (SxL T x t order H k) (fun i => T.L.length - i) 0 ⟨⟨by simp [f5], by simp [f6], by simp [f8], by simp [f11], by simp [f12], by simp [f40], by simp [f41], by omega⟩, by simp [f41], by simp, by simp, by simp, by omega, J, tag, co, cl, rfl, hM⟩ ?_
      clear f5 f6 f8 f11 f12 f40 f41 hM h1 hJl
      clear J tag co cl
      rintro i fr H1 ⟨⟨f5, f6, f8, f11, f12, f40, f41, _⟩, f14, f45, f46, f47, hi, J, tag, co, cl, rfl, hM⟩
      have hJl := hM.len
      simp [f46, f47]
      obtain ⟨e1, e2⟩ := expS_ok hT hx ht k
      have hrl := stepL_ok hT ht e1 e2.val i hi
      refine branch (fun hc => ?_) (fun hc => ?_)
      · have hlt : i < T.L.length := by simpa using hc
        obtain ⟨y, hy⟩ := get_lt hlt
        have hyE : ∀ h, T.L[i]'h = y := fun h => (List.getElem?_eq_some_iff.1 hy).2
        have hins := hT.ins i y hy
        have w2 : IntKind.i64.wrap ((i : Int) + 1) = ((i + 1 : Nat) : Int) := by rw [wrap64 (by omega) (by omega)]; omega
        have hnext := stepL_succ (out := (expS T x t k).2) (l := (expS T x t k).1) (t := t) (k := k) hy
        have hfin : ∀ (J' : AH) (tag' : Nat → Nat) (co' cl' : List AV), MemX .nilslice T t H.length J' tag' co' cl' (expS T x t k).2 (stepL T.L (expS T x t k).2 t k (expS T x t k).1 (i + 1)) → ∀ fr' : AFr, fK H T.n T.L.length order k fr' → fr' 14 = .int .i64 k → fr' 45 = .slice (T.L.map insA) false → fr' 46 = .int .i64 T.L.length → fr' 47 = .int .i64 (i + 1 : Nat) → Again (SxL T x t order H k) (fun i => T.L.length - i) i fr' (H ++ J') :=
          fun J' tag' co' cl' hM' fr' g1 g2 g3 g4 g5 => ⟨i + 1, by show T.L.length - (i + 1) < T.L.length - i; omega, g1, g2, g3, g4, g5, by omega, J', tag', co', cl', rfl, hM'⟩
        generalize hL : stepL T.L (expS T x t k).2 t k (expS T x t k).1 i = l at *
        generalize hO : (expS T x t k).2 = out at *
        rw [hnext] at hfin
        have hil : i < l.length := by rw [hrl.len]; exact hlt
        obtain ⟨q, hq⟩ := get_lt hil
        have hqr : rowN l (i : Int) = q := rowN_get hq
        have hqk : q.length = k := by have := hrl.row i hlt; rw [hqr, if_neg (by omega)] at this; exact this
        obtain ⟨v, hv⟩ := get_lt (l := cl) (i := i) (by rw [hM.hl.1]; exact hil)
        have hvE : ∀ h, cl[i]'h = v := fun h => (List.getElem?_eq_some_iff.1 hv).2
        have hcll : cl.length = T.L.length := by rw [hM.hl.1, hrl.len]
        obtain ⟨o, a, b, c⟩ := y
        simp [f45, f47, hy, hyE, insA]
        have hM2 := hM.app [.row true 5 [.agg [.int .i64 o, .int .i64 a, .int .i64 b, .int .i64 c.1, .int .i64 c.2]]]
        have h16 : (J ++ [ABlk.row true 5 [.agg [.int .i64 o, .int .i64 a, .int .i64 b, .int .i64 c.1, .int .i64 c.2]]])[J.length]? = some (.row true 5 [.agg [.int .i64 o, .int .i64 a, .int .i64 b, .int .i64 c.1, .int .i64 c.2]]) := by simp
        generalize hJ2 : J ++ [ABlk.row true 5 [.agg [.int .i64 o, .int .i64 a, .int .i64 b, .int .i64 c.1, .int .i64 c.2]]] = J2 at *
        have hJ2l := hM2.len
        have hJ2n : J2 ≠ [] := by rintro rfl; simp at hJ2l
        have hJ2J : J2.length = J.length + 1 := by rw [← hJ2]; simp
        have m2 := hM2.h2
        have m3 := hM2.h3
        have m4 := hM2.h4
        simp only [iv_eq] at m2
        refine branch (fun ho2 => ?_) (fun ho2 => ?_)
        · have ho2 : o = 2 := by simpa using ho2
          subst ho2
          have hins : 0 ≤ a ∧ a < T.n := by rcases hins with h | h | h | h | h <;> simp only at h <;> omega
          obtain ⟨ka, rfl⟩ : ∃ ka : Nat, a = ka := ⟨a.toNat, by omega⟩
          obtain ⟨r, hr⟩ := get_lt (l := out) (i := ka) (by rw [e2.len]; omega)
          have hrr : rowN out (ka : Int) = r := rowN_get hr
          have hrk : r.length = k + 1 := by have := e2.row ka (by omega); rw [hrr, if_neg (by omega)] at this; exact this
          obtain ⟨u, hu⟩ := get_lt (l := co) (i := ka) (by rw [hM.ho.1, e2.len]; omega)
          have huE : ∀ h, co[ka]'h = u := fun h => (List.getElem?_eq_some_iff.1 hu).2
          have hcol : co.length = T.n := by rw [hM.ho.1, e2.len]
          obtain ⟨z, hz⟩ := get_lt (l := r) (i := k) (by omega)
          have hzE : ∀ h, r[k]'h = z := fun h => (List.getElem?_eq_some_iff.1 hz).2
          have hcv : coefV ⟨2, ka, b, c⟩ out l t k i = z := by simp [coefV, hrr, atN, hz]
          rw [hcv, hqr] at hfin
          have hka : ka < T.n := by omega
          have hkk : (k : Int) < (k : Int) + 1 := by omega
          have hkn : k < k + 1 := by omega
          have hoF := hM2.ho.2 ka u r hu hr
          have hlF := hM2.hl.2 i v q hv hq
          rcases hoF with (⟨h0, _⟩ | ⟨_, z', h0, hu'⟩) | ⟨bo, hu', g2o, g5o, gto⟩
          · rw [h0] at hrk; simp at hrk
          · have hk0 : k = 0 := by rw [h0] at hrk; simpa using hrk.symm
            subst hk0
            have hzz : z' = z := by rw [h0] at hz; simpa using hz
            subst hzz
            subst hu'
            rcases hlF with (hn | ⟨hn, _⟩) | ⟨bl, rfl, g2l, g5l, gtl⟩
            · obtain ⟨h0q, rfl⟩ := hn
              subst h0q
              simp [f11, f12, f14, h16, m3, m4, hv, hvE, hu, huE, hcll, hcol, hlt, hka]
              refine bind_some (app_new0 (.inl rfl)) ?_
              simp [f11, f12, f14, hcll, hlt, hv, hvE, m4, get_old m4]
              refine endD [(4, 17), (5, 17), (16, 17)] (by rfl) (by simp [okW, note, Eff.triv, Eff.wr, Eff.none, upTo, newAt]; omega) ?_
              simp [f47, w2]
              exact hfin _ _ _ _ (hM2.lN (i := i) (q := []) (p := z')) _ ⟨by simp [f5], by simp [f6], by simp [f8], by simp [f11], by simp [f12], by simp [f40], by simp [f41], by omega⟩ (by simp [f14]) (by simp [f45]) (by simp [f46]) (by simp)
            · cases hn
            · simp [f11, f12, f14, h16, m3, m4, hv, hvE, hu, huE, hcll, hcol, hlt, hka]
              refine bind_some (app_rowB (by omega) (by simpa using g2l)) ?_
              have m4b : (J2.set bl (rowB (q ++ [z'])))[4]? = some (.row true 1 cl) := by rw [List.getElem?_set_ne (by omega)]; exact m4
              have hne : bl ≠ J.length := by rintro rfl; rw [h16] at g2l; simp [rowB] at g2l
              simp [f11, f12, f14, hcll, hlt, hv, hvE, m4b]
              refine endD [(4, 17), (5, 17), (16, 17)] (by rfl) (by simp [okW, note, Eff.triv, Eff.wr, Eff.none, upTo, newAt]; omega) ?_
              simp [f47, w2]
              exact hfin _ _ _ _ (hM2.lR (i := i) (q := q) (p := z') g2l g5l gtl) _ ⟨by simp [f5], by simp [f6], by simp [f8], by simp [f11], by simp [f12], by simp [f40], by simp [f41], by omega⟩ (by simp [f14]) (by simp [f45]) (by simp [f46]) (by simp)
          · subst hu'
            have g2o' := g2o
            have hbo := (List.getElem?_eq_some_iff.1 g2o).1
            simp only [rowB] at g2o'
            rcases hlF with (hn | ⟨hn, _⟩) | ⟨bl, rfl, g2l, g5l, gtl⟩
            · obtain ⟨h0q, rfl⟩ := hn
              subst h0q
              simp [f11, f12, f14, h16, m3, m4, hv, hvE, hu, huE, hcll, hcol, hlt, hka, g2o', hz, hzE, hrk, hkk, hkn]
              refine bind_some (app_new0 (.inl rfl)) ?_
              simp [f11, f12, f14, hcll, hlt, hv, hvE, m4, get_old m4]
              refine endD [(4, 17), (5, 17), (16, 17)] (by rfl) (by simp [okW, note, Eff.triv, Eff.wr, Eff.none, upTo, newAt]; omega) ?_
              simp [f47, w2]
              exact hfin _ _ _ _ (hM2.lN (i := i) (q := []) (p := z)) _ ⟨by simp [f5], by simp [f6], by simp [f8], by simp [f11], by simp [f12], by simp [f40], by simp [f41], by omega⟩ (by simp [f14]) (by simp [f45]) (by simp [f46]) (by simp)
            · cases hn
            · simp [f11, f12, f14, h16, m3, m4, hv, hvE, hu, huE, hcll, hcol, hlt, hka, g2o', hz, hzE, hrk, hkk, hkn]
              refine bind_some (app_rowB (by omega) (by simpa using g2l)) ?_
              have m4b : (J2.set bl (rowB (q ++ [z])))[4]? = some (.row true 1 cl) := by rw [List.getElem?_set_ne (by omega)]; exact m4
              have hne : bl ≠ J.length := by rintro rfl; rw [h16] at g2l; simp [rowB] at g2l
              have hne2 : bo ≠ bl := by rintro rfl; omega
              simp [f11, f12, f14, hcll, hlt, hv, hvE, m4b]
              refine endD [(4, 17), (5, 17), (16, 17)] (by rfl) (by simp [okW, note, Eff.triv, Eff.wr, Eff.none, upTo, newAt]; omega) ?_
              simp [f47, w2]
              exact hfin _ _ _ _ (hM2.lR (i := i) (q := q) (p := z) g2l g5l gtl) _ ⟨by simp [f5], by simp [f6], by simp [f8], by simp [f11], by simp [f12], by simp [f40], by simp [f41], by omega⟩ (by simp [f14]) (by simp [f45]) (by simp [f46]) (by simp)
        · have ho2 : o ≠ 2 := by simpa using ho2
          have hnx : nextOk ⟨o, a, b, c⟩ l q.length := by
            have hrow : ∀ z : Int, 0 ≤ z → z < i → (rowN l z).length = q.length + 1 := by
              intro z h1 h2
              obtain ⟨kz, rfl⟩ : ∃ kz : Nat, z = kz := ⟨z.toNat, by omega⟩
              have := hrl.row kz (by omega)
              rw [if_pos (by omega)] at this
              rw [this, hqk]
            rcases hins with h | h | h | h | h <;> simp only at h
            · exact .inl h
            · exact absurd h.1 ho2
            · exact .inr (.inl h)
            · exact .inr (.inr (.inl ⟨h.1, h.2.1, h.2.2.1, hrow _ h.2.2.1 h.2.2.2.1⟩))
            · exact .inr (.inr (.inr ⟨h.1, h.2.1, h.2.2.1, h.2.2.2.2.1, hrow _ h.2.2.1 h.2.2.2.1, hrow _ h.2.2.2.2.1 h.2.2.2.2.2⟩))
          have hcv : coefV ⟨o, a, b, c⟩ out l t k i = nextC ⟨o, a, b, c⟩ l q t := by simp [coefV, ho2, hqr]
          rw [hcv, hqr] at hfin
          have hlF := hM2.hl.2 i v q hv hq
          have hqv : allV q := hrl.val q (List.mem_of_getElem? hq)
          have hS := fun X : AH => sNext ⟨o, a, b, c⟩ (H.length + 4) cl l q v t hnx hrl.val hqv ht (by omega) (H ++ (J2 ++ X)) ((hM2.app X).hl.rows (by rw [getAt]; exact get_old m4) (.inl rfl)) ((hM2.app X).hl.own hv hq (.inl rfl))
          rw [hrl.len] at hS
          have m0 := hM2.h0
          simp only [algA, fnA] at m0
          rcases hlF with (hn | ⟨hn, _⟩) | ⟨bl, rfl, g2l, g5l, gtl⟩
          · obtain ⟨h0q, rfl⟩ := hn
            subst h0q
            simp [f5, f8, f11, f12, f14, h16, m0, m2, m4, hv, hvE, hcll, hlt]
            refine callD_rdA (fun X => by simpa [algA, fnA, insA] using hS X) ?_
            generalize nextC ⟨o, a, b, c⟩ l [] t = z at *
            simp
            refine bind_some (app_new0 (.inl rfl)) ?_
            simp [f11, f12, f14, hcll, hlt, hv, hvE, m4, get_old m4]
            refine endD [(4, 18), (5, 18), (11, 18), (12, 18), (14, 18), (17, 18), (14, 16)] (by rfl) (by simp [okW, note, Eff.triv, Eff.wr, Eff.none, upTo, newAt, hJ2n]; omega) ?_
            simp [f47, w2]
            exact hfin _ _ _ _ (hM2.lN (i := i) (q := []) (p := z)) _ ⟨by simp [f5], by simp [f6], by simp [f8], by simp [f11], by simp [f12], by simp [f40], by simp [f41], by omega⟩ (by simp [f14]) (by simp [f45]) (by simp [f46]) (by simp)
          · cases hn
          · simp [f5, f8, f11, f12, f14, h16, m0, m2, m4, hv, hvE, hcll, hlt]
            refine callD_rdA (fun X => by simpa [algA, fnA, insA] using hS X) ?_
            generalize nextC ⟨o, a, b, c⟩ l q t = z at *
            simp
            refine bind_some (app_rowB (by omega) (by simpa using g2l)) ?_
            have m4b : (J2.set bl (rowB (q ++ [z])))[4]? = some (.row true 1 cl) := by rw [List.getElem?_set_ne (by omega)]; exact m4
            have hne : bl ≠ J.length := by rintro rfl; rw [h16] at g2l; simp [rowB] at g2l
            simp [f11, f12, f14, hcll, hlt, hv, hvE, m4b]
            refine endD [(4, 18), (5, 18), (11, 18), (12, 18), (14, 18), (17, 18), (14, 16)] (by rfl) (by simp [okW, note, Eff.triv, Eff.wr, Eff.none, upTo, newAt, hJ2n]; omega) ?_
            simp [f47, w2]
            exact hfin _ _ _ _ (hM2.lR (i := i) (q := q) (p := z) g2l g5l gtl) _ ⟨by simp [f5], by simp [f6], by simp [f8], by simp [f11], by simp [f12], by simp [f40], by simp [f41], by omega⟩ (by simp [f14]) (by simp [f45]) (by simp [f46]) (by simp)
      · have hin : i = T.L.length := by have : ¬ i < T.L.length := by simpa using hc
                                        omega
        subst hin
        have h1 := hM.h1
        simp only [tpA] at h1
        simp [f6, h1, outA]
        refine loop_count (SxO T x t order H k) (fun i => T.out.length - i) 0 ⟨⟨by simp [f5], by simp [f6], by simp [f8], by simp [f11], by simp [f12], by simp [f40], by simp [f41], by omega⟩, by simp [f14], by simp [outA], by simp, by simp, by omega, J, tag, co, cl, rfl, hM⟩ ?_
        clear f5 f6 f8 f11 f12 f40 f41 f14 f45 f46 f47 hM h1 hJl hrl
        clear J tag co cl
        rintro i fr H1 ⟨⟨f5, f6, f8, f11, f12, f40, f41, _⟩, f14, f92, f93, f94, hi, J, tag, co, cl, rfl, hM⟩
        have hJl := hM.len
        simp [f93, f94]
        obtain ⟨e3, e4⟩ := expS_ok hT hx ht (k + 1)
        have hro := stepO_ok hT e3.val e2 i (by rw [← hT.len]; exact hi)
        refine branch (fun hc => ?_) (fun hc => ?_)
        · have hlt : i < T.out.length := by simpa using hc
          obtain ⟨y, hy⟩ := get_lt hlt
          have hyE : ∀ h, T.out[i]'h = y := fun h => (List.getElem?_eq_some_iff.1 hy).2
          have hyl := hT.out y (List.mem_of_getElem? hy)
          have hltn : i < T.n := by rw [← hT.len]; exact hlt
          have w2 : IntKind.i64.wrap ((i : Int) + 1) = ((i + 1 : Nat) : Int) := by rw [wrap64 (by omega) (by omega)]; omega
          have hnext := stepO_succ (l := (expS T x t (k + 1)).1) (out := (expS T x t k).2) (k := k) hy
          have hfin : ∀ (J' : AH) (tag' : Nat → Nat) (co' cl' : List AV), MemX .nilslice T t H.length J' tag' co' cl' (stepO T (expS T x t (k + 1)).1 k (expS T x t k).2 (i + 1)) (expS T x t (k + 1)).1 → ∀ fr' : AFr, fK H T.n T.L.length order k fr' → fr' 14 = .int .i64 k → fr' 92 = outA T.out → fr' 93 = .int .i64 T.out.length → fr' 94 = .int .i64 (i + 1 : Nat) → Again (SxO T x t order H k) (fun i => T.out.length - i) i fr' (H ++ J') :=
            fun J' tag' co' cl' hM' fr' g1 g2 g3 g4 g5 => ⟨i + 1, by show T.out.length - (i + 1) < T.out.length - i; omega, g1, g2, g3, g4, g5, by omega, J', tag', co', cl', rfl, hM'⟩
          generalize hL : (expS T x t (k + 1)).1 = l at *
          generalize hO : stepO T l k (expS T x t k).2 i = out at *
          rw [hnext] at hfin
          have hil : i < out.length := by rw [hro.len]; exact hltn
          obtain ⟨q, hq⟩ := get_lt hil
          have hqr : rowN out (i : Int) = q := rowN_get hq
          have hqk : q.length = k + 1 := by have := hro.row i hltn; rw [hqr, if_neg (by omega)] at this; exact this
          obtain ⟨v, hv⟩ := get_lt (l := co) (i := i) (by rw [hM.ho.1]; exact hil)
          have hvE : ∀ h, co[i]'h = v := fun h => (List.getElem?_eq_some_iff.1 hv).2
          have hcol : co.length = T.n := by rw [hM.ho.1, hro.len]
          obtain ⟨r, hr⟩ := get_lt (l := l) (i := y) (by rw [e3.len]; exact hyl)
          have hrr : rowN l (y : Int) = r := rowN_get hr
          have hrk : r.length = k + 1 := by have := e3.row y hyl; rw [hrr, if_neg (by omega)] at this; exact this
          obtain ⟨u, hu⟩ := get_lt (l := cl) (i := y) (by rw [hM.hl.1, e3.len]; exact hyl)
          have huE : ∀ h, cl[y]'h = u := fun h => (List.getElem?_eq_some_iff.1 hu).2
          have hcll : cl.length = T.L.length := by rw [hM.hl.1, e3.len]
          obtain ⟨z, hz⟩ := get_lt (l := r) (i := k) (by omega)
          have hzE : ∀ h, r[k]'h = z := fun h => (List.getElem?_eq_some_iff.1 hz).2
          have hzv : vB z = true := e3.val r (List.mem_of_getElem? hr) z (List.mem_of_getElem? hz)
          have hkk : (k : Int) < (k : Int) + 1 := by omega
          have hkn : k < k + 1 := by omega
          have hJn : J ≠ [] := by rintro rfl; simp at hJl
          rw [hrr, hqr, show atN r k = z by simp [atN, hz]] at hfin
          have hoF := hM.ho.2 i v q hv hq
          have hlF := hM.hl.2 y u r hu hr
          have m0 := hM.h0
          have m3 := hM.h3
          have m4 := hM.h4
          simp only [algA, fnA] at m0
          rcases hlF with (⟨h0, _⟩ | ⟨h0, _⟩) | ⟨bl, hu', g2l, g5l, gtl⟩
          · rw [h0] at hrk; simp at hrk
          · cases h0
          subst hu'
          have g2l' := g2l
          have hbl := (List.getElem?_eq_some_iff.1 g2l).1
          simp only [rowB] at g2l'
          rcases hoF with (⟨h0, _⟩ | ⟨_, a, h0, hv'⟩) | ⟨bo, hv', g2o, g5o, gto⟩
          · rw [h0] at hqk; simp at hqk
          · subst hv'
            subst h0
            simp [f92, f93, f94, f11, f12, f14, f5, hy, hyE, outA, m0, m3, m4, hv, hvE, hu, huE, hcll, hcol, hltn, hyl, g2l', hz, hzE, hrk, hkk, hkn, wk]
            refine callD_ret0 (fun Hx => by simpa using sDivide z ((k + 1 : Nat) : Int) hzv (by omega) Hx) ?_
            generalize mulr z 1 (k + 1) = d at *
            simp
            refine bind_some app_new1 ?_
            simp [f11, f12, f14, hcol, hltn, hv, hvE, m3, get_old m3]
            refine endD [(4, 21), (5, 21), (20, 21)] (by rfl) (by simp [okW, note, Eff.triv, Eff.wr, Eff.none, upTo, newAt, hJn]; omega) ?_
            simp [f94, w2]
            exact hfin _ _ _ _ (hM.oN (i := i) (q := [a]) (p := d)) _ ⟨by simp [f5], by simp [f6], by simp [f8], by simp [f11], by simp [f12], by simp [f40], by simp [f41], by omega⟩ (by simp [f14]) (by simp [f92]) (by simp [f93]) (by simp)
          · subst hv'
            have hne2 : bo ≠ bl := by rintro rfl; omega
            simp [f92, f93, f94, f11, f12, f14, f5, hy, hyE, outA, m0, m3, m4, hv, hvE, hu, huE, hcll, hcol, hltn, hyl, g2l', hz, hzE, hrk, hkk, hkn, wk]
            refine callD_ret0 (fun Hx => by simpa using sDivide z ((k + 1 : Nat) : Int) hzv (by omega) Hx) ?_
            generalize mulr z 1 (k + 1) = d at *
            simp
            refine bind_some (app_rowB (by omega) (by simpa using g2o)) ?_
            have m3b : (J.set bo (rowB (q ++ [d])))[3]? = some (.row true 1 co) := by rw [List.getElem?_set_ne (by omega)]; exact m3
            simp [f11, f12, f14, hcol, hltn, hv, hvE, m3b]
            refine endD [(4, 21), (5, 21), (20, 21)] (by rfl) (by simp [okW, note, Eff.triv, Eff.wr, Eff.none, upTo, newAt, hJn]; omega) ?_
            simp [f94, w2]
            exact hfin _ _ _ _ (hM.oR (i := i) (q := q) (p := d) g2o g5o gto) _ ⟨by simp [f5], by simp [f6], by simp [f8], by simp [f11], by simp [f12], by simp [f40], by simp [f41], by omega⟩ (by simp [f14]) (by simp [f92]) (by simp [f93]) (by simp)
        · have hin : i = T.out.length := by have : ¬ i < T.out.length := by simpa using hc
                                            omega
          subst hin
          simp [f41, wk]
          exact ⟨k + 1, by show order - (k + 1) < order - k; omega, ⟨by simp [f5], by simp [f6], by simp [f8], by simp [f11], by simp [f12], by simp [f40], by simp, by omega⟩, J, tag, co, cl, rfl, hM⟩
    · have hkn : k = order := by have : ¬ k < order := by simpa using hc
                                 omega
      subst hkn
      obtain ⟨_, e4⟩ := expS_ok hT hx ht k
      have hcf : coefS T x t k = (expS T x t k).2 := rfl
      rw [hcf] at g1 g2
      have hlen2 : ∀ q ∈ (expS T x t k).2, 2 ≤ q.length := fun q hq => by
        obtain ⟨j, hj⟩ := List.mem_iff_getElem?.1 hq
        have := e4.row j (by rw [← e4.len]; exact (List.getElem?_eq_some_iff.1 hj).1)
        rw [rowN_get hj, if_neg (by omega)] at this
        omega
      obtain ⟨σ, hσ⟩ := fam_fills hM.ho hM.h3 (by omega) hlen2 (by rw [e4.len]; exact hd) hlen g1 g2 (by rw [e4.len]; exact g3)
      rw [e4.len] at hσ
      simp [f11]
      exact ⟨_, _, σ, hσ, finK (rs := [.tmp 10]) (vs := [.ref (H.length + 3) T.n]) (by rfl) (by simp [resA]) rfl⟩
end Go.Proofs.YtfjjckepnkkgjaaGreatDoor.Arm

namespace Go.Proofs.YtfjjckepnkkgjaaGreatDoor.Arm
open Go.Arm Go.Pl
def outJ (p : Nat) (l : List (List I)) : AH := .row true 1 (refsN p l) :: l.map rowB
theorem outJ_len (p : Nat) (l : List (List I)) : (outJ p l).length = l.length + 1 := by simp [outJ]
def deadJ (n : Nat) : AH := List.replicate (n + 1) .dead
theorem deadJ_len (n : Nat) : (deadJ n).length = n + 1 := by simp [deadJ]
theorem outJ_noFB {p m : Nat} {l : List (List I)} (hm : p + l.length < m) : ∀ k ∈ outJ p l, noFB m k = true := by
  intro k hk
  simp only [outJ, List.mem_cons, List.mem_map] at hk
  rcases hk with rfl | ⟨q, _, rfl⟩
  · simp only [noFB]
    rw [noFs_iff]
    intro x hx
    simp only [refsN, List.mem_map, List.mem_range] at hx
    obtain ⟨j, hj, rfl⟩ := hx
    simp [noF]; omega
  · simp only [rowB, noFB]
    rw [noFs_iff]
    exact rowB_noF m q
theorem head_eq {H0 K K' : AH} {c : Nat} (h : c < H0.length) : (H0 ++ K)[c]? = (H0 ++ K')[c]? := by rw [List.getElem?_append_left h, List.getElem?_append_left h]
theorem tail_eq {H0 A B X : AH} {c : Nat} (h : A.length = B.length) (hc : H0.length + A.length ≤ c) : (H0 ++ (A ++ X))[c]? = (H0 ++ (B ++ X))[c]? := by
  have h1 : H0.length ≤ c := by omega
  have h2 : A.length ≤ c - H0.length := by omega
  have h3 : B.length ≤ c - H0.length := by omega
  rw [List.getElem?_append_right h1, List.getElem?_append_right h1, List.getElem?_append_right h2, List.getElem?_append_right h3, h]
theorem dead_get {n i : Nat} {k : ABlk} (h : (deadJ n)[i]? = some k) : k = .dead := List.eq_of_mem_replicate (List.mem_of_getElem? h)
theorem outJ_alters (H0 X : AH) (l : List (List I)) : alters (H0 ++ (deadJ l.length ++ X)) (H0 ++ (outJ H0.length l ++ X)) := by
  refine ⟨by simp [outJ_len, deadJ_len], fun c => ?_⟩
  by_cases h : c < H0.length
  · exact .inl (head_eq h)
  · by_cases h2 : c - H0.length < l.length + 1
    · right; left
      refine ⟨(outJ H0.length l)[c - H0.length]'(by rw [outJ_len]; exact h2), ?_, ?_⟩
      · rw [List.getElem?_append_right (by omega), List.getElem?_append_left (by rw [outJ_len]; exact h2)]; simp
      · exact outJ_noFB (by simp [deadJ_len]; omega) _ (List.getElem_mem _)
    · exact .inl (tail_eq (by rw [outJ_len, deadJ_len]) (by rw [outJ_len]; omega))
theorem dead_at {H0 X : AH} {n : Nat} (j : Nat) (h : j ≤ n) : (H0 ++ (deadJ n ++ X))[H0.length + j]? = some .dead := by
  rw [getAt, List.getElem?_append_left (by rw [deadJ_len]; omega)]
  simp only [deadJ]
  rw [List.getElem?_replicate, if_pos (by omega)]
theorem outJ_rows {H0 X : AH} {l : List (List I)} {j : Nat} {q : List I} (h : l[j]? = some q) : (H0 ++ (outJ H0.length l ++ X))[H0.length + 1 + j]? = some (rowB q) := by
  have hlt := (List.getElem?_eq_some_iff.1 h).1
  rw [Nat.add_assoc, getAt, List.getElem?_append_left (by rw [outJ_len]; omega)]
  rw [show 1 + j = j + 1 by omega]
  simp [outJ, h]
theorem finO {fr : AFr} {fn : Func} {rs : List ResultVar} {H0 X J : AH} {l : List (List I)} {v : AV} {e : AExit} (hr : fn.results.toList = rs) (h : resA E fr (H0 ++ (outJ H0.length l ++ X) ++ J) rs = some [v]) (hv : noF (H0 ++ (deadJ l.length ++ X)).length v = true) (hx : e = .ret ∨ e = .normal := by simp) :
    bodyK E fn (H0 ++ (deadJ l.length ++ X)) (.ret v) (H0 ++ (outJ H0.length l ++ X)) e fr (H0 ++ (outJ H0.length l ++ X) ++ J) := by
  have ha := outJ_alters H0 X l
  exact finU hr h ha.1 (fun b => by
    rcases ha.2 b with h | h | ⟨k, st, st', frs, h1, h2⟩
    · exact .inl h
    · exact .inr h
    · rcases Nat.lt_or_ge b H0.length with h3 | h3
      · exact .inl (head_eq h3)
      · by_cases h4 : b - H0.length < l.length + 1
        · exfalso
          rw [List.getElem?_append_right h3, List.getElem?_append_left (by rw [deadJ_len]; exact h4)] at h1
          cases dead_get h1
        · exact .inl (tail_eq (by rw [outJ_len, deadJ_len]) (by rw [outJ_len]; omega))) hv hx
theorem coefS_len {T : Tp} {x : List I} {t : I} {order : Nat} (hT : tpOk T) (hx : allV x) (ht : vB t = true) : (coefS T x t order).length = T.n := (expS_ok hT hx ht order).2.len
theorem sExpand' (T : Tp) (x : List I) (t : I) (order : Nat) (hT : tpOk T) (hx : allV x) (hxn : x.length = T.n) (ht : vB t = true) (ho : 1 ≤ order ∧ order ≤ 1000) (H0 X : AH) :
    Sound E 167 [algA, tpA T, bx x, iv t, .int .i64 order] (H0 ++ (deadJ T.n ++ X)) (.ret (.ref H0.length T.n)) (H0 ++ (outJ H0.length (coefS T x t order) ++ X)) := by
  have hl := coefS_len (order := order) hT hx ht
  have ha := outJ_alters H0 X (coefS T x t order)
  rw [hl] at ha
  refine sExpand T x t order hT hx hxn ht ho _ _ H0.length (fun j hj => dead_at j hj) ha.1 (by simp [outJ]) (fun j q hq => outJ_rows hq) (fun c hc h => ?_)
  rcases Nat.lt_or_ge c H0.length with h3 | h3
  · exact head_eq h3
  · exact tail_eq (by rw [outJ_len, deadJ_len, hl]) (by rw [outJ_len, hl]; omega)
theorem sCoef (T : Tp) (x : List I) (t : I) (order : Nat) (hT : tpOk T) (hx : allV x) (hxn : x.length = T.n) (ht : vB t = true) (ho : 1 ≤ order ∧ order ≤ 1000) (H0 X : AH) :
    Sound E 142 [tpA T, bx x, iv t, .int .i64 order] (H0 ++ (deadJ T.n ++ X)) (.ret (.ref H0.length T.n)) (H0 ++ (outJ H0.length (coefS T x t order) ++ X)) := by
  refine sound_of_awp tabOk mixed Tryz.func142 rfl (by rfl) Tryz.ntmps142 (by kernel_rfl) (by simp) ?_
  have hS := sExpand' T x t order hT hx hxn ht ho
  have hl := coefS_len (order := order) hT hx ht
  generalize hc : coefS T x t order = l at *
  simp [tpA]
  refine callD_ret0 (fun Hx => by simpa [algA, fnA] using sIntervals Hx) ?_
  simp
  refine callD_all (r := .ref H0.length T.n) (K := H0 ++ (outJ H0.length l ++ (X ++ [.row true 3 [tpA T], .row true 2 [iv t]]))) (by simp [outJ_len, deadJ_len, hl]) (fun Y => by
    have := hS H0 (X ++ [.row true 3 [tpA T], .row true 2 [iv t]] ++ Y)
    simp [algA, fnA, tpA] at this ⊢
    exact this) ?_
  simp
  refine endD [(1, 5), (3, 5)] (by rfl) (by simp [okW, note, Eff.triv, Eff.wr, Eff.none, upTo, newAt, deadJ_len]) ?_
  simp
  have e : H0 ++ (outJ H0.length l ++ (X ++ [.row true 3 [tpA T], .row true 2 [.agg [.int .i64 t.1, .int .i64 t.2]]])) = H0 ++ (outJ H0.length l ++ X) ++ [.row true 3 [tpA T], .row true 2 [.agg [.int .i64 t.1, .int .i64 t.2]]] := by simp
  rw [e, ← hl]
  exact finO (rs := [.tmp 8]) (by rfl) (by simp [resA]) (by simp [noF, deadJ_len]; omega)
end Go.Proofs.YtfjjckepnkkgjaaGreatDoor.Arm

namespace Go.Proofs.YtfjjckepnkkgjaaGreatDoor.Arm
open Go.Arm Go.Pl
theorem refsN_get {p : Nat} {l : List (List I)} {j : Nat} {q : List I} (h : l[j]? = some q) : (refsN p l)[j]? = some (.ref (p + 1 + j) q.length) := by
  have hlt := (List.getElem?_eq_some_iff.1 h).1
  have hE : l[j] = q := (List.getElem?_eq_some_iff.1 h).2
  simp [refsN, hlt, rowN, hE]
theorem refsN_len (p : Nat) (l : List (List I)) : (refsN p l).length = l.length := by simp [refsN]
theorem kRem1 (i order b c : Nat) (q : List I) (z : I) (w w2 : Bool) (ho : order ≤ 1000) (hz : q[order + 1]? = some z) (H : AH) (hc : H[c]? = some (.row w 1 [.int .i64 order])) (hb : H[b]? = some (.row w2 2 (q.map iv))) :
    Sound E 165 [.int .i64 i, .ref b q.length, .ptr c 1 0 0] H (.ret (iv z)) H := by
  refine sound_of_awp tabOk mixed Tryz.func165 rfl (by rfl) Tryz.ntmps165 (by kernel_rfl) (by simp) ?_
  have hcl := (List.getElem?_eq_some_iff.1 hc).1
  have hbl := (List.getElem?_eq_some_iff.1 hb).1
  have hlt := (List.getElem?_eq_some_iff.1 hz).1
  have hzE : ∀ h, q[order + 1]'h = z := fun h => (List.getElem?_eq_some_iff.1 hz).2
  have w1 : IntKind.i64.wrap ((order : Int) + 1) = ((order + 1 : Nat) : Int) := by rw [wrap64 (by omega) (by omega)]; omega
  have hltI : (order : Int) + 1 < q.length := by omega
  have h0o : (0 : Int) ≤ (order : Int) + 1 := by omega
  simp [hc, get_old hc, hb, get_old hb, w1, hz, hzE, hlt, hltI, h0o]
  exact fin1 (rs := [.cell 5 54]) (by rfl) (by simp [resA]) (by simp [noFs, noF])
def LMr (l : List (List I)) (f : Nat → I) (g : FuncId) (caps : List AV) (p : Nat) (H : AH) (i : Nat) (fr : AFr) (H' : AH) : Prop :=
  fr 1 = .func (.func g) [] caps ∧ fr 5 = .ref H.length l.length ∧ fr 11 = .ref p l.length ∧ fr 12 = .int .i64 l.length ∧ fr 13 = .int .i64 i ∧ i ≤ l.length ∧ H' = H ++ [.row true 2 (padI ((List.range i).map f) l.length)]
theorem kMapR (l : List (List I)) (f : Nat → I) (g : FuncId) (caps : List AV) (p : Nat) (hl : l.length ≤ 1000000) (H : AH) (hp : H[p]? = some (.row true 1 (refsN p l)))
    (hf : ∀ (j : Nat) q, l[j]? = some q → ∀ X : AH, Sound E g ([.int .i64 j, .ref (p + 1 + j) q.length] ++ caps) (H ++ X) (.ret (iv (f j))) (H ++ X)) :
    Sound E 164 [.ref p l.length, .func (.func g) [] caps] H (.ret (bx ((List.range l.length).map f))) H := by
  refine sound_of_awp tabOk mixed Tryz.func164 rfl (by rfl) Tryz.ntmps164 (by kernel_rfl) (by simp) ?_
  have hpl := (List.getElem?_eq_some_iff.1 hp).1
  simp [hp, get_old hp, refsN_len]
  refine bind_if (by omega) ?_
  simp [hp, get_old hp, refsN_len]
  refine loop_count (LMr l f g caps p H) (fun i => l.length - i) 0 ⟨by simp, by simp, by simp, by simp, by simp, by omega, by simp [padI_nil]⟩ ?_
  rintro i fr H' ⟨g1, g5, g11, g12, g13, hi, rfl⟩
  simp [g12, g13]
  refine branch (fun hc => ?_) (fun hc => ?_)
  · have hlt : i < l.length := by simpa using hc
    obtain ⟨q, hq⟩ := get_lt hlt
    have hr := refsN_get (p := p) hq
    have hrE : ∀ h, (refsN p l)[i]'h = .ref (p + 1 + i) q.length := fun h => (List.getElem?_eq_some_iff.1 hr).2
    have w2 : IntKind.i64.wrap ((i : Int) + 1) = ((i + 1 : Nat) : Int) := by rw [wrap64 (by omega) (by omega)]; omega
    have hW0 : (padI ((List.range i).map f) l.length)[i]? = some (iv (0, 0)) := padI_zero (by simp) hlt
    have hWl : (padI ((List.range i).map f) l.length).length = l.length := padI_len (by simp; omega)
    have hWset : (padI ((List.range i).map f) l.length).set i (iv (f i)) = padI ((List.range (i + 1)).map f) l.length := by
      have := padI_set (l := (List.range i).map f) (n := l.length) (p := f i) (by simp; omega)
      rw [List.length_map, List.length_range] at this
      rw [this, List.range_succ, List.map_append]
      simp
    have hS := hf i q hq
    generalize padI ((List.range i).map f) l.length = W at *
    have hW0E : ∀ h, W[i]'h = iv (0, 0) := fun h => (List.getElem?_eq_some_iff.1 hW0).2
    simp [g1, g5, g11, g13, hp, get_old hp, refsN_len, hlt, hr, hrE]
    refine call_ret (by simpa using hS _) ?_
    simp [g5, g13, hWl, hlt, hW0, hW0E, w2]
    exact ⟨i + 1, by show l.length - (i + 1) < l.length - i; omega, by simp [g1], by simp [g5], by simp [g11], by simp [g12], by simp, by omega, by rw [← hWset]; simp⟩
  · have hi' : i = l.length := by have : ¬ i < l.length := by simpa using hc
                                  omega
    subst hi'
    rw [padI_all (by simp)]
    simp [g5]
    exact finS (t := 4) (v := .ref (H.length + 0) l.length) (v0 := .nilslice) (sz := 2) (xs := ((List.range l.length).map f).map iv) (by rfl) (by simp) (.inr ⟨0, by simp, by simp⟩) rfl (iv_noFs _ _)
theorem kRemainder (T : Tp) (b : List I) (t h : Int) (order : Nat) (hT : tpOk T) (hb : allV b) (hbn : b.length = T.n) (hh : 0 ≤ h ∧ h ≤ 1000000000) (ht : -1000000000 ≤ t ∧ t ≤ 1000000000) (ho : order ≤ 900) (H : AH) :
    Sound E 140 [tpA T, bx b, .agg [.int .i64 t, .int .i64 h], .int .i64 order] H (.ret (bx (remS T b t h order))) H := by
  refine sound_of_awp_pad (T.n + 1) tabOk mixed Tryz.func140 rfl (by rfl) Tryz.ntmps140 (by kernel_rfl) (by simp) ?_
  rw [show List.replicate (T.n + 1) ABlk.dead = deadJ T.n from rfl]
  have hsm := hT.small
  have htv : vB (t, t + h) = true := vB_pair (by omega) (by omega) (by omega)
  have hS := sCoef T b (t, t + h) (order + 1) hT hb hbn htv (by omega)
  have hl := coefS_len (order := order + 1) hT hb htv
  have he : remS T b t h order = (List.range (coefS T b (t, t + h) (order + 1)).length).map (fun j : Nat => atN (rowN (coefS T b (t, t + h) (order + 1)) (j : Int)) (order + 1)) := by
    unfold remS
    apply List.ext_getElem?
    intro j
    rw [List.getElem?_map, List.getElem?_map]
    by_cases hj : j < (coefS T b (t, t + h) (order + 1)).length
    · rw [List.getElem?_range hj, List.getElem?_eq_getElem hj]
      simp [rowN, hj]
    · rw [List.getElem?_eq_none (by omega), List.getElem?_eq_none (by simp; omega)]; rfl
  rw [he]
  have hrow : ∀ (j : Nat) q, (coefS T b (t, t + h) (order + 1))[j]? = some q → q.length = order + 2 := fun j q hq => by
    have := (expS_ok hT hb htv (order + 1)).2.row j (by rw [← hl]; exact (List.getElem?_eq_some_iff.1 hq).1)
    rw [show (expS T b (t, t + h) (order + 1)).2 = coefS T b (t, t + h) (order + 1) from rfl, rowN_get hq] at this
    simpa using this
  generalize hc : coefS T b (t, t + h) (order + 1) = l at *
  have w1 : IntKind.i64.wrap ((order : Int) + 1) = ((order + 1 : Nat) : Int) := by rw [wrap64 (by omega) (by omega)]; omega
  have w2 : IntKind.i64.wrap (t + h) = t + h := wrap64 (by omega) (by omega)
  simp [tpA, w1, w2]
  refine call_ret (by
    have := hS H [.row true 3 [tpA T], .row true 2 [.agg [.int .i64 t, .int .i64 h]], .row true 1 [.int .i64 order]]
    simp [tpA] at this ⊢
    exact this) ?_
  simp
  have hM := kMapR l (fun j : Nat => atN (rowN l (j : Int)) (order + 1)) 165 [.ptr (H.length + (T.n + 1 + 2)) 1 0 0] H.length (by omega) (H ++ (outJ H.length l ++ [.row true 3 [tpA T], .row true 2 [.agg [.int .i64 t, .int .i64 h]], .row true 1 [.int .i64 order]])) (by simp [outJ]) (fun j q hq X => by
    have hql := hrow j q hq
    obtain ⟨z, hz⟩ := get_lt (l := q) (i := order + 1) (by omega)
    have e : atN (rowN l (j : Int)) (order + 1) = z := by simp [rowN_get hq, atN, hz]
    rw [e]
    refine kRem1 j order _ _ q z true true (by omega) hz _ (get_old ?_) (get_old (outJ_rows hq))
    rw [getAt, List.getElem?_append_right (by rw [outJ_len]; omega), outJ_len, hl, Nat.add_sub_cancel_left]; rfl)
  rw [hl] at hM
  refine call_ret (by simpa [tpA, deadJ_len] using hM) ?_
  simp
  rw [hl]
  exact fin1 (rs := [.tmp 8]) (by rfl) (by simp [resA]) (by simp only [bx, noF, iv_noFs])
end Go.Proofs.YtfjjckepnkkgjaaGreatDoor.Arm

namespace Go.Proofs.YtfjjckepnkkgjaaGreatDoor.Arm
open Go.Arm Go.Pl
def rowF (q : List I) : ABlk := .row false 2 (q.map iv)
theorem kEnc1 (i b c : Nat) (q r : List I) (z : I) (w : Bool) (hz : r[i]? = some z) (hq : q.length ≤ 1000000) (H : AH) (hc : H[c]? = some (.row w 1 [bx r])) (hb : H[b]? = some (rowB q)) :
    Sound E 144 [.int .i64 i, .ref b q.length, .ptr c 1 0 0] H (.ret (.ref b (q.length + 1))) (H.set b (rowB (q ++ [z]))) := by
  refine sound_of_awp tabOk mixed Tryz.func144 rfl (by rfl) Tryz.ntmps144 (by kernel_rfl) (by simp) ?_
  have hcl := (List.getElem?_eq_some_iff.1 hc).1
  have hbl := (List.getElem?_eq_some_iff.1 hb).1
  have hlt := (List.getElem?_eq_some_iff.1 hz).1
  have hzE : ∀ h, r[i]'h = z := fun h => (List.getElem?_eq_some_iff.1 hz).2
  simp only [bx] at hc
  simp [hc, hz, hzE, hlt]
  refine bind_some (app_rowB hq hb) ?_
  simp
  exact finK (rs := [.tmp 5]) (vs := [.ref b (q.length + 1)]) (by rfl) (by simp [resA]) rfl
def extB (l : List (List I)) (r : List I) (i : Nat) : List ABlk := (List.range l.length).map fun j : Nat => if j < i then rowB (rowN l (j : Int) ++ [atN r j]) else rowB (rowN l (j : Int))
def extC (p : Nat) (l : List (List I)) (i : Nat) : List AV := (List.range l.length).map fun j : Nat => if j < i then .ref (p + 1 + j) ((rowN l (j : Int)).length + 1) else .nilslice
theorem extB_len (l : List (List I)) (r : List I) (i : Nat) : (extB l r i).length = l.length := by simp [extB]
theorem extC_len (p : Nat) (l : List (List I)) (i : Nat) : (extC p l i).length = l.length := by simp [extC]
theorem extB_get {l : List (List I)} {r : List I} {i j : Nat} (h : j < l.length) : (extB l r i)[j]? = some (if j < i then rowB (rowN l (j : Int) ++ [atN r j]) else rowB (rowN l (j : Int))) := by
  unfold extB; rw [List.getElem?_map, List.getElem?_range h]; rfl
theorem extC_get {p : Nat} {l : List (List I)} {i j : Nat} (h : j < l.length) : (extC p l i)[j]? = some (if j < i then .ref (p + 1 + j) ((rowN l (j : Int)).length + 1) else .nilslice) := by
  unfold extC; rw [List.getElem?_map, List.getElem?_range h]; rfl
theorem extB_zero (l : List (List I)) (r : List I) : extB l r 0 = l.map rowB := by
  apply List.ext_getElem?
  intro j
  by_cases h : j < l.length
  · rw [extB_get h, if_neg (by omega), List.getElem?_map, List.getElem?_eq_getElem h]; simp [rowN, h]
  · rw [List.getElem?_eq_none (by rw [extB_len]; omega), List.getElem?_eq_none (by simp; omega)]
theorem extC_zero (p : Nat) (l : List (List I)) : extC p l 0 = List.replicate l.length .nilslice := by
  apply List.ext_getElem?
  intro j
  by_cases h : j < l.length
  · rw [extC_get h, if_neg (by omega), List.getElem?_replicate, if_pos h]
  · rw [List.getElem?_eq_none (by rw [extC_len]; omega), List.getElem?_eq_none (by simp; omega)]
theorem extB_set {l : List (List I)} {r : List I} {i : Nat} (h : i < l.length) : (extB l r i).set i (rowB (rowN l (i : Int) ++ [atN r i])) = extB l r (i + 1) := by
  apply List.ext_getElem?
  intro j
  by_cases hj : j < l.length
  · by_cases hij : i = j
    · subst hij; rw [List.getElem?_set_self (by rw [extB_len]; exact h), extB_get h, if_pos (by omega)]
    · rw [List.getElem?_set_ne hij, extB_get hj, extB_get hj]
      by_cases h1 : j < i
      · rw [if_pos h1, if_pos (by omega)]
      · rw [if_neg h1, if_neg (by omega)]
  · rw [List.getElem?_eq_none (by rw [List.length_set, extB_len]; omega), List.getElem?_eq_none (by rw [extB_len]; omega)]
theorem extC_set {p : Nat} {l : List (List I)} {i : Nat} (h : i < l.length) : (extC p l i).set i (.ref (p + 1 + i) ((rowN l (i : Int)).length + 1)) = extC p l (i + 1) := by
  apply List.ext_getElem?
  intro j
  by_cases hj : j < l.length
  · by_cases hij : i = j
    · subst hij; rw [List.getElem?_set_self (by rw [extC_len]; exact h), extC_get h, if_pos (by omega)]
    · rw [List.getElem?_set_ne hij, extC_get hj, extC_get hj]
      by_cases h1 : j < i
      · rw [if_pos h1, if_pos (by omega)]
      · rw [if_neg h1, if_neg (by omega)]
  · rw [List.getElem?_eq_none (by rw [List.length_set, extC_len]; omega), List.getElem?_eq_none (by rw [extC_len]; omega)]
theorem withRem_len (l : List (List I)) (r : List I) : (withRem l r).length = l.length := by simp [withRem]
theorem withRem_get {l : List (List I)} {r : List I} {j : Nat} (h : j < l.length) : (withRem l r)[j]? = some (rowN l (j : Int) ++ [atN r j]) := by
  unfold withRem; rw [List.getElem?_map, List.getElem?_range h]; rfl
theorem extB_all (l : List (List I)) (r : List I) : extB l r l.length = (withRem l r).map rowB := by
  apply List.ext_getElem?
  intro j
  by_cases h : j < l.length
  · rw [extB_get h, if_pos h, List.getElem?_map, withRem_get h]; rfl
  · rw [List.getElem?_eq_none (by rw [extB_len]; omega), List.getElem?_eq_none (by simp [withRem_len]; omega)]
def refsF (p : Nat) : List (List I) → List AV
  | [] => []
  | q :: r => .ref p q.length :: refsF (p + 1) r
theorem refsF_get : ∀ {l : List (List I)} {p j : Nat} {q : List I}, l[j]? = some q → (refsF p l)[j]? = some (.ref (p + j) q.length)
  | q :: r, p, 0, q', h => by simp at h; subst h; rfl
  | q :: r, p, j + 1, q', h => by
    have := refsF_get (p := p + 1) (l := r) (j := j) (by simpa using h)
    simpa [refsF, Nat.add_assoc, Nat.add_comm 1 j] using this
  | [], p, j, q, h => by simp at h
theorem refsF_len : ∀ (l : List (List I)) (p : Nat), (refsF p l).length = l.length
  | [], _ => rfl
  | q :: r, p => by simp [refsF, refsF_len r]
theorem extC_all (p : Nat) (l : List (List I)) (r : List I) : extC p l l.length = refsF (p + 1) (withRem l r) := by
  apply List.ext_getElem?
  intro j
  by_cases h : j < l.length
  · rw [extC_get h, if_pos h, refsF_get (withRem_get h)]; simp
  · rw [List.getElem?_eq_none (by rw [extC_len]; omega), List.getElem?_eq_none (by rw [refsF_len, withRem_len]; omega)]
theorem convs_refs : ∀ (l : List (List I)) (A B : AH), convs (A ++ (l.map rowB ++ B)) (refsF A.length l) = (l.map bx, A ++ (l.map rowF ++ B))
  | [], A, B => rfl
  | q :: r, A, B => by
    have h1 : conv1 (A ++ (rowB q :: (r.map rowB ++ B))) (.ref A.length q.length) = (bx q, (A ++ [rowF q]) ++ (r.map rowB ++ B)) := by
      simp [conv1, rowB, rowF, bx]
    have h2 := convs_refs r (A ++ [rowF q]) B
    simp only [List.length_append, List.length_cons, List.length_nil, Nat.zero_add] at h2
    simp only [List.map_cons, List.cons_append, refsF, convs, h1, h2]
    simp
end Go.Proofs.YtfjjckepnkkgjaaGreatDoor.Arm

namespace Go.Proofs.YtfjjckepnkkgjaaGreatDoor.Arm
open Go.Arm Go.Pl
theorem setAt {H J : AH} {b : Nat} {y : ABlk} : (H ++ J).set (H.length + b) y = H ++ J.set b y := by rw [List.set_append_right _ _ (by omega), Nat.add_sub_cancel_left]
def mE (H0 X : AH) (l : List (List I)) (r : List I) (i k : Nat) : AH := H0 ++ (.row true 1 (refsN H0.length l) :: (extB l r i ++ (X ++ [.row true 1 (extC H0.length l k)])))
section
variable {H0 X : AH} {l : List (List I)} {r : List I} {i k : Nat}
theorem mE_at0 : (mE H0 X l r i k)[H0.length]? = some (.row true 1 (refsN H0.length l)) := by
  have := getAt (H := H0) (J := .row true 1 (refsN H0.length l) :: (extB l r i ++ (X ++ [.row true 1 (extC H0.length l k)]))) (b := 0)
  exact this
theorem mE_row {j : Nat} (h : j < l.length) : (mE H0 X l r i k)[H0.length + 1 + j]? = (extB l r i)[j]? := by
  unfold mE
  rw [Nat.add_assoc, getAt, Nat.add_comm 1 j, List.getElem?_cons_succ, List.getElem?_append_left (by rw [extB_len]; exact h)]
theorem mE_x {j : Nat} (h : j < X.length) : (mE H0 X l r i k)[H0.length + (l.length + 1 + j)]? = X[j]? := by
  unfold mE
  rw [getAt, show l.length + 1 + j = (l.length + j) + 1 by omega, List.getElem?_cons_succ, List.getElem?_append_right (by rw [extB_len]; omega), extB_len, Nat.add_sub_cancel_left, List.getElem?_append_left h]
theorem mE_D : (mE H0 X l r i k)[H0.length + (l.length + 1 + X.length)]? = some (.row true 1 (extC H0.length l k)) := by
  unfold mE
  rw [getAt, show l.length + 1 + X.length = (l.length + X.length) + 1 by omega, List.getElem?_cons_succ, List.getElem?_append_right (by rw [extB_len]; omega), extB_len, Nat.add_sub_cancel_left, List.getElem?_append_right (by omega), Nat.sub_self]; rfl
theorem mE_set (h : i < l.length) : (mE H0 X l r i k).set (H0.length + 1 + i) (rowB (rowN l (i : Int) ++ [atN r i])) = mE H0 X l r (i + 1) k := by
  unfold mE
  rw [Nat.add_assoc, setAt, Nat.add_comm 1 i, List.set_cons_succ, List.set_append_left _ _ (by rw [extB_len]; exact h), extB_set h]
theorem mE_setD (h : k < l.length) : (mE H0 X l r i k).set (H0.length + (l.length + 1 + X.length)) (.row true 1 ((extC H0.length l k).set k (.ref (H0.length + 1 + k) ((rowN l (k : Int)).length + 1)))) = mE H0 X l r i (k + 1) := by
  unfold mE
  rw [setAt, show l.length + 1 + X.length = (l.length + X.length) + 1 by omega, List.set_cons_succ, List.set_append_right _ _ (by rw [extB_len]; omega), extB_len, Nat.add_sub_cancel_left, List.set_append_right _ _ (by omega), Nat.sub_self, List.set_cons_zero, extC_set h]
theorem mE_start : mE H0 X l r 0 0 = H0 ++ (outJ H0.length l ++ X) ++ [.row true 1 (List.replicate l.length .nilslice)] := by
  unfold mE outJ; rw [extB_zero, extC_zero]; simp
theorem mE_end : mE H0 X l r l.length l.length = H0 ++ [.row true 1 (refsN H0.length l)] ++ ((withRem l r).map rowB ++ (X ++ [.row true 1 (refsF (H0.length + 1) (withRem l r))])) := by
  unfold mE; rw [extB_all, extC_all _ _ r]; simp
end
def LMe (H0 X : AH) (l : List (List I)) (r : List I) (g : FuncId) (caps : List AV) (i : Nat) (fr : AFr) (H' : AH) : Prop :=
  fr 1 = .func (.func g) [] caps ∧ fr 5 = .ref (H0.length + (l.length + 1 + X.length)) l.length ∧ fr 11 = .ref H0.length l.length ∧ fr 12 = .int .i64 l.length ∧ fr 13 = .int .i64 i ∧ i ≤ l.length ∧ H' = mE H0 X l r i i
theorem kMapE (l : List (List I)) (r : List I) (kc : Nat) (w : Bool) (hl : l.length ≤ 1000000) (hr : l.length ≤ r.length) (hq : ∀ q ∈ l, q.length ≤ 1000000) (H0 X : AH) (hX : X[kc]? = some (.row w 1 [bx r])) :
    Sound E 141 [.ref H0.length l.length, .func (.func 144) [] [.ptr (H0.length + (l.length + 1 + kc)) 1 0 0]] (H0 ++ (outJ H0.length l ++ X)) (.ret (bxs (withRem l r)))
      (H0 ++ (.row true 1 (refsN H0.length l) :: ((withRem l r).map rowF ++ X))) := by
  refine sound_of_awp tabOk mixed Tryz.func141 rfl (by rfl) Tryz.ntmps141 (by kernel_rfl) (by simp) ?_
  have hM0 : (H0 ++ (outJ H0.length l ++ X)).length = H0.length + (l.length + 1 + X.length) := by simp [outJ_len]
  have hM1 : (H0 ++ (outJ H0.length l ++ X))[H0.length]? = some (.row true 1 (refsN H0.length l)) := by simp [outJ]
  have hst := mE_start (H0 := H0) (X := X) (l := l) (r := r)
  generalize hM : H0 ++ (outJ H0.length l ++ X) = M at *
  simp [hM1, get_old hM1, refsN_len]
  refine bind_if (by omega) ?_
  simp [hM1, get_old hM1, refsN_len]
  refine loop_count (LMe H0 X l r 144 [.ptr (H0.length + (l.length + 1 + kc)) 1 0 0]) (fun i => l.length - i) 0 ⟨by simp, by simp [hM0], by simp, by simp, by simp, by omega, by rw [hst]⟩ ?_
  rintro i fr H1 ⟨g1, g5, g11, g12, g13, hi, rfl⟩
  simp [g12, g13]
  refine branch (fun hc => ?_) (fun hc => ?_)
  · have hlt : i < l.length := by simpa using hc
    obtain ⟨q, hqi⟩ := get_lt hlt
    obtain ⟨z, hz⟩ := get_lt (l := r) (i := i) (by omega)
    have hrow : rowN l (i : Int) = q := rowN_get hqi
    have hza : atN r i = z := by simp [atN, hz]
    have hrf := refsN_get (p := H0.length) hqi
    have hrE : ∀ h, (refsN H0.length l)[i]'h = .ref (H0.length + 1 + i) q.length := fun h => (List.getElem?_eq_some_iff.1 hrf).2
    have w2 : IntKind.i64.wrap ((i : Int) + 1) = ((i + 1 : Nat) : Int) := by rw [wrap64 (by omega) (by omega)]; omega
    have a0 := mE_at0 (H0 := H0) (X := X) (l := l) (r := r) (i := i) (k := i)
    have a1 := mE_row (H0 := H0) (X := X) (l := l) (r := r) (i := i) (k := i) hlt
    rw [extB_get hlt, if_neg (by omega), hrow] at a1
    have a2 := mE_x (H0 := H0) (l := l) (r := r) (i := i) (k := i) (List.getElem?_eq_some_iff.1 hX).1
    rw [hX] at a2
    have a3 := mE_set (H0 := H0) (X := X) (l := l) (r := r) (i := i) (k := i) hlt
    rw [hrow, hza] at a3
    have a4 := mE_D (H0 := H0) (X := X) (l := l) (r := r) (i := i + 1) (k := i)
    have a5 := mE_setD (H0 := H0) (X := X) (l := l) (r := r) (i := i + 1) (k := i) hlt
    rw [hrow] at a5
    have hcl := extC_len H0.length l i
    have hcg := extC_get (p := H0.length) (i := i) hlt
    rw [if_neg (by omega)] at hcg
    have hcgE : ∀ h, (extC H0.length l i)[i]'h = .nilslice := fun h => (List.getElem?_eq_some_iff.1 hcg).2
    have hS := kEnc1 i (H0.length + 1 + i) _ q r z w hz (hq q (List.mem_of_getElem? hqi)) _ a2 a1
    rw [a3] at hS
    have hfin : ∀ fr' : AFr, fr' 1 = .func (.func 144) [] [.ptr (H0.length + (l.length + 1 + kc)) 1 0 0] → fr' 5 = .ref (H0.length + (l.length + 1 + X.length)) l.length → fr' 11 = .ref H0.length l.length → fr' 12 = .int .i64 l.length → fr' 13 = .int .i64 (i + 1 : Nat) →
        Again (LMe H0 X l r 144 [.ptr (H0.length + (l.length + 1 + kc)) 1 0 0]) (fun i => l.length - i) i fr' (mE H0 X l r (i + 1) (i + 1)) := fun fr' h1 h2 h3 h4 h5 => ⟨i + 1, by show l.length - (i + 1) < l.length - i; omega, h1, h2, h3, h4, h5, by omega, rfl⟩
    rw [← a5] at hfin
    generalize mE H0 X l r (i + 1) i = M1 at *
    generalize mE H0 X l r i i = M2 at *
    generalize extC H0.length l i = C at *
    simp [g1, g5, g11, g13, a0, refsN_len, hlt, hrf, hrE]
    refine call_ret (by simpa using hS) ?_
    simp [g5, g13, a4, hcl, hlt, hcg, hcgE, w2]
    exact hfin _ (by simp [g1]) (by simp [g5]) (by simp [g11]) (by simp [g12]) (by simp)
  · have hi' : i = l.length := by have : ¬ i < l.length := by simpa using hc
                                  omega
    subst hi'
    simp [g5]
    rw [mE_end]
    have hA : (H0 ++ [ABlk.row true 1 (refsN H0.length l)]).length = H0.length + 1 := by simp
    have hlw := withRem_len l r
    generalize hl' : withRem l r = l' at *
    have hcv := convs_refs l' (H0 ++ [.row true 1 (refsN H0.length l)]) (X ++ [.row true 1 (refsF (H0.length + 1) l')])
    rw [hA] at hcv
    have hD : ∀ (f : List (List I) → List ABlk), (∀ l, (f l).length = l.length) → ∀ y, (H0 ++ [ABlk.row true 1 (refsN H0.length l)] ++ (f l' ++ (X ++ [y])))[H0.length + (l.length + 1 + X.length)]? = some y := by
      intro f hf y
      rw [List.append_assoc, getAt, show l.length + 1 + X.length = 1 + (l.length + X.length) by omega]
      have := getAt (H := [ABlk.row true 1 (refsN H0.length l)]) (J := f l' ++ (X ++ [y])) (b := l.length + X.length)
      rw [List.length_singleton] at this
      rw [this]
      have := getAt (H := f l') (J := X ++ [y]) (b := X.length)
      rw [hf, hlw] at this
      rw [this]
      simp
    have hDs : ∀ y y', (H0 ++ [ABlk.row true 1 (refsN H0.length l)] ++ (l'.map rowF ++ (X ++ [y]))).set (H0.length + (l.length + 1 + X.length)) y' = H0 ++ [.row true 1 (refsN H0.length l)] ++ (l'.map rowF ++ (X ++ [y'])) := by
      intro y y'
      rw [List.append_assoc, setAt, show l.length + 1 + X.length = 1 + (l.length + X.length) by omega]
      have := setAt (H := [ABlk.row true 1 (refsN H0.length l)]) (J := l'.map rowF ++ (X ++ [y])) (b := l.length + X.length) (y := y')
      rw [List.length_singleton] at this
      rw [this]
      have := setAt (H := l'.map rowF) (J := X ++ [y]) (b := X.length) (y := y')
      rw [List.length_map, hlw] at this
      rw [this]
      simp
    refine ⟨[.ref (H0.length + (l.length + 1 + X.length)) l.length], [bxs l'], by simp [show (Tryz.f141).results.toList = [.tmp 4] from rfl, resA], ?_, rfl⟩
    refine .deep (H0.length + (l.length + 1 + X.length)) true (refsF (H0.length + 1) l') (hD (fun l => l.map rowB) (fun l => by simp) _) (by rw [hcv]; exact hD (fun l => l.map rowF) (fun l => by simp) _) (fun x hx => ?_) (fun x hx => ?_) ?_
    · obtain ⟨j, hj⟩ := List.mem_iff_getElem?.1 hx
      have hjl : j < l'.length := by rw [← refsF_len l' (H0.length + 1)]; exact (List.getElem?_eq_some_iff.1 hj).1
      have := refsF_get (p := H0.length + 1) (List.getElem?_eq_getElem hjl)
      rw [hj] at this; cases this; rfl
    · rw [hcv] at hx
      simp only [List.mem_map] at hx
      obtain ⟨q, _, rfl⟩ := hx; rfl
    rw [hcv]
    dsimp only
    rw [hDs]
    refine .conv ?_
    have h6 := hD (fun l => l.map rowF) (fun l => by simp) (.row true 1 (l'.map bx))
    have h7 : convL (H0 ++ [ABlk.row true 1 (refsN H0.length l)] ++ (l'.map rowF ++ (X ++ [.row true 1 (l'.map bx)]))) [.ref (H0.length + (l.length + 1 + X.length)) l.length] = ([bxs l'], H0 ++ [.row true 1 (refsN H0.length l)] ++ (l'.map rowF ++ (X ++ [.row false 1 (l'.map bx)]))) := by
      simp only [convL, conv, conv1, h6]
      rw [if_pos (by simp [hlw])]
      simp only [hDs]
      rfl
    rw [h7]
    dsimp only
    refine .cut M.length (Nat.le_refl _) ?_ (fun b hb => ?_) ?_
    · rw [hM0, show H0.length + (l.length + 1 + X.length) = (H0 ++ ABlk.row true 1 (refsN H0.length l) :: (l'.map rowF ++ X)).length by simp [hlw]; omega]
      have : H0 ++ [ABlk.row true 1 (refsN H0.length l)] ++ (l'.map rowF ++ (X ++ [.row false 1 (l'.map bx)])) = (H0 ++ ABlk.row true 1 (refsN H0.length l) :: (l'.map rowF ++ X)) ++ [.row false 1 (l'.map bx)] := by simp
      rw [this, List.take_left]
    · rw [← hM]
      rcases Nat.lt_or_ge b H0.length with h | h
      · exact .inl (head_eq h)
      · obtain ⟨c, rfl⟩ : ∃ c, b = H0.length + c := ⟨b - H0.length, by omega⟩
        rw [getAt, getAt]
        cases c with
        | zero => exact .inl rfl
        | succ c =>
          unfold outJ
          rw [List.cons_append, List.getElem?_cons_succ, List.getElem?_cons_succ]
          by_cases hcl : c < l.length
          · right; left
            have hcl' : c < l'.length := by omega
            refine ⟨rowF l'[c], by rw [List.getElem?_append_left (by simp; exact hcl'), List.getElem?_map, List.getElem?_eq_getElem hcl']; rfl, ?_⟩
            simp only [rowF, noFB]
            rw [noFs_iff]
            exact rowB_noF _ _
          · left
            rw [List.getElem?_append_right (by simp; omega), List.getElem?_append_right (by simp; omega)]
            simp [hlw]
    · simp only [noFs, bxs, noF, Bool.and_true]
      rw [noFs_iff]
      intro x hx
      obtain ⟨q, _, rfl⟩ := List.mem_map.1 hx
      simp only [bx, noF, iv_noFs]
end Go.Proofs.YtfjjckepnkkgjaaGreatDoor.Arm

namespace Go.Proofs.YtfjjckepnkkgjaaGreatDoor.Arm
open Go.Arm Go.Pl
theorem restr_eq (p q : I) : (if interB p q then inter p q else q) = restrI p q := by
  unfold restrI inter
  cases interB p q <;> rfl
theorem kRestr1 (i c : Nat) (p q : I) (b : List I) (w : Bool) (hz : b[i]? = some q) (H : AH) (hc : H[c]? = some (.row w 1 [bx b])) : Sound E 170 [.int .i64 i, iv p, .ptr c 1 0 0] H (.ret (iv (restrI p q))) H := by
  refine sound_of_awp tabOk mixed Tryz.func170 rfl (by rfl) Tryz.ntmps170 (by kernel_rfl) (by simp) ?_
  have hcl := (List.getElem?_eq_some_iff.1 hc).1
  have hlt := (List.getElem?_eq_some_iff.1 hz).1
  have hzE : ∀ h, b[i]'h = q := fun h => (List.getElem?_eq_some_iff.1 hz).2
  have he := restr_eq p q
  simp only [bx] at hc
  simp [hc, get_old hc, hz, hzE, hlt]
  refine callD_ret0 (fun Hx => iIntersect p q Hx) ?_
  simp
  refine endD [(9, 10)] (by rfl) (by simp [okW, note, Eff.triv, Eff.wr, Eff.none, upTo, newAt]; omega) ?_
  simp
  refine branch (fun m => ?_) (fun m => ?_)
  · rw [if_pos m] at he
    simp
    exact fin1 (rs := [.cell 5 54]) (by rfl) (by simp [resA, ← he]) (by simp [noFs, noF])
  · rw [if_neg (by simp [m])] at he
    simp [hc, get_old hc, hz, hzE, hlt]
    exact fin1 (rs := [.cell 5 54]) (by rfl) (by simp [resA, ← he]) (by simp [noFs, noF])
def LMi (l : List I) (f : Nat → I) (g : FuncId) (caps : List AV) (H : AH) (i : Nat) (fr : AFr) (H' : AH) : Prop :=
  fr 1 = .func (.func g) [] caps ∧ fr 5 = .ref H.length l.length ∧ fr 11 = bx l ∧ fr 12 = .int .i64 l.length ∧ fr 13 = .int .i64 i ∧ i ≤ l.length ∧ ∃ J, H' = H ++ J ∧ J[0]? = some (.row true 2 (padI ((List.range i).map f) l.length))
theorem kMapI (l : List I) (f : Nat → I) (g : FuncId) (caps : List AV) (hl : l.length ≤ 1000000) (H : AH)
    (hf : ∀ (j : Nat) p, l[j]? = some p → ∀ X : AH, Sound E g ([.int .i64 j, iv p] ++ caps) (H ++ X) (.ret (iv (f j))) (H ++ X)) :
    Sound E 169 [bx l, .func (.func g) [] caps] H (.ret (bx ((List.range l.length).map f))) H := by
  refine sound_of_awp tabOk mixed Tryz.func169 rfl (by rfl) Tryz.ntmps169 (by kernel_rfl) (by simp) ?_
  generalize hR : (List.range l.length).map f = R
  simp [bx]
  refine bind_if (by omega) ?_
  simp
  refine loop_count (LMi l f g caps H) (fun i => l.length - i) 0 ⟨by simp, by simp, by simp [bx], by simp, by simp, by omega, _, rfl, by simp [padI_nil]⟩ ?_
  rintro i fr H' ⟨g1, g5, g11, g12, g13, hi, J, rfl, hJ0⟩
  have hJl := (List.getElem?_eq_some_iff.1 hJ0).1
  simp [g12, g13]
  refine branch (fun hc => ?_) (fun hc => ?_)
  · have hlt : i < l.length := by simpa using hc
    obtain ⟨q, hq⟩ := get_lt hlt
    have hqE : ∀ h, l[i]'h = q := fun h => (List.getElem?_eq_some_iff.1 hq).2
    have w2 : IntKind.i64.wrap ((i : Int) + 1) = ((i + 1 : Nat) : Int) := by rw [wrap64 (by omega) (by omega)]; omega
    have hW0 : (padI ((List.range i).map f) l.length)[i]? = some (iv (0, 0)) := padI_zero (by simp) hlt
    have hWl : (padI ((List.range i).map f) l.length).length = l.length := padI_len (by simp; omega)
    have hWset : (padI ((List.range i).map f) l.length).set i (iv (f i)) = padI ((List.range (i + 1)).map f) l.length := by
      have := padI_set (l := (List.range i).map f) (n := l.length) (p := f i) (by simp; omega)
      rw [List.length_map, List.length_range] at this
      rw [this, List.range_succ, List.map_append]
      simp
    have hS := hf i q hq
    generalize padI ((List.range i).map f) l.length = W at *
    have hW0E : ∀ h, W[i]'h = iv (0, 0) := fun h => (List.getElem?_eq_some_iff.1 hW0).2
    simp [g1, g5, g11, g13, bx, hlt, hq, hqE]
    refine call_ret (by simpa using hS _) ?_
    simp [g5, g13, ↓old hJ0, olds hJ0, hWl, hlt, hW0, hW0E, w2]
    refine ⟨i + 1, by show l.length - (i + 1) < l.length - i; omega, by simp [g1], by simp [g5], by simp [g11], by simp [g12], by simp, by omega, _, rfl, ?_⟩
    rw [← hWset]
    exact set_get' hJ0
  · have hi' : i = l.length := by have : ¬ i < l.length := by simpa using hc
                                  omega
    subst hi'
    rw [padI_all (by simp), hR] at hJ0
    have hRl : R.length = l.length := by rw [← hR]; simp
    simp [g5]
    exact finS (t := 4) (v := .ref (H.length + 0) l.length) (v0 := .nilslice) (sz := 2) (xs := R.map iv) (by rfl) (by simp) (.inr ⟨0, by simp [hRl], by simpa using hJ0⟩) rfl (iv_noFs _ _)
theorem kRestr (a b : List I) (c : Nat) (w : Bool) (hab : a.length ≤ b.length) (hl : a.length ≤ 1000000) (H : AH) (hc : H[c]? = some (.row w 1 [bx b])) : Sound E 168 [bx a, .ptr c 1 0 0] H (.ret (bx (restrB a b))) H := by
  refine sound_of_awp tabOk mixed Tryz.func168 rfl (by rfl) Tryz.ntmps168 (by kernel_rfl) (by simp) ?_
  have hS := kMapI a (fun i => restrI (atN a i) (atN b i)) 170 [.ptr c 1 0 0] hl H (fun j p hj X => by
    obtain ⟨q, hq⟩ := get_lt (l := b) (i := j) (by have := (List.getElem?_eq_some_iff.1 hj).1; omega)
    have e1 : atN a j = p := by simp [atN, hj]
    have e2 : atN b j = q := by simp [atN, hq]
    rw [e1, e2]
    exact kRestr1 j c p q b w hq _ (get_old hc))
  simp
  refine call_ret (by simpa using hS) ?_
  simp
  exact fin0 (rs := [.tmp 3]) (by rfl) (by simp [resA, restrB])
theorem kRestrict0 (b : List I) (H : AH) : Sound E 145 [bx b] H (.ret (.func (.func 168) [] [.ptr H.length 1 0 0])) (H ++ [.row true 1 [bx b]]) := by
  refine sound_of_awp tabOk mixed Tryz.func145 rfl (by rfl) Tryz.ntmps145 (by kernel_rfl) (by simp) ?_
  simp [bx]
  exact finK (rs := [.tmp 2]) (vs := [.func (.func 168) [] [.ptr H.length 1 0 0]]) (by rfl) (by simp [resA]) rfl
theorem kRestrict (b : List I) (p : Nat) (H : AH) (hd : H[p]? = some .dead) : Sound E 145 [bx b] H (.ret (.func (.func 168) [] [.ptr p 1 0 0])) (H.set p (.row true 1 [bx b])) := by
  have hp := (List.getElem?_eq_some_iff.1 hd).1
  refine (kRestrict0 b H).fills (σ := fun c => if c = p then some H.length else none) ⟨?_, ?_, by simp, ?_, ?_, ?_⟩
  · intro c k h
    split at h
    · rename_i e; cases h; subst e
      exact ⟨hp, hd, get_old hd, Nat.le_refl _⟩
    · cases h
  · intro c c' k h h'
    split at h <;> split at h' <;> first | (cases h; done) | (cases h'; done) | skip
    rename_i e1 e2; rw [e1, e2]
  · intro c hc h
    split at h
    · cases h
    · rename_i hne
      exact ⟨List.getElem?_append_left hc, List.getElem?_set_ne (Ne.symm hne)⟩
  · intro c k h
    split at h
    · rename_i e; cases h; subst e
      refine ⟨true, 1, [bx b], [bx b], by simp, List.getElem?_set_self hp, rfl, fun i x x' hx hx' => ?_⟩
      rw [hx] at hx'; cases hx'
      refine ⟨rfl, fun i a a' ha ha' => ?_⟩
      rw [ha] at ha'; cases ha'
      have hxe : x = bx b := by
        have := List.mem_of_getElem? hx
        simpa using this
      subst hxe
      have hae : a = bx b := by
        have := List.mem_of_getElem? ha
        simpa [AV.cells, bx] using this
      subst hae
      exact .old (by simp only [bx, noF, iv_noFs])
    · cases h
  · refine .func (by simp) (by simp [noFs]) (fun i a a' ha ha' => ?_)
    cases i with
    | zero =>
      simp at ha ha'
      subst ha; subst ha'
      exact .ptr (by simp) hp
    | succ i => simp at ha
end Go.Proofs.YtfjjckepnkkgjaaGreatDoor.Arm

namespace Go.Proofs.YtfjjckepnkkgjaaGreatDoor.Arm
open Go.Arm Go.Pl
theorem coefS_rows {T : Tp} {x : List I} {t : I} {order : Nat} (hT : tpOk T) (hx : allV x) (ht : vB t = true) : ∀ q ∈ coefS T x t order, q.length = order + 1 ∧ allV q := fun q hq => by
  have h := (expS_ok hT hx ht order).2
  refine ⟨?_, h.val q hq⟩
  obtain ⟨j, hj⟩ := List.mem_iff_getElem?.1 hq
  have := h.row j (by rw [← h.len]; exact (List.getElem?_eq_some_iff.1 hj).1)
  rw [show (expS T x t order).2 = coefS T x t order from rfl, rowN_get hj] at this
  simpa using this
theorem remS_valid {T : Tp} {b : List I} {t h : Int} {order : Nat} (hT : tpOk T) (hb : allV b) (ht : vB (t, t + h) = true) : allV (remS T b t h order) := fun p hp => by
  obtain ⟨q, hq, rfl⟩ := List.mem_map.1 hp
  exact atN_valid (coefS_rows hT hb ht q hq).2 _
theorem remS_len {T : Tp} {b : List I} {t h : Int} {order : Nat} (hT : tpOk T) (hb : allV b) (ht : vB (t, t + h) = true) : (remS T b t h order).length = T.n := by
  simp [remS, coefS_len hT hb ht]
theorem withRem_rows {l : List (List I)} {r : List I} {k : Nat} (hl : ∀ q ∈ l, q.length = k ∧ allV q) (hr : allV r) : ∀ q ∈ withRem l r, q.length = k + 1 ∧ allV q := fun q hq => by
  simp only [withRem, List.mem_map, List.mem_range] at hq
  obtain ⟨j, hj, rfl⟩ := hq
  have e : rowN l (j : Int) = l[j] := rowN_get (List.getElem?_eq_getElem hj)
  obtain ⟨h1, h2⟩ := hl l[j] (List.getElem_mem hj)
  rw [e]
  exact ⟨by simp [h1], allV_snoc h2 (atN_valid hr j)⟩
theorem evalS_len (l : List (List I)) (h : I) : (evalS l h).length = l.length := by simp [evalS]
theorem pt_num {t : Int} (h : -2147483648 < t ∧ t < 2147483648) : pt t = (t, t) := by
  unfold pt mk
  rw [if_pos (by rw [Bool.and_eq_true, numB_iff]; exact ⟨h, h⟩)]
theorem kEnclosureAt (T : Tp) (x b : List I) (t h : Int) (part : I) (order : Nat) (hT : tpOk T) (hx : allV x) (hxn : x.length = T.n) (hb : allV b) (hbn : b.length = T.n) (hh : 0 ≤ h ∧ h ≤ 1000000000) (ht : -1000000000 ≤ t ∧ t ≤ 1000000000) (hp : vB part = true) (ho : 1 ≤ order ∧ order ≤ 900) (H : AH) :
    Sound E 119 [tpA T, bx x, bx b, .agg [.int .i64 t, .int .i64 h, .int .i64 part.1, .int .i64 part.2, .int .i64 order]] H (.ret (bx (enclAt T x b t h part order))) H := by
  refine sound_of_awp_pad (T.n + 2) tabOk mixed Tryz.func119 rfl (by rfl) Tryz.ntmps119 (by kernel_rfl) (by simp) ?_
  rw [show List.replicate (T.n + 2) ABlk.dead = deadJ T.n ++ [.dead] by unfold deadJ; rw [List.replicate_succ']]
  have hsm := hT.small
  have htv : vB (t, t + h) = true := vB_pair (by omega) (by omega) (by omega)
  have htp : pt t = (t, t) := pt_num (by omega)
  have htv2 : vB (t, t) = true := vB_pair (by omega) (by omega) (by omega)
  have hR := kRemainder T b t h order hT hb hbn hh ht (by omega)
  have hC := sCoef T x (t, t) order hT hx hxn htv2 (by omega)
  have hl := coefS_len (order := order) hT hx htv2
  have hrows := coefS_rows (order := order) hT hx htv2
  have hrv := remS_valid (order := order) hT hb htv
  have hrl := remS_len (order := order) hT hb htv
  unfold enclAt
  generalize coefS T x (t, t) order = l at *
  generalize remS T b t h order = r at *
  simp [tpA]
  refine call_ret (by simpa [tpA] using hR _) ?_
  simp [bx]
  refine callD_ret0 (fun Hx => iPoint t Hx) ?_
  rw [htp]
  simp
  refine callD_all (r := .ref H.length T.n) (K := H ++ (outJ H.length l ++ [.dead, .row true 3 [tpA T], .row true 5 [.agg [.int .i64 t, .int .i64 h, .int .i64 part.1, .int .i64 part.2, .int .i64 order]], .row true 1 [bx r]])) (by simp [outJ_len, deadJ_len, hl]) (fun Y => by
    have := hC H ([.dead, .row true 3 [tpA T], .row true 5 [.agg [.int .i64 t, .int .i64 h, .int .i64 part.1, .int .i64 part.2, .int .i64 order]], .row true 1 [bx r]] ++ Y)
    simp [tpA, bx] at this ⊢
    exact this) ?_
  simp
  refine callD_all (r := bxs (withRem l r)) (K := H ++ (.row true 1 (refsN H.length l) :: ((withRem l r).map rowF ++ [.dead, .row true 3 [tpA T], .row true 5 [.agg [.int .i64 t, .int .i64 h, .int .i64 part.1, .int .i64 part.2, .int .i64 order]], .row true 1 [bx r]]))) (by simp [outJ_len, withRem_len]) (fun Y => by
    have := kMapE l r 3 true (by omega) (by omega) (fun q hq => by rw [(hrows q hq).1]; omega) H ([.dead, .row true 3 [tpA T], .row true 5 [.agg [.int .i64 t, .int .i64 h, .int .i64 part.1, .int .i64 part.2, .int .i64 order]], .row true 1 [bx r]] ++ Y) rfl
    rw [hl] at this
    simp [tpA, bx, deadJ_len] at this ⊢
    exact this) ?_
  have hwr := withRem_rows hrows hrv
  have hwl := withRem_len l r
  rw [hl] at hwl
  generalize hw : withRem l r = l' at *
  generalize hJ : ABlk.row true 1 (refsN H.length l) :: l'.map rowF = J1
  have hJl : J1.length = T.n + 1 := by rw [← hJ]; simp [hwl]
  have hJa : ∀ Y, ABlk.row true 1 (refsN H.length l) :: (l'.map rowF ++ Y) = J1 ++ Y := fun Y => by rw [← hJ]; rfl
  rw [hJa]
  simp
  refine endD [(0, 7), (3, 7), (6, 7), (0, 9), (3, 9), (6, 9), (7, 9)] (by rfl) (by simp [okW, note, Eff.triv, Eff.wr, Eff.none, upTo, newAt, deadJ_len, outJ_len, hl]) ?_
  simp
  have hJg : ∀ (c : Nat) (Y : AH), (H ++ (J1 ++ Y))[H.length + (T.n + 1 + c)]? = Y[c]? := fun c Y => by
    rw [getAt]
    have := getAt (H := J1) (J := Y) (b := c)
    rw [hJl] at this; exact this
  have hJg2 : ∀ (c : Nat) (Y : AH), (J1 ++ Y)[T.n + 1 + c]? = Y[c]? := fun c Y => by
    have := getAt (H := J1) (J := Y) (b := c)
    rw [hJl] at this; exact this
  have hJs : ∀ (y : ABlk) (Y : AH), (H ++ (J1 ++ .dead :: Y)).set (H.length + (T.n + 1)) y = H ++ (J1 ++ y :: Y) := fun y Y => by
    rw [setAt]
    have := setAt (H := J1) (J := .dead :: Y) (b := 0) (y := y)
    rw [hJl] at this; rw [show T.n + 1 = T.n + 1 + 0 from rfl, this]; rfl
  refine callD_at (b := H.length + (T.n + 1)) (k := .dead) (k' := .row true 1 [bx b]) (hJg 0 _) (fun Hx hx => by simpa [bx] using kRestrict b _ Hx hx) ?_
  rw [hJs]
  simp [deadJ_len, hJg2]
  refine callD_ret0 (fun Hx => by simpa [bxs] using sEval l' part (fun q hq => ⟨(hwr q hq).2, by intro h; have := (hwr q hq).1; rw [h] at this; simp at this, by rw [(hwr q hq).1]; omega⟩) (by omega) hp Hx) ?_
  have hel := evalS_len l' part
  generalize evalS l' part = e at *
  simp
  refine callD_rdc [H.length + (T.n + 1)] (fun c hc => by simp at hc; subst hc; simp [hJl]) (fun Hx hx => by
    have hc : Hx[H.length + (T.n + 1)]? = some (.row true 1 [bx b]) := by rw [hx _ (by simp), show H.length + (T.n + 1) = H.length + (T.n + 1 + 0) from rfl, hJg]; rfl
    simpa using kRestr e b _ true (by omega) (by omega) Hx hc) ?_
  simp
  refine endD [(1, 6)] (by rfl) (by simp [okW, note, Eff.triv, Eff.wr, Eff.none, upTo, newAt]) ?_
  simp
  exact fin1 (rs := [.tmp 8]) (by rfl) (by simp [resA, bx]) (by simp only [noF, iv_noFs])
end Go.Proofs.YtfjjckepnkkgjaaGreatDoor.Arm

namespace Go.Proofs.YtfjjckepnkkgjaaGreatDoor.Arm
open Go.Arm Go.Pl
def PairM (a b : List I) (ca cb : Nat) (M : AH) : Prop := (∃ w, M[ca]? = some (.row w 1 [bx a])) ∧ ∃ w, M[cb]? = some (.row w 1 [bx b])
def pairsA (a b : List I) (i : Nat) : List (List AV) := (List.range (a.length - i)).map fun k => [iv (atN a (i + k)), iv (atN b (i + k))]
theorem pairsA_cons {a b : List I} {i : Nat} (h : i < a.length) : pairsA a b i = [iv (atN a i), iv (atN b i)] :: pairsA a b (i + 1) := by
  unfold pairsA
  rw [show a.length - i = a.length - (i + 1) + 1 by omega, List.range_succ_eq_map, List.map_cons, List.map_map]
  congr 1
  apply List.map_congr_left
  intro k _
  simp only [Function.comp]
  rw [show i + 1 + k = i + k.succ by omega]
theorem pairsA_nil {a b : List I} {i : Nat} (h : a.length ≤ i) : pairsA a b i = [] := by simp [pairsA, show a.length - i = 0 by omega]
def LPr (a b : List I) (ca cb bl : Nat) (H H1 : AH) (i : Nat) (fr : AFr) (H' : AH) : Prop :=
  fr 0 = .yld bl ∧ fr 2 = .ptr cb 1 0 0 ∧ fr 6 = bx a ∧ fr 7 = .int .i64 a.length ∧ fr 8 = .int .i64 i ∧ i ≤ a.length ∧
  ∃ M J, H' = M ++ J ∧ alters H M ∧ PairM a b ca cb M ∧ YRuns E bl (PairM a b ca cb) (pairsA a b i) M H1
theorem bPairs1 (a b : List I) (ca cb bl : Nat) (H H1 : AH) (hab : a.length ≤ b.length) (hl : a.length ≤ 1000000) (hM : PairM a b ca cb H) (hY : YRuns E bl (PairM a b ca cb) (pairsA a b 0) H H1) :
    Sound E 157 [.yld bl, .ptr ca 1 0 0, .ptr cb 1 0 0] H (.ret (.tuple [])) H1 := by
  refine sound_of_awp tabOk mixed Tryz.func157 rfl (by rfl) Tryz.ntmps157 (by kernel_rfl) (by simp) ?_
  obtain ⟨⟨wa, ha⟩, ⟨wb, hb⟩⟩ := hM
  have hal := (List.getElem?_eq_some_iff.1 ha).1
  simp only [bx] at ha hb
  simp [ha, get_old ha]
  refine loop_count (LPr a b ca cb bl H H1) (fun i => a.length - i) 0 ⟨by simp, by simp, by simp [bx], by simp, by simp, by omega, H, [], by simp, .refl H, ⟨⟨wa, ha⟩, ⟨wb, hb⟩⟩, hY⟩ ?_
  clear ha hb hal hY
  rintro i fr H' ⟨g0, g2, g6, g7, g8, hi, M, J, rfl, hal, hM, hY⟩
  simp [g7, g8]
  refine branch (fun hc => ?_) (fun hc => ?_)
  · have hlt : i < a.length := by simpa using hc
    obtain ⟨p, hp⟩ := get_lt hlt
    obtain ⟨q, hq⟩ := get_lt (l := b) (i := i) (by omega)
    have hpE : ∀ h, a[i]'h = p := fun h => (List.getElem?_eq_some_iff.1 hp).2
    have hqE : ∀ h, b[i]'h = q := fun h => (List.getElem?_eq_some_iff.1 hq).2
    have w2 : IntKind.i64.wrap ((i : Int) + 1) = ((i + 1 : Nat) : Int) := by rw [wrap64 (by omega) (by omega)]; omega
    rw [pairsA_cons hlt, show atN a i = p by simp [atN, hp], show atN b i = q by simp [atN, hq]] at hY
    obtain ⟨go, M1, h1, h2, h3, h4, h5⟩ := hY.cases_cons
    obtain ⟨⟨wa, ha⟩, ⟨wb, hb⟩⟩ := hM
    have hbl := (List.getElem?_eq_some_iff.1 hb).1
    simp only [bx] at ha hb
    simp [g0, g2, g6, g8, bx, hp, hpE, hq, hqE, hb, get_old hb]
    refine callD_yld (K := M1 ++ (J ++ [.row true 2 [iv p]])) (v := .bool go) (by simp [h1.1]) (fun X => by
      have := h3 (J ++ [.row true 2 [iv p]] ++ X)
      simp at this ⊢
      exact this) ?_
    simp
    refine endD [(1, 6), (2, 6)] (by rfl) (by simp [okW, note, Eff.triv, Eff.wr, Eff.none, upTo, newAt]) ?_
    simp
    refine branch (fun hg => ?_) (fun hg => ?_)
    · have hg : go = false := by simpa using hg
      rw [h4 hg]
      simp
      exact finY (by rfl) (hal.trans (by rw [← h4 hg]; exact h1))
    · have hg : go = true := by simpa using hg
      simp [g8, w2]
      exact ⟨i + 1, by show a.length - (i + 1) < a.length - i; omega, by simp [g0], by simp [g2], by simp [g6, bx], by simp [g7], by simp, by omega, M1, J ++ [.row true 2 [iv p]], by simp, hal.trans h1, h2, h5 hg⟩
  · have hi' : i = a.length := by have : ¬ i < a.length := by simpa using hc
                                  omega
    subst hi'
    rw [pairsA_nil (by omega)] at hY
    cases hY
    simp
    exact finY (by rfl) hal
end Go.Proofs.YtfjjckepnkkgjaaGreatDoor.Arm

namespace Go.Proofs.YtfjjckepnkkgjaaGreatDoor.Arm
open Go.Arm Go.Pl
theorem bSubset (a b : List I) (hab : a.length ≤ b.length) (hl : a.length ≤ 1000000) (H : AH) : Sound E 139 [bx a, bx b] H (.ret (.bool (subI a b))) H := by
  refine sound_of_awp tabOk mixed Tryz.func139 rfl (by rfl) Tryz.ntmps139 (by kernel_rfl) (by simp) ?_
  simp
  refine call_ret (by simpa using bPairs a b _) ?_
  simp
  refine range_it 5 (by rfl) (fun N hN => ?_)
  generalize hk : (LK.mk N _ _ _) = k at hN ⊢
  generalize hf : List.map _ (List.range 5) = frs
  have h4 : frs[4]? = some (.ptr H.length 1 0 0) := by rw [← hf]; simp
  have halt : ∀ st, alters (H ++ [.row true 1 [.bool false], .row true 1 [bx a], .row true 1 [bx b], .loop k .ready frs]) (H ++ [.row true 1 [.bool false], .row true 1 [bx a], .row true 1 [bx b], .loop k st frs]) := fun st => alters_of ⟨.same _, .same _, .same _, .loop, trivial⟩
  have hP : ∀ st, PairM a b (H.length + 1) (H.length + 2) (H ++ [.row true 1 [.bool false], .row true 1 [bx a], .row true 1 [bx b], .loop k st frs]) := fun st => ⟨⟨true, by simp⟩, ⟨true, by simp⟩⟩
  have hround : ∀ (p q : I) (J : AH), YSound E (H.length + 3) [iv p, iv q] (H ++ [.row true 1 [.bool false], .row true 1 [bx a], .row true 1 [bx b], .loop k .ready frs] ++ J) (.bool (subB p q))
      (H ++ [.row true 1 [.bool false], .row true 1 [bx a], .row true 1 [bx b], .loop k (if subB p q then .ready else .done .ret) frs] ++ J) := by
    intro p q J
    refine yield_sound tabOk mixed (k := k) (frs := frs) (by simp) (by rw [← hk]; rfl) hN ?_
    have ka := congrArg LK.assign hk
    have kb := congrArg LK.body hk
    have kp := congrArg LK.ps hk
    dsimp only at ka kb kp
    rw [← ka, ← kb, ← kp]
    clear ka kb kp hk hf hN
    simp [roundFr]
    rw [assignK_normal]
    refine ⟨by simp, ?_⟩
    simp
    refine call_ret (iSubset p q _) ?_
    simp
    refine branch (fun hs => ?_) (fun hs => ?_)
    · have hs : subB p q = false := by simpa using hs
      simp [h4, hs]
      rw [roundK_ret]
      refine ⟨by simp, rfl, ?_⟩
      have := Leaves.alters (J := J) (X := [.row true 2 [iv p], .row true 2 [iv q]]) (halt (.done .ret))
      simpa using this
    · have hs : subB p q = true := by simpa using hs
      simp [hs]
      rw [roundK_normal]
      refine ⟨by simp, rfl, ?_⟩
      have := Leaves.alters (J := J) (X := [.row true 2 [iv p], .row true 2 [iv q]]) (halt .ready)
      simpa using this
  have hrun : ∀ n i, a.length - i = n → YRuns E (H.length + 3) (PairM a b (H.length + 1) (H.length + 2)) (pairsA a b i) (H ++ [.row true 1 [.bool false], .row true 1 [bx a], .row true 1 [bx b], .loop k .ready frs])
      (H ++ [.row true 1 [.bool false], .row true 1 [bx a], .row true 1 [bx b], .loop k (if (List.range n).all (fun j => subB (atN a (i + j)) (atN b (i + j))) then .ready else .done .ret) frs]) := by
    intro n
    induction n with
    | zero => intro i hi; rw [pairsA_nil (by omega)]; exact .nil _
    | succ n ih =>
      intro i hi
      rw [pairsA_cons (by omega)]
      have hr := fun J => hround (atN a i) (atN b i) J
      have he : (List.range (n + 1)).all (fun j => subB (atN a (i + j)) (atN b (i + j))) = (subB (atN a i) (atN b i) && (List.range n).all fun j => subB (atN a (i + 1 + j)) (atN b (i + 1 + j))) := by
        rw [List.range_succ_eq_map, List.all_cons, List.all_map]
        congr 1
        congr 1
        funext j
        simp only [Function.comp]
        rw [show i + j.succ = i + 1 + j by omega]
      rw [he]
      cases hs : subB (atN a i) (atN b i) with
      | false =>
        rw [hs] at hr
        exact .stop (halt _) (hP _) hr
      | true =>
        rw [hs] at hr
        simp only [Bool.true_and]
        exact .go (halt _) (hP _) hr (ih (i + 1) (by omega))
  have hrun0 := hrun a.length 0 rfl
  have he : (List.range a.length).all (fun j => subB (atN a (0 + j)) (atN b (0 + j))) = subI a b := by
    unfold subI; congr 1; funext j; rw [Nat.zero_add]
  rw [he] at hrun0
  have hS := bPairs1 a b _ _ (H.length + 3) _ _ hab hl (hP .ready) hrun0
  cases hs : subI a b with
  | true =>
    rw [hs] at hS
    refine ⟨_, _, k, .ready, frs, by simpa using hS, by simp, ?_⟩
    simp [jumpA]
    exact fin1 (rs := [.cell 4 4]) (by rfl) (by simp [resA]) (by simp [noFs, noF])
  | false =>
    rw [hs] at hS
    refine ⟨_, _, k, .done .ret, frs, by simpa using hS, by simp, ?_⟩
    simp [jumpA]
    exact fin1 (rs := [.cell 4 4]) (by rfl) (by simp [resA]) (by simp [noFs, noF])
end Go.Proofs.YtfjjckepnkkgjaaGreatDoor.Arm

namespace Go.Proofs.YtfjjckepnkkgjaaGreatDoor.Arm
open Go.Arm Go.Pl
theorem pCandidates (T : Tp) (x : List I) (t h : Int) (H : AH) : Sound E 138 [tpA T, bx x, .agg [.int .i64 t, .int .i64 h]] H (.ret (.func (.func 158) [] [.ptr (H.length + 1) 1 0 0, .ptr H.length 1 0 0, .ptr (H.length + 2) 1 0 0]))
    (H ++ [.row true 3 [tpA T], .row true 1 [bx x], .row true 2 [.agg [.int .i64 t, .int .i64 h]]]) := by
  refine sound_of_awp tabOk mixed Tryz.func138 rfl (by rfl) Tryz.ntmps138 (by kernel_rfl) (by simp) ?_
  simp [bx, tpA]
  exact finK (rs := [.tmp 6]) (vs := [.func (.func 158) [] [.ptr (H.length + 1) 1 0 0, .ptr H.length 1 0 0, .ptr (H.length + 2) 1 0 0]]) (by rfl) (by simp [resA]) rfl
def CandM (T : Tp) (x : List I) (t h : Int) (cx cT cg : Nat) (M : AH) : Prop := (∃ w, M[cx]? = some (.row w 1 [bx x])) ∧ (∃ w, M[cT]? = some (.row w 3 [tpA T])) ∧ ∃ w, M[cg]? = some (.row w 2 [.agg [.int .i64 t, .int .i64 h]])
def candA (l : List (List I × List I)) : List (List AV) := l.map fun p => [bx p.1, bx p.2]
def LCd (T : Tp) (x : List I) (t h : Int) (cx cT cg bl : Nat) (H H1 : AH) (i : Nat) (fr : AFr) (H' : AH) : Prop :=
  fr 0 = .yld bl ∧ fr 1 = .ptr cx 1 0 0 ∧ fr 2 = .ptr cT 1 0 0 ∧ fr 3 = .ptr cg 1 0 0 ∧ fr 14 = .int .i64 i ∧ i ≤ 8 ∧
  ∃ b M J, fr 5 = bx b ∧ allV b ∧ b.length = x.length ∧ H' = M ++ J ∧ alters H M ∧ CandM T x t h cx cT cg M ∧ YRuns E bl (CandM T x t h cx cT cg) (candA (candP T x t h (8 - i) b)) M H1
theorem pCandidates1 (T : Tp) (x : List I) (t h : Int) (cx cT cg bl : Nat) (H H1 : AH) (hT : tpOk T) (hx : allV x) (hxn : x.length = T.n) (hh : 0 ≤ h ∧ h ≤ 1000000000) (ht : -1000000000 ≤ t ∧ t ≤ 1000000000) (hM : CandM T x t h cx cT cg H)
    (hY : YRuns E bl (CandM T x t h cx cT cg) (candA (candP T x t h 8 (hullB x (imageB T x x t h)))) H H1) :
    Sound E 158 [.yld bl, .ptr cx 1 0 0, .ptr cT 1 0 0, .ptr cg 1 0 0] H (.ret (.tuple [])) H1 := by
  refine sound_of_awp tabOk mixed Tryz.func158 rfl (by rfl) Tryz.ntmps158 (by kernel_rfl) (by simp) ?_
  have hsm := hT.small
  have hI := fun b hb hbn Hx => pImage T x b t h hT hx hb hxn hbn hh ht Hx
  have hZ : ∀ a b Hx, a.length ≤ b.length → a.length ≤ 1000000 → allV a → allV b → Sound E 159 [bx a, bx b, fnA 130] Hx (.ret (bx (hullB a b))) Hx := fun a b Hx h1 h2 h3 h4 =>
    pZip hull a b 130 [] [] h1 h2 Hx (by simp) (.inl rfl) (fun p hp q hq Hx _ => by simpa using iHull p q Hx)
  obtain ⟨⟨w1, m1⟩, ⟨w2, m2⟩, ⟨w3, m3⟩⟩ := hM
  have m1' := m1
  have m2' := m2
  simp only [bx] at m1
  simp only [tpA] at m2
  simp [m1, m2, m3]
  refine callD_ret0 (fun Hx => by simpa [tpA, bx] using hI x hx hxn Hx) ?_
  have hil := imageB_len (T := T) (x := x) (b := x) (t := t) (h := h)
  have hiv := imageB_valid (T := T) (x := x) (b := x) (t := t) (h := h) hx
  generalize imageB T x x t h = d0 at *
  simp
  refine callD_ret0 (fun Hx => by simpa [fnA, bx] using hZ x d0 Hx (by omega) (by omega) hx hiv) ?_
  simp
  refine endD [] (by rfl) (by simp [okW, note, Eff.triv, Eff.wr, Eff.none, upTo, newAt]) ?_
  simp
  refine loop_count (LCd T x t h cx cT cg bl H H1) (fun i => 8 - i) 0 ⟨by simp, by simp, by simp, by simp, by simp, by omega, hullB x d0, H, [], by simp [bx], hullB_valid hx hiv, by rw [hullB_len], by simp, .refl H, ⟨⟨w1, m1'⟩, ⟨w2, m2'⟩, ⟨w3, m3⟩⟩, hY⟩ ?_
  clear m1 m2 m1' m2' m3 hY hil hiv
  rintro i fr H' ⟨g0, g1, g2, g3, g14, hi, b, M, J, g5, hb, hbl, rfl, hal, hM, hY⟩
  simp [g14]
  refine branch (fun hc => ?_) (fun hc => ?_)
  · have hlt : i < 8 := by simp at hc; omega
    have w2 : IntKind.i64.wrap ((i : Int) + 1) = ((i + 1 : Nat) : Int) := by rw [wrap64 (by omega) (by omega)]; omega
    rw [show 8 - i = (8 - (i + 1)) + 1 by omega] at hY
    simp only [candP] at hY
    have hib := inflB_valid hb
    have hil := inflB_len b
    have hdv := imageB_valid (T := T) (x := x) (b := inflB b) (t := t) (h := h) hx
    have hdl := imageB_len (T := T) (x := x) (b := inflB b) (t := t) (h := h)
    obtain ⟨⟨w1, m1⟩, ⟨w2', m2⟩, ⟨w3, m3⟩⟩ := hM
    simp only [bx] at m1
    simp only [tpA] at m2
    simp [g5]
    refine call_ret (pBounded b (by omega) _) ?_
    simp
    refine branch (fun n1 => ?_) (fun n1 => ?_)
    · rw [if_pos (by simpa using n1)] at hY
      cases hY
      simp
      exact finY (by rfl) hal
    rw [if_neg (by simpa using n1)] at hY
    simp [g5]
    refine call_ret (pInflate b hb (by omega) _) ?_
    generalize inflB b = b1 at *
    simp
    refine call_ret (pBounded b1 (by omega) _) ?_
    simp
    refine branch (fun n2 => ?_) (fun n2 => ?_)
    · rw [if_pos (by simpa using n2)] at hY
      cases hY
      simp
      exact finY (by rfl) hal
    rw [if_neg (by simpa using n2)] at hY
    simp [g1, g2, g3, m1, m2, m3, get_old m1, get_old m2, get_old m3]
    refine call_ret (by simpa [tpA, bx] using hI b1 hib (by omega) _) ?_
    generalize imageB T x b1 t h = d at *
    simp
    refine call_ret (by simpa [bx] using pBounded d (by omega) _) ?_
    simp
    refine gateF (fun n3 => ?_) (fun n3 => ?_)
    · have n3' : ¬ boundedB d = false := by simpa using n3
      rw [if_neg n3'] at hY
      obtain ⟨go, M1, h1, h2, h3, h4, h5⟩ := YRuns.cases_cons (show YRuns E bl (CandM T x t h cx cT cg) ([bx b1, bx d] :: candA (candP T x t h (8 - (i + 1)) (hullB b1 d))) M H1 from hY)
      simp [n3, g0]
      refine call_yld (by simpa [bx] using h3 J) ?_
      simp [n3]
      refine branch (fun hg => ?_) (fun hg => ?_)
      · have hg : go = false := by simpa using hg
        have e := h4 hg
        subst e
        simp
        exact finY (by rfl) (hal.trans h1)
      · have hg : go = true := by simpa using hg
        simp
        refine call_ret (by simpa [fnA, bx] using hZ b1 d _ (by omega) (by omega) hib hdv) ?_
        simp [g14, w2]
        exact ⟨i + 1, by show 8 - (i + 1) < 8 - i; omega, by simp [g0], by simp [g1], by simp [g2], by simp [g3], by simp, by omega, hullB b1 d, M1, J, by simp [bx], hullB_valid hib hdv, by rw [hullB_len]; omega, rfl, hal.trans h1, h2, h5 hg⟩
    · have n3' : boundedB d = false := by simpa using n3
      rw [if_pos n3'] at hY
      cases hY
      simp [n3]
      exact finY (by rfl) hal
  · have hi' : i = 8 := by simp at hc; omega
    subst hi'
    cases hY
    simp
    exact finY (by rfl) hal
end Go.Proofs.YtfjjckepnkkgjaaGreatDoor.Arm

namespace Go.Proofs.YtfjjckepnkkgjaaGreatDoor.Arm
open Go.Arm Go.Pl
def fndA : Option (List I) → AV
  | some d => bx d
  | none => .nilslice
theorem pEnclose (T : Tp) (x : List I) (t h : Int) (hT : tpOk T) (hx : allV x) (hxn : x.length = T.n) (hn : 1 ≤ T.n) (hh : 0 ≤ h ∧ h ≤ 1000000000) (ht : -1000000000 ≤ t ∧ t ≤ 1000000000) (H : AH) :
    Sound E 117 [tpA T, bx x, .agg [.int .i64 t, .int .i64 h]] H (.ret (encA (enclS T x t h))) H := by
  refine sound_of_awp tabOk mixed Tryz.func117 rfl (by rfl) Tryz.ntmps117 (by kernel_rfl) (by simp) ?_
  have hsm := hT.small
  have henc : enclS T x t h = (candP T x t h 8 (hullB x (imageB T x x t h))).findSome? hitP := encS_cand T x t h 8 _
  have hcand := candP_ok (T := T) (t := t) (h := h) hx 8 (hullB x (imageB T x x t h)) (hullB_valid hx (imageB_valid hx)) (by rw [hullB_len])
  rw [henc]
  have hI1 := fun bl H1 M hM hY => pCandidates1 T x t h (H.length + 4) (H.length + 3) (H.length + 5) bl M H1 hT hx hxn hh ht hM hY
  generalize candP T x t h 8 (hullB x (imageB T x x t h)) = L at *
  simp [tpA]
  refine call_ret (by simpa [tpA] using pCandidates T x t h _) ?_
  simp
  refine range_it 9 (by rfl) (fun N hN => ?_)
  generalize hk : (LK.mk N _ _ _) = k at hN ⊢
  generalize hf : List.map _ (List.range 9) = frs
  have h4 : frs[8]? = some (.ptr (H.length + 2) 1 0 0) := by rw [← hf]; simp
  let MM : Option (List I) → LSt → AH := fun r st => H ++ [.row true 3 [tpA T], .row true 2 [.agg [.int .i64 t, .int .i64 h]], .row true 1 [fndA r], .row true 3 [tpA T], .row true 1 [bx x], .row true 2 [.agg [.int .i64 t, .int .i64 h]], .loop k st frs]
  have halt : ∀ r st, alters (MM none .ready) (MM r st) := fun r st => alters_of ⟨.same _, .same _, .inr (.inl (by cases r <;> simp [fndA, noFB, noFs, noF, bx, iv_noFs])), .same _, .same _, .same _, .loop, trivial⟩
  have hP : ∀ r st, CandM T x t h (H.length + 4) (H.length + 3) (H.length + 5) (MM r st) := fun r st => ⟨⟨true, by simp [MM]⟩, ⟨true, by simp [MM]⟩, ⟨true, by simp [MM]⟩⟩
  have hround : ∀ p ∈ L, ∀ (J : AH), YSound E (H.length + 6) [bx p.1, bx p.2] (MM none .ready ++ J) (.bool (!(subI p.2 p.1))) (MM (hitP p) (if subI p.2 p.1 then .done (.exit 0) else .ready) ++ J) := by
    intro p hp J
    obtain ⟨q1, q2, q3, q4⟩ := hcand p hp
    refine yield_sound tabOk mixed (k := k) (frs := frs) (by simp [MM]) (by rw [← hk]; rfl) hN ?_
    have ka := congrArg LK.assign hk
    have kb := congrArg LK.body hk
    have kp := congrArg LK.ps hk
    dsimp only at ka kb kp
    rw [← ka, ← kb, ← kp]
    clear ka kb kp hk hf hN
    simp [roundFr]
    rw [assignK_normal]
    refine ⟨by simp [MM], ?_⟩
    simp [MM]
    refine call_ret (bSubset p.2 p.1 (by omega) (by omega) _) ?_
    simp
    refine branch (fun hs => ?_) (fun hs => ?_)
    · simp [h4, hs, fndA, bx]
      rw [roundK_exit]
      refine ⟨by simp, rfl, ?_⟩
      have := Leaves.alters (J := J) (X := []) (halt (some p.2) (.done (.exit 0)))
      simpa [MM, hitP, hs, fndA, bx] using this
    · simp [hs]
      rw [roundK_normal]
      refine ⟨by simp, rfl, ?_⟩
      have := Leaves.alters (J := J) (X := []) (halt none .ready)
      simpa [MM, hitP, hs, fndA, bx] using this
  have hrun : ∀ l : List (List I × List I), (∀ p ∈ l, p ∈ L) → YRuns E (H.length + 6) (CandM T x t h (H.length + 4) (H.length + 3) (H.length + 5)) (candA l) (MM none .ready) (MM (l.findSome? hitP) (if (l.findSome? hitP).isSome then .done (.exit 0) else .ready)) := by
    intro l
    induction l with
    | nil => intro _; exact .nil _
    | cons p l ih =>
      intro hl
      have hr := hround p (hl p (by simp))
      rw [List.findSome?_cons]
      cases hs : subI p.2 p.1 with
      | true =>
        have e : hitP p = some p.2 := by simp [hitP, hs]
        rw [hs, e] at hr
        rw [e]
        exact .stop (halt _ _) (hP _ _) hr
      | false =>
        have e : hitP p = none := by simp [hitP, hs]
        rw [hs, e] at hr
        rw [e]
        exact .go (halt _ _) (hP _ _) hr (ih fun q hq => hl q (by simp [hq]))
  have hS := hI1 (H.length + 6) _ _ (hP none .ready) (hrun L fun p hp => hp)
  have hmem : ∀ d, L.findSome? hitP = some d → d ≠ [] := by
    intro d hd
    obtain ⟨p, hp, hpd⟩ := List.exists_of_findSome?_eq_some hd
    have := hcand p hp
    unfold hitP at hpd
    split at hpd
    · cases hpd
      intro h0
      have h1 := this.2.2.2
      rw [h0] at h1
      simp at h1; omega
    · cases hpd
  cases hr : L.findSome? hitP with
  | none =>
    rw [hr] at hS
    refine ⟨_, _, k, .ready, frs, by simpa [MM, fndA, tpA] using hS, by simp, ?_⟩
    simp [jumpA, binOpA, binA, eqA, nilI]
    refine endD [] (by rfl) (by simp [okW, note, Eff.triv, Eff.wr, Eff.none, upTo, newAt]) ?_
    simp
    exact ⟨[.nilslice, .bool false], [.nilslice, .bool false], by simp [show (Tryz.f117).results.toList = [.tmp 6, .tmp 7] from rfl, resA], .drop (by simp [noFs, noF]), rfl⟩
  | some d =>
    rw [hr] at hS
    refine ⟨_, _, k, .done (.exit 0), frs, by simpa [MM, fndA, tpA] using hS, by simp, ?_⟩
    have hd := hmem d hr
    obtain ⟨p, r, rfl⟩ : ∃ p r, d = p :: r := by cases d with
      | nil => exact absurd rfl hd
      | cons p r => exact ⟨p, r, rfl⟩
    simp [jumpA, bx, binOpA, binA, eqA, nilI]
    refine endD [] (by rfl) (by simp [okW, note, Eff.triv, Eff.wr, Eff.none, upTo, newAt]) ?_
    simp
    exact ⟨[bx (p :: r), .bool true], [bx (p :: r), .bool true], by simp [show (Tryz.f117).results.toList = [.tmp 6, .tmp 7] from rfl, resA, bx], .drop (by simp only [noFs, noF, bx, iv_noFs, Bool.and_self]), rfl⟩
end Go.Proofs.YtfjjckepnkkgjaaGreatDoor.Arm

namespace Go.Proofs.YtfjjckepnkkgjaaGreatDoor.Arm
open Go.Arm Go.Pl
def zsA : AV := .agg [.int .i64 0, .int .i64 0, .nilslice, .nilslice, .nilslice, .nilslice]
def sgO : Option Sg → AV
  | some s => .tuple [sgA s, .bool true]
  | none => .tuple [zsA, .bool false]
theorem kBounded (s : Sg) (h1 : s.to.length ≤ 1000000) (h2 : s.tube.length ≤ 1000000) (H : AH) : Sound E 120 [sgA s] H (.ret (sgO (if boundedB s.tube && boundedB s.to then some s else none))) H := by
  refine sound_of_awp tabOk mixed Tryz.func120 rfl (by rfl) Tryz.ntmps120 (by kernel_rfl) (by simp) ?_
  have hS := fun b Hx hl => sContainsFunc b 127 [] entB Hx hl (fun p _ => by simpa using iIsEntire p Hx)
  have e : ∀ b : List I, boundedB b = !(b.any entB) := fun b => by
    unfold boundedB
    rw [List.not_any_eq_all_not]
  simp only [e]
  obtain ⟨t, h, frm, pre, tube, to⟩ := s
  simp only at h1 h2 ⊢
  simp [sgA, bx]
  refine call_ret (by simpa [bx] using hS tube _ h2) ?_
  simp
  cases m1 : tube.any entB with
  | true =>
    simp
    exact ⟨[zsA, .bool false], [zsA, .bool false], by simp [show (Tryz.f120).results.toList = [.cell 2 47, .tmp 3] from rfl, resA, zsA], .drop (by simp [noFs, noF, zsA]), rfl⟩
  | false =>
    simp
    refine call_ret (by simpa [bx] using hS to _ h1) ?_
    simp
    cases m2 : to.any entB with
    | true =>
      simp
      exact ⟨[zsA, .bool false], [zsA, .bool false], by simp [show (Tryz.f120).results.toList = [.cell 2 47, .tmp 3] from rfl, resA, zsA], .drop (by simp [noFs, noF, zsA]), rfl⟩
    | false =>
      simp
      exact ⟨[sgA ⟨t, h, frm, pre, tube, to⟩, .bool true], [sgA ⟨t, h, frm, pre, tube, to⟩, .bool true], by simp [show (Tryz.f120).results.toList = [.cell 2 47, .tmp 3] from rfl, resA, sgA, bx], .drop (by simp only [noFs, noF, sgA, bx, iv_noFs, Bool.and_self]), rfl⟩
theorem kStep1 (T : Tp) (x b : List I) (t h lo hi : Int) (order : Nat) (c4 c5 c10 c6 c7 : Nat) (w4 w5 w10 w6 w7 : Bool) (hT : tpOk T) (hx : allV x) (hxn : x.length = T.n) (hb : allV b) (hbn : b.length = T.n) (hh : 0 ≤ h ∧ h ≤ 1000000000) (ht : -1000000000 ≤ t ∧ t ≤ 1000000000) (hp : vB (lo, hi) = true) (ho : 1 ≤ order ∧ order ≤ 900) (H : AH)
    (m4 : H[c4]? = some (.row w4 3 [tpA T])) (m5 : H[c5]? = some (.row w5 1 [bx x])) (m10 : H[c10]? = some (.row w10 1 [bx b])) (m6 : H[c6]? = some (.row w6 2 [.agg [.int .i64 t, .int .i64 h]])) (m7 : H[c7]? = some (.row w7 1 [.int .i64 order])) :
    Sound E 118 [.int .i64 lo, .int .i64 hi, .ptr c4 1 0 0, .ptr c5 1 0 0, .ptr c10 1 0 0, .ptr c6 1 0 0, .ptr c7 1 0 0] H (.ret (bx (enclAt T x b t h (lo, hi) order))) H := by
  refine sound_of_awp tabOk mixed Tryz.func118 rfl (by rfl) Tryz.ntmps118 (by kernel_rfl) (by simp) ?_
  have hS := kEnclosureAt T x b t h (lo, hi) order hT hx hxn hb hbn hh ht hp ho H
  generalize enclAt T x b t h (lo, hi) order = r at *
  simp only [tpA] at m4
  simp only [bx] at m5 m10
  simp [m4, m5, m6, m7, m10]
  refine call_ret (by simpa [tpA, bx] using hS) ?_
  simp
  exact fin0 (rs := [.tmp 9]) (by rfl) (by simp [resA, bx])
theorem restrB_valid {a b : List I} (ha : allV a) (hb : allV b) : allV (restrB a b) := rangeV fun i => restrI_valid (atN_valid ha i) (atN_valid hb i)
theorem restrB_len (a b : List I) : (restrB a b).length = a.length := by simp [restrB]
theorem enclAt_ok {T : Tp} {x b : List I} {t h : Int} {part : I} {order : Nat} (hT : tpOk T) (hx : allV x) (hb : allV b) (hh : 0 ≤ h ∧ h ≤ 1000000000) (ht : -1000000000 ≤ t ∧ t ≤ 1000000000) (hp : vB part = true) :
    allV (enclAt T x b t h part order) ∧ (enclAt T x b t h part order).length = T.n := by
  have htv : vB (t, t + h) = true := vB_pair (by omega) (by omega) (by omega)
  have htv2 : vB (t, t) = true := vB_pair (by omega) (by omega) (by omega)
  have hr := withRem_rows (coefS_rows (order := order) hT hx htv2) (remS_valid (order := order) hT hb htv)
  unfold enclAt
  refine ⟨restrB_valid (fun p hp => ?_) hb, by rw [restrB_len, evalS_len, withRem_len, coefS_len hT hx htv2]⟩
  obtain ⟨q, hq, rfl⟩ := List.mem_map.1 hp
  exact hornS_valid (hr q hq).2
theorem enclS_ok {T : Tp} {x d : List I} {t h : Int} (hx : allV x) (h0 : enclS T x t h = some d) : allV d ∧ d.length = x.length := by
  rw [show enclS T x t h = (candP T x t h 8 (hullB x (imageB T x x t h))).findSome? hitP from encS_cand T x t h 8 _] at h0
  obtain ⟨p, hp, hpd⟩ := List.exists_of_findSome?_eq_some h0
  have := candP_ok hx 8 _ (hullB_valid hx (imageB_valid hx)) (by rw [hullB_len]) p hp
  unfold hitP at hpd
  split at hpd
  · cases hpd; exact this.2.2
  · cases hpd
theorem kIntervalStep (T : Tp) (x : List I) (t h : Int) (order : Nat) (hT : tpOk T) (hx : allV x) (hxn : x.length = T.n) (hn : 1 ≤ T.n) (hh : 0 ≤ h ∧ h ≤ 1000000000) (ht : -1000000000 ≤ t ∧ t ≤ 1000000000) (ho : 1 ≤ order ∧ order ≤ 900) (H : AH) :
    Sound E 92 [tpA T, bx x, .agg [.int .i64 t, .int .i64 h], .int .i64 order] H (.ret (sgO (istepS T x t h order))) H := by
  refine sound_of_awp tabOk mixed Tryz.func92 rfl (by rfl) Tryz.ntmps92 (by kernel_rfl) (by simp) ?_
  have hsm := hT.small
  have hE := pEnclose T x t h hT hx hxn hn hh ht
  unfold istepS
  cases hr : enclS T x t h with
  | none =>
    rw [hr] at hE
    simp [tpA, bx]
    refine call_ret (by simpa [tpA, bx] using hE _) ?_
    simp [encA]
    exact ⟨[zsA, .bool false], [zsA, .bool false], by simp [show (Tryz.f92).results.toList = [.cell 8 47, .tmp 9] from rfl, resA, zsA], .drop (by simp [noFs, noF, zsA]), rfl⟩
  | some b =>
    rw [hr] at hE
    obtain ⟨hbv, hbl⟩ := enclS_ok hx hr
    have hp1 : vB (0, h) = true := vB_pair (by omega) (by omega) (by omega)
    have hp2 : vB (h, h) = true := vB_pair (by omega) (by omega) (by omega)
    have hS1 := fun lo hi hp c4 c5 c10 c6 c7 Hx m4 m5 m10 m6 m7 => kStep1 T x b t h lo hi order c4 c5 c10 c6 c7 true true true true true hT hx hxn hbv (by omega) hh ht hp ho Hx m4 m5 m10 m6 m7
    have k1 := enclAt_ok (order := order) hT hx hbv hh ht hp1
    have k2 := enclAt_ok (order := order) hT hx hbv hh ht hp2
    have hA := hS1 0 h hp1
    have hB := hS1 h h hp2
    have hK := kBounded ⟨t, h, x, b, enclAt T x b t h (0, h) order, enclAt T x b t h (h, h) order⟩ (by simp only; omega) (by simp only; omega)
    simp only at hK ⊢
    generalize (if (boundedB (enclAt T x b t h (0, h) order) && boundedB (enclAt T x b t h (h, h) order)) = true then some (Sg.mk t h x b (enclAt T x b t h (0, h) order) (enclAt T x b t h (h, h) order)) else none) = R at *
    generalize enclAt T x b t h (0, h) order = A at *
    generalize enclAt T x b t h (h, h) order = B at *
    simp [tpA, bx]
    refine call_ret (by simpa [tpA, bx] using hE _) ?_
    simp [encA, bx]
    refine callD_rdA (fun X => by simpa using hA _ _ _ _ _ _ (by simp [tpA]) (by simp [bx]) (by simp [bx]) (by simp) (by simp)) ?_
    simp
    refine callD_rdA (fun X => by simpa using hB _ _ _ _ _ _ (by simp [tpA]) (by simp [bx]) (by simp [bx]) (by simp) (by simp)) ?_
    simp [bx]
    refine callD_ret0 (fun Hx => by simpa [sgA, bx] using hK Hx) ?_
    cases R with
    | none =>
      simp [sgO, zsA]
      refine endD [(9, 20), (15, 20)] (by rfl) (by simp [okW, note, Eff.triv, Eff.wr, Eff.none, upTo, newAt]) ?_
      simp
      exact ⟨[zsA, .bool false], [zsA, .bool false], by simp [show (Tryz.f92).results.toList = [.cell 8 47, .tmp 9] from rfl, resA, zsA], .drop (by simp [noFs, noF, zsA]), rfl⟩
    | some s =>
      simp [sgO, sgA, bx]
      refine endD [(9, 20), (15, 20)] (by rfl) (by simp [okW, note, Eff.triv, Eff.wr, Eff.none, upTo, newAt]) ?_
      simp
      exact ⟨[sgA s, .bool true], [sgA s, .bool true], by simp [show (Tryz.f92).results.toList = [.cell 8 47, .tmp 9] from rfl, resA, sgA, bx], .drop (by simp only [noFs, noF, sgA, bx, iv_noFs, Bool.and_self]), rfl⟩
end Go.Proofs.YtfjjckepnkkgjaaGreatDoor.Arm

namespace Go.Arm
open Go.RowKit
theorem alters.set (H : AH) (b : Nat) {k : ABlk} (hk : noFB H.length k = true) : alters H (H.set b k) := by
  refine ⟨by simp, fun c => ?_⟩
  by_cases h : b = c
  · subst h
    by_cases hlt : b < H.length
    · exact .inr (.inl ⟨k, by simp [hlt], hk⟩)
    · left; rw [List.set_eq_of_length_le (by omega)]
  · left; rw [List.getElem?_set_ne h]
inductive YTurns (E : Env) (b : Nat) (C : List Nat) : List (List AV × (AH → AH)) → AH → AH → Prop
  | nil (H : AH) : YTurns E b C [] H H
  | stop {a : List AV} {f : AH → AH} {r : List (List AV × (AH → AH))} {H H' : AH} (h1 : alters H H') (h2 : ∀ c ∈ C, H'[c]? = H[c]?) (h3 : ∀ J : AH, YSound E b a (H ++ J) (.bool false) (H' ++ J)) : YTurns E b C ((a, f) :: r) H H'
  | go {a : List AV} {f : AH → AH} {r : List (List AV × (AH → AH))} {H H1 H' : AH} (h1 : alters H H1) (h2 : ∀ c ∈ C, H1[c]? = H[c]?) (h3 : ∀ J : AH, YSound E b a (H ++ J) (.bool true) (H1 ++ J)) (h4 : YTurns E b C r (f H1) H') : YTurns E b C ((a, f) :: r) H H'
theorem YTurns.cases_cons {E : Env} {b : Nat} {C : List Nat} {a : List AV} {f : AH → AH} {r : List (List AV × (AH → AH))} {H H' : AH} (h : YTurns E b C ((a, f) :: r) H H') :
    ∃ (go : Bool) (H1 : AH), Arm.alters H H1 ∧ (∀ c ∈ C, H1[c]? = H[c]?) ∧ (∀ J : AH, YSound E b a (H ++ J) (.bool go) (H1 ++ J)) ∧ (go = false → H1 = H') ∧ (go = true → YTurns E b C r (f H1) H') := by
  cases h with
  | stop h1 h2 h3 => exact ⟨false, _, h1, h2, h3, fun _ => rfl, nofun⟩
  | go h1 h2 h3 h4 => exact ⟨true, _, h1, h2, h3, nofun, fun _ => h4⟩
end Go.Arm

namespace Go.Pl
theorem tdiv2 {h : Int} (h0 : 0 ≤ h) : h.tdiv 2 = h / 2 := Int.tdiv_eq_ediv_of_nonneg h0
theorem candS_fuel (c : Ct) (hl : 1 ≤ c.least) : ∀ (k : Nat) (h : Int) (n : Nat), 1 ≤ h → h.toNat ≤ k → h.toNat < n → candS c n h = candS c (h.toNat + 1) h
  | 0, h, n, h1, hk, hn => by omega
  | k + 1, h, n, h1, hk, hn => by
    obtain ⟨m, rfl⟩ : ∃ m, n = m + 1 := ⟨n - 1, by omega⟩
    simp only [candS]
    split
    · rfl
    · rename_i hd
      have e := tdiv2 (h := h) (by omega)
      have h2 : 1 ≤ h.tdiv 2 := by omega
      have h3 : (h.tdiv 2).toNat < h.toNat := by omega
      rw [candS_fuel c hl k (h.tdiv 2) m h2 (by omega) (by omega), candS_fuel c hl k (h.tdiv 2) h.toNat h2 (by omega) h3]
theorem cands_cons {c : Ct} {h : Int} (hl : 1 ≤ c.least) (h1 : 1 ≤ h) : cands c h = h :: if h.tdiv 2 < c.least then [] else cands c (h.tdiv 2) := by
  unfold cands
  have : candS c (h.toNat + 1) h = h :: if h.tdiv 2 < c.least then [] else candS c h.toNat (h.tdiv 2) := rfl
  rw [this]
  split
  · rfl
  · have e := tdiv2 (h := h) (by omega)
    rw [candS_fuel c hl _ (h.tdiv 2) h.toNat (by omega) (Nat.le_refl _) (by omega)]
theorem cands_bound {c : Ct} (hl : 1 ≤ c.least) : ∀ (k : Nat) {h : Int}, 1 ≤ h → h.toNat ≤ k → ∀ g ∈ cands c h, 1 ≤ g ∧ g ≤ h
  | 0, h, h1, hk, g, hg => by omega
  | k + 1, h, h1, hk, g, hg => by
    rw [cands_cons hl h1] at hg
    rcases List.mem_cons.1 hg with rfl | hg
    · omega
    · split at hg
      · cases hg
      · have e := tdiv2 (h := h) (by omega)
        have := cands_bound hl k (h := h.tdiv 2) (by omega) (by omega) g hg
        omega
end Go.Pl

namespace Go.Proofs.YtfjjckepnkkgjaaGreatDoor.Arm
open Go.Arm Go.Pl
theorem cCandidates (c : Ct) (h : Int) (H : AH) : Sound E 91 [ctA c, .int .i64 h] H (.ret (.func (.func 115) [] [.ptr (H.length + 1) 1 0 0, .ptr H.length 1 0 0])) (H ++ [.row true 5 [ctA c], .row true 1 [.int .i64 h]]) := by
  refine sound_of_awp tabOk mixed Tryz.func91 rfl (by rfl) Tryz.ntmps91 (by kernel_rfl) (by simp) ?_
  simp [ctA]
  exact finK (rs := [.tmp 4]) (vs := [.func (.func 115) [] [.ptr (H.length + 1) 1 0 0, .ptr H.length 1 0 0]]) (by rfl) (by simp [resA]) rfl
def turnA (c : Ct) (ch : Nat) (l : List Int) : List (List AV × (AH → AH)) := l.map fun h => ([.int .i64 h], fun M => M.set ch (.row true 1 [.int .i64 (shrinkS c h).1]))
def LCn (c : Ct) (ch cc bl : Nat) (H H1 : AH) (n : Nat) (fr : AFr) (H' : AH) : Prop :=
  fr 0 = .yld bl ∧ fr 1 = .ptr ch 1 0 0 ∧ fr 2 = .ptr cc 1 0 0 ∧ ∃ M J, H' = M ++ J ∧ alters H M ∧ (∃ w, M[cc]? = some (.row w 5 [ctA c])) ∧
  ((n = 0 ∧ (∃ e, fr 4 = .int .i64 e ∧ e ≠ 0) ∧ M = H1) ∨ ∃ h : Int, 1 ≤ h ∧ h ≤ 1000000000 ∧ n = h.toNat + 1 ∧ fr 4 = .int .i64 0 ∧ M[ch]? = some (.row true 1 [.int .i64 h]) ∧ YTurns E bl [ch, cc] (turnA c ch (cands c h)) M H1)
theorem cCandidates1 (c : Ct) (h : Int) (ch cc bl : Nat) (H H1 : AH) (hh : 1 ≤ h ∧ h ≤ 1000000000) (hl : 1 ≤ c.least) (hne : ch ≠ cc) (hc : ∃ w, H[cc]? = some (.row w 5 [ctA c])) (hm : H[ch]? = some (.row true 1 [.int .i64 h]))
    (hY : YTurns E bl [ch, cc] (turnA c ch (cands c h)) H H1) :
    Sound E 115 [.yld bl, .ptr ch 1 0 0, .ptr cc 1 0 0] H (.ret (.tuple [])) H1 := by
  refine sound_of_awp tabOk mixed Tryz.func115 rfl (by rfl) Tryz.ntmps115 (by kernel_rfl) (by simp) ?_
  simp
  refine loop_count (LCn c ch cc bl H H1) (fun n => n) (h.toNat + 1) ⟨by simp, by simp, by simp, H, [], by simp, .refl H, hc, .inr ⟨h, hh.1, hh.2, rfl, by simp, hm, hY⟩⟩ ?_
  clear hc hm hY hh
  clear h
  rintro n fr H' ⟨g0, g1, g2, M, J, rfl, hal, ⟨w, hc⟩, hst⟩
  rcases hst with ⟨rfl, ⟨e, g4, he⟩, rfl⟩ | ⟨h, h1, h2, rfl, g4, hm, hY⟩
  · have he2 : (e == 0) = false := by simpa using he
    simp [g4, he2]
    exact finY (by rfl) hal
  · have hml := (List.getElem?_eq_some_iff.1 hm).1
    rw [cands_cons hl h1] at hY
    obtain ⟨go, M1, a1, a2, a3, a4, a5⟩ := YTurns.cases_cons (show YTurns E bl [ch, cc] (([.int .i64 h], fun M => M.set ch (.row true 1 [.int .i64 (shrinkS c h).1])) :: turnA c ch (if h.tdiv 2 < c.least then [] else cands c (h.tdiv 2))) M H1 from hY)
    have b1 := a2 ch (by simp)
    have b2 := a2 cc (by simp)
    rw [hm] at b1
    rw [hc] at b2
    have hm1l := (List.getElem?_eq_some_iff.1 b1).1
    simp only [ctA] at b2
    simp [g0, g1, g4, hm, get_old hm]
    refine call_yld (by simpa using a3 J) ?_
    simp
    refine branch (fun hg => ?_) (fun hg => ?_)
    · simp [g1, g2, b1, b2, get_old b1, get_old b2]
      refine call_ret (by simpa [ctA] using cShrink c h (by omega) _) ?_
      simp [shA, g1, b1, get_old b1]
      have hY2 := a5 (by simpa using hg)
      have e2 := tdiv2 (h := h) (by omega)
      have hcc : (M1.set ch (.row true 1 [.int .i64 (shrinkS c h).1]))[cc]? = some (.row w 5 [ctA c]) := by rw [List.getElem?_set_ne hne]; simpa [ctA] using b2
      by_cases hs : h.tdiv 2 < c.least
      · rw [if_pos hs] at hY2
        cases hY2
        have hs2 : shrinkS c h = (0, 130) := by unfold shrinkS; rw [if_pos hs]
        exact ⟨0, by show 0 < h.toNat + 1; omega, by simp [g0], by simp [g1], by simp [g2], _, J, List.set_append_left _ _ hm1l, (hal.trans a1).trans (alters.set _ _ (by simp [noFB, noFs, noF])), ⟨w, hcc⟩, .inl ⟨rfl, ⟨130, by simp [hs2], by omega⟩, rfl⟩⟩
      · rw [if_neg hs] at hY2
        have hs2 : shrinkS c h = (h.tdiv 2, 0) := by unfold shrinkS; rw [if_neg hs]
        refine ⟨(h.tdiv 2).toNat + 1, by show (h.tdiv 2).toNat + 1 < h.toNat + 1; omega, by simp [g0], by simp [g1], by simp [g2], _, J, List.set_append_left _ _ hm1l, (hal.trans a1).trans (alters.set _ _ (by simp [noFB, noFs, noF])), ⟨w, hcc⟩, .inr ⟨h.tdiv 2, by omega, by omega, rfl, by simp [hs2], ?_, hY2⟩⟩
        rw [List.getElem?_set_self hm1l, hs2]
    · have e := a4 hg
      subst e
      simp
      exact finY (by rfl) (hal.trans a1)
end Go.Proofs.YtfjjckepnkkgjaaGreatDoor.Arm

namespace Go.Pl
structure SgOk (T : Tp) (x : List I) (t h : Int) (s : Sg) : Prop where
  ht : s.t = t
  hh : s.h = h
  hx : s.frm = x
  vpre : allV s.pre
  npre : s.pre.length = T.n
  vtube : allV s.tube
  ntube : s.tube.length = T.n
  vto : allV s.to
  nto : s.to.length = T.n
theorem horn_val {h : I} : ∀ {s : List I}, allV s → vB (hornS s h) = true
  | [], _ => (by decide : vB (0, 0) = true)
  | [a], hs => hs a (by simp)
  | a :: b :: r, hs => add_valid mul_valid (hs a (by simp))
theorem coefS_okL {T : Tp} {x : List I} {t : I} {order : Nat} (hT : tpOk T) (hx : allV x) (ht : vB t = true) : (coefS T x t order).length = T.n ∧ ∀ q ∈ coefS T x t order, allV q :=
  ⟨(expS_ok hT hx ht order).2.len, (expS_ok hT hx ht order).2.val⟩
theorem enclAt_okL {T : Tp} {x b : List I} {t h : Int} {part : I} {order : Nat} (hT : tpOk T) (hx : allV x) (hb : allV b) (hh : 0 ≤ h ∧ h ≤ 1000000000) (ht : -1000000000 ≤ t ∧ t ≤ 1000000000) :
    allV (enclAt T x b t h part order) ∧ (enclAt T x b t h part order).length = T.n := by
  have htv : vB (t, t + h) = true := vB_pair (by omega) (by omega) (by omega)
  have htv2 : vB (t, t) = true := vB_pair (by omega) (by omega) (by omega)
  obtain ⟨c1, c2⟩ := coefS_okL (order := order) hT hx htv2
  obtain ⟨d1, d2⟩ := coefS_okL (order := order + 1) hT hb htv
  have hR : allV (remS T b t h order) := fun p hp => by
    obtain ⟨q, hq, rfl⟩ := List.mem_map.1 hp
    exact atN_valid (d2 q hq) _
  unfold enclAt
  refine ⟨rangeV fun i => restrI_valid (atN_valid (fun p hp => ?_) i) (atN_valid hb i), by simp [restrB, evalS, withRem, c1]⟩
  obtain ⟨q, hq, rfl⟩ := List.mem_map.1 hp
  simp only [withRem, List.mem_map, List.mem_range] at hq
  obtain ⟨j, hj, rfl⟩ := hq
  exact horn_val (allV_snoc (rowN_valid c2 j) (atN_valid hR j))
theorem enclS_okL {T : Tp} {x d : List I} {t h : Int} (hx : allV x) (h0 : enclS T x t h = some d) : allV d ∧ d.length = x.length := by
  rw [show enclS T x t h = (candP T x t h 8 (hullB x (imageB T x x t h))).findSome? hitP from encS_cand T x t h 8 _] at h0
  obtain ⟨p, hp, hpd⟩ := List.exists_of_findSome?_eq_some h0
  have := candP_ok hx 8 _ (hullB_valid hx (imageB_valid hx)) (by rw [hullB_len]) p hp
  unfold hitP at hpd
  split at hpd
  · cases hpd; exact this.2.2
  · cases hpd
theorem istepS_ok {T : Tp} {x : List I} {t h : Int} {order : Nat} {s : Sg} (hT : tpOk T) (hx : allV x) (hxn : x.length = T.n) (hh : 0 ≤ h ∧ h ≤ 1000000000) (ht : -1000000000 ≤ t ∧ t ≤ 1000000000) (hs : istepS T x t h order = some s) : SgOk T x t h s := by
  unfold istepS at hs
  cases hr : enclS T x t h with
  | none => rw [hr] at hs; cases hs
  | some b =>
    rw [hr] at hs
    obtain ⟨hbv, hbl⟩ := enclS_okL hx hr
    have k1 := enclAt_okL (part := (0, h)) (order := order) hT hx hbv hh ht
    have k2 := enclAt_okL (part := (h, h)) (order := order) hT hx hbv hh ht
    simp only at hs
    split at hs
    · cases hs
      exact ⟨rfl, rfl, rfl, hbv, by simp only; omega, k1.1, k1.2, k2.1, k2.2⟩
    · cases hs
theorem accS_ok {T : Tp} {x : List I} {c : Ct} {t h : Int} {s : Sg} (hT : tpOk T) (hx : allV x) (hxn : x.length = T.n) (hh : 0 ≤ h ∧ h ≤ 1000000000) (ht : -1000000000 ≤ t ∧ t ≤ 1000000000) (hs : accS T x c t h = some s) : SgOk T x t h s := by
  unfold accS at hs
  split at hs
  · rename_i s' h'
    split at hs
    · cases hs; exact istepS_ok hT hx hxn hh ht h'
    · cases hs
  · cases hs
structure rqOk (w : Rq) : Prop where
  order : 1 ≤ w.ctrl.order ∧ w.ctrl.order ≤ 900
  least : 1 ≤ w.ctrl.least
  t : -1000000000 ≤ w.t ∧ w.t ≤ 1000000000
  last : w.t < w.last ∧ w.last ≤ 1000000000
  h : 1 ≤ w.h ∧ w.h ≤ 1000000000
theorem advS_ok {T : Tp} {x : List I} {w : Rq} {s : Sg} (hT : tpOk T) (hx : allV x) (hxn : x.length = T.n) (hw : rqOk w) (h : advS T x w = some s) :
    s.h ∈ cands w.ctrl (firstH w) ∧ 1 ≤ s.h ∧ s.h ≤ firstH w ∧ accS T x w.ctrl w.t s.h = some s ∧ SgOk T x w.t s.h s := by
  unfold advS at h
  obtain ⟨g, hg, hs⟩ := List.exists_of_findSome?_eq_some h
  have hb := cands_bound (c := w.ctrl) hw.least _ (by have := hw.last; have := hw.h; unfold firstH; omega) (Nat.le_refl _) g hg
  have hf : firstH w ≤ 1000000000 := by have := hw.h; unfold firstH; omega
  have hok := accS_ok hT hx hxn (by omega) hw.t hs
  have := hok.hh
  subst this
  exact ⟨hg, hb.1, hb.2, hs, hok⟩
def nxS (w : Rq) (s : Sg) : Int := growS w.ctrl (if s.h = firstH w then w.h else s.h)
end Go.Pl

namespace Go.Proofs.YtfjjckepnkkgjaaGreatDoor.Arm
open Go.Arm Go.Pl
def segC : Option Sg → AV
  | some s => sgA s
  | none => zsA
def nxC (w : Rq) : Option Sg → Int
  | some s => growS w.ctrl (if s.h = firstH w then w.h else s.h)
  | none => 0
def advA (p : Sg × Int × Int) : AV := .tuple [sgA p.1, .int .i64 p.2.1, .int .i64 p.2.2]
def advZ : AV := .tuple [zsA, .int .i64 0, .int .i64 130]
def advO (w : Rq) : Option Sg → AV
  | some s => advA (s, nxC w (some s), 0)
  | none => advZ
theorem cAdvance (T : Tp) (x : List I) (w : Rq) (hT : tpOk T) (hx : allV x) (hxn : x.length = T.n) (hn : 1 ≤ T.n) (hw : rqOk w) (H : AH) :
    Sound E 54 [tpA T, bx x, rqA w] H (.ret (advO w (advS T x w))) H := by
  refine sound_of_awp tabOk mixed Tryz.func54 rfl (by rfl) Tryz.ntmps54 (by kernel_rfl) (by simp) ?_
  have hsm := hT.small
  obtain ⟨wo, wl, wt, wlast, wh⟩ := hw
  have hf1 : 1 ≤ firstH w ∧ firstH w ≤ 1000000000 := by unfold firstH; omega
  have hfe : (if w.last - w.t < w.h then w.last - w.t else w.h) = firstH w := by unfold firstH; split <;> omega
  have wsub : IntKind.i64.wrap (w.last - w.t) = w.last - w.t := wrap64 (by omega) (by omega)
  have hor : ((w.ctrl.order.toNat : Nat) : Int) = w.ctrl.order := by omega
  have hst := fun (h : Int) (h1 : 1 ≤ h ∧ h ≤ firstH w) => kIntervalStep T x w.t h w.ctrl.order.toNat hT hx hxn hn (by omega) wt (by omega)
  have hok := fun (h : Int) (h1 : 1 ≤ h ∧ h ≤ firstH w) s (hs : istepS T x w.t h w.ctrl.order.toNat = some s) => istepS_ok hT hx hxn (by omega) wt hs
  have hcb := cands_bound wl (firstH w).toNat (h := firstH w) hf1.1 (Nat.le_refl _)
  simp [tpA, bx, rqA, wsub, hfe]
  refine call_ret (by simpa [ctA] using cCandidates w.ctrl (firstH w) _) ?_
  simp
  refine range_it 10 (by rfl) (fun N hN => ?_)
  generalize hk : (LK.mk N _ _ _) = k at hN ⊢
  generalize hf : List.map _ (List.range 10) = frs
  have q3 : frs[3]? = some (.ptr H.length 1 0 0) := by rw [← hf]; simp
  have q4 : frs[4]? = some (.ptr (H.length + 1) 1 0 0) := by rw [← hf]; simp
  have q5 : frs[5]? = some (.ptr (H.length + 2) 1 0 0) := by rw [← hf]; simp
  have q6 : frs[6]? = some (.ptr (H.length + 3) 1 0 0) := by rw [← hf]; simp
  have q7 : frs[7]? = some (.ptr (H.length + 4) 1 0 0) := by rw [← hf]; simp
  have q8 : frs[8]? = some (.ptr (H.length + 5) 1 0 0) := by rw [← hf]; simp
  have q9 : frs[9]? = some (.ptr (H.length + 6) 1 0 0) := by rw [← hf]; simp
  let MM : Int → Option Sg → LSt → AH := fun hv o st => H ++ [.row true 3 [tpA T], .row true 1 [bx x], .row true 8 [rqA w], .row true 6 [segC o], .row true 1 [.int .i64 (nxC w o)], .row true 1 [.int .i64 0], .row true 1 [.int .i64 (firstH w)], .row true 5 [ctA w.ctrl], .row true 1 [.int .i64 hv], .loop k st frs]
  have halt : ∀ hv o st, alters (MM hv none .ready) (MM hv o st) := fun hv o st => alters_of ⟨.same _, .same _, .same _, .inr (.inl (by cases o <;> simp [segC, zsA, sgA, noFB, noFs, noF, bx, iv_noFs])), .inr (.inl (by simp [noFB, noFs, noF])), .same _, .same _, .same _, .same _, .loop, trivial⟩
  have hC : ∀ hv o st, ∀ c ∈ [H.length + 8, H.length + 7], (MM hv o st)[c]? = (MM hv none .ready)[c]? := fun hv o st c hc => by
    simp at hc
    rcases hc with rfl | rfl <;> simp [MM]
  have hround : ∀ (hv h : Int), 1 ≤ h ∧ h ≤ firstH w → ∀ (J : AH), YSound E (H.length + 9) [.int .i64 h] (MM hv none .ready ++ J) (.bool (accS T x w.ctrl w.t h).isNone) (MM hv (accS T x w.ctrl w.t h) (if (accS T x w.ctrl w.t h).isSome then .done .ret else .ready) ++ J) := by
    intro hv h h1 J
    refine yield_sound tabOk mixed (k := k) (frs := frs) (by simp [MM]) (by rw [← hk]; rfl) hN ?_
    have ka := congrArg LK.assign hk
    have kb := congrArg LK.body hk
    have kp := congrArg LK.ps hk
    dsimp only at ka kb kp
    rw [← ka, ← kb, ← kp]
    clear ka kb kp hk hf hN
    have hS := hst h h1
    rw [hor] at hS
    cases hr : istepS T x w.t h w.ctrl.order.toNat with
    | none =>
      have hacc : accS T x w.ctrl w.t h = none := by unfold accS; rw [hr]
      rw [hacc]
      rw [hr] at hS
      simp [roundFr]
      rw [assignK_normal]
      refine ⟨by simp [MM], ?_⟩
      simp [MM, q3, q4, q5, tpA, bx, rqA]
      refine call_ret (by simpa [tpA, bx] using hS _) ?_
      simp [sgO, zsA]
      rw [roundK_normal]
      refine ⟨by simp, rfl, ?_⟩
      have := Leaves.alters (J := J) (X := [.row true 6 [zsA]]) (halt hv none .ready)
      simpa [MM, segC, zsA, tpA, bx, rqA, nxC] using this
    | some s =>
      have hso := hok h h1 s hr
      rw [hr] at hS
      have hA := cAccept w.ctrl s hso.vto hso.vtube (by rw [hso.nto]; omega) (by rw [hso.ntube]; omega)
      cases ha : (narrowB w.ctrl.wide s.to && narrowB w.ctrl.wide s.tube) with
      | false =>
        have hacc : accS T x w.ctrl w.t h = none := by unfold accS; rw [hr]; simp only [ha]; rfl
        rw [hacc]
        rw [ha] at hA
        simp [roundFr]
        rw [assignK_normal]
        refine ⟨by simp [MM], ?_⟩
        simp [MM, q3, q4, q5, tpA, bx, rqA]
        refine call_ret (by simpa [tpA, bx] using hS _) ?_
        simp [sgO, sgA, bx, q5]
        refine call_ret (by simpa [sgA, bx, ctA] using hA _) ?_
        simp
        rw [roundK_normal]
        refine ⟨by simp, rfl, ?_⟩
        have := Leaves.alters (J := J) (X := [.row true 6 [sgA s]]) (halt hv none .ready)
        simpa [MM, segC, sgA, zsA, tpA, bx, rqA, nxC, ctA] using this
      | true =>
        have hacc : accS T x w.ctrl w.t h = some s := by unfold accS; rw [hr]; simp only [ha]; rfl
        rw [hacc]
        rw [ha] at hA
        simp [roundFr]
        rw [assignK_normal]
        refine ⟨by simp [MM], ?_⟩
        simp [MM, q3, q4, q5, tpA, bx, rqA]
        refine call_ret (by simpa [tpA, bx] using hS _) ?_
        simp [sgO, sgA, bx, q5]
        refine call_ret (by simpa [sgA, bx, ctA] using hA _) ?_
        simp [q9]
        refine branch (fun he => ?_) (fun he => ?_)
        · have heP : h = firstH w := by simpa using he
          simp [q5, q6, q7, q8, heP]
          refine callD_ret0 (fun Hx => by simpa [ctA] using cGrow w.ctrl w.h (by omega) Hx) ?_
          simp [q5, q6, q7, q8]
          refine endD [] (by rfl) (by simp [okW, note, Eff.triv, Eff.wr, Eff.none, upTo, newAt]) ?_
          simp
          rw [roundK_ret]
          refine ⟨by simp, rfl, ?_⟩
          have := Leaves.alters (J := J) (X := [.row true 6 [sgA s]]) (halt hv (some s) (.done .ret))
          simpa [MM, segC, sgA, zsA, tpA, bx, rqA, nxC, hso.hh, heP, ctA] using this
        · have heP : h ≠ firstH w := by simpa using he
          simp [q5, q6, q7, q8, heP]
          refine callD_ret0 (fun Hx => by simpa [ctA] using cGrow w.ctrl h (by omega) Hx) ?_
          simp [q5, q6, q7, q8]
          refine endD [] (by rfl) (by simp [okW, note, Eff.triv, Eff.wr, Eff.none, upTo, newAt]) ?_
          simp
          rw [roundK_ret]
          refine ⟨by simp, rfl, ?_⟩
          have := Leaves.alters (J := J) (X := [.row true 6 [sgA s]]) (halt hv (some s) (.done .ret))
          simpa [MM, segC, sgA, zsA, tpA, bx, rqA, nxC, hso.hh, heP, ctA] using this
  have hrun : ∀ l : List Int, (∀ g ∈ l, 1 ≤ g ∧ g ≤ firstH w) → ∀ hv, ∃ hv', YTurns E (H.length + 9) [H.length + 8, H.length + 7] (turnA w.ctrl (H.length + 8) l) (MM hv none .ready) (MM hv' (l.findSome? (accS T x w.ctrl w.t)) (if (l.findSome? (accS T x w.ctrl w.t)).isSome then .done .ret else .ready)) := by
    intro l
    induction l with
    | nil => intro _ hv; exact ⟨hv, .nil _⟩
    | cons h l ih =>
      intro hl hv
      have hr := hround hv h (hl h (by simp))
      rw [List.findSome?_cons]
      cases hs : accS T x w.ctrl w.t h with
      | some s =>
        rw [hs] at hr
        exact ⟨hv, .stop (halt _ _ _) (hC _ _ _) hr⟩
      | none =>
        rw [hs] at hr
        obtain ⟨hv', hY⟩ := ih (fun g hg => hl g (by simp [hg])) (shrinkS w.ctrl h).1
        refine ⟨hv', .go (halt hv none .ready) (hC hv none .ready) hr ?_⟩
        have e : (MM hv none .ready).set (H.length + 8) (.row true 1 [.int .i64 (shrinkS w.ctrl h).1]) = MM (shrinkS w.ctrl h).1 none .ready := by simp [MM]
        dsimp only
        rw [e]; exact hY
  obtain ⟨hv', hY⟩ := hrun (cands w.ctrl (firstH w)) hcb (firstH w)
  have hS := cCandidates1 w.ctrl (firstH w) (H.length + 8) (H.length + 7) (H.length + 9) (MM (firstH w) none .ready) _ hf1 wl (by omega) ⟨true, by simp [MM]⟩ (by simp [MM]) hY
  have hadv : (cands w.ctrl (firstH w)).findSome? (accS T x w.ctrl w.t) = advS T x w := rfl
  rw [hadv] at hS
  cases hr : advS T x w with
  | none =>
    rw [hr] at hS
    refine ⟨_, _, k, .ready, frs, by simpa [MM, segC, nxC, zsA, tpA, bx, rqA, ctA] using hS, by simp, ?_⟩
    simp [jumpA]
    exact ⟨[zsA, .int .i64 0, .int .i64 130], [zsA, .int .i64 0, .int .i64 130], by simp [show (Tryz.f54).results.toList = [.cell 6 47, .cell 7 2, .cell 8 38] from rfl, resA, zsA], .drop (by simp [noFs, noF, zsA]), rfl⟩
  | some s =>
    rw [hr] at hS
    refine ⟨_, _, k, .done .ret, frs, by simpa [MM, segC, nxC, zsA, tpA, bx, rqA, ctA] using hS, by simp, ?_⟩
    simp [jumpA]
    exact ⟨[sgA s, .int .i64 (nxC w (some s)), .int .i64 0], [sgA s, .int .i64 (nxC w (some s)), .int .i64 0], by simp [show (Tryz.f54).results.toList = [.cell 6 47, .cell 7 2, .cell 8 38] from rfl, resA, sgA, bx, nxC], .drop (by simp only [noFs, noF, sgA, bx, iv_noFs, Bool.and_self]), rfl⟩
def erO : Option Sg → Int
  | some _ => 0
  | none => 130
theorem advO_eq (w : Rq) (o : Option Sg) : advO w o = .tuple [segC o, .int .i64 (nxC w o), .int .i64 (erO o)] := by cases o <;> rfl
end Go.Proofs.YtfjjckepnkkgjaaGreatDoor.Arm

namespace Go.Pl
theorem sg_ext {a b : Sg} (h1 : a.t = b.t) (h2 : a.h = b.h) (h3 : a.frm = b.frm) (h4 : a.pre = b.pre) (h5 : a.tube = b.tube) (h6 : a.to = b.to) : a = b := by
  cases a; cases b; simp only at h1 h2 h3 h4 h5 h6; subst h1 h2 h3 h4 h5 h6; rfl
instance : DecidableEq Sg := fun a b => decidable_of_decidable_of_iff (p := a.t = b.t ∧ a.h = b.h ∧ a.frm = b.frm ∧ a.pre = b.pre ∧ a.tube = b.tube ∧ a.to = b.to) ⟨fun ⟨h1, h2, h3, h4, h5, h6⟩ => sg_ext h1 h2 h3 h4 h5 h6, fun h => by subst h; exact ⟨rfl, rfl, rfl, rfl, rfl, rfl⟩⟩
def consS (s : Sg) : Except Int (List Sg) → Except Int (List Sg)
  | .ok l => .ok (s :: l)
  | .error e => .error e
def intS (T : Tp) (c : Ct) (last : Int) : Nat → List I → Int → Int → Except Int (List Sg)
  | 0, x, t, h => if t < last then (match advS T x ⟨c, t, last, h⟩ with
      | none => .error 130
      | some _ => .error 140) else .ok []
  | n + 1, x, t, h => if t < last then (match advS T x ⟨c, t, last, h⟩ with
      | none => .error 130
      | some s => consS s (intS T c last n s.to (s.t + s.h) (nxS ⟨c, t, last, h⟩ s))) else .ok []
theorem intS_end {T : Tp} {c : Ct} {last : Int} {n : Nat} {x : List I} {t h : Int} (ht : ¬ t < last) : intS T c last n x t h = .ok [] := by
  cases n <;> simp [intS, ht]
theorem intS_none {T : Tp} {c : Ct} {last : Int} {n : Nat} {x : List I} {t h : Int} (ht : t < last) (ha : advS T x ⟨c, t, last, h⟩ = none) : intS T c last n x t h = .error 130 := by
  cases n <;> simp [intS, ht, ha]
theorem intS_full {T : Tp} {c : Ct} {last : Int} {x : List I} {t h : Int} {s : Sg} (ht : t < last) (ha : advS T x ⟨c, t, last, h⟩ = some s) : intS T c last 0 x t h = .error 140 := by
  simp [intS, ht, ha]
theorem intS_some {T : Tp} {c : Ct} {last : Int} {n : Nat} {x : List I} {t h : Int} {s : Sg} (ht : t < last) (ha : advS T x ⟨c, t, last, h⟩ = some s) :
    intS T c last (n + 1) x t h = consS s (intS T c last n s.to (s.t + s.h) (nxS ⟨c, t, last, h⟩ s)) := by
  simp [intS, ht, ha]
def appS (l : List Sg) : Except Int (List Sg) → Except Int (List Sg)
  | .ok r => .ok (l ++ r)
  | .error e => .error e
theorem appS_cons (l : List Sg) (s : Sg) (r : Except Int (List Sg)) : appS l (consS s r) = appS (l ++ [s]) r := by
  cases r <;> simp [appS, consS]
theorem appS_nil (r : Except Int (List Sg)) : appS [] r = r := by cases r <;> simp [appS]
def Chn (Q : List I → Int → Sg → Prop) : List I → Int → List Sg → Prop
  | _, _, [] => True
  | x, t, s :: l => Q x t s ∧ Chn Q s.to (s.t + s.h) l
def endT : Int → List Sg → Int
  | t, [] => t
  | _, s :: l => endT (s.t + s.h) l
theorem Chn.mono {Q R : List I → Int → Sg → Prop} (h : ∀ x t s, Q x t s → R x t s) : ∀ {x : List I} {t : Int} {l : List Sg}, Chn Q x t l → Chn R x t l
  | _, _, [], _ => trivial
  | _, _, _ :: _, hc => ⟨h _ _ _ hc.1, hc.2.mono h⟩
theorem Chn.get {Q : List I → Int → Sg → Prop} : ∀ {x : List I} {t : Int} {l : List Sg}, Chn Q x t l → ∀ (i : Nat) s, l[i]? = some s → ∃ x' t', Q x' t' s
  | _, _, [], _, i, s, h => by simp at h
  | x, t, a :: l, hc, 0, s, h => by simp at h; subst h; exact ⟨x, t, hc.1⟩
  | x, t, a :: l, hc, i + 1, s, h => hc.2.get i s (by simpa using h)
theorem Chn.next {Q : List I → Int → Sg → Prop} : ∀ {x : List I} {t : Int} {l : List Sg}, Chn Q x t l → ∀ (i : Nat) s s', l[i]? = some s → l[i + 1]? = some s' → Q s.to (s.t + s.h) s'
  | _, _, [], _, i, s, s', h, _ => by simp at h
  | x, t, a :: [], hc, i, s, s', h, h' => by simp at h'
  | x, t, a :: b :: l, hc, 0, s, s', h, h' => by simp at h h'; subst h; subst h'; exact hc.2.1
  | x, t, a :: b :: l, hc, i + 1, s, s', h, h' => hc.2.next i s s' (by simpa using h) (by simpa using h')
structure StOk (T : Tp) (c : Ct) (last : Int) (x : List I) (t : Int) (s : Sg) : Prop where
  vx : allV x
  nx : x.length = T.n
  bt : -1000000000 ≤ t ∧ t < last ∧ last ≤ 1000000000
  bh : 1 ≤ s.h ∧ t + s.h ≤ last
  acc : accS T x c t s.h = some s
  ok : SgOk T x t s.h s
structure hzOk (c : Ct) (t last : Int) : Prop where
  order : 1 ≤ c.order ∧ c.order ≤ 900
  least : 1 ≤ c.least
  most : 1 ≤ c.most ∧ c.most ≤ 1000000000
  t : -1000000000 ≤ t ∧ t ≤ 1000000000
  last : last ≤ 1000000000
theorem hzOk.rq {c : Ct} {t last h : Int} (k : hzOk c t last) (ht : t < last) (hh : 1 ≤ h ∧ h ≤ 1000000000) : rqOk ⟨c, t, last, h⟩ := ⟨k.order, k.least, k.t, ⟨ht, k.last⟩, hh⟩
theorem hzOk.step {c : Ct} {t last t' : Int} (k : hzOk c t last) (h1 : t ≤ t') (h2 : t' ≤ last) : hzOk c t' last := ⟨k.order, k.least, k.most, ⟨by have := k.t; omega, by have := k.last; omega⟩, k.last⟩
theorem nxS_b {c : Ct} {t last h : Int} (k : hzOk c t last) (hh : 1 ≤ h ∧ h ≤ 1000000000) {s : Sg} (hs : 1 ≤ s.h) : 1 ≤ nxS ⟨c, t, last, h⟩ s ∧ nxS ⟨c, t, last, h⟩ s ≤ 1000000000 := by
  have := k.most
  unfold nxS growS
  simp only
  split <;> omega
theorem intS_chn {T : Tp} {c : Ct} {last : Int} (hT : tpOk T) : ∀ {n : Nat} {x : List I} {t h : Int} {l : List Sg}, hzOk c t last → t ≤ last → 1 ≤ h ∧ h ≤ 1000000000 → allV x → x.length = T.n → intS T c last n x t h = .ok l →
    l.length ≤ n ∧ Chn (StOk T c last) x t l ∧ endT t l = last ∧ (t < last → 1 ≤ l.length) := by
  intro n
  induction n with
  | zero =>
    intro x t h l k htl hh hx hxn hi
    by_cases ht : t < last
    · cases ha : advS T x ⟨c, t, last, h⟩ with
      | none => rw [intS_none ht ha] at hi; cases hi
      | some s => rw [intS_full ht ha] at hi; cases hi
    · rw [intS_end ht] at hi
      cases hi
      exact ⟨by simp, trivial, by simp only [endT]; omega, fun h => absurd h ht⟩
  | succ n ih =>
    intro x t h l k htl hh hx hxn hi
    by_cases ht : t < last
    · cases ha : advS T x ⟨c, t, last, h⟩ with
      | none => rw [intS_none ht ha] at hi; cases hi
      | some s =>
        rw [intS_some ht ha] at hi
        obtain ⟨a1, a2, a3, a4, a5⟩ := advS_ok hT hx hxn (k.rq ht hh) ha
        have hst := a5.ht
        have hf : firstH ⟨c, t, last, h⟩ ≤ last - t := by unfold firstH; simp only; omega
        cases hr : intS T c last n s.to (s.t + s.h) (nxS ⟨c, t, last, h⟩ s) with
        | error e => rw [hr] at hi; cases hi
        | ok r =>
          rw [hr] at hi
          cases hi
          have hst2 : s.t = t := hst
          obtain ⟨b1, b2, b3, b4⟩ := ih (k.step (by omega) (by omega)) (by omega) (nxS_b k hh a2) a5.vto a5.nto hr
          exact ⟨by simp; omega, ⟨⟨hx, hxn, ⟨k.t.1, ht, k.last⟩, ⟨a2, by omega⟩, a4, a5⟩, b2⟩, b3, fun _ => by simp⟩
    · rw [intS_end ht] at hi
      cases hi
      exact ⟨by simp, trivial, by simp only [endT]; omega, fun h => absurd h ht⟩
theorem intS_err {T : Tp} {c : Ct} {last : Int} : ∀ {n : Nat} {x : List I} {t h e : Int}, intS T c last n x t h = .error e → e = 130 ∨ e = 140 := by
  intro n
  induction n with
  | zero =>
    intro x t h e hi
    by_cases ht : t < last
    · cases ha : advS T x ⟨c, t, last, h⟩ with
      | none => rw [intS_none ht ha] at hi; cases hi; exact .inl rfl
      | some s => rw [intS_full ht ha] at hi; cases hi; exact .inr rfl
    · rw [intS_end ht] at hi; cases hi
  | succ n ih =>
    intro x t h e hi
    by_cases ht : t < last
    · cases ha : advS T x ⟨c, t, last, h⟩ with
      | none => rw [intS_none ht ha] at hi; cases hi; exact .inl rfl
      | some s =>
        rw [intS_some ht ha] at hi
        cases hr : intS T c last n s.to (s.t + s.h) (nxS ⟨c, t, last, h⟩ s) with
        | error e' => rw [hr] at hi; cases hi; exact ih hr
        | ok r => rw [hr] at hi; cases hi
    · rw [intS_end ht] at hi; cases hi
def Ctg : Int → List Sg → Prop
  | _, [] => True
  | t, s :: l => s.t = t ∧ 1 ≤ s.h ∧ Ctg (s.t + s.h) l
theorem Chn.ctg {Q : List I → Int → Sg → Prop} (h : ∀ x t s, Q x t s → s.t = t ∧ 1 ≤ s.h) : ∀ {x : List I} {t : Int} {l : List Sg}, Chn Q x t l → Ctg t l
  | _, _, [], _ => trivial
  | x, t, s :: l, hc => ⟨(h _ _ _ hc.1).1, (h _ _ _ hc.1).2, hc.2.ctg h⟩
theorem Ctg.ge : ∀ {l : List Sg} {t : Int}, Ctg t l → ∀ s ∈ l, t ≤ s.t ∧ 1 ≤ s.h ∧ s.t + s.h ≤ endT t l
  | [], t, _, s, h => by cases h
  | a :: l, t, hc, s, h => by
    have hend : ∀ {l : List Sg} {t : Int}, Ctg t l → t ≤ endT t l := by
      intro l
      induction l with
      | nil => intro t _; exact Int.le_refl _
      | cons b l ih => intro t hc; have := ih hc.2.2; have := hc.2.1; have := hc.1; simp only [endT]; omega
    obtain ⟨h1, h2, h3⟩ := hc
    rcases List.mem_cons.1 h with rfl | h
    · exact ⟨by omega, h2, hend h3⟩
    · have := Ctg.ge h3 s h
      exact ⟨by omega, this.2.1, this.2.2⟩
def boxs (s : Sg) : List (List I) := [s.frm, s.pre, s.tube, s.to]
def boxN (n : Nat) (b : List I) : Bool := b.length == n && validB b
def segB (n : Nat) (t : Int) (s : Sg) : Bool := decide (1 ≤ s.h) && s.t == t && numB s.t && numB s.h && numB (s.t + s.h) && (boxs s).all (boxN n)
def flowsB (n : Nat) : Int → List Sg → Bool
  | _, [] => true
  | t, s :: r => segB n t s && flowsB n (s.t + s.h) r
def flowB (l : List Sg) : Bool := match l with
  | [] => false
  | s :: _ => decide (l.length ≤ 256) && flowsB s.frm.length s.t l
end Go.Pl

namespace Go.Proofs.YtfjjckepnkkgjaaGreatDoor.Arm
open Go.Arm Go.Pl
theorem fValid (a : Int) (H : AH) : Sound E 52 [.int .i64 a] H (.ret (.bool (numB a))) H := by
  refine sound_of_awp tabOk mixed Tryz.func52 rfl (by rfl) Tryz.ntmps52 (by kernel_rfl) (by simp) ?_
  simp
  refine gateT (fun h => ?_) (fun h => ?_)
  all_goals
    simp [h]
    exact fin0 (rs := [.tmp 2]) (by rfl) (by simp [resA, numB, h])
end Go.Proofs.YtfjjckepnkkgjaaGreatDoor.Arm

namespace Go.Proofs.YtfjjckepnkkgjaaGreatDoor.Arm
open Go.Arm Go.Pl
def sgL (l : List Sg) : AV := .slice (l.map sgA) false
theorem sgA_noF (s : Sg) (m : Nat) : noF m (sgA s) = true := by simp only [sgA, bx, noF, noFs, iv_noFs, Bool.and_self]
theorem sgs_noFs (l : List Sg) (n : Nat) : noFs n (l.map sgA) = true := noFs_iff.2 fun x hx => by obtain ⟨y, _, rfl⟩ := List.mem_map.1 hx; exact sgA_noF y n
end Go.Proofs.YtfjjckepnkkgjaaGreatDoor.Arm

namespace Go.Arm
open Go.RowKit
section
variable {G : Gh} {w : World} {m : Nat} {σ : Nat → Option Nat}
theorem BlkOk.moveRow0 (hd : ∀ c k, σ c = some k → ownr G c = none) {c : Nat} (hc : c < m) (hs : σ c = none) {wr : Bool} {sz : Nat} {xs xs' : List AV} (h : BlkOk G w c (.row wr sz xs)) (hl : xs'.length = xs.length)
    (hx : ∀ (i : Nat) x x', xs[i]? = some x → xs'[i]? = some x' → RenX m σ x x') : BlkOk (mvG G m σ) w c (.row wr sz xs') := by
  have ho : ownr (mvG G m σ) c = ownr G c := by rw [mv_own, if_pos hc, hs]
  obtain ⟨L, h1, h2, h3, h4, h5, h6, h7, c', e, h8, h9, hv⟩ := h
  have hget : ∀ (i : Nat) x', xs'[i]? = some x' → ∃ x, xs[i]? = some x ∧ RenX m σ x x' := fun i x' hi => by
    have hlt := (List.getElem?_eq_some_iff.1 hi).1
    exact ⟨xs[i], by simp, hx i _ x' (by simp) hi⟩
  refine ⟨L, ho.trans h1, by rw [h2, hl], h3, fun x' hx' => ?_, by rw [hl]; exact h5, h6, by rw [hl]; exact h7, c', e, h8, h9, fun i x' j a' hi hj => ?_⟩
  · obtain ⟨i, hi⟩ := List.mem_iff_getElem?.1 hx'
    obtain ⟨x, hx1, hx2⟩ := hget i x' hi
    rw [← hx2.1]; exact h4 x (List.mem_of_getElem? hx1)
  · obtain ⟨x, hx1, hx2⟩ := hget i x' hi
    have hjl : j < x.cells.length := by rw [hx2.1]; exact (List.getElem?_eq_some_iff.1 hj).1
    obtain ⟨v, g1, g2⟩ := hv i x j x.cells[j] hx1 (by simp)
    exact ⟨v, g1, (hx2.2 j _ a' (by simp) hj).vr hd g2⟩
end
structure FillW (H HJ H' : AH) (r r' : AV) (σ : Nat → Option Nat) : Prop where
  dead : ∀ c k, σ c = some k → c < H.length ∧ H[c]? = some .dead ∧ HJ[c]? = some .dead ∧ H.length ≤ k
  inj : ∀ c c' k, σ c = some k → σ c' = some k → c = c'
  len : H'.length = H.length
  keep : ∀ c, c < H.length → σ c = none → (HJ[c]? = H[c]? ∧ H'[c]? = H[c]?) ∨ (∃ k, HJ[c]? = some k ∧ H'[c]? = some k ∧ noFB H.length k = true) ∨
    (∃ k st st' frs, H[c]? = some (.loop k st frs) ∧ HJ[c]? = some (.loop k st' frs) ∧ H'[c]? = some (.loop k st' frs)) ∨
    ∃ wr sz xs xs', HJ[c]? = some (.row wr sz xs) ∧ H'[c]? = some (.row wr sz xs') ∧ xs'.length = xs.length ∧ ∀ (i : Nat) x x', xs[i]? = some x → xs'[i]? = some x' → RenX H.length σ x x'
  fill : ∀ c k, σ c = some k → ∃ wr sz xs xs', HJ[k]? = some (.row wr sz xs) ∧ H'[c]? = some (.row wr sz xs') ∧ xs'.length = xs.length ∧ ∀ (i : Nat) x x', xs[i]? = some x → xs'[i]? = some x' → RenX H.length σ x x'
  res : RenV H.length σ r r'
theorem FillW.ok {Γ : Nat → Option (List AV)} {G G' : Gh} {w w' : World} {H HJ H' : AH} {r r' : AV} {σ : Nat → Option Nat} (h : FillW H HJ H' r r' σ) (hI : Inv Γ G w H) (e : Ext G w G' w') (i : Inv Γ G' w' HJ) {u : Value} (hu : VR G' w' r u) :
    ∃ G'', Ext G w G'' w' ∧ Inv Γ G'' w' H' ∧ VR G'' w' r' u := by
  obtain ⟨hd, hi, hl, hk, hf, hr⟩ := h
  have hd' : ∀ c k, σ c = some k → ownr G' c = none := fun c k hs => i.blk c _ (hd c k hs).2.2.1
  have e1 : Ext G w (mvG G' H.length σ) w' := by
    refine ⟨e.os, e.tape, e.output, e.size, e.keep, fun c L hc => ?_, fun c L' hc hlt => ?_⟩
    · obtain ⟨L', h1, h2⟩ := e.own c L hc
      have hc0 := own_lt hc
      rw [hI.len] at hc0
      cases hs : σ c with
      | some k => have := hI.blk c _ (hd c k hs).2.1; rw [show ownr G c = none from this] at hc; cases hc
      | none => exact ⟨L', by rw [mv_own, if_pos hc0, hs]; exact h1, h2⟩
    · rcases (mv_some hc).2 with ⟨k, hs, h1⟩ | ⟨_, h1⟩
      · obtain ⟨L, h2, _⟩ := e.back k L' h1 hlt
        have := own_lt h2
        rw [hI.len] at this
        have := (hd c k hs).2.2.2
        omega
      · exact e.back c L' h1 hlt
  refine ⟨_, e1, ⟨by simp [mvG, hl], fun c x hx => ?_, ?_, fun g cs hg => (hI.glob g cs hg).mono e1⟩, hr.vr hd' hu⟩
  · have hc : c < H.length := by rw [← hl]; exact (List.getElem?_eq_some_iff.1 hx).1
    cases hs : σ c with
    | none =>
      rcases hk c hc hs with ⟨h1, h2⟩ | ⟨k, h1, h2, hn⟩ | ⟨k, st, st', frs, h0, h1, h2⟩ | ⟨wr, sz, xs, xs', h1, h2, h3, h4⟩
      · rw [h2] at hx
        have hn := (hI.blk c x hx).noF
        rw [hI.len] at hn
        exact (i.blk c x (h1.trans hx)).move hd' hc hs hn
      · rw [h2] at hx; cases hx
        exact (i.blk c _ h1).move hd' hc hs hn
      · rw [h2] at hx; cases hx
        have hn := (hI.blk c _ h0).noF
        rw [hI.len] at hn
        exact (i.blk c _ h1).move hd' hc hs hn
      · rw [h2] at hx; cases hx
        exact (i.blk c _ h1).moveRow0 hd' hc hs h3 h4
    | some k =>
      obtain ⟨wr, sz, xs, xs', h1, h2, h3, h4⟩ := hf c k hs
      rw [h2] at hx; cases hx
      exact (i.blk k _ h1).moveRow hd' hc hs h3 h4
  · intro c c' L L' h1 h2 h3
    obtain ⟨g0, g1⟩ := mv_some h1
    obtain ⟨q0, q1⟩ := mv_some h2
    rcases g1 with ⟨k, s1, g1⟩ | ⟨s1, g1⟩ <;> rcases q1 with ⟨k', s2, q1⟩ | ⟨s2, q1⟩
    · have := i.inj k k' L L' g1 q1 h3; subst this; exact hi c c' k s1 s2
    · have := i.inj k c' L L' g1 q1 h3; have := (hd c k s1).2.2.2; omega
    · have := i.inj c k' L L' g1 q1 h3; have := (hd c' k' s2).2.2.2; omega
    · exact i.inj c c' L L' g1 q1 h3
theorem FillW.one {H0 H HJ H' : AH} {v : AV} {pl k oc sz n : Nat} {xs : List AV} (hp : H[pl]? = some .dead) (hpJ : HJ[pl]? = some .dead) (hkl : H.length ≤ k) (hk : HJ[k]? = some (.row true sz xs)) (hl : H'.length = H.length)
    (ho : HJ[oc]? = some (.row true 1 [.ref k n])) (ho' : H'[oc]? = some (.row true 1 [.ref pl n])) (hp' : H'[pl]? = some (.row true sz xs)) (hne : oc ≠ pl) (hn : noFs H.length xs = true) (hv : noF H.length v = true)
    (hc : ∀ c, c < H.length → c ≠ pl → c ≠ oc → (HJ[c]? = H[c]? ∧ H'[c]? = H[c]?) ∨ (∃ k, HJ[c]? = some k ∧ H'[c]? = some k ∧ noFB H.length k = true) ∨ (∃ k st st' frs, H[c]? = some (.loop k st frs) ∧ HJ[c]? = some (.loop k st' frs) ∧ H'[c]? = some (.loop k st' frs))) :
    FillW H HJ H' v v (fun c => if c = pl then some k else none) := by
  have hpl := (List.getElem?_eq_some_iff.1 hp).1
  have σp : ∀ c j, (fun c => if c = pl then some k else none) c = some j → c = pl ∧ j = k := fun c j h => by
    simp only at h
    split at h
    · rename_i e; cases h; exact ⟨e, rfl⟩
    · cases h
  have hrow : ∀ (i : Nat) x x', xs[i]? = some x → xs[i]? = some x' → RenX H.length (fun c => if c = pl then some k else none) x x' := fun i x x' h1 h2 => by
    rw [h1] at h2; cases h2
    refine ⟨rfl, fun j a a' ha ha' => ?_⟩
    rw [ha] at ha'; cases ha'
    exact .old (noFs_get (noF_cells.2 (noFs_get hn h1)) ha)
  refine ⟨fun c j h => ?_, fun c c' j h h' => ?_, hl, fun c hcl hs => ?_, fun c j h => ?_, .old hv⟩
  · obtain ⟨rfl, rfl⟩ := σp c j h
    exact ⟨hpl, hp, hpJ, hkl⟩
  · rw [(σp c j h).1, (σp c' j h').1]
  · have hcp : c ≠ pl := by intro e; subst e; simp at hs
    by_cases hco : c = oc
    · subst hco
      refine .inr (.inr (.inr ⟨true, 1, _, _, ho, ho', rfl, fun i x x' h1 h2 => ?_⟩))
      cases i with
      | zero =>
        simp at h1 h2; subst h1; subst h2
        refine ⟨rfl, fun j a a' ha ha' => ?_⟩
        cases j with
        | zero => simp [AV.cells] at ha ha'; subst ha; subst ha'; exact .ref (by simp) hpl
        | succ j => simp [AV.cells] at ha
      | succ i => simp at h1
    · rcases hc c hcl hcp hco with h | h | h
      · exact .inl h
      · exact .inr (.inl h)
      · exact .inr (.inr (.inl h))
  · obtain ⟨rfl, rfl⟩ := σp c j h
    exact ⟨true, sz, xs, xs, hk, hp', rfl, hrow⟩
end Go.Arm

namespace Go.Proofs.YtfjjckepnkkgjaaGreatDoor.Arm
open Go.Arm Go.Pl
end Go.Proofs.YtfjjckepnkkgjaaGreatDoor.Arm

namespace Go.Pl
structure HullOf (n : Nat) (L : List (List I)) (B : List I) : Prop where
  len : B.length = n
  sub : ∀ b ∈ L, ∀ i, i < n → (atN B i).1 ≤ (atN b i).1 ∧ (atN b i).2 ≤ (atN B i).2
  lo : ∀ i, i < n → ∃ b ∈ L, (atN b i).1 = (atN B i).1
  hi : ∀ i, i < n → ∃ b ∈ L, (atN b i).2 = (atN B i).2
theorem HullOf.subI {n : Nat} {L M : List (List I)} {B C : List I} (h : HullOf n L B) (k : HullOf n M C) (hs : ∀ b ∈ L, b ∈ M) : subI B C = true := by
  unfold Pl.subI
  rw [List.all_eq_true]
  intro i hi
  have hi' : i < n := by rw [← h.len]; exact List.mem_range.1 hi
  obtain ⟨b, hb, e⟩ := h.lo i hi'
  obtain ⟨c, hc, f⟩ := h.hi i hi'
  have := k.sub b (hs b hb) i hi'
  have := k.sub c (hs c hc) i hi'
  simp only [subB, Bool.and_eq_true, decide_eq_true_eq]
  omega
end Go.Pl

namespace Go.Proofs.YtfjjckepnkkgjaaGreatDoor.Arm
open Go.Arm Go.Pl
def atR : Option (List I) → AV
  | none => .tuple [.nilslice, .bool false]
  | some b => .tuple [bx b, .bool true]
end Go.Proofs.YtfjjckepnkkgjaaGreatDoor.Arm

namespace Go.Proofs.YtfjjckepnkkgjaaGreatDoor.Arm
open Go.Arm Go.Pl
@[simp] theorem bin_ns {H : AH} (z : Bool) : binOpA tab H .eql 26 .nilslice .nilslice z = some (.bool true, H) := by simp [binOpA, binA, eqA, nilI]
@[simp] theorem bin_nc {H : AH} {x : AV} {l : List AV} {f : Bool} (z : Bool) : binOpA tab H .eql 26 (.slice (x :: l) f) .nilslice z = some (.bool false, H) := by simp [binOpA, binA, eqA, nilI]
@[simp] theorem bin_ns' {H : AH} (z : Bool) : binOpA tab H .neq 26 .nilslice .nilslice z = some (.bool false, H) := by simp [binOpA, binA, eqA, nilI]
@[simp] theorem bin_nc' {H : AH} {x : AV} {l : List AV} {f : Bool} (z : Bool) : binOpA tab H .neq 26 (.slice (x :: l) f) .nilslice z = some (.bool true, H) := by simp [binOpA, binA, eqA, nilI]
end Go.Proofs.YtfjjckepnkkgjaaGreatDoor.Arm

namespace Go.Arm
open Go.RowKit
theorem fenced_wd {F : Fence} (hF : Wd F) (P : Program) : Machine.fenced P F = Machine.fenced P Fence.wide := by
  funext m
  apply propext
  exact ⟨fun _ => fenced_wide P m, fun _ => by
    intro g _
    exact ⟨fun h => (by rw [hF.1.2] at h; cases h), .inl (hF.2 _), fun f _ => hF.2 f, fun d hd => (by rw [hF.1.1] at hd; cases hd)⟩⟩
theorem callsIn_wd {F : Fence} (hF : Wd F) {n : Nat} {P : Program} {f : FuncId} {args : Array Value} {w : World} {R : Ending → World → Prop} (h : Calls P f args w R) : CallsIn F n P f args w R := by
  have h' := (callsIn_wide (n := n)).2 h
  refine ⟨hF.2 f, fun cs _ => ?_⟩
  rw [fenced_wd hF]
  exact h'.2 cs (room_wide _)
theorem sound_of_calls {E : Env} {f : FuncId} {args : List AV} {H H' : AH} {e : AEnd} (hb : HasBody E.P f)
    (h : ∀ (G : Gh) (w : World) (vs : Array Value), Inv E.Γ G w H → VL G w args vs.toList → Calls E.P f vs w fun r w' => ∃ G', Ext G w G' w' ∧ Inv E.Γ G' w' H' ∧ EndRel G' w' e r) : Sound E f args H e H' :=
  ⟨hb, fun _ _ hF G w vs hI hv => callsIn_wd hF (h G w vs hI hv)⟩
end Go.Arm

namespace Go.Proofs.YtfjjckepnkkgjaaGreatDoor.Arm
open Go.Arm Go.Pl
open Go.RowKit Go.Extern.Stop Go.Stop Go.Extern
def typeOfE : Array Value → Sem Value := Extern.ReflectliteType.typeOf
def compE : Array Value → Sem Value := Extern.ReflectliteType.method fun t => do Extern.Rtype.noPackHeld "Comparable" t; pure (.bool (← typeInfo t).comparable)
theorem eTypeOf (v : Value) (w : World) : (typeOfE #[.iface 38 v]).run Tryz.prog w = .ok (.iface 185 (.agg #[typeHandle Tryz.prog 38])) w := by kernel_rfl
theorem eComp (w : World) : (compE #[.agg #[typeHandle Tryz.prog 38]]).run Tryz.prog w = .ok (.bool true) w := by kernel_rfl
theorem eMethod (k : Nat) (v : Value) (w : World) : (Go.method (k + 1) 185 v "Comparable").run Tryz.prog w = .ok (244, v) w := by kernel_rfl
theorem eComparable : (Tryz.prog.info? 38).map (·.comparable) = some true := by kernel_rfl
theorem eNoIs (v : Value) (xT : TypeId) (w : World) : (Instr.typeAssert (.iface 38 v) xT 187 true).run Tryz.prog w = .ok (.tuple #[.nilIface, .bool false]) w := run_typeAssert_lacksB Tryz.underlying187 (by kernel_rfl) (by kernel_rfl) v xT w
theorem eNoUnwrap (v : Value) (xT : TypeId) (w : World) : (Instr.typeAssert (.iface 38 v) xT 190 true).run Tryz.prog w = .ok (.tuple #[.nilIface, .bool false]) w := run_typeAssert_lacksB Tryz.underlying190 (by kernel_rfl) (by kernel_rfl) v xT w
theorem eNoUnwraps (v : Value) (xT : TypeId) (w : World) : (Instr.typeAssert (.iface 38 v) xT 192 true).run Tryz.prog w = .ok (.tuple #[.nilIface, .bool false]) w := run_typeAssert_lacksB Tryz.underlying192 (by kernel_rfl) (by kernel_rfl) v xT w
theorem eEql (a b : Int) (w : World) : (binOp .eql 156 (.iface 38 (.int .i64 a)) (.iface 38 (.int .i64 b))).run Tryz.prog w = .ok (.bool (a == b)) w := Go.Lib.run_eql_iface_int w a b Tryz.underlying156 eComparable Tryz.underlying38
set_option maxRecDepth 100000 in
set_option maxHeartbeats 4000000 in
theorem callsIs (a b : Int) (w : World) :
    Calls Tryz.prog 55 #[.iface 38 (.int .i64 a), .iface 38 (.int .i64 b)] w fun e w' => e = .returned (.bool (a == b)) ∧ w' = w := by
  have h8 := @run_callFunc_extern Tryz.prog 95 _ typeOfE Tryz.func95 (by kernel_rfl) (by kernel_rfl) (by kernel_rfl) (by kernel_rfl)
  have h32 := @run_callFunc_extern Tryz.prog 244 _ compE Tryz.func244 (by kernel_rfl) (by kernel_rfl) (by kernel_rfl) (by kernel_rfl)
  have tT := eTypeOf
  have cT := eComp
  have mR := eMethod
  have nE := eNoIs
  have uE := eNoUnwrap
  have vE := eNoUnwraps
  have heq := eEql a b w
  cases hab : (a == b) with
  | true =>
    rw [hab] at heq
    go_enter Tryz.func55, Tryz.ntmps55
    go_wp2
    refine wp_loop_rounds 1 ?_
    rw [rounds_succ]
    go_wp2
    go_ret
    exact ⟨rfl, rfl⟩
  | false =>
    rw [hab] at heq
    go_enter Tryz.func55, Tryz.ntmps55
    go_wp2
    refine wp_loop_rounds 1 ?_
    rw [rounds_succ]
    go_wp2
    go_ret
    exact ⟨rfl, rfl⟩
def erA (e : Int) : AV := .iface 38 (.int .i64 e)
theorem eIs (a b : Int) (H : AH) : Sound E 55 [erA a, erA b] H (.ret (.bool (a == b))) H := by
  refine sound_of_calls ⟨_, Tryz.func55, rfl, by rfl⟩ (fun G w vs hI hv => ?_)
  obtain ⟨u1, u2, rfl, h1, h2⟩ : ∃ u1 u2, vs = #[u1, u2] ∧ VR G w (erA a) u1 ∧ VR G w (erA b) u2 := by
    obtain ⟨l⟩ := vs
    have hl := hv.1
    simp at hl
    match l, hl with
    | [u1, u2], _ => exact ⟨u1, u2, rfl, hv.2 0 _ _ rfl rfl, hv.2 1 _ _ rfl rfl⟩
  cases h1 with
  | iface h1 =>
    cases h1
    cases h2 with
    | iface h2 =>
      cases h2
      refine (callsIs a b w).mono ?_
      rintro e w' ⟨rfl, rfl⟩
      exact ⟨G, .refl _ _, hI, .bool _⟩
end Go.Proofs.YtfjjckepnkkgjaaGreatDoor.Arm

namespace Go.Proofs.YtfjjckepnkkgjaaGreatDoor.Arm
open Go.Arm Go.Pl
def hzA (c : Ct) (t last : Int) : AV := .agg [.int .i64 c.order, .int .i64 c.first, .int .i64 c.least, .int .i64 c.most, .int .i64 c.wide, .int .i64 t, .int .i64 last]
def intR : Except Int (List Sg) → AV
  | .ok l => .tuple [sgL l, .int .i64 0]
  | .error e => .tuple [.nilslice, .int .i64 e]
theorem pushSg {H J : AH} {v v0 : AV} {l : List Sg} {s : Sg} (hacc : Acc H J v 6 (l.map sgA) v0) (h0 : emptyA v0 = true) (hl : l.length ≤ 1000000000) :
    ∃ v' J', appendA tab (H ++ J) 37 v (.slice [sgA s] true) = some (v', H ++ J') ∧ Acc H J' v' 6 ((l ++ [s]).map sgA) v0 ∧ (∀ j y, J[j]? = some y → (∀ n, v ≠ .ref (H.length + j) n) → J'[j]? = some y) ∧ J.length ≤ J'.length ∧ (∀ j n, v' = .ref (H.length + j) n → (∃ m, v = .ref (H.length + j) m) ∨ J.length ≤ j) := by
  obtain ⟨v', J', hap, hacc', hk, hle, hn⟩ := Acc.push (T := tab) (t := 37) (e := 47) (x := .slice [sgA s] true) (ys := [sgA s]) hacc tab37 rfl tab47 h0 rfl (by simp [sgA, bx, okc]) ⟨by decide, by simp⟩ (by simp; omega) (by simp; omega)
  exact ⟨v', J', hap, by simpa using hacc', hk, hle, hn⟩
def LInt (T : Tp) (c : Ct) (t last : Int) (R : Except Int (List Sg)) (H : AH) (n : Nat) (fr : AFr) (H' : AH) : Prop :=
  ∃ l x t' h, fr 3 = .ptr H.length 1 0 0 ∧ fr 5 = .ptr (H.length + 1) 1 0 0 ∧ fr 9 = .ptr (H.length + 2) 1 0 0 ∧ fr 1 = bx x ∧ allV x ∧ x.length = T.n ∧ hzOk c t' last ∧ t' ≤ last ∧ (1 ≤ h ∧ h ≤ 1000000000) ∧
  l.length + n = 256 ∧ R = appS l (intS T c last n x t' h) ∧ ∃ J, H' = H ++ (.row true 3 [tpA T] :: .row true 7 [hzA c t last] :: .row true 8 [rqA ⟨c, t', last, h⟩] :: J) ∧ Acc (H ++ [.row true 3 [tpA T], .row true 7 [hzA c t last], .row true 8 [rqA ⟨c, t', last, h⟩]]) J (fr 8) 6 (l.map sgA) .nilslice
theorem accRebase {H H2 J : AH} {v v0 : AV} {sz : Nat} {l : List AV} (h : Arm.Acc H J v sz l v0) (hl : H2.length = H.length) : Arm.Acc H2 J v sz l v0 := by
  rcases h with h | ⟨k, h1, h2⟩
  · exact .inl h
  · exact .inr ⟨k, by rw [h1, hl], h2⟩
theorem finS2 {E : Env} {fr : AFr} {fn : Func} {t u : Tmp} {H0 J : AH} {v v0 w : AV} {sz : Nat} {xs : List AV} {e : AExit} (hr : fn.results.toList = [.tmp t, .tmp u]) (h : fr t = v) (h2 : fr u = w) (hw : ∀ H, conv H w = (w, H)) (hwn : noF H0.length w = true) (hacc : Arm.Acc H0 J v sz xs v0) (h0 : emptyA v0 = true) (hv : noFs H0.length xs = true)
    (hx : e = .ret ∨ e = .normal := by simp) : bodyK E fn H0 (.ret (.tuple [.slice xs false, w])) H0 e fr (H0 ++ J) := by
  obtain ⟨J', hc, _⟩ := hacc.conv h0
  have hnot : ∀ cs, v ≠ .agg cs := by
    rintro cs rfl
    rcases hacc with ⟨_, h2⟩ | ⟨k, h2, _⟩
    · rw [← h2] at h0; cases h0
    · cases h2
  have hcv : conv (H0 ++ J) v = conv1 (H0 ++ J) v := by cases v <;> first | rfl | exact absurd rfl (hnot _)
  exact finC (rs := [.tmp t, .tmp u]) (vs := [v, w]) (vs' := [.slice xs false, w]) (J' := J') hr (by simp [resA, h, h2]) (by simp only [convL, hcv, hc, hw]) (by simp [noFs, noF, hv, hwn]) rfl hx
set_option maxHeartbeats 1000000 in
theorem wIntegrate (T : Tp) (x : List I) (c : Ct) (t last : Int) (hT : tpOk T) (hx : allV x) (hxn : x.length = T.n) (hn : 1 ≤ T.n) (hk : hzOk c t last) (hv : validC c = true) (htl : t < last) (hi : 1 ≤ initS c (last - t) ∧ initS c (last - t) ≤ 1000000000) (H : AH) :
    Sound E 14 [tpA T, bx x, hzA c t last] H (.ret (intR (intS T c last 256 x t (initS c (last - t))))) H := by
  refine sound_of_awp tabOk mixed Tryz.func14 rfl (by rfl) Tryz.ntmps14 (by kernel_rfl) (by simp) ?_
  have hV := cValid c
  rw [hv] at hV
  have hres : (Tryz.f14).results.toList = [.tmp 6, .tmp 7] := rfl
  have kt := hk.t
  have kl := hk.last
  have n1 : numB t = true := numB_iff.2 (by omega)
  have n2 : numB last = true := numB_iff.2 (by omega)
  have hF1 := fValid t
  have hF2 := fValid last
  rw [n1] at hF1
  rw [n2] at hF2
  have h4 : ¬ last ≤ t := by omega
  have wsub : IntKind.i64.wrap (last - t) = last - t := wrap64 (by omega) (by omega)
  have hI := fun Hx => cInitial c (last - t) Hx
  have hor : ((c.order.toNat : Nat) : Int) = c.order := by have := hk.order; omega
  simp [tpA, hzA]
  refine call_ret (by simpa [ctA] using hV _) ?_
  simp
  refine call_ret (hF1 _) ?_
  simp
  refine call_ret (hF2 _) ?_
  simp [h4, wsub]
  refine callD_ret0 (fun Hx => by simpa [ctA] using hI Hx) ?_
  simp
  refine endD [(15, 16)] (by rfl) (by simp [okW, note, Eff.triv, Eff.wr, Eff.none, upTo, newAt]) ?_
  simp
  generalize hh0 : initS c (last - t) = h0 at *
  generalize hR : intS T c last 256 x t h0 = R
  refine loop_count (LInt T c t last R H) (fun n => n + 1) 256 ⟨[], x, t, h0, by simp, by simp, by simp, by simp [bx], hx, hxn, hk, by omega, hi, by simp, by rw [appS_nil, hR], [], by simp [tpA, hzA, rqA], .inl ⟨by simp, by simp⟩⟩ ?_
  clear hR hh0 hi hx hxn hI wsub h4 hF1 hF2 n1 n2 kt
  clear h0 x
  rintro n fr H' ⟨l, x, t', h, g3, g5, g9, g1, hx, hxn, hk', htl', hh, hln, hR, J, rfl, hacc⟩
  have kt := hk'.t
  simp [g3, g5, g9, hzA, rqA]
  refine branch (fun hc => ?_) (fun hc => ?_)
  · have hlt : t' < last := by simpa using hc
    have hw := hk'.rq hlt hh
    have hA := cAdvance T x ⟨c, t', last, h⟩ hT hx hxn hn hw
    rw [advO_eq] at hA
    cases hr : advS T x ⟨c, t', last, h⟩ with
    | none =>
      rw [hr] at hA
      rw [intS_none hlt hr] at hR
      simp [g1, g3, g9, tpA, rqA]
      refine call_ret (by simpa [tpA, rqA] using hA _) ?_
      simp [segC, zsA, erO, nxC]
      refine call_ret (by simpa [erA] using eIs 130 0 _) ?_
      simp
      rw [hR]
      exact ⟨[.nilslice, .int .i64 130], [.nilslice, .int .i64 130], by simp [hres, resA], .drop (by simp [noFs, noF]), rfl⟩
    | some s =>
      obtain ⟨a1, a2, a3, a4, a5⟩ := advS_ok hT hx hxn hw hr
      have hst : s.t = t' := a5.ht
      have hf : firstH ⟨c, t', last, h⟩ ≤ last - t' := by unfold firstH; simp only; omega
      rw [hr] at hA
      have w1 : IntKind.i64.wrap (s.t + s.h) = s.t + s.h := wrap64 (by omega) (by omega)
      simp [g1, g3, g9, tpA, rqA]
      refine call_ret (by simpa [tpA, rqA] using hA _) ?_
      simp [segC, sgA, bx, erO]
      refine call_ret (by simpa [erA] using eIs 0 0 _) ?_
      simp
      have hl3 : l.length ≤ 256 := by omega
      have hnx := nxS_b hk' hh (s := s) a2
      have hstep := hk'.step (t' := s.t + s.h) (by omega) (by omega)
      obtain ⟨v', J', hap, hacc', hold, _, _⟩ := pushSg (s := s) (hacc.len (L := [.row true 6 [sgA s]])) rfl (by omega)
      rcases hacc with ⟨h0, hv8⟩ | ⟨kk, hv8, hJk⟩
      · have hl0 : l = [] := by simpa using h0
        subst hl0
        obtain ⟨m, rfl⟩ : ∃ m, n = m + 1 := ⟨n - 1, by simp at hln; omega⟩
        rw [intS_some hlt hr, appS_cons] at hR
        have hs6 := hold J.length (.row true 6 [sgA s]) (by simp) (by rw [hv8]; intro n hh; cases hh)
        clear hold
        simp only [sgA, bx] at hs6
        simp [hv8]
        refine bind_some (by simpa [sgA, bx, tpA, hzA, rqA, hv8] using hap) ?_
        simp [g9, w1, hs6]
        refine endD [(9, 11)] (by rfl) (by simp [okW, note, Eff.triv, Eff.wr, Eff.none, upTo, newAt]) ?_
        simp
        exact ⟨m, by show m + 1 < m + 1 + 1; omega, [s], s.to, s.t + s.h, nxS ⟨c, t', last, h⟩ s, by simp [g3], by simp [g5], by simp [g9], by simp [bx], a5.vto, a5.nto, hstep, by omega, hnx, by simp at hln ⊢; omega, hR, J', by simp [tpA, hzA, rqA, nxC, nxS], by simpa using accRebase hacc' (by simp)⟩
      · have hkl := (List.getElem?_eq_some_iff.1 hJk).1
        have hJ2 := old hJk
        have hv9 : fr 8 = .ref (H.length + (kk + 3)) l.length := by rw [hv8]; simp; omega
        by_cases hn0 : n = 0
        · subst hn0
          rw [intS_full hlt hr] at hR
          have h256 : l.length = 256 := by omega
          simp [hv9, hJ2, h256]
          rw [hR]
          exact ⟨[.nilslice, .int .i64 140], [.nilslice, .int .i64 140], by simp [hres, resA], .drop (by simp [noFs, noF]), rfl⟩
        · obtain ⟨m, rfl⟩ : ∃ m, n = m + 1 := ⟨n - 1, by omega⟩
          rw [intS_some hlt hr, appS_cons] at hR
          have h256 : ((l.length : Int) == 256) = false := by rw [beq_eq_false_iff_ne]; omega
          have hs6 := hold J.length (.row true 6 [sgA s]) (by simp) (by rw [hv8]; intro n hh; simp at hh; omega)
          clear hold
          simp only [sgA, bx] at hs6
          simp [hv9, hJ2, h256]
          refine bind_some (by simpa [sgA, bx, tpA, hzA, rqA, hv9] using hap) ?_
          simp [g9, w1, hs6]
          refine endD [(9, 11)] (by rfl) (by simp [okW, note, Eff.triv, Eff.wr, Eff.none, upTo, newAt]) ?_
          simp
          exact ⟨m, by show m + 1 < m + 1 + 1; omega, l ++ [s], s.to, s.t + s.h, nxS ⟨c, t', last, h⟩ s, by simp [g3], by simp [g5], by simp [g9], by simp [bx], a5.vto, a5.nto, hstep, by omega, hnx, by simp; omega, hR, J', by simp [tpA, hzA, rqA, nxC, nxS], by simpa using accRebase hacc' (by simp)⟩
  · have hlt : ¬ t' < last := by simpa using hc
    rw [intS_end hlt] at hR
    have hR2 : R = .ok l := by rw [hR]; simp [appS]
    rw [hR2]
    simp
    exact finS2 (t := 6) (u := 7) hres (by simp) (by simp) (fun H => rfl) (by simp [noF]) (accBase hacc) rfl (sgs_noFs _ _)
end Go.Proofs.YtfjjckepnkkgjaaGreatDoor.Arm

namespace Go.Pl
def u32 (x : Int) : Int := x % 4294967296
end Go.Pl

namespace Go.Proofs.YtfjjckepnkkgjaaGreatDoor.Arm
open Go.Arm Go.Pl
theorem r14Control (o : Int) (ho : 0 ≤ o ∧ o ≤ 255) (H : AH) : Sound E 48 [.int .u8 o] H (.ret (ctA ⟨1 + o.tmod 3, 4096, 1024, 16384, 16777216⟩)) H := by
  refine sound_of_awp tabOk mixed Tryz.func48 rfl (by rfl) Tryz.ntmps48 (by kernel_rfl) (by simp) ?_
  have h1 := Int.tmod_nonneg 3 ho.1
  have h2 := Int.tmod_lt_of_pos o (b := 3) (by decide)
  have w0 : IntKind.u8.wrap (o.tmod 3) = o.tmod 3 := wrap8 (by omega) (by omega)
  have w1 : IntKind.i64.wrap (o.tmod 3) = o.tmod 3 := wrap64 (by omega) (by omega)
  have w2 : IntKind.i64.wrap (1 + o.tmod 3) = 1 + o.tmod 3 := wrap64 (by omega) (by omega)
  simp [w0, w1, w2]
  exact fin1 (rs := [.cell 2 32]) (by rfl) (by simp [resA, ctA]) (by simp [noF, noFs, ctA])
def ctS (o : Int) : Ct := ⟨1 + o.tmod 3, 4096, 1024, 16384, 16777216⟩
def hzT (t : Int) : Int := t.tmod 1048576
theorem r14Horizon (o t l : Int) (ho : 0 ≤ o ∧ o ≤ 255) (ht : -2147483648 ≤ t ∧ t ≤ 2147483647) (hl : 0 ≤ l ∧ l ≤ 65535) (H : AH) : Sound E 40 [.int .u8 o, .int .i32 t, .int .u16 l] H (.ret (hzA (ctS o) (hzT t) (hzT t + 1 + l))) H := by
  refine sound_of_awp tabOk mixed Tryz.func40 rfl (by rfl) Tryz.ntmps40 (by kernel_rfl) (by simp) ?_
  have hC := r14Control o ho
  obtain ⟨a, b⟩ := tmod_bounds t (b := 1048576) (by decide)
  have hb : -1048576 < t.tmod 1048576 ∧ t.tmod 1048576 < 1048576 := by
    by_cases hh : 0 ≤ t
    · have := a hh; omega
    · have := b (by omega); omega
  have w0 : IntKind.i64.wrap t = t := wrap64 (by omega) (by omega)
  have w1 : IntKind.i64.wrap (t.tmod 1048576) = t.tmod 1048576 := wrap64 (by omega) (by omega)
  have w2 : IntKind.i64.wrap (t.tmod 1048576 + 1) = t.tmod 1048576 + 1 := wrap64 (by omega) (by omega)
  have w3 : IntKind.i64.wrap l = l := wrap64 (by omega) (by omega)
  have w4 : IntKind.i64.wrap (t.tmod 1048576 + 1 + l) = t.tmod 1048576 + 1 + l := wrap64 (by omega) (by omega)
  simp [w0, w1]
  refine call_ret (hC _) ?_
  simp [w2, w3, w4, ctA]
  exact fin1 (rs := [.cell 6 34]) (by rfl) (by simp [resA, hzA, ctS, hzT]) (by simp [noF, noFs, hzA])
end Go.Proofs.YtfjjckepnkkgjaaGreatDoor.Arm

namespace Go.Proofs.YtfjjckepnkkgjaaGreatDoor.Arm
open Go.Arm Go.Pl
def toC (s : Sg) : C1.Seg := ⟨s.t, s.h, s.frm, s.pre, s.tube, s.to⟩
theorem sgs_C (l : List Sg) : l.map sgA = (l.map toC).map C1.sgm := by rw [List.map_map]; rfl
theorem boxB_C {n : Nat} (hn : 1 ≤ n ∧ n ≤ 6) {b : List I} (hv : allV b) (hl : b.length = n) : C1.boxB b = true := by
  unfold C1.boxB
  simp only [Bool.and_eq_true, List.all_eq_true, decide_eq_true_eq]
  exact ⟨⟨fun p hp => hv p hp, by omega⟩, by omega⟩
structure SgC (n : Nat) (x : List I) (t : Int) (s : Sg) : Prop where
  ht : s.t = t
  hx : s.frm = x
  vx : allV s.frm
  l1 : s.frm.length = n
  v2 : allV s.pre
  l2 : s.pre.length = n
  v3 : allV s.tube
  l3 : s.tube.length = n
  v4 : allV s.to
  l4 : s.to.length = n
  tb : -1000000000 ≤ s.t ∧ s.t ≤ 1000000000 ∧ 1 ≤ s.h ∧ s.h ≤ 1000000000 ∧ s.t + s.h ≤ 1000000000
theorem sgC {T : Tp} {c : Ct} {last : Int} {x : List I} {t : Int} {s : Sg} (hlt : last ≤ t + 1000000) (k : StOk T c last x t s) : SgC T.n x t s := by
  have e := k.ok.hx
  have et := k.ok.ht
  have bt := k.bt
  have bh := k.bh
  exact ⟨et, e, by rw [e]; exact k.vx, by rw [e]; exact k.nx, k.ok.vpre, k.ok.npre, k.ok.vtube, k.ok.ntube, k.ok.vto, k.ok.nto, by omega⟩
theorem chn_memC {Q R : List I → Int → Sg → Prop} : ∀ {l : List Sg} {x : List I} {t : Int}, (∀ x t s, s ∈ l → Q x t s → R x t s) → Chn Q x t l → Chn R x t l
  | [], _, _, _, _ => trivial
  | s :: l, _, _, h, hc => ⟨h _ _ _ (by simp) hc.1, chn_memC (fun x t r hr => h x t r (by simp [hr])) hc.2⟩
theorem numC {x : Int} (h : -2147483648 < x ∧ x < 2147483648) : C1.numB x = true := by unfold C1.numB; simp; exact h
theorem segC_ok {n : Nat} (hn : 1 ≤ n ∧ n ≤ 6) {x : List I} {t : Int} {s : Sg} (k : SgC n x t s) : C1.segB n t (toC s) = true := by
  have tb := k.tb
  have b : ∀ b : List I, allV b → b.length = n → C1.boxN n b = true := fun b hv hl => by
    unfold C1.boxN
    simp only [Bool.and_eq_true, beq_iff_eq]
    exact ⟨hl, boxB_C hn hv hl⟩
  unfold C1.segB
  simp only [Bool.and_eq_true, decide_eq_true_eq, beq_iff_eq, List.all_eq_true]
  refine ⟨⟨⟨⟨⟨tb.2.2.1, k.ht⟩, numC (by show _ < s.t ∧ s.t < _; omega)⟩, numC (by show _ < s.h ∧ s.h < _; omega)⟩, numC (by show _ < s.t + s.h ∧ s.t + s.h < _; omega)⟩, fun z hz => ?_⟩
  simp [C1.bxs, toC] at hz
  rcases hz with rfl | rfl | rfl | rfl
  · exact b _ k.vx k.l1
  · exact b _ k.v2 k.l2
  · exact b _ k.v3 k.l3
  · exact b _ k.v4 k.l4
theorem flowsC {n : Nat} (hn : 1 ≤ n ∧ n ≤ 6) : ∀ {l : List Sg} {x : List I} {t : Int}, Chn (SgC n) x t l → C1.flowsB n t (l.map toC) = true ∧ C1.chainB x (l.map toC) = true
  | [], _, _, _ => ⟨rfl, rfl⟩
  | s :: l, x, t, hc => by
    obtain ⟨h1, h2⟩ := flowsC hn hc.2
    have hs := segC_ok hn hc.1
    refine ⟨?_, ?_⟩
    · show (C1.segB n t (toC s) && C1.flowsB n (s.t + s.h) (l.map toC)) = true
      rw [hs, h1]; rfl
    · show (decide (s.frm = x) && C1.chainB s.to (l.map toC)) = true
      rw [h2]; simp [hc.1.hx]
theorem stepsC {n : Nat} (hn : 1 ≤ n ∧ n ≤ 6) {o : Int} (ho : 0 ≤ o ∧ o ≤ 7) : ∀ {l : List Sg} {x : List I} {t : Int}, Chn (SgC n) x t l → C1.stepsB n t (C1.steps o (l.map toC)) = true
  | [], _, _, _ => rfl
  | s :: l, x, t, hc => by
    have h2 := stepsC hn ho hc.2
    have k := hc.1
    have tb := k.tb
    have et := k.ht
    rw [et] at h2
    show (C1.stepB n t (C1.toStep o (toC s)) && C1.stepsB n (t + s.h) (C1.steps o (l.map toC))) = true
    rw [h2, Bool.and_true]
    unfold C1.stepB
    simp only [Bool.and_eq_true, decide_eq_true_eq, beq_iff_eq]
    exact ⟨⟨⟨⟨⟨⟨⟨⟨tb.2.2.1, numC (by show _ < s.h ∧ s.h < _; omega)⟩, ho.1⟩, ho.2⟩, boxB_C hn k.v2 k.l2⟩, boxB_C hn k.v4 k.l4⟩, k.l2⟩, k.l4⟩, numC (by show _ < t + s.h ∧ t + s.h < _; omega)⟩
theorem certC {n : Nat} (hn : 1 ≤ n ∧ n ≤ 6) {o : Int} (ho : 0 ≤ o ∧ o ≤ 7) {l : List Sg} {x : List I} {t : Int} (hc : Chn (SgC n) x t l) (hl : 1 ≤ l.length ∧ l.length ≤ 256) :
    C1.okFrom (l.map toC) o = true ∧ C1.certOf (l.map toC) o = ⟨t, x, C1.steps o (l.map toC)⟩ ∧ C1.certB (C1.certOf (l.map toC) o) = true := by
  obtain ⟨h1, h2⟩ := flowsC hn hc
  have h3 := stepsC hn ho hc
  cases l with
  | nil => simp at hl
  | cons s r =>
    have k := hc.1
    have tb := k.tb
    have e1 : (toC s).t = t := k.ht
    have e2 : (toC s).fr = x := k.hx
    have hxl : x.length = n := by rw [← k.hx]; exact k.l1
    have ec : C1.certOf ((s :: r).map toC) o = ⟨t, x, C1.steps o ((s :: r).map toC)⟩ := by
      show (⟨(toC s).t, (toC s).fr, C1.steps o ((s :: r).map toC)⟩ : C1.Cert) = _
      rw [e1, e2]
    refine ⟨?_, ec, ?_⟩
    · have hf : C1.flowB ((s :: r).map toC) = true := by
        show (decide (((s :: r).map toC).length ≤ 256) && C1.flowsB (toC s).fr.length (toC s).t ((s :: r).map toC)) = true
        rw [e1, e2, hxl, h1]
        simp at hl ⊢; omega
      show (C1.flowB ((s :: r).map toC) && decide (0 ≤ o) && decide (o < 8) && C1.chainB (toC s).fr ((s :: r).map toC)) = true
      rw [hf, e2, h2]
      simp; omega
    · rw [ec]
      unfold C1.certB
      simp only [Bool.and_eq_true, decide_eq_true_eq, C1.steps_len, List.length_map]
      refine ⟨⟨⟨⟨hl.1, hl.2⟩, numC (by rw [← k.ht]; omega)⟩, boxB_C hn (by rw [← k.hx]; exact k.vx) hxl⟩, ?_⟩
      rw [hxl]; exact h3
end Go.Proofs.YtfjjckepnkkgjaaGreatDoor.Arm

namespace Go.Proofs.YtfjjckepnkkgjaaGreatDoor.Arm
open Go.Arm Go.Pl
structure Cq where
  F : List (List Nd)
  X : List I
  order : Int
  t : Int
  last : Int
structure CqOk (q : Cq) : Prop where
  hF : ∀ r ∈ q.F, r.length ≤ 200000000000000
  hF2 : q.F.length ≤ 200000000000000
  hX : q.X.length ≤ 200000000000000
  ho : 0 ≤ q.order ∧ q.order ≤ 255
  ht : -2147483648 ≤ q.t ∧ q.t ≤ 2147483647
  hl : 0 ≤ q.last ∧ q.last ≤ 65535
def cqA (q : Cq) : AV := .agg [.slice (q.F.map xs) false, bx q.X, .int .u8 q.order, .int .i32 q.t, .int .u16 q.last]
def cqN (q : Cq) : Nat := (1 + q.order.tmod 2).toNat
def cqT (q : Cq) : Tp := cmpT (mds q.F 4 (cqN q) (cqN q))
def cqX (q : Cq) : List I := nrb q.X 4096 (cqN q)
theorem cqN_ok {q : Cq} (h : CqOk q) : (cqN q : Int) = 1 + q.order.tmod 2 ∧ 1 ≤ cqN q ∧ cqN q ≤ 2 := by
  have h2 := Int.tmod_nonneg 2 h.ho.1
  have h3 := Int.tmod_lt_of_pos q.order (b := 2) (by decide)
  unfold cqN
  omega
theorem cmpT_okC {F : List Ex} (h : F.length ≤ 1000) (hw : ∀ e ∈ F, wf F.length e = true) (hz : (F.map sz).sum ≤ 100000) : tpOk (cmpT F) := by
  obtain ⟨h1, h2, h3, h4⟩ := cmpAll_ok (F := F) (s := ([], [])) hw (fun i x hx => by simp at hx) (fun k hk => by simp at hk)
  exact ⟨h1, by simpa [cmpT] using h3, h2, h, by simp at h4; show (cmpAll F ([], [])).1.length ≤ 100000; omega⟩
theorem sum_leC {l : List Nat} {c : Nat} (h : ∀ x ∈ l, x ≤ c) : l.sum ≤ l.length * c := by
  induction l with
  | nil => simp
  | cons a l ih =>
    have h1 := ih fun x hx => h x (by simp [hx])
    have h2 := h a (by simp)
    simp only [List.sum_cons, List.length_cons]
    rw [Nat.add_mul]; omega
theorem mds_allC {l : List (List Nd)} {most N i : Nat} (hN : 0 < N) : ∀ e ∈ mds l most N i, sz e ≤ 31 ∧ wf N e = true := fun e he => by
  obtain ⟨k, _, rfl⟩ := List.mem_map.1 he
  exact ⟨mde_sz N _ most, mde_wf hN _ _⟩
theorem cqT_ok {q : Cq} (h : CqOk q) : tpOk (cqT q) ∧ (cqT q).n = cqN q := by
  obtain ⟨h1, h2, h3⟩ := cqN_ok h
  have hl := mds_len q.F 4 (cqN q) (cqN q)
  have ha := mds_allC (l := q.F) (most := 4) (i := cqN q) (N := cqN q) (by omega)
  have hs := sum_leC (l := (mds q.F 4 (cqN q) (cqN q)).map sz) (c := 31) (fun x hx => by obtain ⟨e, he, rfl⟩ := List.mem_map.1 hx; exact (ha e he).1)
  rw [List.length_map, hl] at hs
  refine ⟨cmpT_okC (by rw [hl]; omega) (fun e he => by rw [hl]; exact (ha e he).2) (by omega), hl⟩
theorem cqX_ok {q : Cq} (h : CqOk q) : allV (cqX q) ∧ (cqX q).length = (cqT q).n := ⟨nrb_valid _ (by omega) _, by rw [(cqT_ok h).2]; exact nrb_len _ _ _⟩
def sumH (l : List Sg) : Int := (l.map (·.h)).sum
theorem sumH_end : ∀ {l : List Sg} {t : Int}, Ctg t l → t + sumH l = endT t l
  | [], t, _ => by simp [sumH, endT]
  | s :: l, t, hc => by
    have h := sumH_end hc.2.2
    have e : sumH (s :: l) = s.h + sumH l := by simp [sumH]
    have e2 := hc.1
    rw [e]
    show _ = endT (s.t + s.h) l
    rw [← h]; omega
theorem sumH_succ {l : List Sg} {i : Nat} {s : Sg} (h : l[i]? = some s) : sumH (l.take (i + 1)) = sumH (l.take i) + s.h := by
  unfold sumH
  rw [List.take_add_one, h]
  simp
theorem sumH_b {l : List Sg} (h : ∀ s ∈ l, 0 ≤ s.h ∧ s.h ≤ 1000000000) : ∀ i, 0 ≤ sumH (l.take i) ∧ sumH (l.take i) ≤ 1000000000 * l.length := by
  intro i
  have key : ∀ m : List Sg, (∀ s ∈ m, 0 ≤ s.h ∧ s.h ≤ 1000000000) → 0 ≤ sumH m ∧ sumH m ≤ 1000000000 * m.length := by
    intro m
    induction m with
    | nil => intro _; simp [sumH]
    | cons a r ih =>
      intro hm
      have h1 := ih fun s hs => hm s (by simp [hs])
      have h2 := hm a (by simp)
      have e : sumH (a :: r) = a.h + sumH r := by simp [sumH]
      rw [e]; simp; omega
  have h1 := key (l.take i) fun s hs => h s (List.mem_of_mem_take hs)
  have h2 : (l.take i).length ≤ l.length := by simp; omega
  omega
theorem hzT_bC (t : Int) : -1048576 < hzT t ∧ hzT t < 1048576 := by
  obtain ⟨a, b⟩ := tmod_bounds t (b := 1048576) (by decide)
  unfold hzT
  by_cases hh : 0 ≤ t
  · have := a hh; omega
  · have := b (by omega); omega
theorem ctS_okC {o : Int} (ho : 0 ≤ o ∧ o ≤ 255) : validC (ctS o) = true ∧ 1 ≤ (ctS o).order ∧ (ctS o).order ≤ 3 := by
  have h1 := Int.tmod_nonneg 3 ho.1
  have h2 := Int.tmod_lt_of_pos o (b := 3) (by decide)
  refine ⟨?_, by show 1 ≤ 1 + o.tmod 3; omega, by show 1 + o.tmod 3 ≤ 3; omega⟩
  unfold validC ctS
  simp only [decide_eq_true_eq]
  omega
theorem cq_hz {q : Cq} (h : CqOk q) : hzOk (ctS q.order) (hzT q.t) (hzT q.t + 1 + q.last) ∧ hzT q.t < hzT q.t + 1 + q.last ∧ hzT q.t + 1 + q.last ≤ hzT q.t + 65536 ∧ (1 ≤ initS (ctS q.order) (hzT q.t + 1 + q.last - hzT q.t) ∧ initS (ctS q.order) (hzT q.t + 1 + q.last - hzT q.t) ≤ 4096) := by
  have hc := ctS_okC h.ho
  have ht := hzT_bC q.t
  have hl := h.hl
  have e : initS (ctS q.order) (hzT q.t + 1 + q.last - hzT q.t) = min 4096 (hzT q.t + 1 + q.last - hzT q.t) := rfl
  have m : (ctS q.order).most = 16384 := rfl
  have l : (ctS q.order).least = 1024 := rfl
  exact ⟨⟨by omega, by omega, by omega, by omega, by omega⟩, by omega, by omega, by omega⟩
end Go.Proofs.YtfjjckepnkkgjaaGreatDoor.Arm

namespace Go.Proofs.YtfjjckepnkkgjaaGreatDoor.Arm.C1
open Go.Arm
theorem byteL_vb (u : Nat) : byteL (vb u) := by
  induction u using Nat.strongRecOn with
  | ind u ih =>
    by_cases h : u < 128
    · rw [vb_small h]; intro x hx; simp at hx; omega
    · rw [vb_big h]
      intro x hx
      simp only [List.mem_cons] at hx
      rcases hx with rfl | hx
      · omega
      · exact ih (u / 128) (by omega) x hx
theorem byteL_app {a b : List Int} (h : byteL a) (k : byteL b) : byteL (a ++ b) := fun x hx => by
  rcases List.mem_append.1 hx with h1 | h1
  · exact h x h1
  · exact k x h1
theorem byteL_flat {α : Type} {f : α → List Int} {l : List α} (h : ∀ a, byteL (f a)) : byteL (l.flatMap f) := fun x hx => by
  obtain ⟨a, _, ha⟩ := List.mem_flatMap.1 hx; exact h a x ha
theorem byteL_box (b : Box) : byteL (boxBytes b) := byteL_flat fun p => byteL_app (byteL_vb _) (byteL_vb _)
theorem byteL_enc (c : Cert) : byteL (encB c) :=
  byteL_app (byteL_app (byteL_app (byteL_app (byteL_vb _) (byteL_vb _)) (byteL_box _)) (byteL_vb _)) (byteL_flat fun s => byteL_app (byteL_app (byteL_app (byteL_vb _) (byteL_vb _)) (byteL_box _)) (byteL_box _))
end Go.Proofs.YtfjjckepnkkgjaaGreatDoor.Arm.C1
namespace Go.Proofs.YtfjjckepnkkgjaaGreatDoor.Arm
open Go.Arm Go.Pl
def stA (o : Int) (s : Sg) : AV := .agg [.int .i64 s.h, .int .i64 o, bx s.pre, bx s.to]
def cA (t : Int) (x : List I) (o : Int) (l : List Sg) : AV := .agg [.int .i64 t, bx x, .slice (l.map (stA o)) false]
theorem stps_C (o : Int) (l : List Sg) : (C1.steps o (l.map toC)).map C1.stp = l.map (stA o) := by
  unfold C1.steps
  rw [List.map_map, List.map_map]
  rfl
section
variable {n : Nat} {x : List I} {t o : Int} {l : List Sg} (hn : 1 ≤ n ∧ n ≤ 6) (ho : 0 ≤ o ∧ o ≤ 7) (hc : Chn (SgC n) x t l) (hl : 1 ≤ l.length ∧ l.length ≤ 256)
include hn ho hc hl in
theorem crt_C : C1.crt (C1.certOf (l.map toC) o) = cA t x o l := by
  obtain ⟨h1, h2, h3⟩ := certC hn ho hc hl
  rw [h2]
  show AV.agg [.int .i64 t, bx x, .slice ((C1.steps o (l.map toC)).map C1.stp) false] = _
  rw [stps_C]; rfl
include hn ho hc hl in
theorem fFrom (H : AH) : Sound E 41 [sgL l, .int .i64 o] H (.ret (.tuple [cA t x o l, .bool true])) H := by
  obtain ⟨h1, h2, h3⟩ := certC hn ho hc hl
  have h := C1.s14 (l.map toC) o (by simp; omega) (fun s hs b hb => by
    obtain ⟨r, hr, rfl⟩ := List.mem_map.1 hs
    obtain ⟨i, hi1, hi2⟩ := List.getElem_of_mem hr
    obtain ⟨x', t', k⟩ := hc.get i r (by rw [List.getElem?_eq_getElem hi1, hi2])
    have l1 := k.l1; have l2 := k.l2; have l3 := k.l3; have l4 := k.l4
    simp [C1.bxs, toC] at hb
    rcases hb with rfl | rfl | rfl | rfl <;> omega) H
  unfold C1.fromSegs at h
  rw [h1, if_pos rfl, crt_C hn ho hc hl, ← sgs_C] at h
  exact h
include hn ho hc hl in
theorem fValidC (H : AH) : Sound E 42 [cA t x o l] H (.ret (.bool true)) H := by
  obtain ⟨h1, h2, h3⟩ := certC hn ho hc hl
  rw [← crt_C hn ho hc hl]
  exact C1.v20 (C1.certB_ok h3) h3 H
include hn ho hc hl in
theorem fEncC (H : AH) : Sound E 44 [cA t x o l] H (.ret (.slice ((C1.encB (C1.certOf (l.map toC) o)).map C1.u8) false)) H := by
  obtain ⟨h1, h2, h3⟩ := certC hn ho hc hl
  rw [← crt_C hn ho hc hl]
  exact C1.v17 (C1.certB_ok h3) H
include hn ho hc hl in
theorem fDecC (H : AH) : Sound E 43 [.slice ((C1.encB (C1.certOf (l.map toC) o)).map C1.u8) false] H (.ret (.tuple [cA t x o l, .int .i64 0])) H := by
  obtain ⟨h1, h2, h3⟩ := certC hn ho hc hl
  rw [← crt_C hn ho hc hl]
  have hk := C1.certB_ok h3
  exact C1.v18 (C1.byteL_enc _) (by have := C1.encB_len hk; omega) (C1.decEnd_ok (C1.dec_enc h3)) H
include hn ho hc hl in
theorem fSameC (H : AH) : Sound E 45 [cA t x o l, cA t x o l] H (.ret (.bool true)) H := by
  obtain ⟨h1, h2, h3⟩ := certC hn ho hc hl
  rw [← crt_C hn ho hc hl]
  have := C1.v16 (c := C1.certOf (l.map toC) o) (d := C1.certOf (l.map toC) o) (C1.certB_ok h3) H
  rwa [decide_eq_true rfl] at this
end
end Go.Proofs.YtfjjckepnkkgjaaGreatDoor.Arm

namespace Go.Proofs.YtfjjckepnkkgjaaGreatDoor.Arm
open Go.Arm Go.Pl
def LCf (q : Cq) (T : Tp) (c : Ct) (t0 t1 : Int) (X : List I) (l : List Sg) (H : AH) (i : Nat) (fr : AFr) (H' : AH) : Prop :=
  fr 3 = .bool true ∧ fr 6 = .ptr (H.length + 2) 1 0 0 ∧ fr 8 = sgL l ∧ fr 10 = .ptr (H.length + 3) 1 0 0 ∧ fr 12 = .int .i64 (sumH (l.take i)) ∧ fr 13 = .int .i64 i ∧ i ≤ l.length ∧
  H' = H ++ [.row true 5 [cqA q], .row true 3 [tpA T], .row true 7 [hzA c t0 t1], .row true 3 [cA t0 X c.order l]]
set_option maxRecDepth 100000 in
set_option maxHeartbeats 4000000 in
theorem lCertFlow (q : Cq) (hq : CqOk q) (H : AH) : Sound E 11 [cqA q] H (.ret (.bool true)) H := by
  refine sound_of_awp tabOk mixed Tryz.func11 rfl (by rfl) Tryz.ntmps11 (by kernel_rfl) (by simp) ?_
  obtain ⟨hN, hN1, hN2⟩ := cqN_ok hq
  obtain ⟨hT, hTn⟩ := cqT_ok hq
  obtain ⟨hX, hXn⟩ := cqX_ok hq
  have hZ := fun Hx => r14Horizon q.order q.t q.last hq.ho hq.ht hq.hl Hx
  have hB := fun Hx => r8Boxes q.X (cqN q) 4096 (by omega) (by decide) hq.hX Hx
  have eX : nrb q.X 4096 (cqN q) = cqX q := rfl
  rw [eX] at hB
  have ha := mds_allC (l := q.F) (most := 4) (i := cqN q) (N := cqN q) (by omega)
  have hl := mds_len q.F 4 (cqN q) (cqN q)
  have hC := r8Compile ⟨nms.take (cqN q), mds q.F 4 (cqN q) (cqN q)⟩ (by show 0 < (mds q.F 4 (cqN q) (cqN q)).length ∧ _; rw [hl]; omega) (fun e he => (ha e he).1)
  have hC' : ∀ Hx, Sound E 38 [sys ⟨nms.take (cqN q), mds q.F 4 (cqN q) (cqN q)⟩] Hx (.ret (tpA (cqT q))) Hx := hC
  have hMd := fun Hx => r7MadeSystem q.F 4 (cqN q) ⟨by omega, by omega⟩ (by decide) hq.hF hq.hF2 Hx
  have wk : IntKind.i64.wrap q.order = q.order := wrap64 (by have := hq.ho; omega) (by have := hq.ho; omega)
  have w0 : IntKind.i64.wrap (q.order.tmod 2) = q.order.tmod 2 := wrap64 (by omega) (by omega)
  have w1 : IntKind.i64.wrap (1 + q.order.tmod 2) = (cqN q : Int) := by rw [← hN]; exact wrap64 (by omega) (by omega)
  have hv := (ctS_okC hq.ho).1
  have ho := (ctS_okC hq.ho).2
  obtain ⟨hk, hlt, hle, hi⟩ := cq_hz hq
  have hn6 : 1 ≤ (cqT q).n ∧ (cqT q).n ≤ 6 := by omega
  generalize hSys : sys ⟨nms.take (cqN q), mds q.F 4 (cqN q) (cqN q)⟩ = S at *
  generalize cqT q = T at *
  generalize cqX q = X at *
  generalize hzT q.t = t0 at *
  generalize t0 + 1 + q.last = t1 at *
  generalize ctS q.order = c at *
  generalize hNe : cqN q = N at *
  have hI := fun Hx => wIntegrate T X c t0 t1 hT hX hXn hn6.1 hk hv hlt (by omega) Hx
  have hchn := fun l => intS_chn (l := l) (n := 256) hT hk (by omega) (h := initS c (t1 - t0)) (by omega) hX hXn
  have fin : ∀ {fr : AFr} {J : AH} {e : AExit}, fr 2 = .bool true → (e = .ret ∨ e = .normal) → bodyK E Tryz.f11 H (.ret (.bool true)) H e fr (H ++ J) := fun h he => fin1 (rs := [.tmp 2]) (by rfl) (by simp [resA, h]) (by simp [noF]) he
  simp [cqA]
  refine call_ret (C1.s9 _) ?_
  simp [wk, w0, w1]
  refine callD_ret0 (fun Hx => hMd Hx) ?_
  simp
  refine callD_ret0 (fun Hx => hC' Hx) ?_
  simp
  refine callD_ret0 (fun Hx => hZ Hx) ?_
  simp
  refine callD_ret0 (fun Hx => by simpa [bx] using hB Hx) ?_
  simp [tpA, hzA, outA]
  refine endD [(16, 18), (17, 19), (18, 19)] (by rfl) (by simp [okW, note, Eff.triv, Eff.wr, Eff.none, upTo, newAt]) ?_
  simp
  cases hR : intS T c t1 256 X t0 (initS c (t1 - t0)) with
  | error e =>
    rw [hR] at hI
    rcases intS_err hR with rfl | rfl
    · refine call_ret (by simpa [tpA, outA, bx, hzA] using hI _) ?_
      simp [intR]
      exact fin (by simp) (by simp)
    · refine call_ret (by simpa [tpA, outA, bx, hzA] using hI _) ?_
      simp [intR]
      exact fin (by simp) (by simp)
  | ok l =>
    rw [hR] at hI
    obtain ⟨hl2, hc0, hend, hl1⟩ := hchn l hR
    have hl1 := hl1 hlt
    have hctg : Ctg t0 l := hc0.ctg fun x t s k => ⟨k.ok.ht, k.bh.1⟩
    have hcn : Chn (SgC T.n) X t0 l := chn_memC (fun x t s hs k => sgC (by have := (hctg.ge s hs).1; have := k.ok.ht; omega) k) hc0
    have hoo : 0 ≤ c.order ∧ c.order ≤ 7 := by omega
    have hlen : 1 ≤ l.length ∧ l.length ≤ 256 := ⟨hl1, hl2⟩
    have all : ∀ s ∈ l, ∃ x t, SgC T.n x t s := fun s hs => by
      obtain ⟨i, hi1, hi2⟩ := List.getElem_of_mem hs
      exact hcn.get i s (by rw [List.getElem?_eq_getElem hi1, hi2])
    have hF := fun Hx => fFrom hn6 hoo hcn hlen Hx
    have hV := fun Hx => fValidC hn6 hoo hcn hlen Hx
    have hEn := fun Hx => fEncC hn6 hoo hcn hlen Hx
    have hDe := fun Hx => fDecC hn6 hoo hcn hlen Hx
    have hSa := fun Hx => fSameC hn6 hoo hcn hlen Hx
    have hXS := fun Hx => r3Same X X (by omega) (by omega) Hx
    simp only [decide_true] at hXS
    have hsum := sumH_end hctg
    rw [hend] at hsum
    have hsb := sumH_b (l := l) (fun s hs => by obtain ⟨x, t, k⟩ := all s hs; have := k.tb; omega)
    generalize hbs : (C1.encB (C1.certOf (l.map toC) c.order)).map C1.u8 = bs at *
    have hne : ((l.length : Int) == 0) = false := by rw [beq_eq_false_iff_ne]; omega
    clear hchn hc0
    simp only [cA, bx, sgL] at hF hV hXS
    refine call_ret (by simpa [tpA, outA, bx, hzA, intR, sgL] using hI _) ?_
    simp
    refine call_ret (hF _) ?_
    simp
    refine call_ret (hV _) ?_
    simp
    refine call_ret (hXS _) ?_
    simp
    refine loop_count (LCf q T c t0 t1 X l H) (fun i => l.length - i) 0 ⟨by simp, by simp, by simp [sgL], by simp, by simp [sumH], by simp, by omega, by simp [cqA, tpA, outA, hzA, cA, bx]⟩ ?_
    rintro i fr H' ⟨g3, g6, g8, g10, g12, g13, hil, rfl⟩
    simp [g8, g13, sgL]
    refine branch (fun hcc => ?_) (fun hcc => ?_)
    · have hlt2 : i < l.length := by simpa using hcc
      obtain ⟨s, hs⟩ := get_lt hlt2
      have hsE : ∀ h, l[i]'h = s := fun h => (List.getElem?_eq_some_iff.1 hs).2
      obtain ⟨x, t, k⟩ := all s (List.mem_of_getElem? hs)
      have w2 : IntKind.i64.wrap ((i : Int) + 1) = ((i + 1 : Nat) : Int) := by rw [wrap64 (by omega) (by omega)]; omega
      have tb := k.tb
      have hsi := hsb i
      have hnx := sumH_succ hs
      have w3 : IntKind.i64.wrap (sumH (l.take i) + s.h) = sumH (l.take (i + 1)) := by rw [hnx]; exact wrap64 (by omega) (by omega)
      have l2 := k.l2; have l4 := k.l4
      have b1 := r3Same s.pre s.pre (by omega) (by omega)
      have b2 := r3Same s.to s.to (by omega) (by omega)
      simp only [decide_true, bx] at b1 b2
      simp [g6, g8, g10, g12, g13, sgL, hs, hsE, sgA, bx, cA, stA, hzA]
      refine callD_ret0 (fun Hx => b1 Hx) ?_
      simp [g6, g8, g10, g12, g13, sgL, hs, hsE, sgA, bx, cA, stA, hzA]
      refine callD_ret0 (fun Hx => b2 Hx) ?_
      simp
      refine endD [] (by rfl) (by simp [okW, note, Eff.triv, Eff.wr, Eff.none, upTo, newAt]) ?_
      simp [g10, g12, g13, cA, stA, hs, hsE, bx, w2, w3]
      exact ⟨i + 1, by show l.length - (i + 1) < l.length - i; omega, by simp [g3], by simp [g6], by simp [g8, sgL], by simp [g10], by simp, by simp, by omega, by simp [cqA, tpA, outA, hzA, cA, bx]⟩
    · have hi2 : i = l.length := by
        have : ¬ i < l.length := by simpa using hcc
        omega
      subst hi2
      rw [List.take_length] at g12
      have kt := hk.t
      have kl := hk.last
      have w4 : IntKind.i64.wrap (t1 - t0) = t1 - t0 := wrap64 (by omega) (by omega)
      have w5 : IntKind.i64.wrap (t0 + sumH l) = t1 := by rw [hsum]; exact wrap64 (by omega) (by omega)
      have e5 : sumH l = t1 - t0 := by omega
      have hNb := fun Hx => rNumber t1 Hx
      rw [numB_iff.2 (by omega)] at hNb
      simp only [cA, bx] at hEn hDe hSa
      simp [g10, cA, bx]
      refine call_ret (hEn _) ?_
      simp
      refine call_ret (hDe _) ?_
      simp [g6, g10, g12, hzA, w4, e5, cA, bx]
      refine call_ret (hSa _) ?_
      simp [g10, g12, cA, w5]
      refine call_ret (hNb _) ?_
      simp [g3]
      exact fin (by simp) (by simp)
end Go.Proofs.YtfjjckepnkkgjaaGreatDoor.Arm

namespace Go.Arm
theorem list_of {α : Type} {f : α → AV} {p : α → Prop} : ∀ {xs : List AV}, (∀ x ∈ xs, ∃ a, x = f a ∧ p a) → ∃ l : List α, xs = l.map f ∧ ∀ a ∈ l, p a
  | [], h => ⟨[], rfl, fun a ha => by cases ha⟩
  | x :: r, h => by
    obtain ⟨a, rfl, ha⟩ := h x (by simp)
    obtain ⟨l, rfl, hl⟩ := list_of (xs := r) (fun y hy => h y (by simp [hy]))
    exact ⟨a :: l, rfl, fun b hb => by
      rcases List.mem_cons.1 hb with rfl | hb
      · exact ha
      · exact hl b hb⟩
theorem okL_cons {ok : TypeId → AV → Prop} {f : TypeId × Nat} {fs : List (TypeId × Nat)} {vs : List AV} (h : OkL ok (f :: fs) vs) : ∃ v vs', vs = v :: vs' ∧ ok f.1 v ∧ OkL ok fs vs' := by
  cases vs with
  | nil => exact h.elim
  | cons v vs' => exact ⟨v, vs', rfl, h.1, h.2⟩
theorem okL_nil {ok : TypeId → AV → Prop} {vs : List AV} (h : OkL ok [] vs) : vs = [] := by
  cases vs with
  | nil => rfl
  | cons v vs' => exact h.elim
section
variable {tab : Tab}
theorem okInt {n : Nat} {t : TypeId} {i : TI} {k : IntKind} {v : AV} (hi : tab t = some i) (hd : i.d = .int k) (h : OkA tab (n + 1) t v) : ∃ x, v = .int k x ∧ (Lit.int k x).wf = true := by
  unfold OkA at h
  rw [hi] at h
  simp only [hd] at h
  exact h
theorem okSlice {n : Nat} {t e : TypeId} {i ie : TI} {v : AV} (hi : tab t = some i) (hd : i.d = .slice e) (he : tab e = some ie) (h : OkA tab (n + 1) t v) : ∃ xs, v = .slice xs false ∧ (∀ x ∈ xs, OkA tab n e x) ∧ xs.length * ie.bytes ≤ reachBytes ∧ xs.length ≤ maxLen := by
  unfold OkA at h
  rw [hi] at h
  simp only [hd] at h
  obtain ⟨xs, h1, h2, h3, h4⟩ := h
  exact ⟨xs, h1, h2, h3 ie he, h4⟩
theorem okStruct {n : Nat} {t : TypeId} {i : TI} {fs : List (TypeId × Nat)} {v : AV} (hi : tab t = some i) (hd : i.d = .struct fs) (h : OkA tab (n + 1) t v) : ∃ vs : List AV, v = .agg (vs.flatMap AV.cells) ∧ OkL (OkA tab n) fs vs := by
  unfold OkA at h
  rw [hi] at h
  simp only [hd] at h
  exact h
theorem okRow {α : Type} {f : α → AV} {p : α → Prop} {n : Nat} {t e : TypeId} {i ie : TI} {v : AV} (hi : tab t = some i) (hd : i.d = .slice e) (he : tab e = some ie) (hb : 0 < ie.bytes) (hf : ∀ x, OkA tab n e x → ∃ a, x = f a ∧ p a) (h : OkA tab (n + 1) t v) :
    ∃ l : List α, v = .slice (l.map f) false ∧ (∀ a ∈ l, p a) ∧ l.length ≤ 140737488351232 := by
  obtain ⟨xs, rfl, h1, h2, h3⟩ := okSlice hi hd he h
  obtain ⟨l, rfl, hl⟩ := list_of (f := f) (p := p) (fun x hx => hf x (h1 x hx))
  refine ⟨l, rfl, hl, ?_⟩
  have e : reachBytes = 140737488351232 := rfl
  rw [e, List.length_map] at h2
  exact Nat.le_trans (Nat.le_mul_of_pos_right _ hb) h2
end
theorem okArgs1 {T : Tab} {m : Nat} {a : TypeId} {av : List AV} (h : OkArgs T m [a] av) : ∃ x, av = [x] ∧ OkA T m a x := by
  match av, h with
  | [x], h => exact ⟨x, rfl, h.1⟩
theorem wfI {k : IntKind} {x : Int} (h : (Lit.int k x).wf = true) : k.min ≤ x ∧ x ≤ k.max := by
  simp [Lit.wf] at h
  exact h
theorem wfU8 {x : Int} (h : (Lit.int .u8 x).wf = true) : 0 ≤ x ∧ x ≤ 255 := by have := wfI h; simp [IntKind.min, IntKind.max, IntKind.signed, IntKind.bits] at this; exact this
theorem wfU16 {x : Int} (h : (Lit.int .u16 x).wf = true) : 0 ≤ x ∧ x ≤ 65535 := by have := wfI h; simp [IntKind.min, IntKind.max, IntKind.signed, IntKind.bits] at this; exact this
theorem wfI32 {x : Int} (h : (Lit.int .i32 x).wf = true) : -2147483648 ≤ x ∧ x ≤ 2147483647 := by have := wfI h; simp [IntKind.min, IntKind.max, IntKind.signed, IntKind.bits] at this; exact this
end Go.Arm

namespace Go.Proofs.YtfjjckepnkkgjaaGreatDoor.Arm
open Go.Arm Go.Pl
theorem okIv {n : Nat} {v : AV} (h : OkA tab (n + 2) 54 v) : ∃ p : I, v = iv p ∧ True := by
  obtain ⟨vs, rfl, hv⟩ := okStruct tab54 rfl h
  obtain ⟨a, vs, rfl, ha, hv⟩ := okL_cons hv
  obtain ⟨b, vs, rfl, hb, hv⟩ := okL_cons hv
  cases okL_nil hv
  obtain ⟨x, rfl, hx⟩ := okInt tab2 rfl ha
  obtain ⟨y, rfl, hy⟩ := okInt tab2 rfl hb
  exact ⟨(x, y), rfl, trivial⟩
theorem okNd {n : Nat} {v : AV} (h : OkA tab (n + 3) 167 v) : ∃ p : Nd, v = nd p ∧ True := by
  obtain ⟨vs, rfl, hv⟩ := okStruct tab167 rfl h
  obtain ⟨a, vs, rfl, ha, hv⟩ := okL_cons hv
  obtain ⟨b, vs, rfl, hb, hv⟩ := okL_cons hv
  obtain ⟨c, vs, rfl, hc, hv⟩ := okL_cons hv
  cases okL_nil hv
  obtain ⟨x, rfl, hx⟩ := okInt tab3 rfl ha
  obtain ⟨y, rfl, hy⟩ := okInt tab3 rfl hb
  obtain ⟨p, rfl, -⟩ := okIv hc
  exact ⟨⟨x, y, p⟩, rfl, trivial⟩
theorem okXs {n : Nat} {v : AV} (h : OkA tab (n + 4) 136 v) : ∃ l : List Nd, v = xs l ∧ l.length ≤ 140737488351232 := by
  obtain ⟨l, rfl, _, hl⟩ := okRow (f := nd) tab136 rfl tab167 (by decide) (fun x hx => okNd hx) h
  exact ⟨l, rfl, hl⟩
theorem okBx {n : Nat} {v : AV} (h : OkA tab (n + 3) 26 v) : ∃ l : List I, v = bx l ∧ l.length ≤ 140737488351232 := by
  obtain ⟨l, rfl, _, hl⟩ := okRow (f := iv) tab26 rfl tab54 (by decide) (fun x hx => okIv hx) h
  exact ⟨l, rfl, hl⟩
theorem okXss {n : Nat} {v : AV} (h : OkA tab (n + 5) 85 v) : ∃ l : List (List Nd), v = .slice (l.map xs) false ∧ (∀ r ∈ l, r.length ≤ 140737488351232) ∧ l.length ≤ 140737488351232 := by
  obtain ⟨l, rfl, hr, hl⟩ := okRow (f := xs) tab85 rfl tab136 (by decide) (fun x hx => okXs hx) h
  exact ⟨l, rfl, hr, hl⟩
theorem okCq {n : Nat} {v : AV} (h : OkA tab (n + 7) 87 v) : ∃ q, v = cqA q ∧ CqOk q := by
  obtain ⟨vs, rfl, hv⟩ := okStruct tab87 rfl h
  obtain ⟨a, vs, rfl, ha, hv⟩ := okL_cons hv
  obtain ⟨b, vs, rfl, hb, hv⟩ := okL_cons hv
  obtain ⟨c, vs, rfl, hc, hv⟩ := okL_cons hv
  obtain ⟨d, vs, rfl, hd, hv⟩ := okL_cons hv
  obtain ⟨e, vs, rfl, he, hv⟩ := okL_cons hv
  cases okL_nil hv
  obtain ⟨F, rfl, h1, h2⟩ := okXss ha
  obtain ⟨x, rfl, h4⟩ := okBx hb
  obtain ⟨o, rfl, ho⟩ := okInt tab5 rfl hc
  obtain ⟨t, rfl, ht⟩ := okInt tab21 rfl hd
  obtain ⟨l, rfl, hl⟩ := okInt tab27 rfl he
  exact ⟨⟨F, x, o, t, l⟩, rfl, ⟨fun r hr => by have := h1 r hr; omega, by show F.length ≤ _; omega, by show x.length ≤ _; omega, wfU8 ho, wfI32 ht, wfU16 hl⟩⟩
end Go.Proofs.YtfjjckepnkkgjaaGreatDoor.Arm

namespace Go.Proofs.YtfjjckepnkkgjaaGreatDoor.Arm
open Go.Arm Go.Pl Go.ChangeShapes Go.WideShapes Go.ChangeAt Go.RowKit
theorem own : ownKnob Tryz.prog.godebug = none := by kernel_rfl
theorem laidOut : laidOutB Tryz.prog = true := by kernel_rfl
def laidL : List (String × DataW Unit) := [("armillary/interval.products", Rows.laid_armillary_interval_products), ("armillary/interval.quotients", Rows.laid_armillary_interval_quotients), ("armillary/tape.ops", Rows.laid_armillary_tape_ops)]
theorem door_met (os : Os) (args : Array Value) : laidMetH Tryz.prog laidL ((World.doorLaid Tryz.prog 600 os).forCall (fun _ _ => 0) ⟨#[], args, []⟩).memory :=
  laidMetH_of_parts3 (fuel := 12) (laidMet_of_run' 8 (by kernel_rfl) (by kernel_rfl)) (by kernel_rfl) (by kernel_rfl)
def fnames : List (List UInt8 × FuncId) := [([97, 114, 109, 105, 108, 108, 97, 114, 121, 47, 105, 110, 116, 101, 114, 118, 97, 108, 46, 104, 104], 255), ([97, 114, 109, 105, 108, 108, 97, 114, 121, 47, 105, 110, 116, 101, 114, 118, 97, 108, 46, 108, 108], 256), ([97, 114, 109, 105, 108, 108, 97, 114, 121, 47, 105, 110, 116, 101, 114, 118, 97, 108, 46, 108, 104], 257), ([97, 114, 109, 105, 108, 108, 97, 114, 121, 47, 105, 110, 116, 101, 114, 118, 97, 108, 46, 104, 108], 258), ([97, 114, 109, 105, 108, 108, 97, 114, 121, 47, 105, 110, 116, 101, 114, 118, 97, 108, 46, 78, 101, 103], 184), ([97, 114, 109, 105, 108, 108, 97, 114, 121, 47, 105, 110, 116, 101, 114, 118, 97, 108, 46, 83, 113, 117, 97, 114, 101], 186), ([97, 114, 109, 105, 108, 108, 97, 114, 121, 47, 116, 97, 112, 101, 46, 114, 111, 111, 116], 259), ([97, 114, 109, 105, 108, 108, 97, 114, 121, 47, 105, 110, 116, 101, 114, 118, 97, 108, 46, 65, 100, 100], 175), ([97, 114, 109, 105, 108, 108, 97, 114, 121, 47, 105, 110, 116, 101, 114, 118, 97, 108, 46, 83, 117, 98], 185), ([97, 114, 109, 105, 108, 108, 97, 114, 121, 47, 105, 110, 116, 101, 114, 118, 97, 108, 46, 77, 117, 108], 174), ([97, 114, 109, 105, 108, 108, 97, 114, 121, 47, 105, 110, 116, 101, 114, 118, 97, 108, 46, 68, 105, 118], 207)]
theorem fnames_ok : ∀ p ∈ fnames, ((List.range Tryz.prog.funcs.size).filter fun f => (Tryz.prog.funcs[f]?).any (·.name.toUTF8.data.toList == p.1)) = [p.2] := by
  intro p hp
  simp only [fnames, List.mem_cons, List.not_mem_nil, or_false] at hp
  rcases hp with rfl | rfl | rfl | rfl | rfl | rfl | rfl | rfl | rfl | rfl | rfl <;> kernel_rfl
theorem fnames_ne : ∀ p ∈ fnames, p.1 ≠ [] := by
  intro p hp
  simp only [fnames, List.mem_cons, List.not_mem_nil, or_false] at hp
  rcases hp with rfl | rfl | rfl | rfl | rfl | rfl | rfl | rfl | rfl | rfl | rfl <;> exact List.cons_ne_nil _ _
theorem gProd : Tryz.prog.globalNamed "armillary/interval.products" = some 0 := by kernel_rfl
theorem gQuot : Tryz.prog.globalNamed "armillary/interval.quotients" = some 2 := by kernel_rfl
theorem gOps : Tryz.prog.globalNamed "armillary/tape.ops" = some 1 := by kernel_rfl
theorem glob_met {W : World} (h : laidMetH Tryz.prog laidL W) : ∀ g cs, E.Γ g = some cs → VR [] W (.eptr cs 0) (.pointer (some ⟨g, 0, none⟩)) := by
  intro g cs hg
  have hg' : glob g = some cs := hg
  unfold glob at hg'
  split at hg'
  · cases hg'
    exact glob_of (P := Tryz.prog) (T := tab) (L := fnames) tab_ok h (name := "armillary/interval.products") (List.mem_cons_self ..) gProd (t := 238) (by kernel_rfl) (m := 8) (by kernel_rfl) fnames_ok fnames_ne (by kernel_rfl) (by decide)
  · cases hg'
    exact glob_of (P := Tryz.prog) (T := tab) (L := fnames) tab_ok h (name := "armillary/interval.quotients") (List.mem_cons_of_mem _ (List.mem_cons_self ..)) gQuot (t := 252) (by kernel_rfl) (m := 8) (by kernel_rfl) fnames_ok fnames_ne (by kernel_rfl) (by decide)
  · cases hg'
    exact glob_of (P := Tryz.prog) (T := tab) (L := fnames) tab_ok h (name := "armillary/tape.ops") (List.mem_cons_of_mem _ (List.mem_cons_of_mem _ (List.mem_cons_self ..))) gOps (t := 245) (by kernel_rfl) (m := 8) (by kernel_rfl) fnames_ok fnames_ne (by kernel_rfl) (by decide)
  · cases hg'
end Go.Proofs.YtfjjckepnkkgjaaGreatDoor.Arm
