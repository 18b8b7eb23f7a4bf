/- Part of a proof: what the functions of the program do to abstract states, step by step. -/
import Derived.CallsIn
import Derived.Below
import Derived.WalkKit
import Derived.Laws.IdiomCopy
import Derived.ChangeKeysEq
import Derived.ArgAppend
import Derived.IntWalk
import Derived.MapKept
import Derived.Lib.AppendZeros
import Derived.DefersIn
import Derived.OrdersIn
set_option linter.unusedVariables false
set_option linter.unusedSimpArgs false
namespace Go.Arm
theorem gI {α : Type _} {l : List α} {i : Nat} {a : α} : l[i]? = some a ↔ ∃ h : i < l.length, l[i] = a := List.getElem?_eq_some_iff
inductive AV where
 | junk
 | bool (b : Bool)
 | int (k : IntKind) (n : Int)
 | str (s : ByteArray)
 | nilptr
 | ptr (b g i off : Nat)
 | eptr (cs : List AV) (off : Nat)
 | nilslice
 | slice (xs : List AV) (full : Bool)
 | ref (b n : Nat)
 | pre (b n : Nat)
 | func (f : Fn) (first captured : List AV)
 | nilfunc
 | iface (t : TypeId) (v : AV)
 | niliface
 | agg (cs : List AV)
 | tuple (vs : List AV)
 | nilmap
 | map (b : Nat)
 | yld (b : Nat)
 deriving Inhabited
def AV.cells : AV → List AV
 | .agg cs => cs
 | v => [v]
structure LK where
 N : Nat
 ps : List Tmp
 assign : Code
 body : Code
 deriving Inhabited
inductive Yf where
 | ready
 | busy
 | done (c : Code)
 | over
 deriving Inhabited
inductive zE where
 | dead
 | row (wr : Bool) (sz : Nat) (xs : List AV)
 | map (es : List (AV × AV))
 | loop (k : LK) (st : Yf) (frs : List AV)
 deriving Inhabited
abbrev AH := List zE
structure GL where
 B : Nat
 n : Nat
 sz : Nat
 cap : Nat
 lim : Nat
 fixed : Bool
abbrev Gh := List (Option GL)
def ownr (G : Gh) (b : Nat) : Option GL := (G[b]?).join
def fits (G : Gh) (B e : Nat) : Prop := ∀ b L, ownr G b = some L → L.B = B → e ≤ L.lim
def Jo (G : Gh) (B : Nat) : Prop := ∀ b L, ownr G b = some L → L.B ≠ B
inductive VR (G : Gh) (w : World) : AV → Value → Prop
 | junk (v : Value) : VR G w .junk v
 | bool (b : Bool) : VR G w (.bool b) (.bool b)
 | int (k : IntKind) (n : Int) : VR G w (.int k n) (.int k n)
 | str (s : ByteArray) : VR G w (.str s) (.string s)
 | nilptr : VR G w .nilptr (.pointer none)
 | ptr {b g i off : Nat} {L : GL} {v : Value} (h : ownr G b = some L) (hg : g ≤ L.n) (hs : ∃ a, v = .pointer (some a))
   (hv : L.n = g → v = .pointer (some ⟨L.B, i * L.sz + off, none⟩)) : VR G w (.ptr b g i off) v
 | eptr {cs : List AV} {off B o : Nat} (vals : Nat → Value) (hB : B < w.heap.size)
   (hc : ∀ j a, cs[j]? = some a → w.cell? ⟨B, o + j, none⟩ = some (vals j)) (hr : ∀ j a, cs[j]? = some a → VR G w a (vals j))
   (hl : fits G B (o + cs.length)) : VR G w (.eptr cs off) (.pointer (some ⟨B, o + off, none⟩))
 | nilslice : VR G w .nilslice (.slice none 0 0)
 | slice0 {full : Bool} {a : Option Addr} {cap : Nat} (hf : full = true → cap = 0) : VR G w (.slice [] full) (.slice a 0 cap)
 | slice {xs : List AV} {full : Bool} {B o cap sz : Nat} (vals : Nat → Nat → Value) (hB : B < w.heap.size) (hs : ∀ x ∈ xs, x.cells.length = sz)
   (hc : ∀ i x j c, xs[i]? = some x → x.cells[j]? = some c → w.cell? ⟨B, o + i * sz + j, none⟩ = some (vals i j))
   (hr : ∀ i x j c, xs[i]? = some x → x.cells[j]? = some c → VR G w c (vals i j))
   (hl : fits G B (o + xs.length * sz)) (hcap : xs.length ≤ cap) (hf : full = true → cap = xs.length) :
   VR G w (.slice xs full) (.slice (some ⟨B, o, none⟩) xs.length cap)
 | ref {b n : Nat} {L : GL} {v : Value} (h : ownr G b = some L) (hf : L.fixed = false) (hg : n ≤ L.n) (hs : ∃ a m c, v = .slice a m c) (hv : L.n = n → v = .slice (some ⟨L.B, 0, none⟩) n L.cap) : VR G w (.ref b n) v
 | pre {b n : Nat} {L : GL} {v : Value} (h : ownr G b = some L) (hf : L.fixed = false) (hs : ∃ a m c, v = .slice a m c) (hv : L.n = 0 → v = .slice (some ⟨L.B, 0, none⟩) n L.cap ∧ n ≤ L.cap) : VR G w (.pre b n) v
 | func {f : Fn} {first captured : List AV} {fv cv : Array Value} (h1 : fv.size = first.length) (h2 : cv.size = captured.length)
   (hf : ∀ (i : Nat) a v, first[i]? = some a → fv[i]? = some v → VR G w a v) (hc : ∀ (i : Nat) a v, captured[i]? = some a → cv[i]? = some v → VR G w a v) :
   VR G w (.func f first captured) (.func f fv cv)
 | nilfunc : VR G w .nilfunc .nilFunc
 | iface {t : TypeId} {a : AV} {v : Value} (h : VR G w a v) : VR G w (.iface t a) (.iface t v)
 | niliface : VR G w .niliface .nilIface
 | agg {cs : List AV} {vs : Array Value} (h : vs.size = cs.length) (hr : ∀ (i : Nat) a v, cs[i]? = some a → vs[i]? = some v → VR G w a v) : VR G w (.agg cs) (.agg vs)
 | tuple {cs : List AV} {vs : Array Value} (h : vs.size = cs.length) (hr : ∀ (i : Nat) a v, cs[i]? = some a → vs[i]? = some v → VR G w a v) : VR G w (.tuple cs) (.tuple vs)
 | nilmap : VR G w .nilmap (.map none)
 | map {b : Nat} {L : GL} (h : ownr G b = some L) (hf : L.fixed = true) : VR G w (.map b) (.map (some L.B))
 | yld {b : Nat} {L : GL} (h : ownr G b = some L) (hf : L.fixed = true) : VR G w (.yld b) (.func (.yield L.B) #[] #[])
structure zA (G : Gh) (w : World) (G' : Gh) (w' : World) : Prop where
 os : w'.os = w.os
 tape : w'.tape = w.tape
 output : w'.output = w.output
 size : w.heap.size ≤ w'.heap.size
 keep : ∀ B, B < w.heap.size → Jo G B → w'.heap[B]? = w.heap[B]?
 own : ∀ b L, ownr G b = some L → ∃ L', ownr G' b = some L' ∧ L.n ≤ L'.n ∧ L'.sz = L.sz ∧ L'.fixed = L.fixed ∧ (L.n = L'.n → L'.B = L.B ∧ L'.cap = L.cap) ∧
  (L.fixed = true → L'.B = L.B) ∧ (∀ off, off < L.lim → w'.cell? ⟨L.B, off, none⟩ = w.cell? ⟨L.B, off, none⟩)
 back : ∀ b L', ownr G' b = some L' → L'.B < w.heap.size → ∃ L, ownr G b = some L ∧ L.B = L'.B ∧ L.lim ≤ L'.lim
theorem cell?_of_heap {w w' : World} {a : Addr} (h : w'.heap[a.block]? = w.heap[a.block]?) : w'.cell? a = w.cell? a := by
 unfold World.cell?; rw [h]
theorem zA.cell {G G' : Gh} {w w' : World} (h : zA G w G' w') {B e off : Nat} (hB : B < w.heap.size) (hl : fits G B e) (hoff : off < e) :
  w'.cell? ⟨B, off, none⟩ = w.cell? ⟨B, off, none⟩ := by
 by_cases hf : Jo G B
 ·exact cell?_of_heap (h.keep B hB hf)
 ·simp only [Jo, Classical.not_forall, Classical.not_not] at hf
  obtain ⟨b, L, hb, hLB⟩ := hf
  obtain ⟨L', _, _, _, _, _, _, hc⟩ := h.own b L hb
  have := hl b L hb (by simpa using hLB)
  have e2 := hc off (by omega)
  have hLB' : L.B = B := by simpa using hLB
  rw [hLB'] at e2
  exact e2
theorem zA.fits {G G' : Gh} {w w' : World} (h : zA G w G' w') {B e : Nat} (hB : B < w.heap.size) (hl : fits G B e) : fits G' B e := by
 intro b L' hb hLB
 obtain ⟨L, h1, h2, h3⟩ := h.back b L' hb (by omega)
 exact Nat.le_trans (hl b L h1 (by omega)) h3
theorem VR.mono {G G' : Gh} {w w' : World} (h : zA G w G' w') {a : AV} {v : Value} (hv : VR G w a v) : VR G' w' a v := by
 induction hv with
 | junk v => exact .junk v
 | bool b => exact .bool b
 | int k n => exact .int k n
 | str s => exact .str s
 | nilptr => exact .nilptr
 | ptr h1 hg hs hv =>
  obtain ⟨L', hl', hn, hsz, _, hsame, _⟩ := h.own _ _ h1
  refine .ptr hl' (by omega) hs fun e => ?_
  have e2 := hsame (by omega)
  rw [e2.1, hsz]; exact hv (by omega)
 | eptr vals hB hc hr hl ih =>
  refine .eptr vals (by have := h.size; omega) (fun j a hj => ?_) ih (h.fits hB hl)
  rw [← hc j a hj]
  refine h.cell hB hl ?_
  have := (gI.1 hj).1
  omega
 | nilslice => exact .nilslice
 | slice0 hf => exact .slice0 hf
 | slice vals hB hs hc hr hl hcap hf ih =>
  rename_i xs full B o cap sz
  refine .slice vals (by have := h.size; omega) hs (fun i x j c hi hj => ?_) ih (h.fits hB hl) hcap hf
  rw [← hc i x j c hi hj]
  refine h.cell hB hl ?_
  have h1 := (gI.1 hi).1
  have h2 := (gI.1 hj).1
  rw [hs x (List.mem_of_getElem? hi)] at h2
  have h3 : (i + 1) * sz ≤ xs.length * sz := Nat.mul_le_mul_right _ (by omega)
  rw [Nat.add_mul] at h3
  omega
 | ref h1 hf hg hs hv =>
  obtain ⟨L', hl', hn, _, hfx, hsame, _⟩ := h.own _ _ h1
  refine .ref hl' (hfx.trans hf) (by omega) hs fun e => ?_
  have e2 := hsame (by omega)
  rw [e2.1, e2.2]; exact hv (by omega)
 | pre h1 hf hs hv =>
  obtain ⟨L', hl', hn, _, hfx, hsame, _⟩ := h.own _ _ h1
  refine .pre hl' (hfx.trans hf) hs fun e => ?_
  have e2 := hsame (by omega)
  rw [e2.1, e2.2]; exact hv (by omega)
 | func h1 h2 _ _ ih1 ih2 => exact .func h1 h2 ih1 ih2
 | nilfunc => exact .nilfunc
 | iface _ ih => exact .iface ih
 | niliface => exact .niliface
 | agg h1 _ ih => exact .agg h1 ih
 | tuple h1 _ ih => exact .tuple h1 ih
 | nilmap => exact .nilmap
 | map h1 hfx =>
  obtain ⟨L', hl', _, _, hfx', _, hf', _⟩ := h.own _ _ h1
  rw [← hf' hfx]; exact .map hl' (hfx'.trans hfx)
 | yld h1 hfx =>
  obtain ⟨L', hl', _, _, hfx', _, hf', _⟩ := h.own _ _ h1
  rw [← hf' hfx]; exact .yld hl' (hfx'.trans hfx)
def inj (G : Gh) : Prop := ∀ b b' L L', ownr G b = some L → ownr G b' = some L' → L.B = L'.B → b = b'
theorem zA.refl (G : Gh) (w : World) : zA G w G w :=
 ⟨rfl, rfl, rfl, Nat.le_refl _, fun _ _ _ => rfl, fun _ L h => ⟨L, h, Nat.le_refl _, rfl, rfl, fun _ => ⟨rfl, rfl⟩, fun _ => rfl, fun _ _ => rfl⟩, fun _ L h _ => ⟨L, h, rfl, Nat.le_refl _⟩⟩
theorem zA.trans {G G1 G2 : Gh} {w w1 w2 : World} (hi : inj G) (hlt : ∀ b L, ownr G b = some L → L.B < w.heap.size) (h : zA G w G1 w1) (k : zA G1 w1 G2 w2) : zA G w G2 w2 := by
 have hfree : ∀ B, B < w.heap.size → Jo G B → Jo G1 B := by
  intro B hB hf b L1 hb hLB
  obtain ⟨L, h1, h2, _⟩ := h.back b L1 hb (by omega)
  exact hf b L h1 (by omega)
 refine ⟨k.os.trans h.os, k.tape.trans h.tape, k.output.trans h.output, Nat.le_trans h.size k.size, ?_, ?_, ?_⟩
 ·intro B hB hf
  rw [k.keep B (Nat.lt_of_lt_of_le hB h.size) (hfree B hB hf), h.keep B hB hf]
 ·intro b L hb
  obtain ⟨L1, g1, n1, z1, x1, s1, f1, c1⟩ := h.own b L hb
  obtain ⟨L2, g2, n2, z2, x2, s2, f2, c2⟩ := k.own b L1 g1
  refine ⟨L2, g2, by omega, z2.trans z1, x2.trans x1, fun e => ?_, fun e => ?_, fun off ho => ?_⟩
  ·have a1 := s1 (by omega)
   have a2 := s2 (by omega)
   exact ⟨a2.1.trans a1.1, a2.2.trans a1.2⟩
  ·exact (f2 (x1.trans e)).trans (f1 e)
  ·rw [← c1 off ho]
   by_cases hLB : L1.B = L.B
   ·have hl : L.lim ≤ L1.lim := by
     obtain ⟨L', q1, q2, q3⟩ := h.back b L1 g1 (by rw [hLB]; exact hlt b L hb)
     have e := hi b b L' L q1 hb (by omega)
     rw [hb] at q1; cases q1; exact q3
    have := c2 off (by omega)
    rw [hLB] at this; exact this
   ·refine cell?_of_heap (k.keep L.B (Nat.lt_of_lt_of_le (hlt b L hb) h.size) ?_)
    intro b' L1' hb' hB'
    obtain ⟨L', q1, q2, _⟩ := h.back b' L1' hb' (by rw [hB']; exact hlt b L hb)
    have e := hi b b' L L' hb q1 (by omega)
    subst e
    rw [hb'] at g1; cases g1; exact hLB hB'
 ·intro b L2 hb hlt2
  obtain ⟨L1, g1, e1, l1⟩ := k.back b L2 hb (Nat.lt_of_lt_of_le hlt2 h.size)
  obtain ⟨L, g0, e0, l0⟩ := h.back b L1 g1 (by omega)
  exact ⟨L, g0, by omega, by omega⟩
def WV (G : Gh) (w : World) (B cap sz : Nat) (xs : List AV) : Prop :=
 ∃ (c : Array Value) (e : TypeId), w.heap[B]? = some (.cells c e (0, 0)) ∧ cap * sz ≤ c.size ∧
  ∀ (i : Nat) x (j : Nat) a, xs[i]? = some x → x.cells[j]? = some a → ∃ v, c[i * sz + j]? = some v ∧ VR G w a v
def Yf.ok : Yf → Loop → Prop
 | .ready, r => r.state = .ready ∧ r.pending = none
 | .busy, r => r.state = .busy ∧ r.pending = none
 | .done c, r => r.state = .done ∧ r.pending = some c
 | .over, _ => True
def jy (G : Gh) (w : World) (b : Nat) : zE → Prop
 | .dead => ownr G b = none
 | .row wr sz xs => ∃ L, ownr G b = some L ∧ L.n = xs.length ∧ L.sz = sz ∧ (∀ x ∈ xs, x.cells.length = sz) ∧ xs.length ≤ L.cap ∧ (wr = true → L.lim = 0) ∧ L.lim ≤ xs.length * sz ∧ WV G w L.B L.cap sz xs
 | .map es => ∃ L, ownr G b = some L ∧ L.fixed = true ∧ ∃ (ents : Array MapEntry) (clock : Nat), w.heap[L.B]? = some (.map ents clock) ∧ ents.size = es.length ∧
   ∀ (j : Nat) e v, es[j]? = some e → ents[j]? = some v → VR G w e.1 v.key ∧ VR G w e.2 v.val
 | .loop k st frs => ∃ L, ownr G b = some L ∧ L.fixed = true ∧ ∃ r : Loop, w.heap[L.B]? = some (.loop r) ∧ r.params = k.ps.toArray ∧ r.assign = k.assign ∧ r.body = k.body ∧ r.tmps.size = k.N ∧ st.ok r ∧
   ∀ (j : Nat) a, frs[j]? = some a → VR G w a (r.tmps.getD j undef)
structure zw (Γ : Nat → Option (List AV)) (G : Gh) (w : World) (H : AH) : Prop where
 len : G.length = H.length
 blk : ∀ b k, H[b]? = some k → jy G w b k
 inj : inj G
 glob : ∀ g cs, Γ g = some cs → VR G w (.eptr cs 0) (.pointer (some ⟨g, 0, none⟩))
theorem Zi {G : Gh} {b : Nat} {L : GL} (h : ownr G b = some L) : b < G.length := by
 unfold ownr at h
 rcases Nat.lt_or_ge b G.length with hlt | hge
 ·exact hlt
 ·rw [List.getElem?_eq_none hge] at h; simp at h
theorem zw.lt {Γ : Nat → Option (List AV)} {G : Gh} {w : World} {H : AH} (h : zw Γ G w H) : ∀ b L, ownr G b = some L → L.B < w.heap.size := by
 intro b L hb
 have hlt := Zi hb
 rw [h.len] at hlt
 have hk := h.blk b H[b] (by simp [hlt])
 cases hH : H[b] with
 | dead => rw [hH] at hk; simp only [jy] at hk; rw [hb] at hk; cases hk
 | row wr sz xs =>
  rw [hH] at hk
  obtain ⟨L', h1, _, _, _, _, _, _, c, e, hc, _⟩ := hk
  rw [hb] at h1; cases h1
  exact (Array.getElem?_eq_some_iff.1 hc).1
 | map es =>
  rw [hH] at hk
  obtain ⟨L', h1, _, c, e, hc, _⟩ := hk
  rw [hb] at h1; cases h1
  exact (Array.getElem?_eq_some_iff.1 hc).1
 | loop k st frs =>
  rw [hH] at hk
  obtain ⟨L', h1, _, r, hc, _⟩ := hk
  rw [hb] at h1; cases h1
  exact (Array.getElem?_eq_some_iff.1 hc).1
theorem zw.trans {Γ : Nat → Option (List AV)} {G G1 G2 : Gh} {w w1 w2 : World} {H : AH} (hI : zw Γ G w H) (h : zA G w G1 w1) (k : zA G1 w1 G2 w2) : zA G w G2 w2 :=
 zA.trans hI.inj hI.lt h k
def FR (G : Gh) (w : World) (fr : Nat → AV) (tmps : Array Value) : Prop := ∀ t, VR G w (fr t) (tmps.getD t undef)
def upd (fr : Nat → AV) (d : Nat) (v : AV) : Nat → AV := fun i => if i = d then v else fr i
theorem FR.mono {G G' : Gh} {w w' : World} {fr : Nat → AV} {tmps : Array Value} (h : FR G w fr tmps) (e : zA G w G' w') : FR G' w' fr tmps := fun t => (h t).mono e
theorem FR.upd {G : Gh} {w : World} {fr : Nat → AV} {tmps : Array Value} (h : FR G w fr tmps) {d : Nat} {a : AV} {v : Value} (hd : d < tmps.size) (hv : VR G w a v) :
  FR G w (upd fr d a) (tmps.setIfInBounds d v) := by
 intro t
 unfold Arm.upd
 by_cases e : t = d
 ·subst e; simp [hd, hv]
 ·have := h t
  simp only [e, if_false]
  rw [Array.getD_eq_getD_getElem?, Array.getElem?_setIfInBounds_ne (by omega), ← Array.getD_eq_getD_getElem?]
  exact this
end Go.Arm

namespace Go.Arm
open Go.RowKit
variable {Γ : Nat → Option (List AV)} {G : Gh} {w w' : World} {H : AH}
theorem Z3 {b : Nat} {x : Option GL} (h : b < G.length) : ownr (G.set b x) b = x := by
 simp [ownr, h]
theorem V6 {b b' : Nat} {x : Option GL} (h : b' ≠ b) : ownr (G.set b x) b' = ownr G b' := by
 simp only [ownr]; rw [List.getElem?_set_ne (by omega)]
theorem zaq {b : Nat} {x : Option GL} (h : b < G.length) : ownr (G ++ [x]) b = ownr G b := by
 simp only [ownr]; rw [List.getElem?_append_left h]
theorem YL {x : Option GL} : ownr (G ++ [x]) G.length = x := by
 simp [ownr]
theorem UP {b : Nat} {x : Option GL} {L : GL} (h : ownr (G ++ [x]) b = some L) : ownr G b = some L ∨ (b = G.length ∧ x = some L) := by
 have := Zi h
 simp at this
 rcases Nat.lt_or_ge b G.length with hlt | hge
 ·exact .inl (by rwa [zaq hlt] at h)
 ·have e : b = G.length := by omega
  subst e; rw [YL] at h; exact .inr ⟨rfl, h⟩
theorem XF {b b' : Nat} {x : Option GL} {L : GL} (hb : b < G.length) (h : ownr (G.set b x) b' = some L) : (b' ≠ b ∧ ownr G b' = some L) ∨ (b' = b ∧ x = some L) := by
 by_cases e : b' = b
 ·subst e; rw [Z3 hb] at h; exact .inr ⟨rfl, h⟩
 ·rw [V6 e] at h; exact .inl ⟨e, h⟩
theorem WV.mono {G' : Gh} {B cap sz : Nat} {xs : List AV} (h : WV G w B cap sz xs) (e : zA G w G' w') (hb : w'.heap[B]? = w.heap[B]?) : WV G' w' B cap sz xs := by
 obtain ⟨c, t, hc, hcap, hv⟩ := h
 exact ⟨c, t, hb.trans hc, hcap, fun i x j a hi hj => let ⟨v, h1, h2⟩ := hv i x j a hi hj; ⟨v, h1, h2.mono e⟩⟩
theorem jy.mono {G' : Gh} {b : Nat} {k : zE} (h : jy G w b k) (e : zA G w G' w') (ho : ownr G' b = ownr G b)
  (hb : ∀ L, ownr G b = some L → w'.heap[L.B]? = w.heap[L.B]?) : jy G' w' b k := by
 cases k with
 | dead => exact ho.trans h
 | row wr sz xs =>
  obtain ⟨L, h1, h2, h3, h4, h5, h6, h7, h8⟩ := h
  exact ⟨L, ho.trans h1, h2, h3, h4, h5, h6, h7, h8.mono e (hb L h1)⟩
 | map es =>
  obtain ⟨L, h1, h2, ents, clock, h3, h4, h5⟩ := h
  exact ⟨L, ho.trans h1, h2, ents, clock, (hb L h1).trans h3, h4, fun j e' v hj hv => let ⟨a, c⟩ := h5 j e' v hj hv; ⟨a.mono e, c.mono e⟩⟩
 | loop k st frs =>
  obtain ⟨L, h1, h2, r, h3, h4, h5, h6, h7, h8, h9⟩ := h
  exact ⟨L, ho.trans h1, h2, r, (hb L h1).trans h3, h4, h5, h6, h7, h8, fun j a hj => (h9 j a hj).mono e⟩
theorem zA.same (h1 : w'.os = w.os) (h2 : w'.tape = w.tape) (h3 : w'.output = w.output) (h4 : w.heap.size ≤ w'.heap.size)
  (h5 : ∀ B, B < w.heap.size → w'.heap[B]? = w.heap[B]?) (hlt : ∀ b L, ownr G b = some L → L.B < w.heap.size) : zA G w G w' :=
 ⟨h1, h2, h3, h4, fun B hB _ => h5 B hB, fun b L h => ⟨L, h, Nat.le_refl _, rfl, rfl, fun _ => ⟨rfl, rfl⟩, fun _ => rfl, fun off _ => cell?_of_heap (h5 L.B (hlt b L h))⟩,
  fun _ L h _ => ⟨L, h, rfl, Nat.le_refl _⟩⟩
theorem zw.same (hI : zw Γ G w H) (e : zA G w G w') (h5 : ∀ B, B < w.heap.size → w'.heap[B]? = w.heap[B]?) : zw Γ G w' H :=
 ⟨hI.len, fun b k hk => (hI.blk b k hk).mono e rfl fun L hL => h5 L.B (hI.lt b L hL), hI.inj, fun g cs hg => (hI.glob g cs hg).mono e⟩
theorem zw.drew (hI : zw Γ G w H) : zA G w G w.drew ∧ zw Γ G w.drew H :=
 have e : zA G w G w.drew := zA.same rfl rfl rfl (Nat.le_refl _) (fun _ _ => rfl) hI.lt
 ⟨e, hI.same e fun _ _ => rfl⟩
theorem zw.alloc (hI : zw Γ G w H) (o : Obj) : zA G w G (w.alloc o) ∧ zw Γ G (w.alloc o) H :=
 have e : zA G w G (w.alloc o) := zA.same rfl rfl rfl (by simp) (fun B hB => Below.heap_alloc w o B hB) hI.lt
 ⟨e, hI.same e fun B hB => Below.heap_alloc w o B hB⟩
theorem XV (w : World) (o : Obj) : (w.alloc o).heap[w.heap.size]? = some o := by
 show (w.heap.push o)[w.heap.size]? = some o
 simp
theorem zw.push (hI : zw Γ G w H) (o : Obj) {L : GL} {k : zE} (hB : L.B = w.heap.size)
  (hk : zA G w (G ++ [some L]) (w.alloc o) → jy (G ++ [some L]) (w.alloc o) G.length k) :
  zA G w (G ++ [some L]) (w.alloc o) ∧ zw Γ (G ++ [some L]) (w.alloc o) (H ++ [k]) := by
 have e : zA G w (G ++ [some L]) (w.alloc o) := by
  refine ⟨rfl, rfl, rfl, by simp, fun B hB _ => Below.heap_alloc w o B hB, fun b L1 h1 => ?_, fun b L1 h1 hlt => ?_⟩
  ·exact ⟨L1, by rw [zaq (Zi h1)]; exact h1, Nat.le_refl _, rfl, rfl, fun _ => ⟨rfl, rfl⟩, fun _ => rfl, fun off _ => cell?_of_heap (Below.heap_alloc w o L1.B (hI.lt b L1 h1))⟩
  ·rcases UP h1 with h | ⟨_, h⟩
   ·exact ⟨L1, h, rfl, Nat.le_refl _⟩
   ·cases h; omega
 refine ⟨e, ⟨by simp [hI.len], ?_, ?_, fun g cs hg => (hI.glob g cs hg).mono e⟩⟩
 ·intro b k1 h1
  rcases Nat.lt_or_ge b H.length with hlt | hge
  ·rw [List.getElem?_append_left hlt] at h1
   exact (hI.blk b k1 h1).mono e (zaq (by rw [hI.len]; exact hlt)) fun L1 h2 => Below.heap_alloc w o L1.B (hI.lt b L1 h2)
  ·have hb : b = H.length := by
    have := (gI.1 h1).1
    simp at this; omega
   subst hb
   simp at h1
   subst h1
   rw [← hI.len]; exact hk e
 ·intro b b' L1 L2 h1 h2 h3
  rcases UP h1 with g1 | ⟨g1, g1'⟩ <;> rcases UP h2 with g2 | ⟨g2, g2'⟩
  ·exact hI.inj b b' L1 L2 g1 g2 h3
  ·cases g2'; have := hI.lt b L1 g1; omega
  ·cases g1'; have := hI.lt b' L2 g2; omega
  ·omega
inductive JL : AH → Nat → zE → AH → Prop
 | push (H : AH) (k : zE) : JL H H.length k (H ++ [k])
 | fill (H : AH) (b : Nat) (k : zE) (h : H[b]? = some .dead) : JL H b k (H.set b k)
theorem zw.fill (hI : zw Γ G w H) (o : Obj) {L : GL} {k : zE} {d : Nat} (hd : H[d]? = some .dead) (hB : L.B = w.heap.size)
  (hk : zA G w (G.set d (some L)) (w.alloc o) → jy (G.set d (some L)) (w.alloc o) d k) :
  zA G w (G.set d (some L)) (w.alloc o) ∧ zw Γ (G.set d (some L)) (w.alloc o) (H.set d k) := by
 have hdH := (gI.1 hd).1
 have hdG : d < G.length := by rw [hI.len]; exact hdH
 have hnone : ownr G d = none := hI.blk d _ hd
 have e : zA G w (G.set d (some L)) (w.alloc o) := by
  refine ⟨rfl, rfl, rfl, by simp, fun B hB _ => Below.heap_alloc w o B hB, fun b L1 h1 => ?_, fun b L1 h1 hlt => ?_⟩
  ·have hne : b ≠ d := by intro e; subst e; rw [hnone] at h1; cases h1
   exact ⟨L1, by rw [V6 hne]; exact h1, Nat.le_refl _, rfl, rfl, fun _ => ⟨rfl, rfl⟩, fun _ => rfl, fun off _ => cell?_of_heap (Below.heap_alloc w o L1.B (hI.lt b L1 h1))⟩
  ·rcases XF hdG h1 with ⟨_, h⟩ | ⟨_, h⟩
   ·exact ⟨L1, h, rfl, Nat.le_refl _⟩
   ·cases h; omega
 refine ⟨e, ⟨by simp [hI.len], ?_, ?_, fun g cs hg => (hI.glob g cs hg).mono e⟩⟩
 ·intro b k1 h1
  by_cases eb : b = d
  ·subst eb
   rw [List.getElem?_set_self hdH] at h1; cases h1; exact hk e
  ·rw [List.getElem?_set_ne (by omega)] at h1
   exact (hI.blk b k1 h1).mono e (V6 eb) fun L1 h2 => Below.heap_alloc w o L1.B (hI.lt b L1 h2)
 ·intro b b' L1 L2 h1 h2 h3
  rcases XF hdG h1 with ⟨e1, g1⟩ | ⟨e1, g1⟩ <;> rcases XF hdG h2 with ⟨e2, g2⟩ | ⟨e2, g2⟩
  ·exact hI.inj b b' L1 L2 g1 g2 h3
  ·cases g2; have := hI.lt b L1 g1; omega
  ·cases g1; have := hI.lt b' L2 g2; omega
  ·omega
theorem zw.place (hI : zw Γ G w H) (o : Obj) {L : GL} {k : zE} {b : Nat} {H' : AH} (hs : JL H b k H') (hB : L.B = w.heap.size)
  (hk : ∀ G', zA G w G' (w.alloc o) → ownr G' b = some L → jy G' (w.alloc o) b k) :
  ∃ G', zA G w G' (w.alloc o) ∧ zw Γ G' (w.alloc o) H' ∧ ownr G' b = some L := by
 cases hs with
 | push k =>
  obtain ⟨e, i⟩ := hI.push o (L := L) (k := k) hB (fun e => hk _ (by exact e) (by rw [← hI.len]; exact YL) |> fun h => by rw [hI.len]; exact h)
  exact ⟨_, e, i, by rw [← hI.len]; exact YL⟩
 | fill b k hd =>
  have hdG : b < G.length := by rw [hI.len]; exact (gI.1 hd).1
  obtain ⟨e, i⟩ := hI.fill o (L := L) (k := k) hd hB (fun e => hk _ e (Z3 hdG))
  exact ⟨_, e, i, Z3 hdG⟩
theorem zw.row (hI : zw Γ G w H) {b sz : Nat} {wr : Bool} {xs : List AV} (h : H[b]? = some (.row wr sz xs)) :
  ∃ L, ownr G b = some L ∧ L.n = xs.length ∧ L.sz = sz ∧ (∀ x ∈ xs, x.cells.length = sz) ∧ xs.length ≤ L.cap ∧ (wr = true → L.lim = 0) ∧ L.lim ≤ xs.length * sz ∧ WV G w L.B L.cap sz xs := hI.blk b _ h
theorem zw.put (hI : zw Γ G w H) {b : Nat} {L' : GL} {k' : zE} (hb : b < H.length) (e : zA G w (G.set b (some L')) w')
  (ho : ∀ b' L, b' ≠ b → ownr G b' = some L → w'.heap[L.B]? = w.heap[L.B]?) (hd : ∀ b' L, b' ≠ b → ownr G b' = some L → L.B ≠ L'.B)
  (hk : jy (G.set b (some L')) w' b k') : zw Γ (G.set b (some L')) w' (H.set b k') := by
 have hbG : b < G.length := by rw [hI.len]; exact hb
 refine ⟨by simp [hI.len], ?_, ?_, fun g cs hg => (hI.glob g cs hg).mono e⟩
 ·intro b1 k1 h1
  by_cases eb : b1 = b
  ·subst eb
   rw [List.getElem?_set_self hb] at h1; cases h1; exact hk
  ·rw [List.getElem?_set_ne (by omega)] at h1
   exact (hI.blk b1 k1 h1).mono e (V6 eb) fun L h => ho b1 L eb h
 ·intro b1 b2 L1 L2 h1 h2 h3
  rcases XF hbG h1 with ⟨e1, g1⟩ | ⟨e1, g1⟩ <;> rcases XF hbG h2 with ⟨e2, g2⟩ | ⟨e2, g2⟩
  ·exact hI.inj b1 b2 L1 L2 g1 g2 h3
  ·cases g2; exact (hd b1 L1 e1 g1 h3).elim
  ·cases g1; exact (hd b2 L2 e2 g2 h3.symm).elim
  ·omega
theorem zA.turn (hI : zw Γ G w H) {b : Nat} {L L' : GL} (hL : ownr G b = some L) (h1 : w'.os = w.os) (h2 : w'.tape = w.tape) (h3 : w'.output = w.output)
  (h4 : w'.heap.size = w.heap.size) (h5 : ∀ B, B ≠ L.B → w'.heap[B]? = w.heap[B]?) (hB : L'.B = L.B) (hcap : L'.cap = L.cap) (hn : L.n ≤ L'.n) (hlim : L.lim ≤ L'.lim)
  (hsz : L'.sz = L.sz) (hfix : L'.fixed = L.fixed) (hc : ∀ off, off < L.lim → w'.cell? ⟨L.B, off, none⟩ = w.cell? ⟨L.B, off, none⟩) : zA G w (G.set b (some L')) w' := by
 have hbG := Zi hL
 refine ⟨h1, h2, h3, by omega, fun B hB hf => h5 B fun e => hf b L hL e.symm, fun b1 L1 g1 => ?_, fun b1 L1 g1 hlt => ?_⟩
 ·by_cases eb : b1 = b
  ·subst eb
   rw [hL] at g1; cases g1
   exact ⟨L', Z3 hbG, hn, hsz, hfix, fun _ => ⟨hB, hcap⟩, fun _ => hB, hc⟩
  ·refine ⟨L1, by rw [V6 eb]; exact g1, Nat.le_refl _, rfl, rfl, fun _ => ⟨rfl, rfl⟩, fun _ => rfl, fun off _ => cell?_of_heap (h5 L1.B fun e => eb (hI.inj b1 b L1 L g1 hL e))⟩
 ·rcases XF hbG g1 with ⟨_, g⟩ | ⟨e1, g⟩
  ·exact ⟨L1, g, rfl, Nat.le_refl _⟩
  ·cases g; subst e1; exact ⟨L, hL, hB.symm, hlim⟩
theorem zbP {b : Nat} {L : GL} (hL : ownr G b = some L) : G.set b (some L) = G := by
 have hbG := Zi hL
 apply List.ext_getElem?
 intro i
 by_cases e : i = b
 ·subst e
  rw [List.getElem?_set_self hbG]
  unfold Arm.ownr at hL
  cases hg : G[i]? with
  | none => rw [hg] at hL; cases hL
  | some x => rw [hg] at hL; simp at hL; rw [hL]
 ·rw [List.getElem?_set_ne (by omega)]
theorem zw.write (hI : zw Γ G w H) {b sz : Nat} {xs xs' : List AV} {L : GL} (hH : H[b]? = some (.row true sz xs)) (hL : ownr G b = some L)
  (h1 : w'.os = w.os) (h2 : w'.tape = w.tape) (h3 : w'.output = w.output) (h4 : w'.heap.size = w.heap.size) (h5 : ∀ B, B ≠ L.B → w'.heap[B]? = w.heap[B]?)
  (hlen : xs'.length = xs.length) (hs : ∀ x ∈ xs', x.cells.length = sz) {c' : Array Value} {t : TypeId} (hc : w'.heap[L.B]? = some (.cells c' t (0, 0))) (hcap : L.cap * sz ≤ c'.size)
  (hv : ∀ (i : Nat) x (j : Nat) a, xs'[i]? = some x → x.cells[j]? = some a → ∃ v, c'[i * sz + j]? = some v ∧ VR G w a v) :
  zA G w G w' ∧ zw Γ G w' (H.set b (.row true sz xs')) := by
 obtain ⟨L1, g1, g2, gz, g3, g4, g5, g6, _⟩ := hI.row hH
 rw [hL] at g1; cases g1
 have hbG := Zi hL
 have e : zA G w (G.set b (some L)) w' := zA.turn hI hL h1 h2 h3 h4 h5 rfl rfl (Nat.le_refl _) (Nat.le_refl _) rfl rfl (fun off ho => by have := g5 rfl; omega)
 have hi := hI.put (L' := L) (k' := .row true sz xs') (by rw [← hI.len]; exact hbG) e
  (fun b' L2 hne h => h5 L2.B fun eB => hne (hI.inj b' b L2 L h hL eB)) (fun b' L2 hne h eB => hne (hI.inj b' b L2 L h hL eB))
  ⟨L, Z3 hbG, by omega, gz, hs, by omega, g5, by rw [hlen]; exact g6, c', t, hc, hcap, fun i x j a hi hj => let ⟨v, q1, q2⟩ := hv i x j a hi hj; ⟨v, q1, q2.mono e⟩⟩
 rw [zbP hL] at e hi
 exact ⟨e, hi⟩
theorem zw.growIn (hI : zw Γ G w H) {b sz : Nat} {wr : Bool} {xs new : List AV} {L : GL} (hH : H[b]? = some (.row wr sz xs)) (hL : ownr G b = some L)
  (h1 : w'.os = w.os) (h2 : w'.tape = w.tape) (h3 : w'.output = w.output) (h4 : w'.heap.size = w.heap.size) (h5 : ∀ B, B ≠ L.B → w'.heap[B]? = w.heap[B]?)
  (hm : xs.length + new.length ≤ L.cap) (hs : ∀ x ∈ new, x.cells.length = sz) {c c' : Array Value} {t : TypeId} (hc0 : w.heap[L.B]? = some (.cells c t (0, 0)))
  (hc : w'.heap[L.B]? = some (.cells c' t (0, 0))) (hcap : L.cap * sz ≤ c'.size) (hold : ∀ j, j < xs.length * sz → c'[j]? = c[j]?)
  (hv : ∀ (i : Nat) x (j : Nat) a, new[i]? = some x → x.cells[j]? = some a → ∃ v, c'[xs.length * sz + (i * sz + j)]? = some v ∧ VR G w a v) :
  ∃ G', zA G w G' w' ∧ zw Γ G' w' (H.set b (.row wr sz (xs ++ new))) ∧ (∃ L', ownr G' b = some L' ∧ L'.n = xs.length + new.length ∧ L'.B = L.B ∧ L'.cap = L.cap ∧ L'.fixed = L.fixed) := by
 obtain ⟨L1, g1, g2, gz, g3, g4, g5, g6, c0, t0, q1, q2, q3⟩ := hI.row hH
 rw [hL] at g1; cases g1
 rw [hc0] at q1; cases q1
 have hbG := Zi hL
 have hlen : (xs ++ new).length = xs.length + new.length := List.length_append
 have hlim : L.lim ≤ (xs ++ new).length * sz := Nat.le_trans g6 (Nat.mul_le_mul_right _ (by omega))
 let L' : GL := { L with n := xs.length + new.length }
 have e : zA G w (G.set b (some L')) w' := zA.turn hI hL h1 h2 h3 h4 h5 rfl rfl (by show L.n ≤ xs.length + new.length; omega) (Nat.le_refl _) rfl rfl (fun off ho => by
  simp only [World.cell?, hc, hc0, Option.isSome_none, Bool.false_eq_true, if_false]
  exact hold off (by omega))
 refine ⟨G.set b (some L'), e, hI.put (by rw [← hI.len]; exact hbG) e (fun b' L2 hne h => h5 L2.B fun eB => hne (hI.inj b' b L2 L h hL eB)) (fun b' L2 hne h eB => hne (hI.inj b' b L2 L h hL eB)) ?_, L', Z3 hbG, rfl, rfl, rfl, rfl⟩
 refine ⟨L', Z3 hbG, hlen.symm, gz, fun x hx => (List.mem_append.1 hx).elim (g3 x) (hs x), by rw [hlen]; exact hm, g5, hlim, c', t, hc, hcap, fun i x j a hi hj => ?_⟩
 rcases Nat.lt_or_ge i xs.length with hlt | hge
 ·rw [List.getElem?_append_left hlt] at hi
  obtain ⟨v, r1, r2⟩ := q3 i x j a hi hj
  have hj2 := (gI.1 hj).1
  rw [g3 x (List.mem_of_getElem? hi)] at hj2
  have h9 : (i + 1) * sz ≤ xs.length * sz := Nat.mul_le_mul_right _ hlt
  rw [Nat.add_mul] at h9
  exact ⟨v, by rw [hold _ (by omega)]; exact r1, r2.mono e⟩
 ·rw [List.getElem?_append_right hge] at hi
  obtain ⟨v, r1, r2⟩ := hv _ x j a hi hj
  refine ⟨v, ?_, r2.mono e⟩
  have h9 : i * sz = xs.length * sz + (i - xs.length) * sz := by rw [← Nat.add_mul]; congr 1; omega
  rw [← r1]; congr 1; omega
theorem zw.growOut (hI : zw Γ G w H) {b sz cap : Nat} {wr : Bool} {xs new : List AV} {L : GL} (hH : H[b]? = some (.row wr sz xs)) (hL : ownr G b = some L)
  (hfix : L.fixed = false) (hm : 0 < new.length) (hcapm : xs.length + new.length ≤ cap) (hs : ∀ x ∈ new, x.cells.length = sz) {c' : Array Value} {t : TypeId} (hcap : cap * sz ≤ c'.size)
  (hv : ∀ (i : Nat) x (j : Nat) a, (xs ++ new)[i]? = some x → x.cells[j]? = some a → ∃ v, c'[i * sz + j]? = some v ∧ VR G w a v) :
  ∃ G', zA G w G' (w.alloc (.cells c' t)) ∧ zw Γ G' (w.alloc (.cells c' t)) (H.set b (.row wr sz (xs ++ new))) ∧ (∃ L', ownr G' b = some L' ∧ L'.n = xs.length + new.length ∧ L'.B = w.heap.size ∧ L'.cap = cap ∧ L'.fixed = false) := by
 obtain ⟨L1, g1, g2, gz, g3, g4, g5, g6, _⟩ := hI.row hH
 rw [hL] at g1; cases g1
 have hbG := Zi hL
 have hlen : (xs ++ new).length = xs.length + new.length := List.length_append
 let L' : GL := { B := w.heap.size, n := xs.length + new.length, sz, cap, lim := 0, fixed := false }
 have hold : ∀ B, B < w.heap.size → (w.alloc (.cells c' t)).heap[B]? = w.heap[B]? := fun B hB => Below.heap_alloc w _ B hB
 have e : zA G w (G.set b (some L')) (w.alloc (.cells c' t)) := by
  refine ⟨rfl, rfl, rfl, by simp, fun B hB _ => hold B hB, fun b1 L2 q => ?_, fun b1 L2 q hlt => ?_⟩
  ·by_cases eb : b1 = b
   ·subst eb
    rw [hL] at q; cases q
    exact ⟨L', Z3 hbG, by show L.n ≤ xs.length + new.length; omega, gz.symm, hfix.symm, fun h => by have : L.n = xs.length + new.length := h; omega, fun h => (by rw [hfix] at h; cases h), fun off _ => cell?_of_heap (hold L.B (hI.lt _ _ hL))⟩
   ·exact ⟨L2, by rw [V6 eb]; exact q, Nat.le_refl _, rfl, rfl, fun _ => ⟨rfl, rfl⟩, fun _ => rfl, fun off _ => cell?_of_heap (hold L2.B (hI.lt _ _ q))⟩
  ·rcases XF hbG q with ⟨_, g⟩ | ⟨e1, g⟩
   ·exact ⟨L2, g, rfl, Nat.le_refl _⟩
   ·cases g; exact absurd hlt (Nat.lt_irrefl _)
 refine ⟨G.set b (some L'), e, hI.put (by rw [← hI.len]; exact hbG) e (fun b' L2 hne h => hold L2.B (hI.lt _ _ h)) (fun b' L2 hne h eB => by have h1 := hI.lt _ _ h; have h2 : L2.B = w.heap.size := eB; omega) ?_, L', Z3 hbG, rfl, rfl, rfl, rfl⟩
 exact ⟨L', Z3 hbG, hlen.symm, rfl, (fun x hx => (List.mem_append.1 hx).elim (g3 x) (hs x)), by rw [hlen]; exact hcapm, fun _ => rfl, Nat.zero_le _, c', t, XV w _, hcap, fun i x j a hi hj => let ⟨v, r1, r2⟩ := hv i x j a hi hj; ⟨v, r1, r2.mono e⟩⟩
theorem zw.freeze (hI : zw Γ G w H) {b sz : Nat} {wr : Bool} {xs : List AV} (hH : H[b]? = some (.row wr sz xs)) :
  ∃ G', zA G w G' w ∧ zw Γ G' w (H.set b (.row false sz xs)) ∧ ∃ L L', ownr G b = some L ∧ ownr G' b = some L' ∧ L'.B = L.B ∧ L'.n = xs.length ∧ L.n = xs.length ∧ L'.cap = L.cap ∧ L'.lim = xs.length * sz ∧
   (∀ b', b' ≠ b → ownr G' b' = ownr G b') := by
 obtain ⟨L, hL, g2, gz, g3, g4, g5, g6, q⟩ := hI.row hH
 have hbG := Zi hL
 let L' : GL := { L with lim := xs.length * sz }
 have e : zA G w (G.set b (some L')) w := zA.turn hI hL rfl rfl rfl rfl (fun _ _ => rfl) rfl rfl (Nat.le_refl _) g6 rfl rfl (fun _ _ => rfl)
 refine ⟨G.set b (some L'), e, hI.put (by rw [← hI.len]; exact hbG) e (fun _ _ _ _ => rfl) (fun b' L2 hne h eB => hne (hI.inj b' b L2 L h hL eB)) ?_, L, L', hL, Z3 hbG, rfl, g2, g2, rfl, rfl, fun b' h => V6 h⟩
 exact ⟨L', Z3 hbG, g2, gz, g3, g4, (fun h => by cases h), Nat.le_refl _, q.mono e rfl⟩
theorem zw.reads (hI : zw Γ G w H) {b sz : Nat} {wr : Bool} {xs : List AV} (hH : H[b]? = some (.row wr sz xs)) {L : GL} (hL : ownr G b = some L) (hl : xs.length * sz ≤ L.lim) :
  VR G w (.slice xs false) (.slice (some ⟨L.B, 0, none⟩) xs.length L.cap) := by
 obtain ⟨L1, g1, g2, gz, g3, g4, g5, g6, c, t, q1, q2, q3⟩ := hI.row hH
 rw [hL] at g1; cases g1
 refine VR.slice (sz := sz) (fun i j => (c[i * sz + j]?).getD default) (hI.lt b L hL) g3 ?_ ?_ ?_ g4 (by simp)
 ·intro i x j a hi hj
  obtain ⟨v, r1, r2⟩ := q3 i x j a hi hj
  simp only [World.cell?, q1, Nat.zero_add, Option.isSome_none, Bool.false_eq_true, if_false, r1, Option.getD_some]
 ·intro i x j a hi hj
  obtain ⟨v, r1, r2⟩ := q3 i x j a hi hj
  rw [r1]; exact r2
 ·intro b' L' hb' hB
  have e := hI.inj b' b L' L hb' hL hB
  subst e
  rw [hL] at hb'; cases hb'
  omega
end Go.Arm

namespace Go.Arm
inductive TD where
 | bool
 | int (k : IntKind)
 | str
 | ptr
 | slice (e : TypeId)
 | arr (n : Nat) (e : TypeId)
 | struct (fs : List (TypeId × Nat))
 | map (k e : TypeId)
 | func
 | iface
 | other
 deriving Inhabited
structure TI where
 d : TD
 size : Nat
 bytes : Nat
 zero : AV
 eq : Bool
 deriving Inhabited
def jz : TypeDesc → TD
 | .bool => .bool
 | .int k => .int k
 | .string => .str
 | .pointer _ => .ptr
 | .slice e => .slice e
 | .array n e => .arr n e
 | .struct fs => .struct (fs.toList.map fun f => (f.type, f.offset))
 | .map k e => .map k e
 | .func .. => .func
 | .interface _ => .iface
 | _ => .other
def TD.isAgg : TD → Bool
 | .struct _ | .arr _ _ => true
 | _ => false
def absA : Value → AV
 | .bool b => .bool b
 | .int k n => .int k n
 | .string s => .str s
 | .pointer none => .nilptr
 | .slice none 0 0 => .nilslice
 | .map none => .nilmap
 | .nilFunc => .nilfunc
 | .nilIface => .niliface
 | _ => .junk
def absC : Value → AV
 | .agg cs => .agg (cs.toList.map absA)
 | v => absA v
def eqOk (P : Program) (t : TypeId) : Bool :=
 !(P.eqGuardType P.depth t) && !(P.stoodInHeld t) && (match P.underlying t with
  | some (.struct fs) => fs.toList.all fun f => f.name != "_"
  | _ => true)
def zF (P : Program) (t : TypeId) (i : TI) : Prop :=
 (P.info? t).map (fun x => (x.zero.map absC, x.size, x.bytes)) = some (some i.zero, i.size, i.bytes) ∧ (P.underlying t).map jz = some i.d ∧ (i.eq = true → eqOk P t = true)
abbrev z6 := TypeId → Option TI
def qf (P : Program) (T : z6) : Prop := ∀ t i, T t = some i → zF P t i
def qF : AV → Option (List AV)
 | .junk => none
 | .tuple _ => none
 | v => some v.cells
def qo : AV → Bool
 | .junk | .agg _ | .tuple _ => false
 | _ => true
def Z2 (i : TI) (cs : List AV) (off : Nat) : Option AV :=
 if i.d.isAgg then (if off + i.size ≤ cs.length then some (.agg ((cs.drop off).take i.size)) else none) else cs[off]?
def rd (H : AH) : AV → Option (AV × Nat)
 | .ptr b g i off =>
  match H[b]? with
  | some (.row _ _ xs) => if xs.length = g then (xs[i]?).map fun x => (x, off) else none
  | _ => none
 | .eptr cs off => some (.agg cs, off)
 | _ => none
def zbQ (x : AV) (off : Nat) (vs : List AV) : AV :=
 match x with
 | .agg cs => .agg (cs.take off ++ vs ++ cs.drop (off + vs.length))
 | v => match vs with
  | [u] => u
  | _ => v
def Vj (place : Nat → Option (Nat × Nat)) (cells : List AV) : List (Nat × AV) → Option (List AV)
 | [] => some cells
 | (i, v) :: r =>
  match place i, qF v with
  | some (off, size), some cs => if cs.length = size ∧ off + size ≤ cells.length then Vj place (cells.take off ++ cs ++ cells.drop (off + size)) r else none
  | _, _ => none
def Zs (H : AH) : AV → AV × AH
 | .nilslice => (.slice [] false, H)
 | .slice xs _ => (.slice xs false, H)
 | .ref b n =>
  match H[b]? with
  | some (.row _ sz xs) => if xs.length = n then (.slice xs false, H.set b (.row false sz xs)) else (.ref b n, H)
  | _ => (.ref b n, H)
 | v => (v, H)
def jq (H : AH) : List AV → List AV × AH
 | [] => ([], H)
 | v :: r => let p := Zs H v; let q := jq p.2 r; (p.1 :: q.1, q.2)
def conv (H : AH) : AV → AV × AH
 | .agg cs => let q := jq H cs; (.agg q.1, q.2)
 | v => Zs H v
def Zr (H : AH) : List AV → List AV × AH
 | [] => ([], H)
 | v :: r => let p := conv H v; let q := Zr p.2 r; (p.1 :: q.1, q.2)
def JC (H : AH) : AV → AV × AH
 | .slice xs true => (.slice xs true, H)
 | v => conv H v
def JB (size : Nat) (k : Nat) (H : AH) : List (Nat × AV) → Option (List AV × AH)
 | [] => some ([], H)
 | (i, v) :: r =>
  if i = k ∧ (qF v).map List.length = some size then
   let p := JC H v
   (JB size (k + 1) p.2 r).map fun q => (p.1 :: q.1, q.2)
  else none
def jn : Option AV → Int → Option Int
 | none, d => some d
 | some (.int _ n), _ => some n
 | _, _ => none
def jk (H : AH) : AV → Option (List AV)
 | .slice xs _ => some xs
 | .nilslice => some []
 | .ref b n =>
  match H[b]? with
  | some (.row _ _ xs) => if xs.length = n then some xs else none
  | _ => none
 | _ => none
def cut (xs : List AV) (full : Bool) (lo hi mx : Option AV) : Option AV :=
 match jn lo 0, jn hi xs.length, mx with
 | some l, some h, none => if 0 ≤ l ∧ l ≤ h ∧ h ≤ xs.length then some (.slice ((xs.take h.toNat).drop l.toNat) (full && decide (h = xs.length))) else none
 | some l, some h, some (.int _ m) => if 0 ≤ l ∧ l ≤ h ∧ h = m ∧ h ≤ xs.length ∧ hi.isSome then some (.slice ((xs.take h.toNat).drop l.toNat) true) else none
 | _, _, _ => none
def VW (ie : TI) : List AV → Bool
 | [] => true
 | x :: _ => x.cells.length == ie.size
def Z0 (ie : TI) (H : AH) (x : AV) (lo hi mx : Option AV) : Option (AV × AH) :=
 match x with
 | .slice xs full => if VW ie xs then (cut xs full lo hi mx).map fun v => (v, H) else none
 | .nilslice => match jn lo 0, jn hi 0, mx with
  | some l, some h, none => if l = 0 ∧ h = 0 then some (.nilslice, H) else none
  | _, _, _ => none
 | .ref b n =>
  match H[b]? with
  | some (.row _ sz xs) => if xs.length = n ∧ sz = ie.size then (cut xs false lo hi mx).map fun v => (v, H.set b (.row false sz xs)) else none
  | _ => none
 | .pre b _ => match H[b]?, jn lo 0, hi, mx with
  | some (.row _ sz []), some l, some (.int _ h), none => if l = 0 ∧ h = 0 ∧ sz = ie.size then some (.ref b 0, H) else none
  | _, _, _, _ => none
 | _ => none
def VJ (n : Nat) (ie : TI) (H : AH) (x : AV) (lo hi mx : Option AV) : Option (AV × AH) :=
 match x, lo, hi, mx with
 | .ptr b 1 0 0, none, none, none =>
  match H[b]? with
  | some (.row _ sz [y]) => if ie.size = 1 ∧ sz = n ∧ y.cells.length = n ∧ y.cells.all qo = true then some (.slice y.cells false, H.set b (.row false sz [y])) else none
  | _ => none
 | _, _, _, _ => none
def Yr (x : AV) (lo hi mx : Option AV) : Option AV :=
 match x, mx with
 | .str s, none => match jn lo 0, jn hi s.size with
  | some l, some h => if 0 ≤ l ∧ l ≤ h ∧ h ≤ s.size then some (.str (s.extract l.toNat h.toNat)) else none
  | _, _ => none
 | _, _ => none
def ZN (op : BinOp) (k : IntKind) (a b : Int) : Option AV :=
 match op with
 | .add => some (.int k (k.wrap (a + b)))
 | .sub => some (.int k (k.wrap (a - b)))
 | .mul => some (.int k (k.wrap (a * b)))
 | .quo => if b = 0 then none else some (.int k (k.wrap (a.tdiv b)))
 | .rem => if b = 0 then none else some (.int k (a.tmod b))
 | .eql => some (.bool (a == b))
 | .neq => some (.bool (a != b))
 | .lss => some (.bool (decide (a < b)))
 | .leq => some (.bool (decide (a ≤ b)))
 | .gtr => some (.bool (decide (a > b)))
 | .geq => some (.bool (decide (a ≥ b)))
 | .and => some (.int k (k.wrap (BitVec.ofInt k.bits a &&& BitVec.ofInt k.bits b).toNat))
 | .or => some (.int k (k.wrap (BitVec.ofInt k.bits a ||| BitVec.ofInt k.bits b).toNat))
 | .xor => some (.int k (k.wrap (BitVec.ofInt k.bits a ^^^ BitVec.ofInt k.bits b).toNat))
 | .andNot => some (.int k (k.wrap (BitVec.ofInt k.bits a &&& ~~~ BitVec.ofInt k.bits b).toNat))
 | _ => none
def Yy (op : BinOp) (k : IntKind) (a b : Int) : Option AV :=
 if b < 0 then none
 else match op with
  | .shl => some (.int k (k.wrap (a * 2 ^ (min b.toNat k.bits))))
  | .shr => some (.int k (a.fdiv (2 ^ (min b.toNat k.bits))))
  | _ => none
def Vd (T : z6) (eq : TypeId → AV → AV → Option Bool) (xs ys : List AV) : List (TypeId × Nat) → Option Bool
 | [] => some true
 | (t, off) :: r =>
  match (T t).bind (fun i => Z2 i xs off), (T t).bind (fun i => Z2 i ys off) with
  | some x, some y => match eq t x y with
   | some a => if a then Vd T eq xs ys r else some false
   | none => none
  | _, _ => none
def Ud (T : z6) (eq : TypeId → AV → AV → Option Bool) (t : TypeId) (xs ys : List AV) : Nat → Nat → Option Bool
 | 0, _ => some true
 | n + 1, k =>
  match (T t).bind (fun i => Z2 i xs (k * i.size)), (T t).bind (fun i => Z2 i ys (k * i.size)) with
  | some x, some y => match eq t x y with
   | some a => if a then Ud T eq t xs ys n (k + 1) else some false
   | none => none
  | _, _ => none
def jF (T : z6) : Nat → TypeId → AV → AV → Option Bool
 | 0, _, _, _ => none
 | d + 1, t, x, y =>
  match ((T t).map TI.d : Option TD), x, y with
  | some .bool, .bool a, .bool b => some (a == b)
  | some (.int _), .int k a, .int k' b => if k = k' then some (a == b) else none
  | some .str, .str a, .str b => some (a == b)
  | some .iface, .niliface, .niliface => some true
  | some .iface, .niliface, .iface _ _ => some false
  | some .iface, .iface _ _, .niliface => some false
  | some .func, .nilfunc, .nilfunc => some true
  | some .func, .nilfunc, .func _ _ _ => some false
  | some .func, .func _ _ _, .nilfunc => some false
  | some (.slice _), .nilslice, .nilslice => some true
  | some (.slice _), .slice (_ :: _) _, .nilslice => some false
  | some (.slice _), .nilslice, .slice (_ :: _) _ => some false
  | some (.struct fs), .agg xs, .agg ys => if (T t).any TI.eq then Vd T (jF T d) xs ys fs else none
  | some (.arr n e), .agg xs, .agg ys => if (T t).any TI.eq && (T e).isSome then Ud T (jF T d) e xs ys n 0 else none
  | _, _, _ => none
def qY (T : z6) (op : BinOp) (t : TypeId) (x y : AV) : Option AV :=
 match op, x, y with
 | .shl, .int k a, .int _ b => Yy .shl k a b
 | .shr, .int k a, .int _ b => Yy .shr k a b
 | _, .int k a, .int k' b => if k = k' then ZN op k a b else none
 | .add, .str a, .str b => if a.size + b.size ≤ 9223372036854775807 then some (.str (a ++ b)) else none
 | .eql, .str a, .str b => some (.bool (a.toList == b.toList))
 | .neq, .str a, .str b => some (.bool !(a.toList == b.toList))
 | .eql, x, y => (jF T 6 t x y).map .bool
 | .neq, x, y => (jF T 6 t x y).map fun b => .bool !b
 | _, _, _ => none
def nilI : AV → Bool
 | .niliface => true
 | _ => false
def ZV : Operand → Bool
 | .const _ => true
 | _ => false
def UA (op : UnOp) (x : AV) : Option AV :=
 match op, x with
 | .neg, .int k n => some (.int k (k.wrap (0 - n)))
 | .xor, .int k n => some (.int k (k.wrap (BitVec.ofInt k.bits (if k.signed then -1 else k.max) ^^^ BitVec.ofInt k.bits n).toNat))
 | .not, .bool b => some (.bool !b)
 | _, _ => none
def WE (T : z6) (s d : TypeId) (x : AV) : Option AV :=
 match ((T s).map TI.d : Option TD), ((T d).map TI.d : Option TD), x with
 | some (.int _), some (.int k), .int _ n => some (.int k (k.wrap n))
 | some .str, some .str, .str b => some (.str b)
 | _, _, _ => none
def Q6 (T : z6) (H : AH) (t : TypeId) (x i : AV) : Option AV :=
 match ((T t).map TI.d : Option TD), x, i with
 | some (.slice e), .slice xs _, .int _ i => if 0 ≤ i then (xs[i.toNat]?).bind fun x => (qF x).bind fun cs => if (T e).any (fun ie => cs.length == ie.size) then some (.eptr cs 0) else none else none
 | some (.slice e), .ref b n, .int _ i =>
  match H[b]? with
  | some (.row _ sz xs) => if xs.length = n ∧ 0 ≤ i ∧ i < n ∧ (T e).any (fun ie => sz == ie.size) then some (.ptr b n i.toNat 0) else none
  | _ => none
 | some (.arr n e), .ptr b g j off, .int _ i =>
  match T e with
  | some ie => if 0 ≤ i ∧ i < n then some (.ptr b g j (off + i.toNat * ie.size)) else none
  | none => none
 | some (.arr n e), .eptr cs off, .int _ i =>
  match T e with
  | some ie => if 0 ≤ i ∧ i < n then some (.eptr cs (off + i.toNat * ie.size)) else none
  | none => none
 | _, _, _ => none
def Wg (T : z6) (t : TypeId) (x i : AV) : Option AV :=
 match ((T t).map TI.d : Option TD), x, i with
 | some (.arr n e), .agg cs, .int _ i => (T e).bind fun ie => if 0 ≤ i ∧ i < n then Z2 ie cs (i.toNat * ie.size) else none
 | some .str, .str s, .int _ i => if 0 ≤ i then (s[i.toNat]?).map fun b => .int .u8 b.toNat else none
 | _, _, _ => none
def Wv (T : z6) (t : TypeId) (x : AV) (f : Nat) : Option AV :=
 match ((T t).map TI.d : Option TD) with
 | some (.struct fs) =>
  match fs[f]? with
  | some (ft, foff) =>
   match T ft with
   | some i => if i.size = 0 then none else match x with
    | .ptr b g j off => some (.ptr b g j (off + foff))
    | .eptr cs off => some (.eptr cs (off + foff))
    | _ => none
   | none => none
  | none => none
 | _ => none
def Ww (T : z6) (t : TypeId) (x : AV) (f : Nat) : Option AV :=
 match ((T t).map TI.d : Option TD), x with
 | some (.struct fs), .agg cs => (fs[f]?).bind fun p => (T p.1).bind fun i => Z2 i cs p.2
 | _, _ => none
def WJ (T : z6) (t : TypeId) (parts : List (Nat × AV)) : Option AV :=
 match T t with
 | some i =>
  match i.d, qF i.zero with
  | .struct fs, some zc => if fs.all (fun p => (T p.1).isSome) then (Vj (fun k => (fs[k]?).bind fun p => (T p.1).map fun ft => (p.2, ft.size)) zc parts).map .agg else none
  | .arr _ e, some zc => match T e with
   | some ie => (Vj (fun k => some (k * ie.size, ie.size)) zc parts).map .agg
   | none => none
  | _, _ => none
 | none => none
def Xh (T : z6) (H : AH) (t : TypeId) (len : Nat) (parts : List (Nat × AV)) : Option (AV × AH) :=
 match T t with
 | some i =>
  match i.d with
  | .slice e => match T e with
   | some ie => if parts.length = len ∧ len * ie.size ≤ 16777216 ∧ 0 < ie.size ∧ ie.zero.cells.length = ie.size then (JB ie.size 0 H parts).map fun q => (.slice q.1 true, q.2) else none
   | none => none
  | _ => none
 | none => none
def QA (H : AH) : AV → Bool
 | .nilslice => true
 | .slice _ _ => true
 | .ref b n =>
  match H[b]? with
  | some (.row _ _ xs) => xs.length == n
  | _ => false
 | _ => false
def Qc (ie : TI) (s : AV) (ys : List AV) : Option (List AV) :=
 match s with
 | .nilslice => if ys.length * ie.bytes ≤ 140737488355328 ∧ ys.length ≤ 9223372036854775807 then some ys else none
 | .slice xs true =>
  if (xs.length + ys.length) * ie.bytes ≤ 140737488355328 ∧ xs.length + ys.length ≤ 9223372036854775807 ∧ xs.all (fun y => y.cells.length == ie.size)
  then some (xs ++ ys) else none
 | _ => none
def jO (ie : TI) (H : AH) (s : AV) (ys : List AV) : Option (AV × AH) :=
 match s with
 | .ref b n =>
  match H[b]? with
  | some (.row wr sz xs) =>
   if xs.length = n ∧ sz = ie.size ∧ (n + ys.length) * ie.bytes ≤ 140737488355328 ∧ n + ys.length ≤ 9223372036854775807 then some (.ref b (n + ys.length), H.set b (.row wr sz (xs ++ ys))) else none
  | _ => none
 | s => (Qc ie s ys).map fun zs => (.ref H.length zs.length, H ++ [.row true ie.size zs])
def qn (T : z6) (H : AH) (t : TypeId) (s x : AV) : Option (AV × AH) :=
 match T t with
 | some i =>
  match i.d with
  | .slice e => match T e, jk H x with
   | some ie, some ys =>
    if ys.isEmpty then (if QA H s then some (s, H) else none)
    else if 0 < ie.size ∧ (qF ie.zero).map List.length = some ie.size ∧ ys.all (fun y => y.cells.length == ie.size && y.cells.all qo) then jO ie H s ys
    else none
   | _, _ => none
  | _ => none
 | none => none
def qu (T : z6) (H : AH) (t : TypeId) (x : AV) : Option AV :=
 match ((T t).map TI.d : Option TD), x with
 | some .str, .str s => some (.int .i64 s.size)
 | some (.arr n _), _ => some (.int .i64 n)
 | some (.slice _), .slice xs _ => some (.int .i64 xs.length)
 | some (.slice _), .nilslice => some (.int .i64 0)
 | some (.slice _), .ref b n =>
  match H[b]? with
  | some (.row _ _ xs) => if xs.length = n then some (.int .i64 n) else none
  | _ => none
 | some (.map _ _), .nilmap => some (.int .i64 0)
 | some (.map _ _), .map b =>
  match H[b]? with
  | some (.map es) => some (.int .i64 es.length)
  | _ => none
 | _, _ => none
def WI (T : z6) (t : TypeId) (x : AV) : Option AV :=
 match ((T t).map TI.d : Option TD), x with
 | some (.slice _), .slice xs true => some (.int .i64 xs.length)
 | some (.slice _), .nilslice => some (.int .i64 0)
 | _, _ => none
def Un (T : z6) (H : AH) (t t' : TypeId) (s x : AV) : Option (AV × AH) :=
 match T t, T t', s, x with
 | some i, some i', .nilslice, .int _ n =>
  match i.d, i'.d with
  | .slice e, .int _ => (T e).bind fun ie =>
   if 0 < n ∧ n * ie.bytes ≤ 140737488355328 ∧ n ≤ 9223372036854775807 ∧ 0 < ie.size ∧ (qF ie.zero).map List.length = some ie.size then some (.pre H.length n.toNat, H ++ [.row true ie.size []]) else none
  | _, _ => none
 | _, _, _, _ => none
def UF : AV → AV → Option Bool
 | .int k a, .int k' b => if k = k' then some (a == b) else none
 | _, _ => none
def XW (k : AV) : List (AV × AV) → Option (Option AV)
 | [] => some none
 | e :: r => match UF k e.1 with
  | some true => some (some e.2)
  | some false => XW k r
  | none => none
def YJ (k v : AV) : List (AV × AV) → Option (List (AV × AV))
 | [] => some [(k, v)]
 | e :: r => match UF k e.1 with
  | some true => some ((k, v) :: r)
  | some false => (YJ k v r).map fun q => e :: q
  | none => none
def U7 : TD → AV → Bool
 | .int k, .int k' _ => k == k'
 | _, _ => false
def XZ (H : AH) : AV → Option (List (AV × AV))
 | .nilmap => some []
 | .map b => match H[b]? with
  | some (.map es) => some es
  | _ => none
 | _ => none
def Q3 (T : z6) (H : AH) (t : TypeId) (m k : AV) (ok : Bool) : Option AV :=
 match ((T t).map TI.d : Option TD) with
 | some (.map kt et) =>
  match T kt, T et with
  | some ki, some ei => if U7 ki.d k then ((XZ H m).bind fun es => XW k es).map fun r => if ok then .tuple [r.getD ei.zero, .bool r.isSome] else r.getD ei.zero else none
  | _, _ => none
 | _ => none
def Va (T : z6) (H : AH) (t : TypeId) (m k v : AV) : Option AH :=
 match ((T t).map TI.d : Option TD), m with
 | some (.map kt _), .map b =>
  match T kt, H[b]? with
  | some ki, some (.map es) => if U7 ki.d k then (YJ k v es).map fun es' => H.set b (.map es') else none
  | _, _ => none
 | _, _ => none
def Vx (mx : Bool) : AV → List AV → Option AV
 | a, [] => some a
 | .int k a, .int k' b :: r => if k = k' then Vx mx (.int k (if mx then (if b > a then b else a) else (if b < a then b else a))) r else none
 | _, _ => none
def VY (T : z6) (H : AH) (t : TypeId) (a x : AV) : Option AH :=
 match a, T t with
 | .ptr b g i off, some ti =>
  match H[b]? with
  | some (.row true sz xs) =>
   match xs[i]?, qF x with
   | some e, some cs => if xs.length = g ∧ cs.length = ti.size ∧ off + cs.length ≤ sz ∧ cs.all qo then some (H.set b (.row true sz (xs.set i (zbQ e off cs)))) else none
   | _, _ => none
  | _ => none
 | _, _ => none
def zO (T : z6) (ρ : Operand → AV) (H : AH) : Op → Option (AV × AH)
 | .move x | .assign x => some (ρ x, H)
 | .pick c a b => match ρ c with
  | .bool t => some (if t then ρ a else ρ b, H)
  | _ => none
 | .alloc e => match T e with
  | some i => (qF i.zero).bind fun cs => if cs.length = i.size then some (.ptr H.length 1 0 0, H ++ [.row true i.size [i.zero]]) else none
  | none => none
 | .box _ x => (qF (ρ x)).map fun cs => (.ptr H.length 1 0 0, H ++ [.row true cs.length [ρ x]])
 | .build t parts => (WJ T t (parts.toList.map fun p => (p.1, ρ p.2))).map fun v => (v, H)
 | .buildSlice t n parts => Xh T H t n (parts.toList.map fun p => (p.1, ρ p.2))
 | .load t a => (T t).bind fun i => (rd H (ρ a)).bind fun p => (Z2 i p.1.cells p.2).map fun v => (v, H)
 | .store t a x => (VY T H t (ρ a) (ρ x)).map fun H' => (.junk, H')
 | .nilCheck x => match ρ x with
  | .ptr b g i off => some (.ptr b g i off, H)
  | .eptr cs off => some (.eptr cs off, H)
  | .func (.func f) a b => some (.func (.func f) a b, H)
  | .yld b => some (.yld b, H)
  | _ => none
 | .binOp op t x y _ => if nilI (ρ x) && nilI (ρ y) && !ZV x && !ZV y then none else (qY T op t (ρ x) (ρ y)).map fun v => (v, H)
 | .unOp op _ x => (UA op (ρ x)).map fun v => (v, H)
 | .convert s d x => (WE T s d (ρ x)).map fun v => (v, H)
 | .makeInterface t x => match ((T t).map TI.d : Option TD) with
  | some .iface | none => none
  | _ => some (.iface t (ρ x), H)
 | .makeFunc f first captured => some (.func f (first.toList.map ρ) (captured.toList.map ρ), H)
 | .makeSlice t l c => match ρ l, ρ c, T t with
  | .int _ l, .int _ c, some i => match i.d with
   | .slice e => match T e with
    | some ie => if 0 ≤ l ∧ l ≤ c ∧ c * ie.bytes ≤ 140737488355328 ∧ c ≤ 9223372036854775807 ∧ 0 < ie.size ∧ (qF ie.zero).map List.length = some ie.size then some (.ref H.length l.toNat, H ++ [.row true ie.size (List.replicate l.toNat ie.zero)]) else none
    | none => none
   | _ => none
  | _, _, _ => none
 | .slice t x lo hi mx => match ((T t).map TI.d : Option TD) with
  | some (.slice e) => (T e).bind fun ie => Z0 ie H (ρ x) (lo.map ρ) (hi.map ρ) (mx.map ρ)
  | some .str => (Yr (ρ x) (lo.map ρ) (hi.map ρ) (mx.map ρ)).map fun v => (v, H)
  | some (.arr n e) => (T e).bind fun ie => VJ n ie H (ρ x) (lo.map ρ) (hi.map ρ) (mx.map ρ)
  | _ => none
 | .fieldAddr t x f => (Wv T t (ρ x) f).map fun v => (v, H)
 | .field t x f => (Ww T t (ρ x) f).map fun v => (v, H)
 | .indexAddr t x i => (Q6 T H t (ρ x) (ρ i)).map fun v => (v, H)
 | .index t x i => (Wg T t (ρ x) (ρ i)).map fun v => (v, H)
 | .typeAssert x _ asserted ok => match ρ x, ((T asserted).map TI.d : Option TD) with
  | .iface _ _, some .iface | .iface _ _, none => none
  | .iface t v, some _ => if t = asserted then some (if ok then .tuple [v, .bool true] else v, H) else none
  | _, _ => none
 | .extract x i => match ρ x with
  | .tuple vs => (vs[i]?).map fun v => (v, H)
  | _ => none
 | .makeMap _ none => some (.map H.length, H ++ [.map []])
 | .insert t m k x | .mapUpdate t m k x => (Va T H t (ρ m) (ρ k) (ρ x)).map fun H' => (.junk, H')
 | .lookup t m k ok => (Q3 T H t (ρ m) (ρ k) ok).map fun v => (v, H)
 | .call c => match c.callee, c.args.toList.map ρ, c.argTypes.toList with
  | .builtin .len, [x], [t] => (qu T H t x).map fun v => (v, H)
  | .builtin .cap, [x], [t] => (WI T t x).map fun v => (v, H)
  | .builtin .append, [s, x], [t, t'] => if t = t' then qn T H t s x else Un T H t t' s x
  | .builtin .min, x :: r, _ => (Vx false x r).map fun v => (v, H)
  | .builtin .max, x :: r, _ => (Vx true x r).map fun v => (v, H)
  | _, _, _ => none
 | _ => none
end Go.Arm

namespace Go.Arm
open Go.RowKit
variable {Γ : Nat → Option (List AV)} {G : Gh} {w : World} {H : AH} {P : Program} {T : z6}
theorem zF.get {t : TypeId} {i : TI} (h : zF P t i) : ∃ info d z, P.info? t = some info ∧ info.zero = some z ∧ absC z = i.zero ∧ info.size = i.size ∧ info.bytes = i.bytes ∧
  P.underlying t = some d ∧ jz d = i.d := by
 obtain ⟨h1, h2, _⟩ := h
 simp only [Option.map_eq_some_iff, Prod.mk.injEq] at h1 h2
 obtain ⟨info, hi, hz, hs, hb⟩ := h1
 obtain ⟨d, hd, htd⟩ := h2
 obtain ⟨z, hz1, hz2⟩ := hz
 exact ⟨info, d, z, hi, hz1, hz2, hs, hb, hd, htd⟩
def CR (G : Gh) (w : World) (cs : List AV) (vs : Array Value) : Prop := vs.size = cs.length ∧ ∀ (i : Nat) a v, cs[i]? = some a → vs[i]? = some v → VR G w a v
theorem CR.get {cs : List AV} {vs : Array Value} (h : CR G w cs vs) {i : Nat} {a : AV} (ha : cs[i]? = some a) : ∃ v, vs[i]? = some v ∧ VR G w a v := by
 have hi := (gI.1 ha).1
 have : i < vs.size := by rw [h.1]; exact hi
 exact ⟨vs[i], by simp [this], h.2 i a _ ha (by simp [this])⟩
theorem CR.one {a : AV} {v : Value} (h : VR G w a v) : CR G w [a] #[v] := by
 refine ⟨rfl, fun i b u hb hu => ?_⟩
 cases i with
 | zero => simp at hb hu; subst hb hu; exact h
 | succ i => simp at hb
theorem VR.cells {a : AV} {v : Value} (h : VR G w a v) {cs : List AV} (hc : qF a = some cs) : cs = a.cells ∧ CR G w cs v.cells := by
 cases h <;> simp only [qF, AV.cells, Option.some.injEq, reduceCtorEq] at hc <;> subst hc
 case agg h1 h2 => exact ⟨rfl, h1, h2⟩
 case ptr b g i off L h1 h2 h3 h4 =>
  obtain ⟨a, rfl⟩ := h3
  exact ⟨rfl, .one (.ptr h1 h2 ⟨a, rfl⟩ h4)⟩
 case ref b n L h1 h2 h3 h4 h5 =>
  obtain ⟨a, m, c, rfl⟩ := h4
  exact ⟨rfl, .one (.ref h1 h2 h3 ⟨a, m, c, rfl⟩ h5)⟩
 case pre b n L h1 h2 h3 h4 =>
  obtain ⟨a, m, c, rfl⟩ := h3
  exact ⟨rfl, .one (.pre h1 h2 ⟨a, m, c, rfl⟩ h4)⟩
 case slice0 hf => exact ⟨rfl, .one (.slice0 hf)⟩
 case bool => exact ⟨rfl, .one (.bool _)⟩
 case int => exact ⟨rfl, .one (.int _ _)⟩
 case str => exact ⟨rfl, .one (.str _)⟩
 case nilptr => exact ⟨rfl, .one .nilptr⟩
 case eptr vals hB h1 h2 h3 => exact ⟨rfl, .one (.eptr vals hB h1 h2 h3)⟩
 case nilslice => exact ⟨rfl, .one .nilslice⟩
 case slice vals hB h1 h2 h3 h4 h5 h6 => exact ⟨rfl, .one (.slice vals hB h1 h2 h3 h4 h5 h6)⟩
 case func h1 h2 h3 h4 => exact ⟨rfl, .one (.func h1 h2 h3 h4)⟩
 case nilfunc => exact ⟨rfl, .one .nilfunc⟩
 case iface h => exact ⟨rfl, .one (.iface h)⟩
 case niliface => exact ⟨rfl, .one .niliface⟩
 case nilmap => exact ⟨rfl, .one .nilmap⟩
 case map h1 h2 => exact ⟨rfl, .one (.map h1 h2)⟩
 case yld h1 h2 => exact ⟨rfl, .one (.yld h1 h2)⟩
theorem VR.absA (v : Value) : VR G w (absA v) v := by
 unfold Arm.absA
 split
 ·exact .bool _
 ·exact .int _ _
 ·exact .str _
 ·exact .nilptr
 ·exact .nilslice
 ·exact .nilmap
 ·exact .nilfunc
 ·exact .niliface
 ·exact .junk _
theorem VR.absC (v : Value) : VR G w (absC v) v := by
 unfold Arm.absC
 split
 ·rename_i cs
  refine .agg (by simp) fun i a u ha hu => ?_
  simp at ha
  obtain ⟨x, hx, rfl⟩ := ha
  rw [hu] at hx; cases hx
  exact VR.absA _
 ·exact VR.absA _
def Xn (Γ : Nat → Option (List AV)) (G : Gh) (w : World) (a : AV) (H' : AH) (r : Result Next) : Prop :=
 ∃ v w' G', (r = .ok (.value v) w' ∨ (r = .ok .skip w' ∧ v = undef)) ∧ zA G w G' w' ∧ zw Γ G' w' H' ∧ VR G' w' a v
theorem Xn.val (hI : zw Γ G w H) {a : AV} {v : Value} (h : VR G w a v) : Xn Γ G w a H (.ok (.value v) w) := ⟨v, w, G, .inl rfl, .refl _ _, hI, h⟩
section ints
theorem run_intOp {op : BinOp} {k : IntKind} {a b : Int} {v : AV} (h : ZN op k a b = some v) (t : TypeId) :
  ∃ u, (binOp op t (.int k a) (.int k b)).run P w = .ok u w ∧ VR G w v u := by
 cases op <;> simp only [ZN, Option.some.injEq, reduceCtorEq] at h
 case quo => 
  split at h <;> simp at h; subst h
  rename_i hb
  exact ⟨_, by simp [binOp, Op.intDiv, hb], .int _ _⟩
 case rem => 
  split at h <;> simp at h; subst h
  rename_i hb
  exact ⟨_, by simp [binOp, Op.intDiv, hb], .int _ _⟩
 all_goals
  subst h
  first
  |(refine ⟨_, ?_, .bool _⟩; simp [binOp, Op.intCmp]; done)
  |(refine ⟨_, ?_, .int _ _⟩; simp [binOp, Op.intArith, Op.intBits]; done)
theorem run_shiftA {op : BinOp} (hop : op = .shl ∨ op = .shr) {k k' : IntKind} {a b : Int} {v : AV} (h : Yy op k a b = some v) (t : TypeId) :
  ∃ u, (binOp op t (.int k a) (.int k' b)).run P w = .ok u w ∧ VR G w v u := by
 unfold Yy at h
 split at h
 ·simp at h
 ·rename_i hb
  rcases hop with rfl | rfl <;> simp at h <;> subst h
  ·refine ⟨_, ?_, .int _ _⟩; simp [binOp, Op.shift, hb]
  ·refine ⟨_, ?_, .int _ _⟩; simp [binOp, Op.shift, hb]
end ints
variable {Γ : Nat → Option (List AV)} {G : Gh} {w : World} {H : AH} {P : Program} {T : z6}
theorem zaQ {t : TypeId} {i : TI} (h : zF P t i) : (isAgg t).run P w = .ok i.d.isAgg w := by
 obtain ⟨info, d, z, hi, hz, hz2, hs, hb, hd, htd⟩ := h.get
 simp only [isAgg, Sem.run_bind, run_underlying hd, Result.andThen_ok]
 rw [← htd]
 cases d <;> simp [jz, TD.isAgg]
theorem run_sizeOf' {t : TypeId} {i : TI} (h : zF P t i) : (sizeOf t).run P w = .ok i.size w := by
 obtain ⟨info, d, z, hi, hz, hz2, hs, hb, hd, htd⟩ := h.get
 simp [sizeOf, typeInfo, hi, hs]
theorem jb {t : TypeId} {i : TI} (h : zF P t i) : ∃ d, jz d = i.d ∧ P.underlying t = some d ∧ ∀ w, (underlying t).run P w = .ok d w := by
 obtain ⟨info, d, z, hi, hz, hz2, hs, hb, hd, htd⟩ := h.get
 exact ⟨d, htd, hd, fun w => run_underlying hd w⟩
theorem zbR {t : TypeId} {i : TI} (h : zF P t i) : ∃ z, (∀ w, (zeroValue t).run P w = .ok z w) ∧ absC z = i.zero := by
 obtain ⟨info, d, z, hi, hz, hz2, hs, hb, hd, htd⟩ := h.get
 exact ⟨z, fun w => by simp [zeroValue, typeInfo, hi, hz], hz2⟩
theorem zdc {d : TypeDesc} {k : IntKind} (h : jz d = .int k) : d = .int k := by cases d <;> simp [jz] at h; subst h; rfl
theorem td_bool {d : TypeDesc} (h : jz d = .bool) : d = .bool := by cases d <;> simp [jz] at h; rfl
theorem Yn {d : TypeDesc} (h : jz d = .str) : d = .string := by cases d <;> simp [jz] at h; rfl
theorem ZH {d : TypeDesc} {e : TypeId} (h : jz d = .slice e) : d = .slice e := by cases d <;> simp [jz] at h; subst h; rfl
theorem Xw {d : TypeDesc} {n : Nat} {e : TypeId} (h : jz d = .arr n e) : d = .array n e := by cases d <;> simp [jz] at h; obtain ⟨rfl, rfl⟩ := h; rfl
theorem W6 {d : TypeDesc} {fs : List (TypeId × Nat)} (h : jz d = .struct fs) : ∃ gs, d = .struct gs ∧ fs = gs.toList.map fun f => (f.type, f.offset) := by
 cases d <;> simp [jz] at h; exact ⟨_, rfl, h.symm⟩
theorem zbN {d : TypeDesc} (h : jz d = .iface) : ∃ ms, d = .interface ms := by cases d <;> simp [jz] at h; exact ⟨_, rfl⟩
theorem zcu {d : TypeDesc} (h : jz d = .func) : ∃ a b c, d = .func a b c := by cases d <;> simp [jz] at h; exact ⟨_, _, _, rfl⟩
theorem W7 {d : TypeDesc} {a b : TypeId} (h : jz d = .map a b) : d = .map a b := by cases d <;> simp [jz] at h; obtain ⟨rfl, rfl⟩ := h; rfl
theorem YB {t : TypeId} {i : TI} (h : zF P t i) {cs : List AV} {vs : Array Value} (hc : CR G w cs vs) {off : Nat} {a : AV} (hp : Z2 i cs off = some a) :
  ∃ v, (part t vs off).run P w = .ok v w ∧ VR G w a v := by
 unfold Z2 at hp
 by_cases hg : i.d.isAgg = true
 ·rw [if_pos hg] at hp
  split at hp
  ·rename_i hlen
   simp at hp; subst hp
   refine ⟨.agg (vs.extract off (off + i.size)), by simp [part, zaQ h, run_sizeOf' h, hg], .agg ?_ ?_⟩
   ·simp [hc.1]; omega
   ·intro j a v ha hv
    rw [List.getElem?_take] at ha
    split at ha
    ·rw [List.getElem?_drop] at ha
     rw [Array.getElem?_extract] at hv
     split at hv
     ·exact hc.2 _ a v ha hv
     ·cases hv
    ·cases ha
  ·cases hp
 ·rw [if_neg hg] at hp
  have hg' : i.d.isAgg = false := by simpa using hg
  obtain ⟨v, hv, hr⟩ := hc.get hp
  exact ⟨v, by simp [part, zaQ h, hg', hv], hr⟩
theorem eqOk_get {t : TypeId} (h : eqOk P t = true) : P.eqGuardType P.depth t = false ∧ P.stoodInHeld t = false ∧ ∀ fs, P.underlying t = some (.struct fs) → ∀ f ∈ fs.toList, f.name ≠ "_" := by
 simp only [eqOk, Bool.and_eq_true, Bool.not_eq_true'] at h
 refine ⟨h.1.1, h.1.2, fun fs hfs f hf => ?_⟩
 have h2 := h.2
 rw [hfs] at h2
 simp only [List.all_eq_true, bne_iff_ne] at h2
 exact h2 f hf
theorem run_eqFs (hT : qf P T) {xs ys : List AV} {vs us : Array Value} (hx : CR G w xs vs) (hy : CR G w ys us) {N : Nat} {eq : TypeId → AV → AV → Option Bool}
  (heq : ∀ t x y b vx vy, eq t x y = some b → VR G w x vx → VR G w y vy → (Op.equalIn N t vx vy).run P w = .ok b w) :
  ∀ (fs : List Field) (b : Bool), (∀ f ∈ fs, f.name ≠ "_") → Vd T eq xs ys (fs.map fun f => (f.type, f.offset)) = some b → (Op.eqFields N vs us fs).run P w = .ok b w
 | [], b, _, h => by simp [Vd] at h; subst h; simp [Op.eqFields]
 | f :: fs, b, hn, h => by
  simp only [List.map_cons, Vd] at h
  split at h
  ·rename_i x y ha hb
   simp only [Option.bind_eq_some_iff] at ha hb
   obtain ⟨i, hi, ha⟩ := ha
   obtain ⟨i', hi', hb⟩ := hb
   obtain ⟨vx, r1, q1⟩ := YB (hT _ _ hi) hx ha
   obtain ⟨vy, r2, q2⟩ := YB (hT _ _ hi') hy hb
   split at h
   ·rename_i c hc
    have r3 := heq _ _ _ _ _ _ hc q1 q2
    have hf := hn f (by simp)
    cases c with
    | true =>
     simp only [if_true] at h
     have := run_eqFs hT hx hy heq fs b (fun g hg => hn g (by simp [hg])) h
     simp [Op.eqFields, hf, r1, r2, r3, this]
    | false =>
     simp at h; subst h
     simp [Op.eqFields, hf, r1, r2, r3]
   ·cases h
  ·cases h
theorem run_eqEs (hT : qf P T) {e : TypeId} {ie : TI} (he : T e = some ie) {xs ys : List AV} {vs us : Array Value} (hx : CR G w xs vs) (hy : CR G w ys us) {N : Nat} {eq : TypeId → AV → AV → Option Bool}
  (heq : ∀ t x y b vx vy, eq t x y = some b → VR G w x vx → VR G w y vy → (Op.equalIn N t vx vy).run P w = .ok b w) :
  ∀ (n k : Nat) (b : Bool), Ud T eq e xs ys n k = some b → (Op.eqItems N e (P.cellsOf e) vs us (List.range' k n)).run P w = .ok b w
 | 0, k, b, h => by simp [Ud] at h; subst h; simp [Op.eqItems]
 | n + 1, k, b, h => by
  have hsz : P.cellsOf e = ie.size := by
   obtain ⟨info, d, z, hi, hz, hz2, hs, hb, hd, htd⟩ := (hT _ _ he).get
   simp [Program.cellsOf, hi, hs]
  simp only [Ud, he, Option.bind_some] at h
  split at h
  ·rename_i x y ha hb
   obtain ⟨vx, r1, q1⟩ := YB (hT _ _ he) hx ha
   obtain ⟨vy, r2, q2⟩ := YB (hT _ _ he) hy hb
   split at h
   ·rename_i c hc
    have r3 := heq _ _ _ _ _ _ hc q1 q2
    cases c with
    | true =>
     simp only [if_true] at h
     have := run_eqEs hT he hx hy heq n (k + 1) b h
     rw [hsz] at this ⊢
     simp [Op.eqItems, List.range'_succ, r1, r2, r3, this]
    | false =>
     simp at h; subst h
     simp [Op.eqItems, List.range'_succ, hsz, r1, r2, r3]
   ·cases h
  ·cases h
theorem zcA (hT : qf P T) : ∀ (d : Nat) (t : TypeId) (x y : AV) (b : Bool) (vx vy : Value), jF T d t x y = some b → VR G w x vx → VR G w y vy →
  ∀ N, d ≤ N → (Op.equalIn N t vx vy).run P w = .ok b w
 | 0, _, _, _, _, _, _, h, _, _ => by simp [jF] at h
 | d + 1, t, x, y, b, vx, vy, h, hx, hy => by
  intro N hN
  obtain ⟨N, rfl⟩ : ∃ m, N = m + 1 := ⟨N - 1, by omega⟩
  simp only [jF] at h
  cases hi : T t with
  | none => simp [hi] at h
  | some i =>
   obtain ⟨dd, htd, hd, hrun⟩ := jb (hT _ _ hi)
   simp only [hi, Option.map_some] at h
   split at h
   ·rename_i e; simp at e; rw [e] at htd; cases td_bool htd; cases hx; cases hy; simp at h; subst h; simp [Op.equalIn, hrun]
   ·rename_i e; simp at e; rw [e] at htd; cases zdc htd; cases hx; cases hy
    split at h <;> simp at h; subst h
    rename_i hk
    simp [Op.equalIn, hrun, hk]
   ·rename_i e; simp at e; rw [e] at htd; cases Yn htd; cases hx; cases hy; simp at h; subst h; simp [Op.equalIn, hrun]
   ·rename_i e; simp at e; rw [e] at htd; obtain ⟨ms, rfl⟩ := zbN htd; cases hx; cases hy; simp at h; subst h; simp [Op.equalIn, hrun]
   ·rename_i e; simp at e; rw [e] at htd; obtain ⟨ms, rfl⟩ := zbN htd; cases hx; cases hy; simp at h; subst h; simp [Op.equalIn, hrun]
   ·rename_i e; simp at e; rw [e] at htd; obtain ⟨ms, rfl⟩ := zbN htd; cases hx; cases hy; simp at h; subst h; simp [Op.equalIn, hrun]
   ·rename_i e; simp at e; rw [e] at htd; obtain ⟨_, _, _, rfl⟩ := zcu htd; cases hx; cases hy; simp at h; subst h; simp [Op.equalIn, hrun]
   ·rename_i e; simp at e; rw [e] at htd; obtain ⟨_, _, _, rfl⟩ := zcu htd; cases hx; cases hy; simp at h; subst h; simp [Op.equalIn, hrun]
   ·rename_i e; simp at e; rw [e] at htd; obtain ⟨_, _, _, rfl⟩ := zcu htd; cases hx; cases hy; simp at h; subst h; simp [Op.equalIn, hrun]
   ·rename_i e; simp at e; rw [e] at htd; cases ZH htd; cases hx; cases hy; simp at h; subst h; simp [Op.equalIn, hrun]
   ·rename_i e; simp at e; rw [e] at htd; cases ZH htd; cases hx; cases hy; simp at h; subst h; simp [Op.equalIn, hrun]
   ·rename_i e; simp at e; rw [e] at htd; cases ZH htd; cases hx; cases hy; simp at h; subst h; simp [Op.equalIn, hrun]
   ·rename_i fs xs ys e
    simp at e
    split at h
    ·rename_i heq
     simp at heq
     rw [e] at htd
     obtain ⟨gs, rfl, hfs⟩ := W6 htd
     obtain ⟨_, hst, hnm⟩ := eqOk_get ((hT _ _ hi).2.2 heq)
     cases hx with
     | agg hx1 hx2 =>
      cases hy with
      | agg hy1 hy2 =>
       have hfo : P.fieldsOf t = gs := by simp [Program.fieldsOf, hd]
       rw [run_equalIn_struct w N t _ _ (by rw [hfo]; exact hd) hst, hfo]
       rw [hfs] at h
       exact run_eqFs hT ⟨hx1, hx2⟩ ⟨hy1, hy2⟩ (fun t x y b vx vy h1 h2 h3 => zcA hT d t x y b vx vy h1 h2 h3 N (by omega)) gs.toList b (hnm gs hd) h
    ·cases h
   ·rename_i n e' xs ys e
    simp at e
    split at h
    ·rename_i hq
     simp only [Bool.and_eq_true] at hq
     rw [e] at htd
     cases Xw htd
     cases hx with
     | agg hx1 hx2 =>
      cases hy with
      | agg hy1 hy2 =>
       cases he' : T e' with
       | none => have := hq.2; simp [he'] at this
       | some ie =>
        obtain ⟨info, d', z, hi', hz, hz2, hs, hb, hd', htd'⟩ := (hT _ _ he').get
        rw [run_equalIn_array w N _ _ hd hi', List.range_eq_range']
        exact run_eqEs hT he' ⟨hx1, hx2⟩ ⟨hy1, hy2⟩ (fun t x y b vx vy h1 h2 h3 => zcA hT d t x y b vx vy h1 h2 h3 N (by omega)) n 0 b h
    ·cases h
   ·cases h
variable {Γ : Nat → Option (List AV)} {G : Gh} {w : World} {H : AH} {P : Program} {T : z6}
theorem run_eql (hT : qf P T) {t : TypeId} {x y : AV} {vx vy : Value} {b : Bool} (hb : jF T 6 t x y = some b) (hx : VR G w x vx) (hy : VR G w y vy)
  (h1 : ∀ k a k' c, x = .int k a → y = .int k' c → False) (h2 : ∀ a c, x = .str a → y = .str c → False) :
  (binOp .eql t vx vy).run P w = .ok (.bool b) w ∧ (binOp .neq t vx vy).run P w = .ok (.bool !b) w := by
 have hr := zcA hT 6 t x y b vx vy hb hx hy 10000 (by omega)
 simp only [jF] at hb
 split at hb
 ·cases hx; cases hy; simp [binOp, Op.equal, Op.maxDepth, hr]
 ·exact (h1 _ _ _ _ rfl rfl).elim
 ·exact (h2 _ _ rfl rfl).elim
 ·cases hx; cases hy; simp [binOp, Op.equal, Op.maxDepth, hr]
 ·cases hx; cases hy; simp [binOp, Op.equal, Op.maxDepth, hr]
 ·cases hx; cases hy; simp [binOp, Op.equal, Op.maxDepth, hr]
 ·cases hx; cases hy; simp [binOp, Op.equal, Op.maxDepth, hr]
 ·cases hx; cases hy; simp [binOp, Op.equal, Op.maxDepth, hr]
 ·cases hx; cases hy; simp [binOp, Op.equal, Op.maxDepth, hr]
 ·cases hx; cases hy; simp [binOp, Op.equal, Op.maxDepth, hr]
 ·cases hx; cases hy; simp only [List.length_cons] at hr ⊢; simp [binOp, Op.equal, Op.maxDepth, hr]
 ·cases hx; cases hy; simp only [List.length_cons] at hr ⊢; simp [binOp, Op.equal, Op.maxDepth, hr]
 ·cases hx; cases hy; simp [binOp, Op.equal, Op.maxDepth, hr]
 ·cases hx; cases hy; simp [binOp, Op.equal, Op.maxDepth, hr]
 ·cases hb
theorem run_binA (hT : qf P T) {op : BinOp} {t : TypeId} {x y a : AV} {vx vy : Value} (h : qY T op t x y = some a) (hx : VR G w x vx) (hy : VR G w y vy) :
  ∃ v, (binOp op t vx vy).run P w = .ok v w ∧ VR G w a v := by
 unfold qY at h
 split at h
 ·cases hx; cases hy; exact run_shiftA (.inl rfl) h t
 ·cases hx; cases hy; exact run_shiftA (.inr rfl) h t
 ·cases hx; cases hy
  split at h
  ·rename_i e; subst e; exact run_intOp h t
  ·cases h
 ·cases hx; cases hy
  split at h
  ·rename_i a c hsz
   simp at h; subst h
   refine ⟨_, ?_, .str _⟩
   have : ¬ ((9223372036854775807 : Int) < (a.size : Int) + (c.size : Int)) := by omega
   simp [binOp, Op.stringOp, IntKind.max, IntKind.signed, IntKind.bits, this]
  ·cases h
 ·cases hx; cases hy; simp only [Option.some.injEq] at h; subst h
  exact ⟨_, by simp [binOp, Op.stringOp], .bool _⟩
 ·cases hx; cases hy; simp only [Option.some.injEq] at h; subst h
  exact ⟨_, by simp [binOp, Op.stringOp], .bool _⟩
 ·rename_i h1 h2
  simp only [Option.map_eq_some_iff] at h
  obtain ⟨b, hb, rfl⟩ := h
  have := run_eql hT hb hx hy (fun k a k' c e1 e2 => h1 _ _ _ _ e1 e2) (fun a c e1 e2 => h2 _ _ e1 e2)
  exact ⟨_, this.1, .bool _⟩
 ·rename_i h1 h2
  simp only [Option.map_eq_some_iff] at h
  obtain ⟨b, hb, rfl⟩ := h
  have := run_eql hT hb hx hy (fun k a k' c e1 e2 => h1 _ _ _ _ e1 e2) (fun a c e1 e2 => h2 _ _ e1 e2)
  exact ⟨_, this.2, .bool _⟩
 ·cases h
theorem run_unA {op : UnOp} {x a : AV} {vx : Value} (h : UA op x = some a) (hx : VR G w x vx) : ∃ v, (Op.unary op vx).run P w = .ok v w ∧ VR G w a v := by
 unfold UA at h
 split at h <;> simp only [Option.some.injEq, reduceCtorEq] at h <;> subst h <;> cases hx
 ·exact ⟨_, by simp [Op.unary, Op.intArith], .int _ _⟩
 ·exact ⟨_, by simp [Op.unary, Op.intBits], .int _ _⟩
 ·exact ⟨_, by simp [Op.unary], .bool _⟩
theorem run_convertA (hT : qf P T) {s d : TypeId} {x a : AV} {vx : Value} (h : WE T s d x = some a) (hx : VR G w x vx) : ∃ v, (convert s d vx).run P w = .ok v w ∧ VR G w a v := by
 unfold WE at h
 split at h
 ·rename_i e1 e2
  simp only [Option.map_eq_some_iff] at e1 e2
  obtain ⟨i1, hi1, e1⟩ := e1
  obtain ⟨i2, hi2, e2⟩ := e2
  obtain ⟨d1, ht1, _, r1⟩ := jb (hT _ _ hi1)
  obtain ⟨d2, ht2, _, r2⟩ := jb (hT _ _ hi2)
  rw [e1] at ht1; rw [e2] at ht2
  cases zdc ht1; cases zdc ht2
  simp only [Option.some.injEq] at h; subst h
  cases hx
  exact ⟨_, by simp [convert, r1, r2, Conv.intToInt], .int _ _⟩
 ·rename_i e1 e2
  simp only [Option.map_eq_some_iff] at e1 e2
  obtain ⟨i1, hi1, e1⟩ := e1
  obtain ⟨i2, hi2, e2⟩ := e2
  obtain ⟨d1, ht1, _, r1⟩ := jb (hT _ _ hi1)
  obtain ⟨d2, ht2, _, r2⟩ := jb (hT _ _ hi2)
  rw [e1] at ht1; rw [e2] at ht2
  cases Yn ht1; cases Yn ht2
  simp only [Option.some.injEq] at h; subst h
  cases hx
  exact ⟨_, by simp [convert, r1, r2], .str _⟩
 ·cases h
theorem VM (B o n : Nat) : (⟨B, o, none⟩ : Addr).add n = ⟨B, o + n, none⟩ := by
 unfold Addr.add; split <;> simp_all
theorem run_indexAddrA (hI : zw Γ G w H) (hT : qf P T) {t : TypeId} {x i a : AV} {vx vi : Value} (h : Q6 T H t x i = some a) (hx : VR G w x vx) (hi : VR G w i vi) :
  ∃ v, (Instr.indexAt t vx vi).run P w = .ok v w ∧ VR G w a v := by
 unfold Q6 at h
 split at h
 ·rename_i e xs full k n e1
  simp only [Option.map_eq_some_iff] at e1
  obtain ⟨ti, hti, e1⟩ := e1
  obtain ⟨d, htd, hd, r⟩ := jb (hT _ _ hti)
  rw [e1] at htd; cases ZH htd
  split at h
  ·rename_i h0
   simp only [Option.bind_eq_some_iff] at h
   obtain ⟨y, hy, cs, hcs, h⟩ := h
   split at h
   ·rename_i hsz
    simp only [Option.any_eq_true_iff_get, Option.isSome_iff_exists] at hsz
    obtain ⟨⟨ie, hie⟩, hsz⟩ := hsz
    simp [hie] at hsz
    simp only [Option.some.injEq] at h; subst h
    cases hi
    have hlt := (gI.1 hy).1
    cases hx with
    | slice0 hf => simp at hlt
    | slice vals hB hs hc hr hl hcap hf =>
     rename_i B o cap sz
     have hcell : cs = y.cells := by unfold qF at hcs; split at hcs <;> simp at hcs <;> exact hcs.symm
     have hsz2 := hs y (List.mem_of_getElem? hy)
     rw [← hcell, hsz] at hsz2
     refine ⟨.pointer (some ((⟨B, o, none⟩ : Addr).add (n.toNat * ie.size))), ?_, ?_⟩
     ·have hn : n < (xs.length : Int) := by omega
      simp [Instr.indexAt, asIntOf, r, h0, hn, run_sizeOf' (hT _ _ hie)]
     ·rw [VM]
      refine VR.eptr (cs := cs) (off := 0) (o := o + n.toNat * ie.size) (vals n.toNat) hB ?_ ?_ ?_
      ·intro j c hj
       rw [hcell] at hj
       rw [hsz2]; exact hc n.toNat y j c hy hj
      ·intro j c hj
       rw [hcell] at hj
       exact hr n.toNat y j c hy hj
      ·intro b' L' hb' hB'
       have h9 := hl b' L' hb' hB'
       have h10 : (n.toNat + 1) * sz ≤ xs.length * sz := Nat.mul_le_mul_right _ (by omega)
       rw [Nat.add_mul] at h10
       rw [hsz, hsz2]; omega
   ·cases h
  ·cases h
 ·rename_i e b m k n e1
  simp only [Option.map_eq_some_iff] at e1
  obtain ⟨ti, hti, e1⟩ := e1
  obtain ⟨d, htd, hd, r⟩ := jb (hT _ _ hti)
  rw [e1] at htd; cases ZH htd
  split at h
  ·rename_i wr sz xs hH
   split at h
   ·rename_i hc
    obtain ⟨hlen, h0, h1, hsz⟩ := hc
    simp only [Option.any_eq_true_iff_get, Option.isSome_iff_exists] at hsz
    obtain ⟨⟨ie, hie⟩, hsz⟩ := hsz
    simp [hie] at hsz
    simp only [Option.some.injEq] at h; subst h
    obtain ⟨L, hL, hn, hz, _⟩ := hI.row hH
    cases hi
    cases hx with
    | ref hL' hf hg hs hv =>
     rw [hL] at hL'; cases hL'
     have e := hv (by omega)
     subst e
     refine ⟨.pointer (some ((⟨L.B, 0, none⟩ : Addr).add (n.toNat * ie.size))), ?_, ?_⟩
     ·simp [Instr.indexAt, asIntOf, r, h0, h1, run_sizeOf' (hT _ _ hie)]
     ·rw [VM]
      refine .ptr hL (by omega) ⟨_, rfl⟩ fun _ => ?_
      rw [hz, hsz]; simp
   ·cases h
  ·cases h
 ·rename_i n e b g j off k i e1
  simp only [Option.map_eq_some_iff] at e1
  obtain ⟨ti, hti, e1⟩ := e1
  obtain ⟨d, htd, hd, r⟩ := jb (hT _ _ hti)
  rw [e1] at htd; cases Xw htd
  split at h
  ·rename_i ie hie
   split at h
   ·rename_i hc
    simp only [Option.some.injEq] at h; subst h
    cases hi
    cases hx with
    | ptr hL hg hs hv =>
     obtain ⟨ad, rfl⟩ := hs
     refine ⟨.pointer (some (ad.add (i.toNat * ie.size))), ?_, ?_⟩
     ·simp [Instr.indexAt, asIntOf, r, hc.1, hc.2, Instr.sureAddr, run_sizeOf' (hT _ _ hie)]
     ·refine .ptr hL hg ⟨_, rfl⟩ fun e => ?_
      have := hv e
      simp at this; subst this
      rw [VM]; simp <;> omega
   ·cases h
  ·cases h
 ·rename_i n e cs off k i e1
  simp only [Option.map_eq_some_iff] at e1
  obtain ⟨ti, hti, e1⟩ := e1
  obtain ⟨d, htd, hd, r⟩ := jb (hT _ _ hti)
  rw [e1] at htd; cases Xw htd
  split at h
  ·rename_i ie hie
   split at h
   ·rename_i hc
    simp only [Option.some.injEq] at h; subst h
    cases hi
    cases hx with
    | eptr vals hB h1 h2 h3 =>
     rename_i B o
     refine ⟨.pointer (some ((⟨B, o + off, none⟩ : Addr).add (i.toNat * ie.size))), ?_, ?_⟩
     ·simp [Instr.indexAt, asIntOf, r, hc.1, hc.2, Instr.sureAddr, run_sizeOf' (hT _ _ hie)]
     ·rw [VM, Nat.add_assoc]
      exact .eptr vals hB h1 h2 h3
   ·cases h
  ·cases h
 ·cases h
variable {Γ : Nat → Option (List AV)} {G : Gh} {w : World} {H : AH} {P : Program} {T : z6}
theorem run_fieldAddrA (hT : qf P T) {t : TypeId} {x a : AV} {vx : Value} {f : Nat} (h : Wv T t x f = some a) (hx : VR G w x vx) :
  ∃ v, (Instr.fieldAt t vx f).run P w = .ok v w ∧ VR G w a v := by
 unfold Wv at h
 split at h
 ·rename_i fs e1
  simp only [Option.map_eq_some_iff] at e1
  obtain ⟨ti, hti, e1⟩ := e1
  obtain ⟨d, htd, hd, r⟩ := jb (hT _ _ hti)
  rw [e1] at htd
  obtain ⟨gs, rfl, hfs⟩ := W6 htd
  split at h
  ·rename_i ft foff hf
   split at h
   ·rename_i i hi
    rw [hfs, List.getElem?_map, Option.map_eq_some_iff] at hf
    obtain ⟨fd, hfd, hfe⟩ := hf
    simp only [Prod.mk.injEq] at hfe
    have hfd' : gs[f]? = some fd := by simpa using hfd
    split at h
    ·cases h
    ·rename_i hsz
     have hs := run_sizeOf' (w := w) (hT _ _ hi)
     rw [← hfe.1] at hs
     have key : ∀ ad : Addr, (Instr.fieldAt t (.pointer (some ad)) f).run P w = .ok (.pointer (some (ad.add foff))) w := by
      intro ad
      simp [Instr.fieldAt, r, hfd', Instr.sureAddr, fieldPlace, hs, hsz, hfe.2]
     split at h <;> simp only [Option.some.injEq, reduceCtorEq] at h <;> subst h
     ·cases hx with
      | ptr hL hg hs' hv =>
       obtain ⟨ad, rfl⟩ := hs'
       refine ⟨_, key ad, .ptr hL hg ⟨_, rfl⟩ fun e => ?_⟩
       have := hv e
       simp at this; subst this
       rw [VM]; simp <;> omega
     ·cases hx with
      | eptr vals hB h1 h2 h3 =>
       rename_i B o
       refine ⟨_, key _, ?_⟩
       rw [VM, Nat.add_assoc]
       exact .eptr vals hB h1 h2 h3
   ·cases h
  ·cases h
 ·cases h
theorem run_fieldA (hT : qf P T) {t : TypeId} {x a : AV} {vx : Value} {f : Nat} (h : Ww T t x f = some a) (hx : VR G w x vx) :
  ∃ v, (Instr.field t vx f).run P w = .ok v w ∧ VR G w a v := by
 unfold Ww at h
 split at h
 ·rename_i fs cs e1
  simp only [Option.map_eq_some_iff] at e1
  obtain ⟨ti, hti, e1⟩ := e1
  obtain ⟨d, htd, hd, r⟩ := jb (hT _ _ hti)
  rw [e1] at htd
  obtain ⟨gs, rfl, hfs⟩ := W6 htd
  simp only [Option.bind_eq_some_iff] at h
  obtain ⟨p, hp, i, hi, h⟩ := h
  rw [hfs, List.getElem?_map, Option.map_eq_some_iff] at hp
  obtain ⟨fd, hfd, rfl⟩ := hp
  have hfd' : gs[f]? = some fd := by simpa using hfd
  cases hx with
  | agg h1 h2 =>
   obtain ⟨v, hv, hr⟩ := YB (w := w) (hT _ _ hi) ⟨h1, h2⟩ h
   exact ⟨v, by simp [Instr.field, r, hfd', asAgg, hv], hr⟩
 ·cases h
theorem run_indexA (hT : qf P T) {t : TypeId} {x i a : AV} {vx vi : Value} (h : Wg T t x i = some a) (hx : VR G w x vx) (hi : VR G w i vi) :
  ∃ v, (Instr.index t vx vi).run P w = .ok v w ∧ VR G w a v := by
 unfold Wg at h
 split at h
 ·rename_i n e cs k i e1
  simp only [Option.map_eq_some_iff] at e1
  obtain ⟨ti, hti, e1⟩ := e1
  obtain ⟨d, htd, hd, r⟩ := jb (hT _ _ hti)
  rw [e1] at htd; cases Xw htd
  simp only [Option.bind_eq_some_iff] at h
  obtain ⟨ie, hie, h⟩ := h
  split at h
  ·rename_i hc
   cases hi
   cases hx with
   | agg h1 h2 =>
    obtain ⟨v, hv, hr⟩ := YB (w := w) (hT _ _ hie) ⟨h1, h2⟩ h
    exact ⟨v, by simp [Instr.index, asIntOf, r, hc.1, hc.2, run_sizeOf' (hT _ _ hie), hv], hr⟩
  ·cases h
 ·rename_i s k i e1
  simp only [Option.map_eq_some_iff] at e1
  obtain ⟨ti, hti, e1⟩ := e1
  obtain ⟨d, htd, hd, r⟩ := jb (hT _ _ hti)
  rw [e1] at htd; cases Yn htd
  split at h
  ·rename_i h0
   simp only [Option.map_eq_some_iff] at h
   obtain ⟨b, hb, rfl⟩ := h
   cases hi; cases hx
   exact ⟨_, by simp [Instr.index, asIntOf, r, h0, hb], .int _ _⟩
  ·cases h
 ·cases h
theorem CR.splice {cs ds : List AV} {vs us : Array Value} (h : CR G w cs vs) (hd : CR G w ds us) {off : Nat} (hl : off + ds.length ≤ cs.length) :
  CR G w (cs.take off ++ ds ++ cs.drop (off + ds.length)) (us.zipIdx.foldl (fun cs (c, j) => cs.setIfInBounds (off + j) c) vs) := by
 have key : ∀ (l : List Value) (k : Nat) (vs : Array Value), (l.zipIdx k).foldl (fun cs (p : Value × Nat) => cs.setIfInBounds (off + p.2) p.1) vs =
   ((l.zipIdx k).foldl (fun cs (p : Value × Nat) => cs.setIfInBounds (off + p.2) p.1) vs) := fun _ _ _ => rfl
 have hsize : ∀ (l : List (Value × Nat)) (vs : Array Value), (l.foldl (fun cs (p : Value × Nat) => cs.setIfInBounds (off + p.2) p.1) vs).size = vs.size := by
  intro l
  induction l with
  | nil => intro vs; rfl
  | cons p l ih => intro vs; simp only [List.foldl_cons]; rw [ih]; simp
 have hget : ∀ (l : List Value) (k : Nat) (vs : Array Value) (i : Nat), off + k + l.length ≤ vs.size →
   ((l.zipIdx k).foldl (fun cs (p : Value × Nat) => cs.setIfInBounds (off + p.2) p.1) vs)[i]? = if off + k ≤ i ∧ i < off + k + l.length then l[i - (off + k)]? else vs[i]? := by
  intro l
  induction l with
  | nil => intro k vs i _; simp; intro h1 h2; omega
  | cons v l ih =>
   intro k vs i hb
   simp only [List.zipIdx_cons, List.foldl_cons]
   rw [ih (k + 1) _ i (by simp at hb ⊢; omega)]
   by_cases h1 : i = off + k
   ·subst h1
    have h2 : ¬ (off + (k + 1) ≤ off + k ∧ off + k < off + (k + 1) + l.length) := by omega
    have h3 : off + k ≤ off + k ∧ off + k < off + k + (v :: l).length := by simp
    rw [if_neg h2, if_pos h3]
    have h4 : off + k < vs.size := by simp at hb; omega
    simp [h4]
   ·rw [Array.getElem?_setIfInBounds_ne (by omega)]
    by_cases h2 : off + (k + 1) ≤ i ∧ i < off + (k + 1) + l.length
    ·have h3 : off + k ≤ i ∧ i < off + k + (v :: l).length := by simp; omega
     rw [if_pos h2, if_pos h3]
     have : i - (off + k) = (i - (off + (k + 1))) + 1 := by omega
     rw [this]; simp
    ·have h3 : ¬ (off + k ≤ i ∧ i < off + k + (v :: l).length) := by simp; omega
     rw [if_neg h2, if_neg h3]
 have e0 : us.zipIdx.foldl (fun cs (c, j) => cs.setIfInBounds (off + j) c) vs = (us.toList.zipIdx 0).foldl (fun cs (p : Value × Nat) => cs.setIfInBounds (off + p.2) p.1) vs := by
  rw [← Array.foldl_toList]; simp
 rw [e0]
 have hus : us.toList.length = ds.length := by simpa using hd.1
 refine ⟨by rw [hsize]; simp [h.1]; omega, fun i a v ha hv => ?_⟩
 rw [hget us.toList 0 vs i (by rw [hus, h.1]; omega)] at hv
 rw [List.append_assoc, List.getElem?_append] at ha
 simp only [List.length_take] at ha
 by_cases h1 : i < min off cs.length
 ·rw [if_pos h1, List.getElem?_take] at ha
  rw [if_neg (by omega)] at hv
  split at ha
  ·exact h.2 i a v ha hv
  ·cases ha
 ·rw [if_neg h1, List.getElem?_append] at ha
  by_cases h2 : i - min off cs.length < ds.length
  ·rw [if_pos h2] at ha
   rw [if_pos (by omega)] at hv
   have e1 : min off cs.length = off := by omega
   rw [e1] at ha
   refine hd.2 (i - off) a v ha ?_
   simpa using hv
  ·rw [if_neg h2, List.getElem?_drop] at ha
   rw [if_neg (by omega)] at hv
   refine h.2 i a v ?_ hv
   rw [← ha]; congr 1; omega
theorem zaR {place : Nat → Option (Nat × Nat)} : ∀ (parts : List (Nat × AV)) (vparts : List (Nat × Value)) (cells cs : List AV) (vs : Array Value),
  CR G w cells vs → Vj place cells parts = some cs → parts.length = vparts.length → (∀ (k : Nat) p q, parts[k]? = some p → vparts[k]? = some q → p.1 = q.1 ∧ VR G w p.2 q.2) →
  ∃ us, Instr.fill place vs vparts = some us ∧ CR G w cs us
 | [], vparts, cells, cs, vs, hc, h, hl, _ => by
  cases vparts with
  | nil => simp [Vj] at h; subst h; exact ⟨vs, rfl, hc⟩
  | cons _ _ => simp at hl
 | (i, a) :: parts, vparts, cells, cs, vs, hc, h, hl, hp => by
  cases vparts with
  | nil => simp at hl
  | cons q vparts =>
   obtain ⟨j, v⟩ := q
   have h0 := hp 0 _ _ rfl rfl
   simp at h0
   obtain ⟨rfl, hv⟩ := h0
   simp only [Vj] at h
   split at h
   ·rename_i off size ds hpl hds
    split at h
    ·rename_i hcond
     obtain ⟨e1, hds2⟩ := hv.cells hds
     have h2 := zaR parts vparts _ cs _ (hc.splice (off := off) hds2 (by omega)) (by rw [← hcond.1] at h; exact h) (by simpa using hl) (fun k p q hk hq => hp (k + 1) p q hk hq)
     obtain ⟨us, hu1, hu2⟩ := h2
     refine ⟨us, ?_, hu2⟩
     have hsz : v.cells.size = size := by rw [hds2.1]; exact hcond.1
     have hle : ¬ (off + v.cells.size > vs.size) := by rw [hsz, hc.1]; omega
     simp only [Instr.fill, hpl]
     rw [if_neg (by simp [hsz]; rw [← hsz]; omega)]
     exact hu1
    ·cases h
   ·cases h
variable {Γ : Nat → Option (List AV)} {G : Gh} {w : World} {H : AH} {P : Program} {T : z6}
def VL (G : Gh) (w : World) (as : List AV) (vs : List Value) : Prop := as.length = vs.length ∧ ∀ (k : Nat) a v, as[k]? = some a → vs[k]? = some v → VR G w a v
theorem VL.nil : VL G w [] [] := ⟨rfl, fun _ _ _ h => by simp at h⟩
theorem VL.cons {a : AV} {v : Value} {as : List AV} {vs : List Value} (h : VR G w a v) (hs : VL G w as vs) : VL G w (a :: as) (v :: vs) := by
 refine ⟨by simp [hs.1], fun k b u hb hu => ?_⟩
 cases k with
 | zero => simp at hb hu; subst hb hu; exact h
 | succ k => exact hs.2 k b u (by simpa using hb) (by simpa using hu)
theorem VL.uncons {a : AV} {v : Value} {as : List AV} {vs : List Value} (h : VL G w (a :: as) (v :: vs)) : VR G w a v ∧ VL G w as vs :=
 ⟨h.2 0 a v rfl rfl, by have := h.1; simpa using this, fun k b u hb hu => h.2 (k + 1) b u (by simpa using hb) (by simpa using hu)⟩
theorem VL.mono {G' : Gh} {w' : World} {as : List AV} {vs : List Value} (h : VL G w as vs) (e : zA G w G' w') : VL G' w' as vs := ⟨h.1, fun k a v ha hv => (h.2 k a v ha hv).mono e⟩
theorem VL.of_map {fr : Operand → AV} {ρ : Operand → Value} (h : ∀ x, VR G w (fr x) (ρ x)) (xs : List Operand) : VL G w (xs.map fr) (xs.map ρ) := by
 refine ⟨by simp, fun k a v ha hv => ?_⟩
 simp only [List.getElem?_map, Option.map_eq_some_iff] at ha hv
 obtain ⟨x, hx, rfl⟩ := ha
 obtain ⟨y, hy, rfl⟩ := hv
 rw [hx] at hy; cases hy; exact h x
theorem VR.loose {xs : List AV} {full : Bool} {v : Value} (h : VR G w (.slice xs full) v) : VR G w (.slice xs false) v := by
 cases h with
 | slice0 _ => exact .slice0 (by simp)
 | slice vals hB h1 h2 h3 h4 h5 h6 => exact .slice vals hB h1 h2 h3 h4 h5 (by simp)
theorem set_same {α : Type} {l : List α} {b : Nat} {x : α} (h : l[b]? = some x) : l.set b x = l := by
 apply List.ext_getElem?
 intro i
 by_cases e : i = b
 ·subst e; rw [List.getElem?_set_self (gI.1 h).1, h]
 ·rw [List.getElem?_set_ne (by omega)]
theorem zbs (hI : zw Γ G w H) {a : AV} {v : Value} (h : VR G w a v) : ∃ G', zA G w G' w ∧ zw Γ G' w (Zs H a).2 ∧ VR G' w (Zs H a).1 v := by
 unfold Zs
 split
 ·cases h; exact ⟨G, .refl _ _, hI, .slice0 (by simp)⟩
 ·exact ⟨G, .refl _ _, hI, h.loose⟩
 ·rename_i b n
  split
  ·rename_i wr sz xs hH
   split
   ·rename_i hlen
    obtain ⟨G', e, hI', L, L', hL, hL', hB, hn', hn, hcap, hlim, _⟩ := hI.freeze hH
    refine ⟨G', e, hI', ?_⟩
    have hblt := (gI.1 hH).1
    have hr := hI'.reads (List.getElem?_set_self hblt) hL' (by omega)
    cases h with
    | ref h1 h2 h3 h4 h5 =>
     rw [hL] at h1; cases h1
     have := h5 (by omega)
     subst this
     rw [hB, hcap, hlen] at hr; exact hr
   ·exact ⟨G, .refl _ _, hI, h⟩
  ·exact ⟨G, .refl _ _, hI, h⟩
 ·exact ⟨G, .refl _ _, hI, h⟩
theorem zcj : ∀ (as : List AV) (vs : List Value) {G : Gh} {H : AH}, zw Γ G w H → VL G w as vs → ∃ G', zA G w G' w ∧ zw Γ G' w (jq H as).2 ∧ VL G' w (jq H as).1 vs
 | [], vs, G, H, hI, h => ⟨G, .refl _ _, hI, h⟩
 | a :: as, [], G, H, hI, h => by have := h.1; simp at this
 | a :: as, v :: vs, G, H, hI, h => by
  obtain ⟨h1, h2⟩ := h.uncons
  obtain ⟨G1, e1, i1, r1⟩ := zbs hI h1
  obtain ⟨G2, e2, i2, r2⟩ := zcj as vs i1 (h2.mono e1)
  exact ⟨G2, hI.trans e1 e2, i2, .cons (r1.mono e2) r2⟩
theorem conv_ok (hI : zw Γ G w H) {a : AV} {v : Value} (h : VR G w a v) : ∃ G', zA G w G' w ∧ zw Γ G' w (conv H a).2 ∧ VR G' w (conv H a).1 v := by
 unfold conv
 split
 ·rename_i cs
  cases h with
  | agg h1 h2 =>
   rename_i vs
   obtain ⟨G', e, i, r⟩ := zcj cs vs.toList hI ⟨by simp [h1], fun k a v ha hv => h2 k a v ha (by simpa using hv)⟩
   exact ⟨G', e, i, .agg (by simp [r.1]) fun k a v ha hv => r.2 k a v ha (by simpa using hv)⟩
 ·exact zbs hI h
theorem zbr : ∀ (as : List AV) (vs : List Value) {G : Gh} {H : AH}, zw Γ G w H → VL G w as vs → ∃ G', zA G w G' w ∧ zw Γ G' w (Zr H as).2 ∧ VL G' w (Zr H as).1 vs
 | [], vs, G, H, hI, h => ⟨G, .refl _ _, hI, h⟩
 | a :: as, [], G, H, hI, h => by have := h.1; simp at this
 | a :: as, v :: vs, G, H, hI, h => by
  obtain ⟨h1, h2⟩ := h.uncons
  obtain ⟨G1, e1, i1, r1⟩ := conv_ok hI h1
  obtain ⟨G2, e2, i2, r2⟩ := zbr as vs i1 (h2.mono e1)
  exact ⟨G2, hI.trans e1 e2, i2, .cons (r1.mono e2) r2⟩
theorem Yi {t : TypeId} {i : TI} (h : zF P t i) {info : TypeInfo} {z : Value} (hi : P.info? t = some info) (hz : info.zero = some z) {cs : List AV} (hc : qF i.zero = some cs) :
  CR G w cs z.cells := by
 obtain ⟨info', d, z', hi', hz', hza, _⟩ := h.get
 rw [hi] at hi'; cases hi'
 rw [hz] at hz'; cases hz'
 have := VR.absC (G := G) (w := w) z
 rw [hza] at this
 exact (this.cells hc).2
theorem places_ok (hT : qf P T) : ∀ (gs : List Field), (∀ f ∈ gs, (T f.type).isSome = true) →
  gs.mapM (fun f => (P.info? f.type).map fun i => (f.offset, i.size)) = some (gs.map fun f => (f.offset, ((T f.type).map TI.size).getD 0))
 | [], _ => by simp
 | f :: gs, h => by
  have h1 := h f (by simp)
  obtain ⟨i, hi⟩ := Option.isSome_iff_exists.1 h1
  obtain ⟨info, d, z, hin, _, _, hs, _⟩ := (hT _ _ hi).get
  rw [List.mapM_cons, places_ok hT gs (fun g hg => h g (by simp [hg]))]
  simp [hin, hi, hs]
theorem run_buildA (hT : qf P T) {t : TypeId} {parts : List (Nat × AV)} {vparts : Array (Nat × Value)} {a : AV} (h : WJ T t parts = some a) (hl : parts.length = vparts.size)
  (hp : ∀ (k : Nat) p q, parts[k]? = some p → vparts[k]? = some q → p.1 = q.1 ∧ VR G w p.2 q.2) :
  ∃ v, (Instr.build t vparts).run P w = .ok v w ∧ VR G w a v := by
 unfold WJ at h
 split at h
 ·rename_i i hi
  obtain ⟨info, d, z, hin, hz, hza, hs, hb, hd, htd⟩ := (hT _ _ hi).get
  have hl' : parts.length = vparts.toList.length := by simpa using hl
  have hp' : ∀ (k : Nat) p q, parts[k]? = some p → vparts.toList[k]? = some q → p.1 = q.1 ∧ VR G w p.2 q.2 := fun k p q h1 h2 => hp k p q h1 (by simpa using h2)
  split at h
  ·rename_i fs zc e1 e2
   have hzc := Yi (G := G) (w := w) (hT _ _ hi) hin hz e2
   rw [e1] at htd
   obtain ⟨gs, rfl, hfs⟩ := W6 htd
   split at h
   ·rename_i hall
    simp only [Option.map_eq_some_iff] at h
    obtain ⟨cs, hcs, rfl⟩ := h
    have hall' : ∀ f ∈ gs.toList, (T f.type).isSome = true := by
     intro f hf
     rw [hfs, List.all_eq_true] at hall
     exact hall _ (List.mem_map.2 ⟨f, hf, rfl⟩)
    obtain ⟨us, hu, hr⟩ := zaR parts vparts.toList zc cs z.cells hzc hcs hl' hp'
    refine ⟨.agg us, run_build w t vparts us ?_, .agg hr.1 hr.2⟩
    simp only [Program.built, hin, hd, hz, places_ok hT gs.toList hall']
    rw [← hu]
    congr 1
    funext k
    rw [hfs]
    simp only [List.getElem?_toArray, List.getElem?_map]
    cases hk : gs.toList[k]? with
    | none => simp
    | some f =>
     obtain ⟨i', hi'⟩ := Option.isSome_iff_exists.1 (hall' f (List.mem_of_getElem? hk))
     simp [hi']
   ·cases h
  ·rename_i n e zc e1 e2
   have hzc := Yi (G := G) (w := w) (hT _ _ hi) hin hz e2
   rw [e1] at htd
   cases Xw htd
   split at h
   ·rename_i ie hie
    obtain ⟨info2, d2, z2, hin2, _, _, hs2, _⟩ := (hT _ _ hie).get
    simp only [Option.map_eq_some_iff] at h
    obtain ⟨cs, hcs, rfl⟩ := h
    obtain ⟨us, hu, hr⟩ := zaR parts vparts.toList zc cs z.cells hzc hcs hl' hp'
    refine ⟨.agg us, run_build w t vparts us ?_, .agg hr.1 hr.2⟩
    simp only [Program.built, hin, hd, hz, hin2, hs2]
    exact hu
   ·cases h
  ·cases h
 ·cases h
def JG (xs : List AV) : List AV := xs.flatMap AV.cells
theorem zce {sz : Nat} : ∀ (xs : List AV), (∀ x ∈ xs, x.cells.length = sz) → ∀ (i : Nat) x (j : Nat) a, xs[i]? = some x → x.cells[j]? = some a → (JG xs)[i * sz + j]? = some a
 | [], _, i, x, j, a, h, _ => by simp at h
 | y :: ys, hs, i, x, j, a, hi, hj => by
  have hy := hs y (by simp)
  cases i with
  | zero =>
   simp at hi; subst hi
   have := (gI.1 hj).1
   simp only [JG, List.flatMap_cons, Nat.zero_mul, Nat.zero_add]
   rw [List.getElem?_append_left this]; exact hj
  | succ i =>
   have h2 := zce ys (fun x hx => hs x (by simp [hx])) i x j a (by simpa using hi) hj
   simp only [JG, List.flatMap_cons]
   rw [List.getElem?_append_right (by rw [Nat.add_mul]; omega)]
   rw [← h2]; simp only [JG]; congr 1; rw [Nat.add_mul]; omega
theorem flat_length {sz : Nat} : ∀ (xs : List AV), (∀ x ∈ xs, x.cells.length = sz) → (JG xs).length = xs.length * sz
 | [], _ => by simp [JG]
 | y :: ys, hs => by
  have := flat_length ys (fun x hx => hs x (by simp [hx]))
  simp only [JG, List.flatMap_cons, List.length_append, List.length_cons] at this ⊢
  rw [this, hs y (by simp), Nat.add_mul]; omega
variable {Γ : Nat → Option (List AV)} {G : Gh} {w : World} {H : AH} {P : Program} {T : z6}
def Ze {α : Type} : Nat → List α → List (Nat × α)
 | _, [] => []
 | k, x :: r => (k, x) :: Ze (k + 1) r
theorem afill_seq {size : Nat} : ∀ (xs : List AV) (k : Nat) (cells : List AV), (∀ x ∈ xs, ∃ cs, qF x = some cs ∧ cs = x.cells ∧ cs.length = size) → cells.length = (k + xs.length) * size →
  Vj (fun i => some (i * size, size)) cells (Ze k xs) = some (cells.take (k * size) ++ JG xs)
 | [], k, cells, _, hl => by
  simp only [Ze, Vj, JG, List.flatMap_nil, List.append_nil, Option.some.injEq]
  rw [List.take_of_length_le (by simp at hl; omega)]
 | x :: xs, k, cells, hx, hl => by
  obtain ⟨cs, h1, h2, h3⟩ := hx x (by simp)
  have h4 : (k + (xs.length + 1)) * size = k * size + size + xs.length * size := by rw [Nat.add_mul, Nat.add_mul]; omega
  simp only [List.length_cons] at hl
  simp only [Ze, Vj, h1]
  rw [if_pos ⟨h3, by omega⟩, afill_seq xs (k + 1) _ (fun y hy => hx y (by simp [hy]))]
  ·simp only [JG, List.flatMap_cons, ← h2]
   congr 1
   rw [List.append_assoc, List.take_append, List.take_of_length_le (by simp [Nat.add_mul]; omega)]
   simp only [List.length_take]
   have e1 : min (k * size) cells.length = k * size := by omega
   rw [e1]
   have e2 : (k + 1) * size - k * size = cs.length := by rw [Nat.add_mul]; omega
   rw [e2, List.take_append, List.take_length]
   simp
  ·simp only [List.length_append, List.length_take, List.length_drop]
   have h5 : (k + 1 + xs.length) * size = k * size + size + xs.length * size := by rw [Nat.add_mul, Nat.add_mul]; omega
   omega
theorem zan {a : AV} {cs : List AV} (h : qF a = some cs) : cs = a.cells := by
 unfold qF at h; split at h <;> simp at h <;> exact h.symm
theorem zae : ∀ (as : List AV) (H : AH), (jq H as).1.length = as.length
 | [], _ => rfl
 | a :: as, H => by simp [jq, zae as]
theorem conv_cells {H : AH} {a : AV} {cs : List AV} (h : qF a = some cs) : ∃ ds, qF (conv H a).1 = some ds ∧ ds.length = cs.length := by
 have e := zan h
 subst e
 unfold conv
 split
 ·exact ⟨_, rfl, by simp [AV.cells, zae]⟩
 ·rename_i hna
  unfold Zs
  have h1 : a.cells = [a] := by
   cases a <;> first | rfl | exact absurd rfl (hna _)
  split
  ·exact ⟨_, rfl, rfl⟩
  ·exact ⟨_, rfl, rfl⟩
  ·split
   ·split
    ·exact ⟨_, rfl, rfl⟩
    ·exact ⟨_, rfl, rfl⟩
   ·exact ⟨_, rfl, rfl⟩
  ·exact ⟨_, h, rfl⟩
theorem litC_ok {G : Gh} {H : AH} (hI : zw Γ G w H) {a : AV} {v : Value} (h : VR G w a v) : ∃ G', zA G w G' w ∧ zw Γ G' w (JC H a).2 ∧ VR G' w (JC H a).1 v := by
 unfold JC
 split
 ·exact ⟨G, .refl _ _, hI, h⟩
 ·exact conv_ok hI h
theorem litC_cells {H : AH} {a : AV} {cs : List AV} (h : qF a = some cs) : ∃ ds, qF (JC H a).1 = some ds ∧ ds.length = cs.length := by
 unfold JC
 split
 ·exact ⟨_, h, rfl⟩
 ·exact conv_cells h
theorem literalA_ok {size : Nat} : ∀ (parts : List (Nat × AV)) (vs : List Value) (k : Nat) {G : Gh} {H : AH} {q : List AV × AH}, zw Γ G w H → JB size k H parts = some q → VL G w (parts.map (·.2)) vs →
  ∃ G', zA G w G' w ∧ zw Γ G' w q.2 ∧ VL G' w q.1 vs ∧ parts.map (·.1) = (Ze k q.1).map (·.1) ∧ (∀ x ∈ q.1, ∃ cs, qF x = some cs ∧ cs = x.cells ∧ cs.length = size)
 | [], vs, k, G, H, q, hI, h, hv => by
  simp [JB] at h; subst h
  exact ⟨G, .refl _ _, hI, hv, rfl, by simp⟩
 | (i, a) :: parts, [], k, G, H, q, hI, h, hv => by have := hv.1; simp at this
 | (i, a) :: parts, v :: vs, k, G, H, q, hI, h, hv => by
  simp only [JB] at h
  split at h
  ·rename_i hc
   simp only [Option.map_eq_some_iff] at h
   obtain ⟨r, hr, rfl⟩ := h
   obtain ⟨⟨rfl, hsz⟩⟩ := And.intro hc trivial
   simp only [List.map_cons] at hv
   obtain ⟨h1, h2⟩ := hv.uncons
   obtain ⟨cs, hcs, hlen⟩ := Option.map_eq_some_iff.1 hsz
   obtain ⟨G1, e1, i1, r1⟩ := litC_ok hI h1
   obtain ⟨G2, e2, i2, r2, r3, r4⟩ := literalA_ok parts vs _ i1 hr (h2.mono e1)
   refine ⟨G2, hI.trans e1 e2, i2, .cons (r1.mono e2) r2, by simp [Ze, r3], fun x hx => ?_⟩
   rcases List.mem_cons.1 hx with rfl | hx
   ·obtain ⟨ds, hd1, hd2⟩ := litC_cells (H := H) hcs
    exact ⟨ds, hd1, zan hd1, by omega⟩
   ·exact r4 x hx
  ·cases h
theorem VL.seq : ∀ (xs : List AV) (vs : List Value) {k : Nat}, VL G w xs vs → ∀ (j : Nat) p q, (Ze k xs)[j]? = some p → (Ze k vs)[j]? = some q → p.1 = q.1 ∧ VR G w p.2 q.2
 | [], vs, k, h, j, p, q, hp, _ => by simp [Ze] at hp
 | x :: xs, [], k, h, j, p, q, _, hq => by simp [Ze] at hq
 | x :: xs, v :: vs, k, h, j, p, q, hp, hq => by
  cases j with
  | zero => simp [Ze] at hp hq; subst hp hq; exact ⟨rfl, h.uncons.1⟩
  | succ j => exact VL.seq xs vs h.uncons.2 j p q (by simpa [Ze] using hp) (by simpa [Ze] using hq)
theorem zac {α : Type} : ∀ (xs : List α) (k : Nat), (Ze k xs).length = xs.length
 | [], _ => rfl
 | x :: xs, k => by simp [Ze, zac xs]
theorem seqParts_of {α β : Type} : ∀ (parts : List (Nat × β)) (ys : List α) (k : Nat), parts.map (·.1) = (Ze k ys).map (·.1) → parts = Ze k (parts.map (·.2))
 | [], ys, k, _ => rfl
 | (i, b) :: parts, [], k, h => by simp [Ze] at h
 | (i, b) :: parts, y :: ys, k, h => by
  simp [Ze] at h
  simp only [List.map_cons, Ze]
  rw [← seqParts_of parts ys (k + 1) h.2, h.1]
theorem run_buildSliceA (hI : zw Γ G w H) (hT : qf P T) {t : TypeId} {n : Nat} {parts : List (Nat × AV)} {vparts : Array (Nat × Value)} {q : AV × AH}
  (h : Xh T H t n parts = some q) (hi : parts.map (·.1) = vparts.toList.map (·.1)) (hv : VL G w (parts.map (·.2)) (vparts.toList.map (·.2))) :
  ∃ v w' G', (Instr.buildSlice t n vparts).run P w = .ok v w' ∧ zA G w G' w' ∧ zw Γ G' w' q.2 ∧ VR G' w' q.1 v := by
 unfold Xh at h
 split at h
 ·rename_i i hti
  obtain ⟨d, htd, hd, r⟩ := jb (hT _ _ hti)
  split at h
  ·rename_i e e1
   rw [e1] at htd; cases ZH htd
   split at h
   ·rename_i ie hie
    split at h
    ·rename_i hc
     obtain ⟨hn, hroom, hpos, hzl⟩ := hc
     simp only [Option.map_eq_some_iff] at h
     obtain ⟨r2, hr2, rfl⟩ := h
     obtain ⟨G1, e1', i1, r3, r4, r5⟩ := literalA_ok parts _ 0 hI hr2 hv
     obtain ⟨z, hz, hza⟩ := zbR (hT _ _ hie)
     have hs := run_sizeOf' (w := w) (hT _ _ hie)
     have hlen : r2.1.length = n := by have := congrArg List.length r4; simp [zac] at this; omega
     have hvp : vparts.toList = Ze 0 (vparts.toList.map (·.2)) := seqParts_of _ _ 0 (by rw [← hi]; exact r4)
     have hfill := zaR (G := G1) (w := w) (place := fun i => some (i * ie.size, ie.size)) (Ze 0 r2.1) vparts.toList (List.replicate (n * ie.size) .junk) (JG r2.1)
      ((Array.range (n * ie.size)).map fun x => z.cells[x % z.cells.size]!) ⟨by simp, fun i a v ha _ => by
       rw [List.getElem?_replicate] at ha; split at ha <;> simp at ha; subst ha; exact .junk v⟩
      (by rw [afill_seq r2.1 0 _ r5 (by simp [hlen])]; simp) (by rw [zac, r3.1]; simp)
      (fun k p q hp hq => by rw [hvp] at hq; exact VL.seq _ _ r3 k p q hp hq)
     obtain ⟨us, hu, hcr⟩ := hfill
     have hsz : ∀ x ∈ r2.1, x.cells.length = ie.size := fun x hx => by obtain ⟨cs, _, h2, h3⟩ := r5 x hx; rw [← h2]; exact h3
     obtain ⟨ex, ix⟩ := i1.alloc (.cells us e)
     have hus : us.size = n * ie.size := by rw [hcr.1, flat_length r2.1 hsz, hlen]
     refine ⟨.slice (some ⟨w.heap.size, 0, none⟩) n n, w.alloc (.cells us e), G1, ?_, hI.trans e1' ex, ix, ?_⟩
     ·have hroom' : ¬ (16777216 < n * ie.size) := by omega
      by_cases h0 : n * ie.size = 0
      ·have hr0 : Array.range 0 = #[] := rfl
       rw [h0, hr0, Array.map_empty] at hu
       simp [Instr.buildSlice, r, hs, h0, newRow, hr0, hu]
      ·simp [Instr.buildSlice, r, hs, hroom', h0, hz, newRow, hu]
     ·have hv2 := VR.slice (G := G1) (w := w.alloc (.cells us e)) (xs := r2.1) (full := true) (B := w.heap.size) (o := 0) (cap := n) (sz := ie.size)
       (fun i j => (us[i * ie.size + j]?).getD default) (by simp) hsz ?_ ?_ ?_ (by omega) (by simp [hlen])
      ·rw [hlen] at hv2; exact hv2
      ·intro i x j c hi hj
       obtain ⟨v, hv1, _⟩ := hcr.get (zce r2.1 hsz i x j c hi hj)
       simp [hv1]
      ·intro i x j c hi hj
       obtain ⟨v, hv1, hv2⟩ := hcr.get (zce r2.1 hsz i x j c hi hj)
       rw [hv1]; exact hv2.mono ex
      ·intro b L hb hB
       have := i1.lt b L hb
       omega
    ·cases h
   ·cases h
  ·cases h
 ·cases h
variable {Γ : Nat → Option (List AV)} {G : Gh} {w : World} {H : AH} {P : Program} {T : z6}
theorem newVar_ok (hI : zw Γ G w H) {e : TypeId} {a : AV} {cs : List AV} {v : Value} (hc : qF a = some cs) (hv : VR G w a v) {b : Nat} {H' : AH} (hs : JL H b (.row true cs.length [a]) H') :
  ∃ w' G', (newVar e v).run P w = .ok ⟨w.heap.size, 0, none⟩ w' ∧ zA G w G' w' ∧ zw Γ G' w' H' ∧
   VR G' w' (.ptr b 1 0 0) (.pointer (some ⟨w.heap.size, 0, none⟩)) := by
 obtain ⟨e1, hcr⟩ := hv.cells hc
 let L : GL := { B := w.heap.size, n := 1, sz := cs.length, cap := 1, lim := 0, fixed := true }
 obtain ⟨G', ex, ix, hL⟩ := hI.place (.cells v.cells e) (L := L) hs rfl (fun G' ex hL => by
  refine ⟨L, hL, rfl, rfl, by simp [← e1], Nat.le_refl _, fun _ => rfl, Nat.zero_le _, v.cells, e, XV w _, by rw [hcr.1]; show 1 * cs.length ≤ cs.length; omega, ?_⟩
  intro i x j c hi hj
  cases i with
  | zero =>
   simp at hi; subst hi
   rw [← e1] at hj
   obtain ⟨u, hu, hr⟩ := hcr.get hj
   exact ⟨u, by simpa using hu, hr.mono ex⟩
  | succ i => simp at hi)
 exact ⟨w.alloc (.cells v.cells e), G', by simp [newVar, newRow], ex, ix, .ptr hL (Nat.le_refl _) ⟨_, rfl⟩ fun _ => by simp [L]⟩
theorem run_allocA (hI : zw Γ G w H) (hT : qf P T) {e : TypeId} {i : TI} (hi : T e = some i) {cs : List AV} (hc : qF i.zero = some cs) (hl : cs.length = i.size)
  {b : Nat} {H' : AH} (hs : JL H b (.row true i.size [i.zero]) H') :
  ∃ v w' G', (Instr.alloc e true (.tuple #[])).run P w = .ok v w' ∧ zA G w G' w' ∧ zw Γ G' w' H' ∧ VR G' w' (.ptr b 1 0 0) v := by
 obtain ⟨z, hz, hza⟩ := zbR (hT _ _ hi)
 have hv : VR G w i.zero z := by rw [← hza]; exact VR.absC z
 obtain ⟨w', G', h1, h2, h3, h4⟩ := newVar_ok (P := P) (e := e) hI hc hv (by rw [hl]; exact hs)
 exact ⟨_, w', G', by simp [Instr.alloc, hz, h1], h2, h3, h4⟩
theorem run_boxA (hI : zw Γ G w H) {e : TypeId} {a : AV} {v : Value} {cs : List AV} (hv : VR G w a v) (hc : qF a = some cs) {b : Nat} {H' : AH} (hs : JL H b (.row true cs.length [a]) H') :
  ∃ u w' G', (Instr.box e v).run P w = .ok u w' ∧ zA G w G' w' ∧ zw Γ G' w' H' ∧ VR G' w' (.ptr b 1 0 0) u := by
 obtain ⟨w', G', h1, h2, h3, h4⟩ := newVar_ok (P := P) (e := e) hI hc hv hs
 exact ⟨_, w', G', by simp [Instr.box, h1], h2, h3, h4⟩
theorem run_loadVar' {t : TypeId} {i : TI} (h : zF P t i) {cs : List AV} {B o off : Nat} (vals : Nat → Value) (hc : ∀ j a, cs[j]? = some a → w.cell? ⟨B, o + j, none⟩ = some (vals j))
  (hr : ∀ j a, cs[j]? = some a → VR G w a (vals j)) {a : AV} (hp : Z2 i cs off = some a) :
  ∃ v, (loadVar t ⟨B, o + off, none⟩).run P w = .ok v w ∧ VR G w a v := by
 unfold Z2 at hp
 by_cases hg : i.d.isAgg = true
 ·rw [if_pos hg] at hp
  split at hp
  ·rename_i hlen
   simp only [Option.some.injEq] at hp; subst hp
   let vs : List Value := (List.range i.size).map fun j => vals (off + j)
   have hl := run_loadCells_list (P := P) (w := w) ⟨B, o + off, none⟩ vs (by
    intro j v hj
    simp only [vs, List.getElem?_map, Option.map_eq_some_iff] at hj
    obtain ⟨j', hj', rfl⟩ := hj
    have h1 := gI.1 hj'
    obtain ⟨h2, h3⟩ := h1
    simp at h2 h3; subst h3
    rw [VM, Nat.add_assoc]
    have h4 : off + j < cs.length := by omega
    exact hc (off + j) cs[off + j] (by simp [h4]))
   have hvl : vs.length = i.size := by simp [vs]
   rw [hvl] at hl
   refine ⟨.agg vs.toArray, by simp [loadVar, zaQ h, hg, run_sizeOf' h, hl], .agg (by simp [vs]; omega) ?_⟩
   intro j a v ha hv
   rw [List.getElem?_take] at ha
   split at ha
   ·rename_i hj
    rw [List.getElem?_drop] at ha
    simp [vs, hj] at hv
    subst hv
    exact hr _ a ha
   ·cases ha
  ·cases hp
 ·rw [if_neg hg] at hp
  have hg' : i.d.isAgg = false := by simpa using hg
  refine ⟨vals off, ?_, hr _ _ hp⟩
  have := hc _ _ hp
  simp [loadVar, zaQ h, hg', load, Sem.run, this]
theorem rd_ok (hI : zw Γ G w H) {a x : AV} {off : Nat} {v : Value} (h : rd H a = some (x, off)) (hv : VR G w a v) :
  ∃ (B o : Nat) (vals : Nat → Value), v = .pointer (some ⟨B, o + off, none⟩) ∧ (∀ j c, x.cells[j]? = some c → w.cell? ⟨B, o + j, none⟩ = some (vals j)) ∧ (∀ j c, x.cells[j]? = some c → VR G w c (vals j)) := by
 unfold rd at h
 split at h
 ·rename_i b g i off'
  split at h
  ·rename_i wr sz xs hH
   split at h
   ·rename_i hlen
    simp only [Option.map_eq_some_iff, Prod.mk.injEq] at h
    obtain ⟨y, hy, rfl, rfl⟩ := h
    obtain ⟨L, hL, h1, h2, h3, h4, h5, h6, c, t, q1, q2, q3⟩ := hI.row hH
    cases hv with
    | ptr g1 g2 g3 g4 =>
     rw [hL] at g1; cases g1
     have e := g4 (by omega)
     subst e
     refine ⟨L.B, i * L.sz, fun j => (c[i * sz + j]?).getD default, rfl, fun j a hj => ?_, fun j a hj => ?_⟩
     ·obtain ⟨u, hu, _⟩ := q3 i y j a hy hj
      simp only [World.cell?, q1, Option.isSome_none, Bool.false_eq_true, if_false, h2, hu, Option.getD_some]
     ·obtain ⟨u, hu, hr⟩ := q3 i y j a hy hj
      show VR G w a ((c[i * sz + j]?).getD default)
      rw [hu]; exact hr
   ·cases h
  ·cases h
 ·simp only [Option.some.injEq, Prod.mk.injEq] at h
  obtain ⟨rfl, rfl⟩ := h
  cases hv with
  | eptr vals hB h1 h2 h3 => exact ⟨_, _, vals, rfl, h1, h2⟩
 ·cases h
theorem run_loadA (hI : zw Γ G w H) (hT : qf P T) {t : TypeId} {i : TI} (hi : T t = some i) {a x r : AV} {off : Nat} {v : Value} (h : rd H a = some (x, off)) (hp : Z2 i x.cells off = some r) (hv : VR G w a v) :
  ∃ u, (Instr.loadAt t v).run P w = .ok u w ∧ VR G w r u := by
 obtain ⟨B, o, vals, rfl, h1, h2⟩ := rd_ok hI h hv
 obtain ⟨u, hu, hr⟩ := run_loadVar' (hT _ _ hi) vals h1 h2 hp
 exact ⟨u, by simp [Instr.loadAt, Instr.sureAddr, hu], hr⟩
theorem okc_one {a : AV} {v : Value} (h : VR G w a v) (ho : qo a = true) : v.oneCell' = true := by
 cases h <;> simp [qo] at ho <;> try rfl
 ·rename_i hs _; obtain ⟨x, rfl⟩ := hs; rfl
 ·rename_i hs _; obtain ⟨x, y, z, rfl⟩ := hs; rfl
 ·rename_i hs _; obtain ⟨x, y, z, rfl⟩ := hs; rfl
theorem zao (b : Nat) : ∀ (vs : List Value) (o : Nat) (w : World) (c : Array Value) (e : TypeId) (fr : Nat × Nat), w.heap[b]? = some (.cells c e fr) → o + vs.length ≤ c.size →
  ∃ c', (w.setCells b o vs).heap[b]? = some (.cells c' e fr) ∧ c'.size = c.size ∧ (∀ i, c'[i]? = if o ≤ i ∧ i < o + vs.length then vs[i - o]? else c[i]?) ∧
   (w.setCells b o vs).os = w.os ∧ (w.setCells b o vs).tape = w.tape ∧ (w.setCells b o vs).output = w.output ∧ (w.setCells b o vs).heap.size = w.heap.size ∧ (∀ B, B ≠ b → (w.setCells b o vs).heap[B]? = w.heap[B]?)
 | [], o, w, c, e, fr, h, _ => ⟨c, h, rfl, fun i => by rw [if_neg (by simp only [List.length_nil]; omega)], rfl, rfl, rfl, rfl, fun _ _ => rfl⟩
 | v :: vs, o, w, c, e, fr, h, hb => by
  simp only [List.length_cons] at hb
  have hlt : b < w.heap.size := (Array.getElem?_eq_some_iff.1 h).1
  have h1 : (w.setCell ⟨b, o, none⟩ v).heap[b]? = some (.cells (c.setIfInBounds o v) e fr) := by
   show (w.heap.modify b _)[b]? = _
   have : w.heap[b] = .cells c e fr := by simpa [Array.getElem?_eq_getElem hlt] using h
   rw [Array.getElem?_eq_getElem (by rw [Array.size_modify]; exact hlt), Array.getElem_modify_self, this]
   rfl
  obtain ⟨c', g1, g2, g3, g4, g5, g6, g7, g8⟩ := zao b vs (o + 1) (w.setCell ⟨b, o, none⟩ v) _ e fr h1 (by simp; omega)
  refine ⟨c', g1, by simpa using g2, fun i => ?_, g4, g5, g6, ?_, fun B hB => ?_⟩
  ·rw [g3 i]
   by_cases e1 : i = o
   ·subst e1
    rw [if_neg (by omega), if_pos (by simp)]
    have : i < c.size := by omega
    simp [this]
   ·by_cases e2 : o + 1 ≤ i ∧ i < o + 1 + vs.length
    ·rw [if_pos e2, if_pos (by simp; omega)]
     have : i - o = (i - (o + 1)) + 1 := by omega
     rw [this]; simp
    ·rw [if_neg e2, if_neg (by simp; omega), Array.getElem?_setIfInBounds_ne (by omega)]
  ·show (World.setCells _ b (o + 1) vs).heap.size = _
   rw [g7]
   show (w.heap.modify b _).size = _
   simp
  ·show (World.setCells _ b (o + 1) vs).heap[B]? = _
   rw [g8 B hB]
   exact Below.heap_setCell w ⟨b, o, none⟩ v B hB
theorem run_storeVar' {t : TypeId} {ti : TI} (h : zF P t ti) {v : Value} (hs : v.cells.size = ti.size) {B o : Nat} {c : Array Value} {e : TypeId} (hH : w.heap[B]? = some (.cells c e (0, 0)))
  (hb : o + ti.size ≤ c.size) (h1 : ∀ u ∈ v.cells.toList, u.oneCell' = true) :
  (storeVar t ⟨B, o, none⟩ v).run P w = .ok () (w.setCells B o v.cells.toList) := by
 have hl : v.cells.toList.length = ti.size := by simpa using hs
 have hr := run_storeCells_cells (P := P) B o v.cells.toList 0 w (fun j hj => by
   have : o + 0 + j < c.size := by omega
   simp only [World.cell?, hH, Option.isSome_none, Bool.false_eq_true, if_false]
   rw [Array.getElem?_eq_getElem this]; rfl) (fun j hj => by simp [World.frozen?, hH]) h1
 simp [storeVar, run_sizeOf' h, hs, hr]
theorem setPart_cells {x : AV} {off : Nat} {vs : List AV} (h : off + vs.length ≤ x.cells.length) (hne : vs.all qo = true) :
  (zbQ x off vs).cells = x.cells.take off ++ vs ++ x.cells.drop (off + vs.length) := by
 unfold zbQ
 split
 ·rfl
 ·rename_i hna
  have h1 : x.cells = [x] := by cases x <;> first | rfl | exact absurd rfl (hna _)
  rw [h1] at h ⊢
  simp at h
  split
  ·rename_i u
   simp at h
   have : off = 0 := by omega
   subst this
   simp [List.all_cons] at hne
   cases u <;> simp [qo] at hne <;> rfl
  ·rename_i hne1
   cases vs with
   | nil => simp; rcases Nat.lt_or_ge 0 off with h2 | h2
            · have : off = 1 := by omega
              subst this; simp [h1]
            · have : off = 0 := by omega
              subst this; simp [h1]
   | cons u r =>
    cases r with
    | nil => exact absurd rfl (hne1 u)
    | cons _ _ => simp at h; omega
theorem run_storeA (hI : zw Γ G w H) (hT : qf P T) {t : TypeId} {a x : AV} {va vx : Value} {H' : AH} (h : VY T H t a x = some H') (ha : VR G w a va) (hx : VR G w x vx) :
  ∃ w', (Instr.storeAt t va vx).run P w = .ok () w' ∧ zA G w G w' ∧ zw Γ G w' H' := by
 unfold VY at h
 split at h
 ·rename_i b g i off ti hti
  split at h
  ·rename_i sz xs hH
   split at h
   ·rename_i el cs hel hcs
    split at h
    ·rename_i hc
     obtain ⟨hg, hlen, hoff, hok⟩ := hc
     simp only [Option.some.injEq] at h; subst h
     obtain ⟨L, hL, h1, h2, h3, h4, h5, h6, c, e, q1, q2, q3⟩ := hI.row hH
     obtain ⟨e1, hcr⟩ := hx.cells hcs
     have hilt := (gI.1 hel).1
     have hel3 := h3 el (List.mem_of_getElem? hel)
     cases ha with
     | ptr g1 g2 g3 g4 =>
      rw [hL] at g1; cases g1
      have ev := g4 (by omega)
      subst ev
      have hvs : vx.cells.size = ti.size := by rw [hcr.1]; exact hlen
      have hbound : i * L.sz + off + ti.size ≤ c.size := by
       have h7 : (i + 1) * sz ≤ L.cap * sz := Nat.mul_le_mul_right _ (by omega)
       rw [Nat.add_mul] at h7
       rw [h2]; omega
      have hst := run_storeVar' (w := w) (o := i * L.sz + off) (hT _ _ hti) hvs q1 hbound (by
       intro u hu
       obtain ⟨k, hk⟩ := List.getElem?_of_mem hu
       have hk' : vx.cells[k]? = some u := by simpa using hk
       have hklt : k < cs.length := by rw [← hcr.1]; exact (Array.getElem?_eq_some_iff.1 hk').1
       refine okc_one (hcr.2 k cs[k] u (by simp [hklt]) hk') ?_
       exact List.all_eq_true.1 hok _ (List.getElem_mem hklt))
      have hvl : vx.cells.toList.length = ti.size := by simpa using hvs
      obtain ⟨c', r1, r2, r3, r4, r5, r6, r7, r8⟩ := zao L.B vx.cells.toList (i * L.sz + off) w c e (0, 0) q1 (by omega)
      have hsp := setPart_cells (x := el) (off := off) (vs := cs) (by omega) hok
      refine ⟨w.setCells L.B (i * L.sz + off) vx.cells.toList, by simp [Instr.storeAt, Instr.sureAddr, hst], ?_⟩
      refine hI.write hH hL r4 r5 r6 r7 r8 (by simp) ?_ r1 (by omega) ?_
      ·intro y hy
       rcases List.mem_or_eq_of_mem_set hy with hy | rfl
       ·exact h3 y hy
       ·rw [hsp]; simp; omega
      ·intro i' y j a hi' hj
       rw [r3, h2]
       by_cases e3 : i' = i
       ·subst e3
        rw [List.getElem?_set_self hilt] at hi'
        cases hi'
        rw [hsp, List.append_assoc, List.getElem?_append] at hj
        simp only [List.length_take] at hj
        by_cases c1 : j < min off el.cells.length
        ·rw [if_pos c1, List.getElem?_take, if_pos (by omega)] at hj
         rw [if_neg (by omega)]
         exact q3 i' el j a hel hj
        ·rw [if_neg c1, List.getElem?_append] at hj
         by_cases c2 : j - min off el.cells.length < cs.length
         ·rw [if_pos c2] at hj
          rw [if_pos (by omega)]
          have e4 : i' * sz + j - (i' * sz + off) = j - min off el.cells.length := by omega
          rw [e4]
          obtain ⟨u, hu, hr⟩ := hcr.get hj
          exact ⟨u, by simpa using hu, hr⟩
         ·rw [if_neg c2, List.getElem?_drop] at hj
          rw [if_neg (by omega)]
          have e4 : off + cs.length + (j - min off el.cells.length - cs.length) = j := by omega
          rw [e4] at hj
          exact q3 i' el j a hel hj
       ·rw [List.getElem?_set_ne (by omega)] at hi'
        have hj2 := (gI.1 hj).1
        rw [h3 y (List.mem_of_getElem? hi')] at hj2
        have hne : ¬ (i * sz + off ≤ i' * sz + j ∧ i' * sz + j < i * sz + off + vx.cells.toList.length) := by
         rcases Nat.lt_or_gt_of_ne e3 with h7 | h7
         ·have h8 : (i' + 1) * sz ≤ i * sz := Nat.mul_le_mul_right _ h7
          rw [Nat.add_mul] at h8; omega
         ·have h8 : (i + 1) * sz ≤ i' * sz := Nat.mul_le_mul_right _ h7
          rw [Nat.add_mul] at h8; omega
        rw [if_neg hne]
        exact q3 i' y j a hi' hj
    ·cases h
   ·cases h
  ·cases h
 ·cases h
variable {Γ : Nat → Option (List AV)} {G : Gh} {w : World} {H : AH} {P : Program} {T : z6}
def Vn (G : Gh) (w : World) (sz : Nat) (ys : List AV) (news : List Value) : Prop :=
 news.length = ys.length * sz ∧ ∀ (i : Nat) y (j : Nat) a, ys[i]? = some y → y.cells[j]? = some a → ∃ v, news[i * sz + j]? = some v ∧ VR G w a v
theorem zb6 {sz : Nat} (hsz : 0 < sz) {ys : List AV} (hs : ∀ y ∈ ys, y.cells.length = sz) {B o : Nat} (vals : Nat → Nat → Value)
  (hc : ∀ i y j a, ys[i]? = some y → y.cells[j]? = some a → w.cell? ⟨B, o + i * sz + j, none⟩ = some (vals i j)) (hr : ∀ i y j a, ys[i]? = some y → y.cells[j]? = some a → VR G w a (vals i j)) :
  ∃ news, Vn G w sz ys news ∧ ∀ (j : Nat) v, news[j]? = some v → w.cell? ((⟨B, o, none⟩ : Addr).add j) = some v := by
 refine ⟨(List.range (ys.length * sz)).map fun k => vals (k / sz) (k % sz), ⟨by simp, fun i y j a hi hj => ?_⟩, fun k v hv => ?_⟩
 ·have h1 := (gI.1 hi).1
  have h2 := (gI.1 hj).1
  rw [hs y (List.mem_of_getElem? hi)] at h2
  have h3 : (i + 1) * sz ≤ ys.length * sz := Nat.mul_le_mul_right _ h1
  rw [Nat.add_mul] at h3
  have h4 : i * sz + j < ys.length * sz := by omega
  have h5 : (i * sz + j) / sz = i := by rw [Nat.add_comm, Nat.add_mul_div_right _ _ hsz, Nat.div_eq_of_lt h2]; omega
  have h6 : (i * sz + j) % sz = j := by rw [Nat.add_comm, Nat.add_mul_mod_self_right, Nat.mod_eq_of_lt h2]
  refine ⟨vals i j, ?_, hr i y j a hi hj⟩
  rw [List.getElem?_map, List.getElem?_range h4]
  simp [h5, h6]
 ·rw [List.getElem?_map, Option.map_eq_some_iff] at hv
  obtain ⟨k', hk', rfl⟩ := hv
  obtain ⟨h1, h2⟩ := gI.1 hk'
  simp at h1 h2; subst h2
  have h3 : k / sz < ys.length := Nat.div_lt_of_lt_mul (by rw [Nat.mul_comm]; exact h1)
  have h4 : k % sz < sz := Nat.mod_lt _ hsz
  have h5 : k / sz * sz + k % sz = k := by rw [Nat.mul_comm]; exact Nat.div_add_mod k sz
  have h6 := hs ys[k / sz] (List.getElem_mem h3)
  have h7 : k % sz < ys[k / sz].cells.length := by omega
  have := hc (k / sz) ys[k / sz] (k % sz) ys[k / sz].cells[k % sz] (by simp [h3]) (by simp [h7])
  rw [VM, ← this, Nat.add_assoc, h5]
theorem els_ok (hI : zw Γ G w H) {x : AV} {ys : List AV} {v : Value} (h : jk H x = some ys) (hx : VR G w x v) (hne : ys ≠ []) {sz : Nat} (hsz : 0 < sz) (hs : ∀ y ∈ ys, y.cells.length = sz) :
  ∃ ad c news, v = .slice (some ad) ys.length c ∧ Vn G w sz ys news ∧ ∀ (j : Nat) v, news[j]? = some v → w.cell? (ad.add j) = some v := by
 unfold jk at h
 split at h
 ·rename_i xs0 full0
  simp only [Option.some.injEq] at h; subst h
  cases hx with
  | slice0 hf => exact absurd rfl hne
  | slice vals hB h1 h2 h3 h4 h5 h6 =>
   rename_i B o cap sz'
   have e : sz' = sz := by
    cases xs0 with
    | nil => exact absurd rfl hne
    | cons y ys => rw [← h1 y (by simp), hs y (by simp)]
   subst e
   obtain ⟨news, h7, h8⟩ := zb6 hsz hs vals h2 h3
   exact ⟨_, _, news, rfl, h7, h8⟩
 ·simp only [Option.some.injEq] at h; subst h; exact absurd rfl hne
 ·rename_i b n
  split at h
  ·rename_i wr sz' xs hH
   split at h
   ·rename_i hlen
    simp only [Option.some.injEq] at h; subst h
    obtain ⟨L, hL, h1, h2, h3, h4, h5, h6, c, t, q1, q2, q3⟩ := hI.row hH
    have e : sz' = sz := by
     cases xs with
     | nil => exact absurd rfl hne
     | cons y ys => rw [← h3 y (by simp), hs y (by simp)]
    subst e
    cases hx with
    | ref g1 g2 g3 g4 g5 =>
     rw [hL] at g1; cases g1
     have ev := g5 (by omega)
     subst ev
     obtain ⟨news, h7, h8⟩ := zb6 (G := G) (w := w) (B := L.B) (o := 0) hsz hs (fun i j => (c[i * sz' + j]?).getD default)
      (fun i y j a hi hj => by
       obtain ⟨u, hu, _⟩ := q3 i y j a hi hj
       simp only [World.cell?, q1, Option.isSome_none, Bool.false_eq_true, if_false, Nat.zero_add, hu, Option.getD_some])
      (fun i y j a hi hj => by
       obtain ⟨u, hu, hr⟩ := q3 i y j a hi hj
       show VR G w a ((c[i * sz' + j]?).getD default)
       rw [hu]; exact hr)
     exact ⟨_, _, news, by rw [hlen], h7, h8⟩
   ·cases h
  ·cases h
 ·cases h
theorem run_append_empty {t ty e : TypeId} {info : TypeInfo} (ht : P.underlying t = some (.slice e)) (hi : P.info? e = some info) {base a : Option Addr} {n m c : Nat} (hn : n ≤ m) :
  (Builtin.append_ #[t, t] ty #[.slice base n m, .slice a 0 c]).run P w = .ok (.slice base n m) w := by
 have h1 : (Builtin.firstCells info.size 0 (.slice a 0 c)).run P w = .ok #[] w := by
  cases a with
  | none => simp [Builtin.firstCells]
  | some a =>
   have := run_firstCells_some (P := P) w info.size 0 a 0 c [] (by simp) (by simp)
   simpa using this
 cases base <;> simp [Builtin.append_, run_underlying ht, sizeOf, typeInfo, hi, Builtin.lenOf, hn, h1, storeCells]
theorem slice_of_ok (hI : zw Γ G w H) {s : AV} {v : Value} (h : QA H s = true) (hv : VR G w s v) : ∃ a n c, v = .slice a n c ∧ n ≤ c := by
 unfold QA at h
 split at h
 ·cases hv; exact ⟨_, _, _, rfl, Nat.le_refl _⟩
 ·cases hv with
  | slice0 hf => exact ⟨_, _, _, rfl, Nat.zero_le _⟩
  | slice _ _ _ _ _ _ hc _ => exact ⟨_, _, _, rfl, hc⟩
 ·rename_i b n
  split at h
  ·rename_i wr sz xs hH
   obtain ⟨L, hL, h1, h2, h3, h4, _⟩ := hI.row hH
   simp at h
   cases hv with
   | ref g1 g2 g3 g4 g5 =>
    rw [hL] at g1; cases g1
    have := g5 (by omega)
    exact ⟨_, _, _, this, by omega⟩
  ·cases h
 ·cases h
theorem els_nil {x : AV} {v : Value} (hI : zw Γ G w H) (h : jk H x = some []) (hx : VR G w x v) : ∃ a c, v = .slice a 0 c := by
 unfold jk at h
 split at h
 ·simp only [Option.some.injEq] at h; subst h
  cases hx with
  | slice0 hf => exact ⟨_, _, rfl⟩
  | slice _ _ _ _ _ _ _ _ => exact ⟨_, _, rfl⟩
 ·cases hx; exact ⟨_, _, rfl⟩
 ·rename_i b n
  split at h
  ·rename_i wr sz xs hH
   split at h
   ·rename_i hlen
    simp only [Option.some.injEq] at h; subst h
    obtain ⟨L, hL, h1, _⟩ := hI.row hH
    cases hx with
    | ref g1 g2 g3 g4 g5 =>
     rw [hL] at g1; cases g1
     simp at hlen; subst hlen
     exact ⟨_, _, g5 (by simpa using h1)⟩
   ·cases h
  ·cases h
 ·cases h
theorem Vn.all {sz : Nat} (hsz : 0 < sz) {ys : List AV} {news : List Value} (h : Vn G w sz ys news) (hs : ∀ y ∈ ys, y.cells.length = sz) (ho : ∀ y ∈ ys, y.cells.all qo = true) : ∀ u ∈ news, u.oneCell' = true := by
 intro u hu
 obtain ⟨k, hk⟩ := List.getElem?_of_mem hu
 have hlt := (gI.1 hk).1
 rw [h.1] at hlt
 have h3 : k / sz < ys.length := Nat.div_lt_of_lt_mul (by rw [Nat.mul_comm]; exact hlt)
 have h4 : k % sz < sz := Nat.mod_lt _ hsz
 have h5 : k / sz * sz + k % sz = k := by rw [Nat.mul_comm]; exact Nat.div_add_mod k sz
 have hm := List.getElem_mem h3
 have h6 := hs ys[k / sz] hm
 have h7 : k % sz < ys[k / sz].cells.length := by omega
 obtain ⟨v, hv, hr⟩ := h.2 (k / sz) ys[k / sz] (k % sz) ys[k / sz].cells[k % sz] (by simp [h3]) (by simp [h7])
 rw [h5, hk] at hv; cases hv
 exact okc_one hr (List.all_eq_true.1 (ho _ hm) _ (List.getElem_mem h7))
theorem Vn.append {sz : Nat} {xs ys : List AV} {qZ news : List Value} (h : Vn G w sz xs qZ) (k : Vn G w sz ys news) : Vn G w sz (xs ++ ys) (qZ ++ news) := by
 refine ⟨by rw [List.length_append, List.length_append, h.1, k.1, Nat.add_mul], fun i y j a hi hj => ?_⟩
 rcases Nat.lt_or_ge i xs.length with hlt | hge
 ·rw [List.getElem?_append_left hlt] at hi
  obtain ⟨v, h1, h2⟩ := h.2 i y j a hi hj
  have := (gI.1 h1).1
  exact ⟨v, by rw [List.getElem?_append_left this]; exact h1, h2⟩
 ·rw [List.getElem?_append_right hge] at hi
  obtain ⟨v, h1, h2⟩ := k.2 _ y j a hi hj
  have h9 : i * sz = xs.length * sz + (i - xs.length) * sz := by rw [← Nat.add_mul]; congr 1; omega
  refine ⟨v, ?_, h2⟩
  rw [List.getElem?_append_right (by rw [h.1]; omega), h.1, ← h1]
  congr 1; omega
theorem Wp (w : World) (need old : Nat) (e : TypeId) : need ≤ grownCap w need old e := by
 unfold grownCap Question.cut; simp
theorem Ux (z : Array Value) (n : Nat) : (Builtin.zeroCells z n).size = n * z.size := by simp [Builtin.zeroCells]
variable {Γ : Nat → Option (List AV)} {G : Gh} {w : World} {H : AH} {P : Program} {T : z6}
theorem zaU (hI : zw Γ G w H) {xs : List AV} {sz cap : Nat} {c : Array Value} {e : TypeId} (hs : ∀ x ∈ xs, x.cells.length = sz) (hcap : xs.length ≤ cap) (hsize : cap * sz ≤ c.size)
  (hc : ∀ (i : Nat) x (j : Nat) a, xs[i]? = some x → x.cells[j]? = some a → ∃ v, c[i * sz + j]? = some v ∧ VR G w a v) {b : Nat} {H' : AH} (hsl : JL H b (.row true sz xs) H') :
  ∃ G', zA G w G' (w.alloc (.cells c e)) ∧ zw Γ G' (w.alloc (.cells c e)) H' ∧ VR G' (w.alloc (.cells c e)) (.ref b xs.length) (.slice (some ⟨w.heap.size, 0, none⟩) xs.length cap) := by
 let L : GL := { B := w.heap.size, n := xs.length, sz, cap, lim := 0, fixed := false }
 obtain ⟨G', ex, ix, hL⟩ := hI.place (.cells c e) (L := L) hsl rfl (fun G' ex hL =>
  ⟨L, hL, rfl, rfl, hs, hcap, fun _ => rfl, Nat.zero_le _, c, e, XV w _, hsize, fun i x j a hi hj => let ⟨v, h1, h2⟩ := hc i x j a hi hj; ⟨v, h1, h2.mono ex⟩⟩)
 exact ⟨G', ex, ix, .ref hL rfl (Nat.le_refl _) ⟨_, _, _, rfl⟩ fun _ => rfl⟩
theorem run_growNew (hI : zw Γ G w H) (hT : qf P T) {t ty e : TypeId} {ie : TI} (ht : P.underlying t = some (.slice e)) (hie : T e = some ie) {s : AV} {ys zs : List AV} {vs vx : Value}
  (hne : ys ≠ []) (hpos : 0 < ie.size) (hz : (qF ie.zero).map List.length = some ie.size) (hall : ∀ y ∈ ys, y.cells.length = ie.size ∧ y.cells.all qo = true)
  {x : AV} (hx : jk H x = some ys) (hxv : VR G w x vx) (h : Qc ie s ys = some zs) (hs : VR G w s vs) {b : Nat} {H' : AH} (hsl : JL H b (.row true ie.size zs) H') :
  ∃ v w' G', (Builtin.append_ #[t, t] ty #[vs, vx]).run P w = .ok v w' ∧ zA G w G' w' ∧ zw Γ G' w' H' ∧ VR G' w' (.ref b zs.length) v := by
 obtain ⟨info, d, z, hin, hzi, hza, hsz, hb, hd, htd⟩ := (hT _ _ hie).get
 obtain ⟨zcs, hzc, hzl⟩ := Option.map_eq_some_iff.1 hz
 have hzs : z.cells.size = ie.size := by rw [(Yi (G := G) (w := w) (hT _ _ hie) hin hzi hzc).1]; exact hzl
 have hcl : ∀ y ∈ ys, y.cells.length = ie.size := fun y hy => (hall y hy).1
 obtain ⟨ad, cx, news, rfl, hlaid, hnews⟩ := els_ok hI hx hxv hne hpos hcl
 have hlen : 0 < ys.length := List.length_pos_iff.2 hne
 have hnl : news.length = ys.length * info.size := by rw [hsz]; exact hlaid.1
 unfold Qc at h
 split at h
 ·
  split at h
  ·rename_i hroom
   simp only [Option.some.injEq] at h; subst h
   cases hs
   have hr := run_append_nil (P := P) (w := w) t ty e info z ht hin hzi ad ys.length cx news hnl hnews hlen (by omega) (by rw [hb]; omega)
   have hg := Wp w ys.length 0 e
   have i1 := hI.drew
   obtain ⟨G', ex, ix, hv⟩ := zaU (e := e) i1.2 (xs := ys) (sz := ie.size) (cap := grownCap w ys.length 0 e) (c := news.toArray ++ Builtin.zeroCells z.cells (grownCap w ys.length 0 e - ys.length)) hcl hg
    (by simp only [Array.size_append, Ux, List.size_toArray, hlaid.1, hzs]; rw [← Nat.add_mul]; exact Nat.mul_le_mul_right _ (by omega))
    (fun i y j a hi hj => by
     obtain ⟨v, h1, h2⟩ := hlaid.2 i y j a hi hj
     have hlt := (gI.1 h1).1
     exact ⟨v, by rw [Array.getElem?_append_left (by simpa using hlt)]; simpa using h1, h2.mono i1.1⟩) hsl
   exact ⟨_, _, G', hr, hI.trans i1.1 ex, ix, hv⟩
  ·cases h
 ·
  rename_i xs
  split at h
  ·rename_i hroom
   obtain ⟨hb1, hb2, hb3⟩ := hroom
   simp only [Option.some.injEq] at h; subst h
   have hcx : ∀ y ∈ xs, y.cells.length = ie.size := fun y hy => by have := List.all_eq_true.1 hb3 y hy; simpa using this
   have i1 := hI.drew
   have hold : ∃ qZ, Vn G w ie.size xs qZ ∧ ((∃ b, vs = .slice (some b) xs.length xs.length ∧ ∀ (j : Nat) v, qZ[j]? = some v → w.cell? (b.add j) = some v) ∨ (vs = .slice none 0 0 ∧ xs = [])) := by
    cases hs with
    | slice0 hf =>
     rename_i a cap
     have := hf rfl; subst this
     cases a with
     | none => exact ⟨[], ⟨by simp, fun i y j a hi => by simp at hi⟩, .inr ⟨rfl, rfl⟩⟩
     | some b => exact ⟨[], ⟨by simp, fun i y j a hi => by simp at hi⟩, .inl ⟨b, rfl, by simp⟩⟩
    | slice vals hB h1 h2 h3 h4 h5 h6 =>
     rename_i B o cap sz'
     cases xs with
     | nil => exact ⟨[], ⟨by simp, fun i y j a hi => by simp at hi⟩, .inl ⟨_, by rw [h6 rfl], by simp⟩⟩
     | cons y r =>
      have e1 : sz' = ie.size := by rw [← h1 y (by simp), hcx y (by simp)]
      subst e1
      obtain ⟨qZ, g1, g2⟩ := zb6 hpos hcx vals h2 h3
      exact ⟨qZ, g1, .inl ⟨_, by rw [h6 rfl], g2⟩⟩
   obtain ⟨qZ, hlo, hcase⟩ := hold
   rcases hcase with ⟨b, rfl, hob⟩ | ⟨rfl, rfl⟩
   ·have hr := run_append_grow (P := P) (w := w) t ty e info z ht hin hzi b xs.length xs.length qZ (by rw [hsz]; exact hlo.1) hob ad ys.length cx news hnl hnews (by omega) (by omega)
     (by rw [hb]; exact growslice_fits (by omega) hb1)
    have hg := Wp w (xs.length + ys.length) xs.length e
    have hla := hlo.append hlaid
    obtain ⟨G', ex, ix, hv⟩ := zaU (e := e) i1.2 (xs := xs ++ ys) (sz := ie.size) (cap := grownCap w (xs.length + ys.length) xs.length e)
     (c := qZ.toArray ++ news.toArray ++ Builtin.zeroCells z.cells (grownCap w (xs.length + ys.length) xs.length e - (xs.length + ys.length)))
     (fun y hy => (List.mem_append.1 hy).elim (hcx y) (hcl y)) (by rw [List.length_append]; exact hg)
     (by simp only [Array.size_append, Ux, List.size_toArray, hlaid.1, hlo.1, hzs]; rw [← Nat.add_mul, ← Nat.add_mul]; exact Nat.mul_le_mul_right _ (by omega))
     (fun i y j a hi hj => by
      obtain ⟨v, h1, h2⟩ := hla.2 i y j a hi hj
      have hlt := (gI.1 h1).1
      exact ⟨v, by rw [Array.getElem?_append_left (by simpa using hlt)]; simpa using h1, h2.mono i1.1⟩) hsl
    exact ⟨_, _, G', hr, hI.trans i1.1 ex, ix, by rw [List.length_append] at hv ⊢; exact hv⟩
   ·simp only [List.length_nil, Nat.zero_add, List.nil_append] at hb1 hb2 ⊢
    have hr := run_append_nil (P := P) (w := w) t ty e info z ht hin hzi ad ys.length cx news hnl hnews hlen (by omega) (by rw [hb]; omega)
    have hg := Wp w ys.length 0 e
    obtain ⟨G', ex, ix, hv⟩ := zaU (e := e) i1.2 (xs := ys) (sz := ie.size) (cap := grownCap w ys.length 0 e) (c := news.toArray ++ Builtin.zeroCells z.cells (grownCap w ys.length 0 e - ys.length)) hcl hg
     (by simp only [Array.size_append, Ux, List.size_toArray, hlaid.1, hzs]; rw [← Nat.add_mul]; exact Nat.mul_le_mul_right _ (by omega))
     (fun i y j a hi hj => by
      obtain ⟨v, h1, h2⟩ := hlaid.2 i y j a hi hj
      have hlt := (gI.1 h1).1
      exact ⟨v, by rw [Array.getElem?_append_left (by simpa using hlt)]; simpa using h1, h2.mono i1.1⟩) hsl
    exact ⟨_, _, G', hr, hI.trans i1.1 ex, ix, hv⟩
  ·cases h
 ·cases h
theorem run_growA (hI : zw Γ G w H) (hT : qf P T) {t ty e : TypeId} {ie : TI} (ht : P.underlying t = some (.slice e)) (hie : T e = some ie) {s : AV} {ys : List AV} {q : AV × AH} {vs vx : Value}
  (hne : ys ≠ []) (hpos : 0 < ie.size) (hz : (qF ie.zero).map List.length = some ie.size) (hall : ∀ y ∈ ys, y.cells.length = ie.size ∧ y.cells.all qo = true)
  {x : AV} (hx : jk H x = some ys) (hxv : VR G w x vx) (h : jO ie H s ys = some q) (hs : VR G w s vs) :
  ∃ v w' G', (Builtin.append_ #[t, t] ty #[vs, vx]).run P w = .ok v w' ∧ zA G w G' w' ∧ zw Γ G' w' q.2 ∧ VR G' w' q.1 v := by
 obtain ⟨info, d, z, hin, hzi, hza, hsz, hb, hd, htd⟩ := (hT _ _ hie).get
 obtain ⟨zcs, hzc, hzl⟩ := Option.map_eq_some_iff.1 hz
 have hzs : z.cells.size = ie.size := by rw [(Yi (G := G) (w := w) (hT _ _ hie) hin hzi hzc).1]; exact hzl
 have hcl : ∀ y ∈ ys, y.cells.length = ie.size := fun y hy => (hall y hy).1
 obtain ⟨ad, cx, news, rfl, hlaid, hnews⟩ := els_ok hI hx hxv hne hpos hcl
 have hlen : 0 < ys.length := List.length_pos_iff.2 hne
 have hnl : news.length = ys.length * info.size := by rw [hsz]; exact hlaid.1
 unfold jO at h
 split at h
 ·
  rename_i b n
  split at h
  ·rename_i wr sz xs hH
   split at h
   ·rename_i hc
    obtain ⟨hl, rfl, hb1, hb2⟩ := hc
    simp only [Option.some.injEq] at h; subst h
    obtain ⟨L, hL, h1, h2, h3, h4, h5, h6, c, tt, q1, q2, q3⟩ := hI.row hH
    cases hs with
    | ref g1 g2 g3 g4 g5 =>
     rw [hL] at g1; cases g1
     have ev := g5 (by omega)
     subst ev
     by_cases hroom : n + ys.length ≤ L.cap
     ·
      have hbound : n * ie.size + news.length ≤ c.size := by
       rw [hlaid.1, ← Nat.add_mul]
       exact Nat.le_trans (Nat.mul_le_mul_right _ hroom) q2
      have hr := run_append_room_cells (P := P) (w := w) t ty e info ht hin L.B 0 n L.cap ad ys.length cx news hnl hnews (hlaid.all hpos hcl fun y hy => (hall y hy).2) hroom
       (fun j hj => by
        have : 0 + n * info.size + j < c.size := by rw [hsz]; omega
        simp only [World.cell?, q1, Option.isSome_none, Bool.false_eq_true, if_false]
        rw [Array.getElem?_eq_getElem this]; rfl) (fun j hj => by simp [World.frozen?, q1])
      obtain ⟨c', r1, r2, r3, r4, r5, r6, r7, r8⟩ := zao L.B news (0 + n * info.size) w c tt (0, 0) q1 (by rw [hsz]; omega)
      rw [hsz] at r3
      obtain ⟨G', ex, ix, L', p1, p2, p3, p4, p5⟩ := hI.growIn (new := ys) hH hL r4 r5 r6 r7 r8 (by omega) hcl q1 r1 (by omega)
       (fun j hj => by rw [hl] at hj; rw [r3, if_neg (by omega)])
       (fun i y j a hi hj => by
        obtain ⟨v, hv1, hv2⟩ := hlaid.2 i y j a hi hj
        have hlt := (gI.1 hv1).1
        refine ⟨v, ?_, hv2⟩
        rw [r3, if_pos (by rw [hl]; omega), ← hv1]
        congr 1; rw [hl]; omega)
      refine ⟨_, _, G', hr, ex, ix, ?_⟩
      refine .ref p1 (p5.trans g2) (by omega) ⟨_, _, _, rfl⟩ fun _ => by rw [p3, p4]
     ·
      have i1 := hI.drew
      obtain ⟨qZ, hlo, hob⟩ : ∃ qZ, Vn G w ie.size xs qZ ∧ ∀ (j : Nat) v, qZ[j]? = some v → w.cell? ((⟨L.B, 0, none⟩ : Addr).add j) = some v :=
       zb6 (G := G) (w := w) (B := L.B) (o := 0) hpos h3 (fun i j => (c[i * ie.size + j]?).getD default)
        (fun i y j a hi hj => by
         obtain ⟨u, hu, _⟩ := q3 i y j a hi hj
         simp only [World.cell?, q1, Option.isSome_none, Bool.false_eq_true, if_false, Nat.zero_add, hu, Option.getD_some])
        (fun i y j a hi hj => by
         obtain ⟨u, hu, hr⟩ := q3 i y j a hi hj
         show VR G w a ((c[i * ie.size + j]?).getD default)
         rw [hu]; exact hr)
      have hr := run_append_grow (P := P) (w := w) t ty e info z ht hin hzi ⟨L.B, 0, none⟩ n L.cap qZ (by rw [hsz, ← hl]; exact hlo.1) hob ad ys.length cx news hnl hnews (by omega) (by omega)
       (by rw [hb]; exact growslice_fits (by omega) hb1)
      have hg := Wp w (n + ys.length) L.cap e
      have hla := hlo.append hlaid
      obtain ⟨G', ex, ix, L', p1, p2, p3, p4, p5⟩ := i1.2.growOut (new := ys) (cap := grownCap w (n + ys.length) L.cap e) (t := e)
       (c' := qZ.toArray ++ news.toArray ++ Builtin.zeroCells z.cells (grownCap w (n + ys.length) L.cap e - (n + ys.length))) hH hL g2 hlen (by omega) hcl
       (by simp only [Array.size_append, Ux, List.size_toArray, hlaid.1, hlo.1, hzs, hl]; rw [← Nat.add_mul, ← Nat.add_mul]; exact Nat.mul_le_mul_right _ (by omega))
       (fun i y j a hi hj => by
        obtain ⟨v, h1, h2⟩ := hla.2 i y j a hi hj
        have hlt := (gI.1 h1).1
        exact ⟨v, by rw [Array.getElem?_append_left (by simpa using hlt)]; simpa using h1, h2.mono i1.1⟩)
      refine ⟨_, _, G', hr, hI.trans i1.1 ex, ix, ?_⟩
      refine .ref p1 p5 (by omega) ⟨_, _, _, rfl⟩ fun _ => ?_
      rw [p3, p4]; rfl
   ·cases h
  ·cases h
 ·simp only [Option.map_eq_some_iff] at h
  obtain ⟨zs, hzs2, rfl⟩ := h
  exact run_growNew hI hT ht hie hne hpos hz hall hx hxv hzs2 hs (.push H _)
theorem run_appendA (hI : zw Γ G w H) (hT : qf P T) {t ty : TypeId} {s x : AV} {q : AV × AH} {vs vx : Value} (h : qn T H t s x = some q) (hs : VR G w s vs) (hx : VR G w x vx) :
  ∃ v w' G', (Builtin.append_ #[t, t] ty #[vs, vx]).run P w = .ok v w' ∧ zA G w G' w' ∧ zw Γ G' w' q.2 ∧ VR G' w' q.1 v := by
 unfold qn at h
 split at h
 ·rename_i i hi
  obtain ⟨d, htd, hd, r⟩ := jb (hT _ _ hi)
  split at h
  ·rename_i e e1
   rw [e1] at htd; cases ZH htd
   split at h
   ·rename_i ie ys hie hys
    split at h
    ·rename_i hemp
     split at h
     ·rename_i hsl
      simp only [Option.some.injEq] at h; subst h
      simp at hemp; subst hemp
      obtain ⟨a, c, rfl⟩ := els_nil hI hys hx
      obtain ⟨a2, n, c2, rfl, hle⟩ := slice_of_ok hI hsl hs
      obtain ⟨info, _, _, hin, _⟩ := (hT _ _ hie).get
      exact ⟨_, w, G, run_append_empty hd hin hle, .refl _ _, hI, hs⟩
     ·cases h
    ·rename_i hne
     split at h
     ·rename_i hc
      obtain ⟨hpos, hz, hall⟩ := hc
      exact run_growA hI hT hd hie (by simpa using hne) hpos hz (fun y hy => by have := List.all_eq_true.1 hall y hy; simpa using this) hys hx h hs
     ·cases h
   ·cases h
  ·cases h
 ·cases h
variable {Γ : Nat → Option (List AV)} {G : Gh} {w : World} {H : AH} {P : Program} {T : z6}
theorem run_makeSliceA (hI : zw Γ G w H) (hT : qf P T) {t e : TypeId} {ie : TI} (ht : P.underlying t = some (.slice e)) (hie : T e = some ie) {l c : Int} {kl kc : IntKind}
  (h0 : 0 ≤ l) (h1 : l ≤ c) (h2 : c * ie.bytes ≤ 140737488355328) (h3 : c ≤ 9223372036854775807) (hpos : 0 < ie.size) (hz : (qF ie.zero).map List.length = some ie.size)
  {b : Nat} {H' : AH} (hsl : JL H b (.row true ie.size (List.replicate l.toNat ie.zero)) H') :
  ∃ v w' G', (Instr.makeSlice t (.int kl l) (.int kc c)).run P w = .ok v w' ∧ zA G w G' w' ∧ zw Γ G' w' H' ∧ VR G' w' (.ref b l.toNat) v := by
 obtain ⟨info, d, z, hin, hzi, hza, hsz, hb, hd, htd⟩ := (hT _ _ hie).get
 obtain ⟨zcs, hzc, hzl⟩ := Option.map_eq_some_iff.1 hz
 have hzcr := Yi (G := G) (w := w) (hT _ _ hie) hin hzi hzc
 have hzs : z.cells.size = ie.size := by rw [hzcr.1]; exact hzl
 have hzc2 := zan hzc
 have hw1 : IntKind.i64.wrap l = l := IntWalk.i64_in _ (by omega)
 have hw2 : IntKind.i64.wrap c = c := IntWalk.i64_in _ (by omega)
 obtain ⟨n, rfl⟩ : ∃ n : Nat, l = n := ⟨l.toNat, by omega⟩
 obtain ⟨m, rfl⟩ : ∃ m : Nat, c = m := ⟨c.toNat, by omega⟩
 have hnew := zaU (e := e) hI (xs := List.replicate n ie.zero) (sz := ie.size) (cap := m) (c := (Array.range (m * ie.size)).map fun x => z.cells[x % z.cells.size]!)
  (fun x hx => by rw [List.mem_replicate] at hx; rw [hx.2, ← hzc2]; exact hzl) (by simp; omega) (by simp)
  (fun i x j a hi hj => by
   rw [List.getElem?_replicate] at hi
   split at hi
   ·rename_i hlt
    simp only [Option.some.injEq] at hi; subst hi
    rw [← hzc2] at hj
    have hj2 := (gI.1 hj).1
    obtain ⟨v, hv, hr⟩ := hzcr.get hj
    refine ⟨v, ?_, hr⟩
    have h7 : (i + 1) * ie.size ≤ m * ie.size := Nat.mul_le_mul_right _ (by omega)
    rw [Nat.add_mul] at h7
    have h8 : i * ie.size + j < m * ie.size := by omega
    have h9 : (i * ie.size + j) % z.cells.size = j := by rw [hzs, Nat.add_comm, Nat.add_mul_mod_self_right, Nat.mod_eq_of_lt (by omega)]
    have h10 : j < z.cells.size := by omega
    have h11 : z.cells[j] = v := by simpa [h10] using hv
    simp [h8, h9, h10, h11]
   ·cases hi) (by simpa using hsl)
 obtain ⟨G', ex, ix, hv⟩ := hnew
 simp only [Int.toNat_natCast]
 refine ⟨_, _, G', ?_, ex, ix, by simpa using hv⟩
 have hb2 : ¬ (140737488355328 < (m : Int) * ie.bytes) := by omega
 have hb3 : ¬ (281474976710656 < (ie.bytes : Int) * m) := by rw [Int.mul_comm]; omega
 have hb4 : ¬ ((m : Int) < 0) := by omega
 have hb5 : ¬ ((n : Int) < 0) := by omega
 have hb6 : ¬ ((m : Int) < n) := by omega
 have hb7 : ¬ (roomBytes < m * info.bytes) := by unfold roomBytes; rw [hb]; omega
 have hs := run_sizeOf' (w := w) (hT _ _ hie)
 by_cases h0' : m * ie.size = 0
 ·have hr0 : Array.range 0 = #[] := rfl
  simp [Instr.makeSlice, run_underlying ht, asInt, asIntOf, typeInfo, hin, hb, hw1, hw2, hb3, hb4, hb5, hb6, askRoom, hb7, hs, h0', newRow, hr0]
 ·simp [Instr.makeSlice, run_underlying ht, asInt, asIntOf, typeInfo, zeroValue, hin, hzi, hb, hw1, hw2, hb3, hb4, hb5, hb6, askRoom, hb7, hs, h0', newRow]
inductive BR : Option AV → Option Value → Prop
 | none : BR none none
 | int (k : IntKind) (n : Int) : BR (some (.int k n)) (some (.int k n))
theorem BR.of {fr : Operand → AV} {ρ : Operand → Value} (h : ∀ x, VR G w (fr x) (ρ x)) {lo : Option Operand} {d n : Int} (hi : jn (lo.map fr) d = some n) : BR (lo.map fr) (lo.map ρ) := by
 cases lo with
 | none => exact .none
 | some x =>
  have := h x
  simp only [Option.map_some] at hi ⊢
  unfold jn at hi
  split at hi
  ·rename_i e; cases e
  ·rename_i e; simp at e; rw [e] at this ⊢; generalize ρ x = y at this ⊢; cases this; exact .int _ _
  ·cases hi
theorem zav {len cap : Nat} {lo hi mx : Option AV} {vlo vhi vmx : Option Value} (b1 : BR lo vlo) (b2 : BR hi vhi) (b3 : BR mx vmx) (hcap : len ≤ cap) {l h : Int} (e1 : jn lo 0 = some l) (e2 : jn hi len = some h)
  (h1 : 0 ≤ l) (h2 : l ≤ h) (h3 : h ≤ len) (h4 : ∀ k m, mx = some (.int k m) → m = h ∧ hi.isSome = true) :
  (Instr.sliceBounds true len cap vlo vhi vmx).run P w = .ok (l.toNat, h.toNat, if mx.isSome then h.toNat else cap) w := by
 have c1 : ∀ (k : IntKind) (n : Int) (y : Nat) (code : BoundsCode), 0 ≤ n → n ≤ y → (Instr.sliceBound (.int k n) y code).run P w = .ok n.toNat w := by
  intro k n y code g1 g2
  simp [Instr.sliceBound, asIntOf, g1, g2]
 have hh : 0 ≤ h := by omega
 cases b3 with
 | none =>
  cases b2 with
  | none =>
   simp [jn] at e2
   cases b1 with
   | none => simp [jn] at e1; subst e1 e2; simp [Instr.sliceBounds]
   | int k n => simp [jn] at e1; subst e1 e2; simp [Instr.sliceBounds, c1 _ _ _ _ h1 h2]
  | int k2 n2 =>
   simp [jn] at e2; subst e2
   have d1 : n2 ≤ (cap : Int) := by omega
   cases b1 with
   | none => simp [jn] at e1; subst e1; simp [Instr.sliceBounds, c1 _ _ _ _ hh d1]
   | int k n =>
    simp [jn] at e1; subst e1
    have d2 : n ≤ ((n2.toNat : Nat) : Int) := by omega
    simp [Instr.sliceBounds, c1 _ _ _ _ hh d1, c1 _ _ _ _ h1 d2]
 | int k3 m =>
  obtain ⟨rfl, hs⟩ := h4 _ _ rfl
  cases b2 with
  | none => simp at hs
  | int k2 n2 =>
   simp [jn] at e2; subst e2
   have d1 : n2 ≤ (cap : Int) := by omega
   have d3 : n2 ≤ ((n2.toNat : Nat) : Int) := by omega
   cases b1 with
   | none => simp [jn] at e1; subst e1; simp [Instr.sliceBounds, c1 _ _ _ _ hh d1, c1 _ _ _ _ hh d3]
   | int k n =>
    simp [jn] at e1; subst e1
    have d2 : n ≤ ((n2.toNat : Nat) : Int) := by omega
    simp [Instr.sliceBounds, c1 _ _ _ _ hh d1, c1 _ _ _ _ hh d3, c1 _ _ _ _ h1 d2]
theorem cut_some {xs : List AV} {full : Bool} {lo hi mx : Option AV} {a : AV} (h : cut xs full lo hi mx = some a) : ∃ l h, jn lo 0 = some l ∧ jn hi xs.length = some h ∧ 0 ≤ l ∧ l ≤ h ∧ h ≤ xs.length ∧
  (∀ k m, mx = some (.int k m) → m = h ∧ hi.isSome = true) ∧ (mx = none ∨ ∃ k m, mx = some (.int k m)) ∧ a = .slice ((xs.take h.toNat).drop l.toNat) (if mx.isSome then true else full && decide (h = xs.length)) := by
 unfold cut at h
 split at h
 ·rename_i l h' e1 e2
  split at h
  ·rename_i hc
   simp only [Option.some.injEq] at h
   exact ⟨l, h', e1, e2, hc.1, hc.2.1, hc.2.2, (fun k m e => by cases e), .inl rfl, by rw [← h]; rfl⟩
  ·cases h
 ·rename_i l h' k m e1 e2
  split at h
  ·rename_i hc
   simp only [Option.some.injEq] at h
   exact ⟨l, h', e1, e2, hc.1, hc.2.1, hc.2.2.2.1, (fun k m e => by cases e; exact ⟨hc.2.2.1.symm, hc.2.2.2.2⟩), .inr ⟨_, _, rfl⟩, by rw [← h]; rfl⟩
  ·cases h
 ·cases h
theorem cut_ok {t e : TypeId} {ie : TI} (hT : qf P T) (ht : P.underlying t = some (.slice e)) (hie : T e = some ie) {xs : List AV} {full : Bool} {lo hi mx : Option AV} {vlo vhi vmx : Option Value} {a : AV} {v : Value}
  (hsz : VW ie xs = true) (hcut : cut xs full lo hi mx = some a) (hv : VR G w (.slice xs full) v) (b1 : BR lo vlo) (b2 : BR hi vhi) (b3 : BR mx vmx) :
  ∃ u, (Instr.sliceAt t v vlo vhi vmx).run P w = .ok u w ∧ VR G w a u := by
 obtain ⟨l, h, e1, e2, h1, h2, h3, h4, h5, rfl⟩ := cut_some hcut
 have hs := run_sizeOf' (w := w) (hT _ _ hie)
 cases hv with
 | slice0 hf =>
  rename_i ad cap
  simp at h3
  have hl : l = 0 := by omega
  have hh : h = 0 := by omega
  subst hl hh
  have hb := zav (P := P) (w := w) (len := 0) b1 b2 b3 (Nat.zero_le cap) e1 e2 h1 h2 (by simp) h4
  refine ⟨_, by simp [Instr.sliceAt, Instr.slice, run_underlying ht, hs, hb]; rfl, ?_⟩
  simp
  refine .slice0 fun hfull => ?_
  rcases h5 with rfl | ⟨k, m, rfl⟩
  ·simp at hfull ⊢; exact hf hfull
  ·simp
 | slice vals hB g1 g2 g3 g4 g5 g6 =>
  rename_i B o cap sz
  have hb := zav (P := P) (w := w) (len := xs.length) b1 b2 b3 g5 e1 e2 h1 h2 h3 h4
  have hrun : (Instr.sliceAt t (.slice (some ⟨B, o, none⟩) xs.length cap) vlo vhi vmx).run P w =
    .ok (.slice (if (if mx.isSome then h.toNat else cap) = l.toNat then some ⟨B, o, none⟩ else some ((⟨B, o, none⟩ : Addr).add (l.toNat * ie.size))) (h.toNat - l.toNat) ((if mx.isSome then h.toNat else cap) - l.toNat)) w := by
   simp [Instr.sliceAt, Instr.slice, run_underlying ht, hs, hb]
  refine ⟨_, hrun, ?_⟩
  by_cases hlh : h.toNat = l.toNat
  ·have hempty : (xs.take h.toNat).drop l.toNat = [] := by rw [hlh]; simp
   rw [hempty, hlh, Nat.sub_self]
   refine .slice0 fun hfull => ?_
   rcases h5 with rfl | ⟨k, m, rfl⟩
   ·simp at hfull ⊢
    have := g6 hfull.1
    omega
   ·simp
  ·have hlt : l.toNat < h.toNat := by omega
   have hhl : h.toNat ≤ xs.length := by omega
   have hm : ¬ ((if mx.isSome then h.toNat else cap) = l.toNat) := by split <;> omega
   rw [if_neg hm, VM]
   have hlen : ((xs.take h.toNat).drop l.toNat).length = h.toNat - l.toNat := by simp; omega
   have hszs : sz = ie.size := by
    cases xs with
    | nil => simp at hhl; omega
    | cons y r => rw [← g1 y (by simp)]; simpa [VW] using hsz
   rw [← hlen]
   have hget : ∀ (i : Nat) x, ((xs.take h.toNat).drop l.toNat)[i]? = some x → xs[l.toNat + i]? = some x ∧ l.toNat + i < h.toNat := by
    intro i x hi
    rw [List.getElem?_drop, List.getElem?_take] at hi
    split at hi
    ·exact ⟨hi, by omega⟩
    ·cases hi
   refine VR.slice (sz := sz) (fun i j => vals (l.toNat + i) j) hB ?_ ?_ ?_ ?_ ?_ ?_
   ·intro x hx
    exact g1 x (List.mem_of_mem_take (List.mem_of_mem_drop hx))
   ·intro i x j c hi hj
    obtain ⟨q1, q2⟩ := hget i x hi
    rw [← g2 _ x j c q1 hj, ← hszs, Nat.add_mul]
    congr 2; omega
   ·intro i x j c hi hj
    obtain ⟨q1, q2⟩ := hget i x hi
    exact g3 _ x j c q1 hj
   ·intro b L hb' hLB
    have := g4 b L hb' hLB
    have h9 : l.toNat * sz + (h.toNat - l.toNat) * sz = h.toNat * sz := by rw [← Nat.add_mul]; congr 1; omega
    have h10 : h.toNat * sz ≤ xs.length * sz := Nat.mul_le_mul_right _ hhl
    rw [hlen, ← hszs]; omega
   ·rw [hlen]; split <;> omega
   ·intro hfull
    rw [hlen]
    rcases h5 with rfl | ⟨k, m, rfl⟩
    ·simp at hfull ⊢
     have := g6 hfull.1
     omega
    ·simp
theorem run_preA (hI : zw Γ G w H) (hT : qf P T) {t e : TypeId} {ie : TI} (ht : P.underlying t = some (.slice e)) (hie : T e = some ie) {b n sz : Nat} {wr : Bool} {l h : Int} {k : IntKind} {fr : Operand → AV} {ρ : Operand → Value}
  (hfr : ∀ x, VR G w (fr x) (ρ x)) {lo hi mx : Option Operand} {v : Value} (hH : H[b]? = some (.row wr sz [])) (e1 : jn (lo.map fr) 0 = some l) (e2 : hi.map fr = some (.int k h)) (e3 : mx.map fr = none)
  (hl : l = 0) (hh : h = 0) (hx : VR G w (.pre b n) v) :
  ∃ u, (Instr.sliceAt t v (lo.map ρ) (hi.map ρ) (mx.map ρ)).run P w = .ok u w ∧ VR G w (.ref b 0) u := by
 subst hl hh
 obtain ⟨L, hL, h1, _⟩ := hI.row hH
 cases hx with
 | pre g1 g2 g3 g4 =>
  rw [hL] at g1; cases g1
  obtain ⟨rfl, hcap⟩ := g4 (by simpa using h1)
  have hs := run_sizeOf' (w := w) (hT _ _ hie)
  have hb := zav (P := P) (w := w) (len := n) (cap := L.cap) (BR.of hfr e1) (BR.of hfr (d := 0) (n := 0) (by rw [e2]; rfl)) (BR.of hfr (d := 0) (n := 0) (by rw [e3]; rfl)) hcap e1 (h := 0) (by rw [e2]; rfl) (by omega) (by omega) (by omega) (fun k m e => by rw [e3] at e; cases e)
  have hmx : mx = none := by cases mx <;> simp at e3; rfl
  subst hmx
  refine ⟨.slice (some ⟨L.B, 0, none⟩) 0 L.cap, ?_, .ref hL g2 (Nat.zero_le _) ⟨_, _, _, rfl⟩ fun _ => rfl⟩
  simp at hb
  simp [Instr.sliceAt, Instr.slice, run_underlying ht, hs, hb, Addr.add]
theorem run_sliceA (hI : zw Γ G w H) (hT : qf P T) {t e : TypeId} {ie : TI} (ht : P.underlying t = some (.slice e)) (hie : T e = some ie) {x : AV} {q : AV × AH} {fr : Operand → AV} {ρ : Operand → Value}
  (hfr : ∀ x, VR G w (fr x) (ρ x)) {lo hi mx : Option Operand} {v : Value} (h : Z0 ie H x (lo.map fr) (hi.map fr) (mx.map fr) = some q) (hx : VR G w x v) :
  ∃ u G', (Instr.sliceAt t v (lo.map ρ) (hi.map ρ) (mx.map ρ)).run P w = .ok u w ∧ zA G w G' w ∧ zw Γ G' w q.2 ∧ VR G' w q.1 u := by
 have brs : ∀ {xs : List AV} {full : Bool} {a : AV}, cut xs full (lo.map fr) (hi.map fr) (mx.map fr) = some a → BR (lo.map fr) (lo.map ρ) ∧ BR (hi.map fr) (hi.map ρ) ∧ BR (mx.map fr) (mx.map ρ) := by
  intro xs full a hc
  obtain ⟨l, h, e1, e2, _, _, _, _, h5, _⟩ := cut_some hc
  refine ⟨BR.of hfr e1, BR.of hfr e2, ?_⟩
  rcases h5 with h5 | ⟨k, m, h5⟩
  ·exact BR.of hfr (d := 0) (n := 0) (by rw [h5]; rfl)
  ·exact BR.of hfr (d := 0) (n := m) (by rw [h5]; rfl)
 unfold Z0 at h
 split at h
 ·split at h
  ·rename_i hsz
   simp only [Option.map_eq_some_iff] at h
   obtain ⟨a, ha, rfl⟩ := h
   obtain ⟨b1, b2, b3⟩ := brs ha
   obtain ⟨u, hu, hr⟩ := cut_ok hT ht hie hsz ha hx b1 b2 b3
   exact ⟨u, G, hu, .refl _ _, hI, hr⟩
  ·cases h
 ·split at h
  ·rename_i l h' e1 e2 e3
   split at h
   ·rename_i hc
    simp only [Option.some.injEq] at h; subst h
    cases hx
    have hb := zav (P := P) (w := w) (len := 0) (cap := 0) (BR.of hfr e1) (BR.of hfr e2) (BR.of hfr (d := 0) (n := 0) (by rw [e3]; rfl)) (Nat.le_refl _) e1 (by simpa using e2) (by omega) (by omega) (by simp; omega) (fun k m e => by rw [e3] at e; cases e)
    have hs := run_sizeOf' (w := w) (hT _ _ hie)
    obtain ⟨rfl, rfl⟩ := hc
    exact ⟨_, G, by simp [Instr.sliceAt, Instr.slice, run_underlying ht, hs, hb]; rfl, .refl _ _, hI, by simp; exact .nilslice⟩
   ·cases h
  ·cases h
 ·rename_i b n
  split at h
  ·rename_i wr sz xs hH
   split at h
   ·rename_i hc
    obtain ⟨hlen, rfl⟩ := hc
    simp only [Option.map_eq_some_iff] at h
    obtain ⟨a, ha, rfl⟩ := h
    obtain ⟨b1, b2, b3⟩ := brs ha
    have hcv := zbs hI hx
    simp only [Zs, hH, hlen, if_true] at hcv
    obtain ⟨G', e1, i1, r1⟩ := hcv
    have hszo : VW ie xs = true := by
     obtain ⟨L, _, _, _, h3, _⟩ := hI.row hH
     cases xs with
     | nil => rfl
     | cons y r => simp [VW, h3 y (by simp)]
    obtain ⟨u, hu, hr⟩ := cut_ok hT ht hie hszo ha r1 b1 b2 b3
    exact ⟨u, G', hu, e1, i1, hr⟩
   ·cases h
  ·cases h
 ·rename_i b n
  split at h
  ·rename_i wr sz l k h' hH e1 e2 e3
   split at h
   ·rename_i hc
    obtain ⟨hl, hh, rfl⟩ := hc
    simp only [Option.some.injEq] at h; subst h
    obtain ⟨u, hu, hr⟩ := run_preA hI hT ht hie hfr hH e1 e2 e3 hl hh hx
    exact ⟨u, G, hu, .refl _ _, hI, hr⟩
   ·cases h
  ·cases h
 ·cases h
theorem okc_cells {c : AV} (h : qo c = true) : c.cells = [c] := by cases c <;> simp [qo] at h <;> rfl
theorem VR.split {y : AV} {B cap : Nat} (h : VR G w (.slice [y] false) (.slice (some ⟨B, 0, none⟩) 1 cap)) (hy : y.cells.all qo = true) :
  VR G w (.slice y.cells false) (.slice (some ⟨B, 0, none⟩) y.cells.length y.cells.length) := by
 have hk : ∀ x ∈ y.cells, x.cells = [x] := fun x hx => okc_cells (List.all_eq_true.1 hy x hx)
 generalize hn : (1 : Nat) = n1 at h
 generalize ha : (some (⟨B, 0, none⟩ : Addr)) = aa at h
 cases h with
 | slice vals hB hs hc hr hl hcap hf =>
  cases ha
  rename_i sz
  have hsz := hs y (by simp)
  have one : ∀ {i : Nat} {x : AV} {j : Nat} {c : AV}, y.cells[i]? = some x → x.cells[j]? = some c → j = 0 ∧ c = x := fun {i x j c} hi hj => by
   rw [hk x (List.mem_of_getElem? hi)] at hj
   cases j with
   | zero => simp at hj; exact ⟨rfl, hj.symm⟩
   | succ j => simp at hj
  refine .slice (sz := 1) (fun i _ => vals 0 i) hB (fun x hx => by rw [hk x hx]; rfl) ?_ ?_ (by simpa [hsz] using hl) (Nat.le_refl _) (fun h => by cases h)
  ·intro i x j c hi hj
   obtain ⟨rfl, rfl⟩ := one hi hj
   have := hc 0 y i c (by simp) hi
   simpa using this
  ·intro i x j c hi hj
   obtain ⟨rfl, rfl⟩ := one hi hj
   exact hr 0 y i c (by simp) hi
theorem run_arrSl (hI : zw Γ G w H) (hT : qf P T) {t e : TypeId} {n : Nat} {ie : TI} (hr : ∀ w, (underlying t).run P w = .ok (.array n e) w) (hie : T e = some ie) {x : AV} {q : AV × AH} {fr : Operand → AV} {ρ : Operand → Value}
  {lo hi mx : Option Operand} {v : Value} (h : VJ n ie H x (lo.map fr) (hi.map fr) (mx.map fr) = some q) (hx : VR G w x v) :
  ∃ u G', (Instr.sliceAt t v (lo.map ρ) (hi.map ρ) (mx.map ρ)).run P w = .ok u w ∧ zA G w G' w ∧ zw Γ G' w q.2 ∧ VR G' w q.1 u := by
 unfold VJ at h
 split at h
 ·rename_i b e1 e2 e3
  split at h
  ·rename_i wr sz y hH
   split at h
   ·rename_i hc
    obtain ⟨hs1, hsz, hyl, hyo⟩ := hc
    simp only [Option.some.injEq] at h; subst h
    have hlo : lo = none := by cases lo <;> simp at e1; rfl
    have hhi : hi = none := by cases hi <;> simp at e2; rfl
    have hmx : mx = none := by cases mx <;> simp at e3; rfl
    subst hlo hhi hmx
    obtain ⟨G', e, hI', L, L', hL, hL', hB, hn', hn, hcap, hlim, _⟩ := hI.freeze hH
    have hblt := (gI.1 hH).1
    have hrd := hI'.reads (List.getElem?_set_self hblt) hL' (by omega)
    cases hx with
    | ptr h1 h2 h3 h4 =>
     rw [hL] at h1; cases h1
     have hv := h4 (by simpa using hn)
     subst hv
     rw [hB] at hrd
     have hsp := VR.split hrd hyo
     refine ⟨.slice (some ⟨L.B, 0, none⟩) n n, G', ?_, e, hI', by rw [← hyl]; exact hsp⟩
     have hso := run_sizeOf' (w := w) (hT _ _ hie)
     simp [Instr.sliceAt, hr, Instr.sureAddr, Instr.sliceBounds, hso, Addr.add]
   ·cases h
  ·cases h
 ·cases h
variable {Γ : Nat → Option (List AV)} {G : Gh} {w : World} {H : AH} {P : Program} {T : z6}
theorem run_makeMapA (hI : zw Γ G w H) {t : TypeId} {b : Nat} {H' : AH} (hs : JL H b (.map []) H') :
  ∃ v w' G', (Instr.makeMap t none).run P w = .ok v w' ∧ zA G w G' w' ∧ zw Γ G' w' H' ∧ VR G' w' (.map b) v := by
 let L : GL := { B := w.heap.size, n := 0, sz := 0, cap := 0, lim := 0, fixed := true }
 obtain ⟨G', ex, ix, hL⟩ := hI.place (.map #[] 0) (L := L) hs rfl (fun G' ex hL => ⟨L, hL, rfl, #[], 0, XV w _, rfl, fun j e v h => by simp at h⟩)
 exact ⟨_, _, G', by simp [Instr.makeMap, Result.andThen]; rfl, ex, ix, .map hL rfl⟩
theorem keyOk_int {d : TD} {k : AV} (h : U7 d k = true) : ∃ c n, d = .int c ∧ k = .int c n := by
 unfold U7 at h
 split at h
 ·rename_i c c' n; simp at h; subst h; exact ⟨_, _, rfl, rfl⟩
 ·cases h
theorem zaP {c : IntKind} {n : Int} {a : AV} {b : Bool} (h : UF (.int c n) a = some b) : ∃ m, a = .int c m ∧ b = (n == m) := by
 unfold UF at h
 split at h
 ·rename_i k1 a1 k2 b1 e1
  cases e1
  split at h
  ·rename_i hk; subst hk; simp at h; exact ⟨_, rfl, h.symm⟩
  ·cases h
 ·cases h
def Js (G : Gh) (w : World) (es : List (AV × AV)) (l : List MapEntry) : Prop :=
 l.length = es.length ∧ ∀ (j : Nat) e v, es[j]? = some e → l[j]? = some v → VR G w e.1 v.key ∧ VR G w e.2 v.val
theorem Js.tail {e : AV × AV} {es : List (AV × AV)} {x : MapEntry} {l : List MapEntry} (h : Js G w (e :: es) (x :: l)) : Js G w es l :=
 ⟨by simpa using h.1, fun j a v ha hv => h.2 (j + 1) a v (by simpa using ha) (by simpa using hv)⟩
theorem findNow_of {c : IntKind} {n : Int} : ∀ (es : List (AV × AV)) (l : List MapEntry) (r : Option AV) (i : Nat), Js G w es l → XW (.int c n) es = some r →
  (r = none ∧ Instr.findNow (.int c) (.int c n) l i = some none) ∨ ∃ j v a, r = some a ∧ Instr.findNow (.int c) (.int c n) l i = some (some (i + j, v)) ∧ VR G w a v
 | [], l, r, i, h, hf => by
  cases l with
  | nil => simp [XW] at hf; exact .inl ⟨hf.symm, rfl⟩
  | cons _ _ => have := h.1; simp at this
 | e :: es, [], r, i, h, hf => by have := h.1; simp at this
 | e :: es, x :: l, r, i, h, hf => by
  obtain ⟨h1, h2⟩ := h.2 0 e x rfl rfl
  simp only [XW] at hf
  split at hf
  ·rename_i hs
   obtain ⟨m, hm, hb⟩ := zaP hs
   rw [hm] at h1
   simp only [Option.some.injEq] at hf; subst hf
   generalize hk : x.key = kx at h1
   cases h1
   refine .inr ⟨0, x.val, e.2, rfl, ?_, h2⟩
   simp only [Instr.findNow, hk, Instr.sameNow, if_true, ← hb]
   simp
  ·rename_i hs
   obtain ⟨m, hm, hb⟩ := zaP hs
   rw [hm] at h1
   generalize hk : x.key = kx at h1
   cases h1
   have step : Instr.findNow (.int c) (.int c n) (x :: l) i = Instr.findNow (.int c) (.int c n) l (i + 1) := by
    simp only [Instr.findNow, hk, Instr.sameNow, if_true, ← hb]
   rcases findNow_of es l r (i + 1) h.tail hf with ⟨e1, e2⟩ | ⟨j, v, a, e1, e2, e3⟩
   ·exact .inl ⟨e1, by rw [step]; exact e2⟩
   ·exact .inr ⟨j + 1, v, a, e1, by rw [step, e2]; congr 3; omega, e3⟩
  ·cases hf
theorem entsA_ok (hI : zw Γ G w H) {m : AV} {v : Value} {es : List (AV × AV)} (h : XZ H m = some es) (hv : VR G w m v) :
  (v = .map none ∧ es = []) ∨ ∃ r ents clock, v = .map (some r) ∧ w.heap[r]? = some (.map ents clock) ∧ Js G w es ents.toList := by
 unfold XZ at h
 split at h
 ·simp only [Option.some.injEq] at h; cases hv; exact .inl ⟨rfl, h.symm⟩
 ·rename_i b
  split at h
  ·rename_i es' hH
   simp only [Option.some.injEq] at h; subst h
   obtain ⟨L, h1, h2, ents, clock, h3, h4, h5⟩ := hI.blk b _ hH
   cases hv with
   | map g1 g2 =>
    rw [h1] at g1; cases g1
    exact .inr ⟨_, ents, clock, rfl, h3, by simpa using h4, fun j e v he hv => h5 j e v he (by simpa using hv)⟩
  ·cases h
 ·cases h
theorem run_lookupA (hI : zw Γ G w H) (hT : qf P T) {t : TypeId} {m k a : AV} {ok : Bool} {vm vk : Value} (h : Q3 T H t m k ok = some a) (hm : VR G w m vm) (hk : VR G w k vk) :
  ∃ v, (Instr.lookup t vm vk ok).run P w = .ok v w ∧ VR G w a v := by
 unfold Q3 at h
 split at h
 ·rename_i kt et e1
  simp only [Option.map_eq_some_iff] at e1
  obtain ⟨ti, hti, e1⟩ := e1
  obtain ⟨d, htd, hd, r⟩ := jb (hT _ _ hti)
  rw [e1] at htd; cases W7 htd
  split at h
  ·rename_i ki ei hki hei
   split at h
   ·rename_i hkok
    obtain ⟨c, n, hkd, rfl⟩ := keyOk_int hkok
    cases hk
    obtain ⟨dk, htk, hdk, rk⟩ := jb (hT _ _ hki)
    rw [hkd] at htk
    have hdk' : dk = .int c := by cases dk <;> simp [jz] at htk; rw [htk]
    subst hdk'
    obtain ⟨z, hz, hza⟩ := zbR (hT _ _ hei)
    have hzv : VR G w ei.zero z := by rw [← hza]; exact VR.absC z
    simp only [Option.map_eq_some_iff, Option.bind_eq_some_iff] at h
    obtain ⟨r0, ⟨es, hes, hfind⟩, rfl⟩ := h
    have hchk : ∀ e, (Instr.checkKey e 10000 kt (.int c n)).run P w = .ok () w := fun e => MapKept.run_checkKey (d := .int c) hdk (by simp [MapKept.IsKey]) e 9999
    have fin : ∀ (r0 : Option AV) (x : Value), VR G w (r0.getD ei.zero) x → VR G w (if ok = true then AV.tuple [r0.getD ei.zero, .bool r0.isSome] else r0.getD ei.zero) (if ok = true then .tuple #[x, .bool r0.isSome] else x) := by
     intro r0 x hx
     cases ok
     ·simpa using hx
     ·simp only [if_true]
      refine .tuple rfl fun i a b ha hb => ?_
      match i, ha, hb with
      | 0, ha, hb => simp at ha hb; subst ha hb; exact hx
      | 1, ha, hb => simp at ha hb; subst ha hb; exact .bool _
      | k + 2, ha, hb => simp at ha
    rcases entsA_ok hI hes hm with ⟨rfl, rfl⟩ | ⟨b, ents, clock, rfl, hb, hents⟩
    ·simp [XW] at hfind; subst hfind
     have hf : (Instr.findKey kt (.int c n) []).run P w = .ok none w := MapKept.run_findKey hdk rfl
     exact ⟨_, by simp [Instr.lookup, r, hchk, hf, hz, Result.andThen], fin none z hzv⟩
    ·rcases findNow_of es ents.toList r0 0 hents hfind with ⟨rfl, e2⟩ | ⟨j, v, a, rfl, e2, e3⟩
     ·have hf : (Instr.findKey kt (.int c n) ents.toList).run P w = .ok none w := MapKept.run_findKey hdk e2
      exact ⟨_, by simp [Instr.lookup, r, MapKept.run_getObj_map hb, hchk, hf, hz, Result.andThen], fin none z hzv⟩
     ·have hf : (Instr.findKey kt (.int c n) ents.toList).run P w = .ok (some (0 + j, v)) w := MapKept.run_findKey hdk e2
      exact ⟨_, by simp [Instr.lookup, r, MapKept.run_getObj_map hb, hchk, hf, Result.andThen], fin (some a) v e3⟩
   ·cases h
  ·cases h
 ·cases h
theorem putA_find {c : IntKind} {n : Int} {v : AV} {vv : Value} {clock : Nat} : ∀ (es es' : List (AV × AV)) (l : List MapEntry) (i : Nat), Js G w es l → YJ (.int c n) v es = some es' → VR G w v vv →
  (Instr.findNow (.int c) (.int c n) l i = some none ∧ Js G w es' (l ++ [{ key := .int c n, val := vv, born := clock }])) ∨
  ∃ j e, Instr.findNow (.int c) (.int c n) l i = some (some (i + j, e.val)) ∧ l[j]? = some e ∧ e.key = .int c n ∧ Js G w es' (l.set j { e with key := .int c n, val := vv })
 | [], es', l, i, h, hp, hv => by
  cases l with
  | nil =>
   simp [YJ] at hp; subst hp
   refine .inl ⟨rfl, by simp, fun j e x he hx => ?_⟩
   cases j with
   | zero => simp at he hx; subst he hx; exact ⟨.int _ _, hv⟩
   | succ j => simp at he
  | cons _ _ => have := h.1; simp at this
 | e :: es, es', [], i, h, hp, hv => by have := h.1; simp at this
 | e :: es, es', x :: l, i, h, hp, hv => by
  obtain ⟨h1, h2⟩ := h.2 0 e x rfl rfl
  simp only [YJ] at hp
  split at hp
  ·rename_i hs
   obtain ⟨m, hm, hb⟩ := zaP hs
   rw [hm] at h1
   simp only [Option.some.injEq] at hp; subst hp
   generalize hk : x.key = kx at h1
   cases h1
   have hnm : n = m := by have := hb.symm; simpa using this
   refine .inr ⟨0, x, ?_, rfl, by rw [hk, hnm], by simpa using h.1, fun j a y ha hy => ?_⟩
   ·simp only [Instr.findNow, hk, Instr.sameNow, if_true, ← hb]; simp
   ·cases j with
    | zero => simp at ha hy; subst ha hy; exact ⟨.int _ _, hv⟩
    | succ j => exact h.tail.2 j a y (by simpa using ha) (by simpa using hy)
  ·rename_i hs
   obtain ⟨m, hm, hb⟩ := zaP hs
   have h1' := h1
   rw [hm] at h1
   simp only [Option.map_eq_some_iff] at hp
   obtain ⟨q, hq, rfl⟩ := hp
   generalize hk : x.key = kx at h1
   cases h1
   have step : Instr.findNow (.int c) (.int c n) (x :: l) i = Instr.findNow (.int c) (.int c n) l (i + 1) := by
    simp only [Instr.findNow, hk, Instr.sameNow, if_true, ← hb]
   have cons : ∀ l', Js G w q l' → Js G w (e :: q) (x :: l') := fun l' h' => ⟨by simpa using h'.1, fun j a y ha hy => by
    cases j with
    | zero => simp at ha hy; subst ha hy; exact ⟨h1', h2⟩
    | succ j => exact h'.2 j a y (by simpa using ha) (by simpa using hy)⟩
   rcases putA_find (clock := clock) es q l (i + 1) h.tail hq hv with ⟨e1, e2⟩ | ⟨j, y, e1, e2, e3, e4⟩
   ·exact .inl ⟨by rw [step]; exact e1, cons _ e2⟩
   ·exact .inr ⟨j + 1, y, by rw [step, e1]; congr 3; omega, by simpa using e2, e3, cons _ e4⟩
  ·cases hp
theorem run_insertA (hI : zw Γ G w H) (hT : qf P T) {t : TypeId} {m k a : AV} {H' : AH} {vm vk va : Value} (h : Va T H t m k a = some H') (hm : VR G w m vm) (hk : VR G w k vk) (ha : VR G w a va) :
  ∃ w', (Instr.mapUpdate t vm vk va).run P w = .ok () w' ∧ zA G w G w' ∧ zw Γ G w' H' := by
 unfold Va at h
 split at h
 ·rename_i kt et b e1
  simp only [Option.map_eq_some_iff] at e1
  obtain ⟨ti, hti, e1⟩ := e1
  obtain ⟨d, htd, hd, r⟩ := jb (hT _ _ hti)
  rw [e1] at htd; cases W7 htd
  split at h
  ·rename_i ki es hki hH
   split at h
   ·rename_i hkok
    obtain ⟨c, n, hkd, rfl⟩ := keyOk_int hkok
    cases hk
    obtain ⟨dk, htk, hdk, rk⟩ := jb (hT _ _ hki)
    rw [hkd] at htk
    have hdk' : dk = .int c := by cases dk <;> simp [jz] at htk; rw [htk]
    subst hdk'
    simp only [Option.map_eq_some_iff] at h
    obtain ⟨es', hes', rfl⟩ := h
    obtain ⟨L, hL, hfx, ents, clock, hb, hsz, hrel⟩ := hI.blk b _ hH
    cases hm with
    | map g1 g2 =>
     rw [hL] at g1; cases g1
     have hents : Js G w es ents.toList := ⟨by simpa using hsz, fun j e v he hv => hrel j e v he (by simpa using hv)⟩
     have hbG := Zi hL
     have done : ∀ (ents' : Array MapEntry) (clock' : Nat), Js G w es' ents'.toList →
       zA G w G { w with heap := w.heap.setIfInBounds L.B (.map ents' clock') } ∧ zw Γ G { w with heap := w.heap.setIfInBounds L.B (.map ents' clock') } (H.set b (.map es')) := by
      intro ents' clock' h'
      have hset := MapKept.heap_set (o' := .map ents' clock') hb
      have e : zA G w (G.set b (some L)) { w with heap := w.heap.setIfInBounds L.B (.map ents' clock') } :=
       zA.turn hI hL rfl rfl rfl (by simp) (fun B hB => hset.2 B hB) rfl rfl (Nat.le_refl _) (Nat.le_refl _) rfl rfl (fun off ho => by simp only [World.cell?, hb, hset.1])
      have hi := hI.put (L' := L) (k' := .map es') (by rw [← hI.len]; exact hbG) e
       (fun b' L2 hne h => hset.2 L2.B fun eB => hne (hI.inj b' b L2 L h hL eB)) (fun b' L2 hne h eB => hne (hI.inj b' b L2 L h hL eB))
       ⟨L, Z3 hbG, hfx, ents', clock', hset.1, by simpa using h'.1, fun j x v hx hv => by
        obtain ⟨q1, q2⟩ := h'.2 j x v hx (by simpa using hv)
        exact ⟨q1.mono e, q2.mono e⟩⟩
      rw [zbP hL] at e hi
      exact ⟨e, hi⟩
     have hchk : ∀ e, (Instr.checkKey e 10000 kt (.int c n)).run P w = .ok () w := fun e => MapKept.run_checkKey (d := .int c) hdk (by simp [MapKept.IsKey]) e 9999
     rcases putA_find (clock := clock) (vv := va) es es' ents.toList 0 hents hes' ha with ⟨e1, e2⟩ | ⟨j, y, e1, e2, e3, e4⟩
     ·refine ⟨_, ?_, done (ents.push { key := .int c n, val := va, born := clock }) (clock + 1) (by simpa using e2)⟩
      simp [Instr.mapUpdate, r, MapKept.run_getObj_map hb, hchk, MapKept.run_findKey hdk e1, MapKept.run_setObj_map _ hb, Result.andThen]
     ·have hj : ents[j]? = some y := by simpa using e2
      refine ⟨_, ?_, done (ents.modify j fun e => { e with key := .int c n, val := va }) clock ?_⟩
      ·simp [Instr.mapUpdate, r, MapKept.run_getObj_map hb, hchk, MapKept.run_findKey hdk e1, hj, e3, MapKept.run_keyThatStays (d := .int c) (k := .int c n) (by simp [MapKept.IsKey]), MapKept.run_setObj_map _ hb, Result.andThen]
      ·have : (ents.modify j fun e => { e with key := .int c n, val := va }).toList = ents.toList.set j { y with key := .int c n, val := va } := by
        apply List.ext_getElem?
        intro i
        rw [Array.getElem?_toList, Array.getElem?_modify]
        by_cases hij : j = i
        ·subst hij
         rw [if_pos rfl, hj, List.getElem?_set_self (by have := (gI.1 e2).1; exact this)]; rfl
        ·rw [if_neg hij, List.getElem?_set_ne hij, Array.getElem?_toList]
       rw [this]; exact e4
   ·cases h
  ·cases h
 ·cases h
theorem run_capA (hT : qf P T) {t ty : TypeId} {x a : AV} {v : Value} (h : WI T t x = some a) (hx : VR G w x v) :
  ∃ u, (Builtin.cap_ #[t] ty #[v]).run P w = .ok u w ∧ VR G w a u := by
 unfold WI at h
 split at h
 ·rename_i e xs e1
  simp only [Option.map_eq_some_iff] at e1
  obtain ⟨ti, hti, e1⟩ := e1
  obtain ⟨d, htd, hd, r⟩ := jb (hT _ _ hti)
  rw [e1] at htd; cases ZH htd
  simp only [Option.some.injEq] at h; subst h
  cases hx with
  | slice0 hf =>
   have := hf rfl; subst this
   exact ⟨_, by simp [Builtin.cap_, r, goInt], .int _ _⟩
  | slice _ _ _ _ _ _ _ hf =>
   have := hf rfl; subst this
   exact ⟨_, by simp [Builtin.cap_, r, goInt], .int _ _⟩
 ·rename_i e e1
  simp only [Option.map_eq_some_iff] at e1
  obtain ⟨ti, hti, e1⟩ := e1
  obtain ⟨d, htd, hd, r⟩ := jb (hT _ _ hti)
  rw [e1] at htd; cases ZH htd
  simp only [Option.some.injEq] at h; subst h
  cases hx
  exact ⟨_, by simp [Builtin.cap_, r, goInt], .int _ _⟩
 ·cases h
theorem run_appendZ (hI : zw Γ G w H) (hT : qf P T) {t t' ty e : TypeId} {ie i' : TI} {c k : IntKind} {n : Int} (ht : P.underlying t = some (.slice e)) (hie : T e = some ie) (hi' : T t' = some i') (hd' : i'.d = .int c)
  (h0 : 0 < n) (h1 : n * ie.bytes ≤ 140737488355328) (h2 : n ≤ 9223372036854775807) (hpos : 0 < ie.size) (hz : (qF ie.zero).map List.length = some ie.size) {b : Nat} {H' : AH} (hsl : JL H b (.row true ie.size []) H') :
  ∃ v w' G', (Builtin.append_ #[t, t'] ty #[.slice none 0 0, .int k n]).run P w = .ok v w' ∧ zA G w G' w' ∧ zw Γ G' w' H' ∧ VR G' w' (.pre b n.toNat) v := by
 obtain ⟨info, d, z, hin, hzi, hza, hsz, hb, hd, htd⟩ := (hT _ _ hie).get
 obtain ⟨zcs, hzc, hzl⟩ := Option.map_eq_some_iff.1 hz
 have hzs : z.cells.size = ie.size := by rw [(Yi (G := G) (w := w) (hT _ _ hie) hin hzi hzc).1]; exact hzl
 obtain ⟨d2, htd2, hd2, _⟩ := jb (hT _ _ hi')
 rw [hd'] at htd2
 have : d2 = .int c := by cases d2 <;> simp [jz] at htd2; rw [htd2]
 subst this
 have i1 := hI.drew
 obtain ⟨m, rfl⟩ := Int.eq_ofNat_of_zero_le (Int.le_of_lt h0)
 have hm : (m : Int) * ie.bytes = ((m * ie.bytes : Nat) : Int) := by simp
 have hr := Lib.run_append_nil_zeros (P := P) w t t' ty e info z k c ht hd2 hin hzi m (by omega) (by omega) h2 (by rw [hb]; omega)
 have hg := Wp w m 0 e
 let L : GL := { B := w.drew.heap.size, n := 0, sz := ie.size, cap := grownCap w m 0 e, lim := 0, fixed := false }
 obtain ⟨G', ex, ix, hL⟩ := i1.2.place (.cells (Builtin.zeroCells z.cells m ++ Builtin.zeroCells z.cells (grownCap w m 0 e - m)) e) (L := L) hsl rfl (fun G' ex hL =>
  ⟨L, hL, rfl, rfl, by simp, by simp, fun _ => rfl, by simp [L], _, _, XV _ _, by
   simp only [Array.size_append, Ux, hzs]
   rw [← Nat.add_mul]
   exact Nat.mul_le_mul_right _ (by show grownCap w m 0 e ≤ _; omega), by simp⟩)
 exact ⟨_, _, G', hr, hI.trans i1.1 ex, ix, .pre hL rfl ⟨_, _, _, rfl⟩ fun _ => ⟨rfl, hg⟩⟩
variable {Γ : Nat → Option (List AV)} {G : Gh} {w : World} {H : AH} {P : Program} {T : z6}
theorem zaG {mx : Bool} : ∀ (r : List AV) (vr : List Value) (x a : AV) (vx : Value), Vx mx x r = some a → VR G w x vx → VL G w r vr →
  ∃ v, (vr.foldlM (if mx then Builtin.max2 else Builtin.min2) vx).run P w = .ok v w ∧ VR G w a v
 | [], [], x, a, vx, h, hx, _ => by
  cases x <;> simp [Vx] at h <;> subst h <;> exact ⟨vx, by simp, hx⟩
 | [], _ :: _, x, a, vx, h, hx, hl => by have := hl.1; simp at this
 | _ :: _, [], x, a, vx, h, hx, hl => by have := hl.1; simp at this
 | y :: r, vy :: vr, x, a, vx, h, hx, hl => by
  unfold Vx at h
  split at h
  ·rename_i e; cases e
  ·rename_i k n k' m r' e
   cases e
   obtain ⟨h1, h2⟩ := hl.uncons
   cases hx; cases h1
   split at h
   ·rename_i hk; subst hk
    have ih := zaG r vr _ a (.int k (if mx then (if m > n then m else n) else (if m < n then m else n))) h (.int _ _) h2
    obtain ⟨v, hv, hr⟩ := ih
    refine ⟨v, ?_, hr⟩
    cases mx <;> simp [List.foldlM_cons, Builtin.max2, Builtin.min2] at hv ⊢ <;> exact hv
   ·cases h
  ·cases h
theorem run_lenA (hI : zw Γ G w H) (hT : qf P T) {t ty : TypeId} {x a : AV} {v : Value} (h : qu T H t x = some a) (hx : VR G w x v) :
  ∃ u, (Builtin.len_ #[t] ty #[v]).run P w = .ok u w ∧ VR G w a u := by
 unfold qu at h
 split at h
 all_goals first | (cases h; done) | skip
 all_goals
  rename_i e1
  simp only [Option.map_eq_some_iff] at e1
  obtain ⟨ti, hti, e1⟩ := e1
  obtain ⟨d, htd, hd, r⟩ := jb (hT _ _ hti)
  rw [e1] at htd
 ·cases Yn htd; cases hx; simp only [Option.some.injEq] at h; subst h
  exact ⟨_, by simp [Builtin.len_, r, goInt], .int _ _⟩
 ·cases Xw htd; simp only [Option.some.injEq] at h; subst h
  exact ⟨_, by simp [Builtin.len_, r, goInt], .int _ _⟩
 ·cases ZH htd; simp only [Option.some.injEq] at h; subst h
  cases hx with
  | slice0 hf => exact ⟨_, by simp [Builtin.len_, r, goInt], .int _ _⟩
  | slice _ _ _ _ _ _ _ _ => exact ⟨_, by simp [Builtin.len_, r, goInt], .int _ _⟩
 ·cases ZH htd; simp only [Option.some.injEq] at h; subst h; cases hx
  exact ⟨_, by simp [Builtin.len_, r, goInt], .int _ _⟩
 ·cases ZH htd
  split at h
  ·rename_i hH
   split at h
   ·rename_i hlen
    simp only [Option.some.injEq] at h; subst h
    obtain ⟨L, hL, h1, _⟩ := hI.row hH
    cases hx with
    | ref g1 g2 g3 g4 g5 =>
     rw [hL] at g1; cases g1
     have := g5 (by omega)
     subst this
     exact ⟨_, by simp [Builtin.len_, r, goInt], .int _ _⟩
   ·cases h
  ·cases h
 ·cases W7 htd; cases hx; simp only [Option.some.injEq] at h; subst h
  exact ⟨_, by simp [Builtin.len_, r, goInt], .int _ _⟩
 ·rename_i b
  cases W7 htd
  split at h
  ·rename_i es hH
   simp only [Option.some.injEq] at h; subst h
   obtain ⟨L, h1, h2, ents, clock, h3, h4, h5⟩ := hI.blk b _ hH
   cases hx with
   | map g1 g2 =>
    rw [h1] at g1; cases g1
    exact ⟨_, by simp [Builtin.len_, r, goInt, MapKept.run_getObj_map h3, h4], .int _ _⟩
  ·cases h
theorem eqA_junk_left {d : Nat} {t : TypeId} {y : AV} : jF T d t .junk y = none := by
 cases d with
 | zero => rfl
 | succ d => unfold jF; split <;> first | rfl | contradiction
theorem eqA_junk_right {d : Nat} {t : TypeId} {x : AV} : jF T d t x .junk = none := by
 cases d with
 | zero => rfl
 | succ d => unfold jF; split <;> first | rfl | contradiction
theorem eqA_agg {d : Nat} {t : TypeId} {xs ys : List AV} {b : Bool} (h : jF T d t (.agg xs) (.agg ys) = some b) : ∃ i, T t = some i ∧ i.eq = true := by
 cases d with
 | zero => simp [jF] at h
 | succ d =>
  unfold jF at h
  cases hi : T t with
  | none => simp [hi] at h
  | some i =>
   refine ⟨i, rfl, ?_⟩
   simp only [hi, Option.map_some] at h
   cases hd : i.d <;> simp only [hd] at h <;> first | (cases h; done) | skip
   ·split at h
    ·rename_i he; simp at he; exact he.1
    ·cases h
   ·split at h
    ·rename_i he; simp at he; exact he
    ·cases h
theorem binA_eq {op : BinOp} (hop : op = .eql ∨ op = .neq) {t : TypeId} {x y a : AV} (h : qY T op t x y = some a) : (∃ b, jF T 6 t x y = some b) ∨ (∃ k n k' m, x = .int k n ∧ y = .int k' m) ∨ (∃ s r, x = .str s ∧ y = .str r) := by
 rcases hop with rfl | rfl
 ·unfold qY at h
  split at h <;> first | contradiction | skip
  ·exact .inr (.inl ⟨_, _, _, _, rfl, rfl⟩)
  ·exact .inr (.inr ⟨_, _, rfl, rfl⟩)
  ·simp only [Option.map_eq_some_iff] at h; obtain ⟨b, hb, _⟩ := h; exact .inl ⟨b, hb⟩
 ·unfold qY at h
  split at h <;> first | contradiction | skip
  ·exact .inr (.inl ⟨_, _, _, _, rfl, rfl⟩)
  ·exact .inr (.inr ⟨_, _, rfl, rfl⟩)
  ·simp only [Option.map_eq_some_iff] at h; obtain ⟨b, hb, _⟩ := h; exact .inl ⟨b, hb⟩
theorem VR.nilI {a : AV} (h : VR G w a .nilIface) : a = .junk ∨ a = .niliface := by
 cases h with
 | junk => exact .inl rfl
 | niliface => exact .inr rfl
 | ptr _ _ hs _ => obtain ⟨_, hs⟩ := hs; cases hs
 | ref _ _ _ hs _ => obtain ⟨_, _, _, hs⟩ := hs; cases hs
 | pre _ _ hs _ => obtain ⟨_, _, _, hs⟩ := hs; cases hs
theorem VR.aggI {a : AV} {vs : Array Value} (h : VR G w a (.agg vs)) : a = .junk ∨ ∃ cs, a = .agg cs := by
 cases h with
 | junk => exact .inl rfl
 | agg _ _ => exact .inr ⟨_, rfl⟩
 | ptr _ _ hs _ => obtain ⟨_, hs⟩ := hs; cases hs
 | ref _ _ _ hs _ => obtain ⟨_, _, _, hs⟩ := hs; cases hs
 | pre _ _ hs _ => obtain ⟨_, _, _, hs⟩ := hs; cases hs
theorem guard_eql {t : TypeId} {x y : Operand} {vx vy : Value} (hnil : vx = .nilIface → vy = .nilIface → ZV x = true ∨ ZV y = true)
  (hagg : ∀ a b, vx = .agg a → vy = .agg b → P.eqGuardType P.depth t = false) : (eqGuard .eql t x y vx vy).run P w = .ok () w := by
 simp only [eqGuard, Bool.not_true, Bool.false_eq_true, if_false]
 split
 ·rcases hnil rfl rfl with hc | hc
  ·cases x <;> simp [ZV] at hc
   simp
  ·cases y <;> simp [ZV] at hc
   simp
 ·simp [hagg _ _ rfl rfl]
 ·simp
theorem guard_neq {t : TypeId} {x y : Operand} {vx vy : Value} (hnil : vx = .nilIface → vy = .nilIface → ZV x = true ∨ ZV y = true)
  (hagg : ∀ a b, vx = .agg a → vy = .agg b → P.eqGuardType P.depth t = false) : (eqGuard .neq t x y vx vy).run P w = .ok () w := by
 simp only [eqGuard, Bool.not_true, Bool.false_eq_true, if_false]
 split
 ·rcases hnil rfl rfl with hc | hc
  ·cases x <;> simp [ZV] at hc
   simp
  ·cases y <;> simp [ZV] at hc
   simp
 ·simp [hagg _ _ rfl rfl]
 ·simp
theorem run_guard (hT : qf P T) {op : BinOp} {t : TypeId} {x y : Operand} {ax ay a : AV} {vx vy : Value} (h : qY T op t ax ay = some a)
  (hni : nilI ax = true → nilI ay = true → ZV x = false → ZV y = true) (hx : VR G w ax vx) (hy : VR G w ay vy) : (eqGuard op t x y vx vy).run P w = .ok () w := by
 by_cases hop : op = .eql ∨ op = .neq
 ·have hb := binA_eq hop h
  have hnil : vx = .nilIface → vy = .nilIface → ZV x = true ∨ ZV y = true := by
   rintro rfl rfl
   rcases hx.nilI with rfl | rfl
   ·rcases hb with ⟨b, hb⟩ | ⟨_, _, _, _, e, _⟩ | ⟨_, _, e, _⟩
    ·rw [eqA_junk_left] at hb; cases hb
    ·cases e
    ·cases e
   ·rcases hy.nilI with rfl | rfl
    ·rcases hb with ⟨b, hb⟩ | ⟨_, _, _, _, _, e⟩ | ⟨_, _, _, e⟩
     ·rw [eqA_junk_right] at hb; cases hb
     ·cases e
     ·cases e
    ·cases hcx : ZV x with
     | true => exact .inl rfl
     | false => exact .inr (hni rfl rfl hcx)
  have hagg : ∀ a b, vx = .agg a → vy = .agg b → P.eqGuardType P.depth t = false := by
   rintro c d rfl rfl
   rcases hx.aggI with rfl | ⟨xs, rfl⟩
   ·rcases hb with ⟨b, hb⟩ | ⟨_, _, _, _, e, _⟩ | ⟨_, _, e, _⟩
    ·rw [eqA_junk_left] at hb; cases hb
    ·cases e
    ·cases e
   ·rcases hy.aggI with rfl | ⟨ys, rfl⟩
    ·rcases hb with ⟨b, hb⟩ | ⟨_, _, _, _, _, e⟩ | ⟨_, _, _, e⟩
     ·rw [eqA_junk_right] at hb; cases hb
     ·cases e
     ·cases e
    ·rcases hb with ⟨b, hb⟩ | ⟨_, _, _, _, e, _⟩ | ⟨_, _, e, _⟩
     ·obtain ⟨i, hi, he⟩ := eqA_agg hb
      exact (eqOk_get ((hT _ _ hi).2.2 he)).1
     ·cases e
     ·cases e
  rcases hop with rfl | rfl
  ·exact guard_eql hnil hagg
  ·exact guard_neq hnil hagg
 ·cases op <;> first | (exact absurd (Or.inl rfl) hop) | (exact absurd (Or.inr rfl) hop) | simp [eqGuard]
theorem run_aop (hI : zw Γ G w H) (hT : qf P T) {fr : Operand → AV} {ρ : Operand → Value} (hfr : ∀ x, VR G w (fr x) (ρ x)) {o : Oper} {a : AV} {H' : AH} (h : zO T fr H o.op = some (a, H')) :
  Xn Γ G w a H' ((execOp ρ o).run P w) := by
 unfold zO at h
 split at h
 ·rename_i x e; simp only [Option.some.injEq, Prod.mk.injEq] at h; obtain ⟨rfl, rfl⟩ := h
  simp only [execOp, e]; exact Xn.val hI (hfr _)
 ·rename_i x e; simp only [Option.some.injEq, Prod.mk.injEq] at h; obtain ⟨rfl, rfl⟩ := h
  simp only [execOp, e]; exact Xn.val hI (hfr _)
 ·rename_i c x y e
  split at h
  ·rename_i t ht
   simp only [Option.some.injEq, Prod.mk.injEq] at h; obtain ⟨rfl, rfl⟩ := h
   have hc := hfr c
   rw [ht] at hc
   generalize hcv : ρ c = vc at hc
   cases hc
   have : (execOp ρ o).run P w = .ok (.value (if t then ρ x else ρ y)) w := by
    simp only [execOp, e, hcv]; cases t <;> simp [asBool]
   rw [this]
   refine Xn.val hI ?_
   cases t
   ·simpa using hfr y
   ·simpa using hfr x
  ·cases h
 ·rename_i el e
  split at h
  ·rename_i i hi
   simp only [Option.bind_eq_some_iff] at h
   obtain ⟨cs, hcs, h⟩ := h
   split at h
   ·rename_i hl
    simp only [Option.some.injEq, Prod.mk.injEq] at h; obtain ⟨rfl, rfl⟩ := h
    obtain ⟨v, w', G', h1, h2, h3, h4⟩ := run_allocA hI hT hi hcs hl (.push H _)
    exact ⟨v, w', G', .inl (by simp [execOp, e, h1]), h2, h3, h4⟩
   ·cases h
  ·cases h
 ·rename_i el x e
  simp only [Option.map_eq_some_iff, Prod.mk.injEq] at h
  obtain ⟨cs, hcs, rfl, rfl⟩ := h
  obtain ⟨v, w', G', h1, h2, h3, h4⟩ := run_boxA (P := P) (e := el) hI (hfr x) hcs (.push H _)
  exact ⟨v, w', G', .inl (by simp [execOp, e, h1]), h2, h3, h4⟩
 ·rename_i t parts e
  simp only [Option.map_eq_some_iff, Prod.mk.injEq] at h
  obtain ⟨v, hv, rfl, rfl⟩ := h
  obtain ⟨u, hu, hr⟩ := run_buildA (w := w) (G := G) hT (vparts := parts.map fun (i, x) => (i, ρ x)) hv (by simp) (fun k p q hp hq => by
   simp only [List.getElem?_map, Option.map_eq_some_iff, Array.getElem?_map] at hp hq
   obtain ⟨p', hp', rfl⟩ := hp
   obtain ⟨q', hq', rfl⟩ := hq
   simp at hp'; rw [hp'] at hq'; cases hq'
   exact ⟨rfl, hfr _⟩)
  exact ⟨u, w, G, .inl (by simp only [execOp, e]; simp only [Sem.run_bind, hu]; rfl), .refl _ _, hI, hr⟩
 ·rename_i t n parts e
  obtain ⟨u, w', G', hu, h2, h3, h4⟩ := run_buildSliceA (w := w) (G := G) hI hT (vparts := parts.map fun (i, x) => (i, ρ x)) h
   (by simp [List.map_map, Function.comp_def]) (by
    have := VL.of_map (G := G) (w := w) hfr (parts.toList.map (·.2))
    simpa [List.map_map, Function.comp_def] using this)
  exact ⟨u, w', G', .inl (by simp only [execOp, e]; simp only [Sem.run_bind, hu]; rfl), h2, h3, h4⟩
 ·rename_i t x e
  simp only [Option.bind_eq_some_iff, Option.map_eq_some_iff, Prod.mk.injEq] at h
  obtain ⟨i, hi, ⟨y, off⟩, hp, v, hv, rfl, rfl⟩ := h
  obtain ⟨u, hu, hr⟩ := run_loadA hI hT hi hp hv (hfr x)
  exact ⟨u, w, G, .inl (by simp [execOp, e, hu]), .refl _ _, hI, hr⟩
 ·rename_i t x y e
  simp only [Option.map_eq_some_iff, Prod.mk.injEq] at h
  obtain ⟨H1, hH1, rfl, rfl⟩ := h
  obtain ⟨w', hu, h2, h3⟩ := run_storeA hI hT hH1 (hfr x) (hfr y)
  exact ⟨undef, w', G, .inr ⟨by simp [execOp, e, hu], rfl⟩, h2, h3, .junk _⟩
 ·rename_i x e
  have hx := hfr x
  split at h
  ·rename_i hxe
   simp only [Option.some.injEq, Prod.mk.injEq] at h; obtain ⟨rfl, rfl⟩ := h
   rw [hxe] at hx
   generalize hv : ρ x = v at hx
   have hx' := hx
   cases hx with
   | ptr g1 g2 g3 g4 =>
    obtain ⟨ad, rfl⟩ := g3
    exact ⟨ρ x, w, G, .inl (by simp [execOp, e, hv]), .refl _ _, hI, by rw [hv]; exact hx'⟩
  ·rename_i hxe
   simp only [Option.some.injEq, Prod.mk.injEq] at h; obtain ⟨rfl, rfl⟩ := h
   rw [hxe] at hx
   generalize hv : ρ x = v at hx
   have hx' := hx
   cases hx with
   | eptr vals hB h1 h2 h3 =>
    exact ⟨ρ x, w, G, .inl (by simp [execOp, e, hv]), .refl _ _, hI, by rw [hv]; exact hx'⟩
  ·rename_i hxe
   simp only [Option.some.injEq, Prod.mk.injEq] at h; obtain ⟨rfl, rfl⟩ := h
   rw [hxe] at hx
   generalize hv : ρ x = v at hx
   have hx' := hx
   cases hx with
   | func g1 g2 g3 g4 =>
    exact ⟨ρ x, w, G, .inl (by simp [execOp, e, hv]), .refl _ _, hI, by rw [hv]; exact hx'⟩
  ·rename_i hxe
   simp only [Option.some.injEq, Prod.mk.injEq] at h; obtain ⟨rfl, rfl⟩ := h
   rw [hxe] at hx
   generalize hv : ρ x = v at hx
   have hx' := hx
   cases hx with
   | yld g1 g2 =>
    exact ⟨ρ x, w, G, .inl (by simp [execOp, e, hv]), .refl _ _, hI, by rw [hv]; exact hx'⟩
  ·cases h
 ·rename_i op t x y yt e
  split at h
  ·cases h
  ·rename_i hni
   simp only [Option.map_eq_some_iff, Prod.mk.injEq] at h
   obtain ⟨v, hv, rfl, rfl⟩ := h
   obtain ⟨u, hu, hr⟩ := run_binA (w := w) hT hv (hfr x) (hfr y)
   have hg : (eqGuard op t x y (ρ x) (ρ y)).run P w = .ok () w := run_guard hT hv (by simpa using hni) (hfr x) (hfr y)
   exact ⟨u, w, G, .inl (by simp [execOp, e, hg, hu]), .refl _ _, hI, hr⟩
 ·rename_i op t x e
  simp only [Option.map_eq_some_iff, Prod.mk.injEq] at h
  obtain ⟨v, hv, rfl, rfl⟩ := h
  obtain ⟨u, hu, hr⟩ := run_unA (P := P) (w := w) hv (hfr x)
  exact ⟨u, w, G, .inl (by simp [execOp, e, hu]), .refl _ _, hI, hr⟩
 ·rename_i s d x e
  simp only [Option.map_eq_some_iff, Prod.mk.injEq] at h
  obtain ⟨v, hv, rfl, rfl⟩ := h
  obtain ⟨u, hu, hr⟩ := run_convertA (w := w) hT hv (hfr x)
  exact ⟨u, w, G, .inl (by simp [execOp, e, hu]), .refl _ _, hI, hr⟩
 ·rename_i t x e
  split at h
  ·cases h
  ·cases h
  ·rename_i ht1 ht2
   simp only [Option.some.injEq, Prod.mk.injEq] at h; obtain ⟨rfl, rfl⟩ := h
   cases ht : T t with
   | none => simp [ht] at ht2
   | some ti =>
    obtain ⟨d, htd, hd, r⟩ := jb (hT _ _ ht)
    have hni : ∀ ms, d ≠ .interface ms := by
     intro ms hms
     subst hms
     apply ht1
     rw [ht]
     simp [← htd, jz]
    have : (Instr.makeInterface t (ρ x)).run P w = .ok (.iface t (ρ x)) w := by
     cases d <;> first | exact absurd rfl (hni _) | simp [Instr.makeInterface, r]
    exact ⟨.iface t (ρ x), w, G, .inl (by simp [execOp, e, this]), .refl _ _, hI, .iface (hfr x)⟩
 ·rename_i f a1 a2 e
  simp only [Option.some.injEq, Prod.mk.injEq] at h; obtain ⟨rfl, rfl⟩ := h
  refine ⟨.func f (a1.map ρ) (a2.map ρ), w, G, .inl (by simp [execOp, e, Instr.makeFunc]), .refl _ _, hI, .func (by simp) (by simp) ?_ ?_⟩
  ·intro i x v hx hv
   simp only [List.getElem?_map, Option.map_eq_some_iff, Array.getElem?_map] at hx hv
   obtain ⟨p, hp, rfl⟩ := hx
   obtain ⟨q, hq, rfl⟩ := hv
   simp at hp; rw [hp] at hq; cases hq; exact hfr _
  ·intro i x v hx hv
   simp only [List.getElem?_map, Option.map_eq_some_iff, Array.getElem?_map] at hx hv
   obtain ⟨p, hp, rfl⟩ := hx
   obtain ⟨q, hq, rfl⟩ := hv
   simp at hp; rw [hp] at hq; cases hq; exact hfr _
 ·rename_i t l c e
  split at h
  ·rename_i k1 l' k2 c' ti hl hc hti
   obtain ⟨d, htd, hd, r⟩ := jb (hT _ _ hti)
   split at h
   ·rename_i el e1
    rw [e1] at htd; cases ZH htd
    split at h
    ·rename_i ie hie
     split at h
     ·rename_i hcond
      obtain ⟨h0, h1, h2, h3, h4, h5⟩ := hcond
      simp only [Option.some.injEq, Prod.mk.injEq] at h; obtain ⟨rfl, rfl⟩ := h
      have hl' := hfr l; have hc' := hfr c
      rw [hl] at hl'; rw [hc] at hc'
      generalize hvl : ρ l = vl at hl'
      generalize hvc : ρ c = vc at hc'
      cases hl'; cases hc'
      obtain ⟨v, w', G', g1, g2, g3, g4⟩ := run_makeSliceA (kl := k1) (kc := k2) hI hT hd hie h0 h1 h2 h3 h4 h5 (.push H _)
      exact ⟨v, w', G', .inl (by simp [execOp, e, hvl, hvc, g1]), g2, g3, g4⟩
     ·cases h
    ·cases h
   ·cases h
  ·cases h
 ·rename_i t x lo hi mx e
  split at h
  ·rename_i el e1
   simp only [Option.map_eq_some_iff] at e1
   obtain ⟨ti, hti, e1⟩ := e1
   obtain ⟨d, htd, hd, r⟩ := jb (hT _ _ hti)
   rw [e1] at htd; cases ZH htd
   simp only [Option.bind_eq_some_iff] at h
   obtain ⟨ie, hie, h⟩ := h
   obtain ⟨u, G', g1, g2, g3, g4⟩ := run_sliceA hI hT hd hie hfr h (hfr x)
   exact ⟨u, w, G', .inl (by simp [execOp, e, g1]), g2, g3, g4⟩
  ·rename_i e1
   simp only [Option.map_eq_some_iff] at e1
   obtain ⟨ti, hti, e1⟩ := e1
   obtain ⟨d, htd, hd, r⟩ := jb (hT _ _ hti)
   rw [e1] at htd; cases Yn htd
   simp only [Option.map_eq_some_iff, Prod.mk.injEq] at h
   obtain ⟨v, hv, rfl, rfl⟩ := h
   unfold Yr at hv
   split at hv
   ·rename_i s hs hmx
    split at hv
    ·rename_i l h' el eh
     split at hv
     ·rename_i hc
      simp only [Option.some.injEq] at hv; subst hv
      have hx := hfr x
      rw [hs] at hx
      generalize hvx : ρ x = vx at hx
      cases hx
      have hmx' : mx = none := by cases mx <;> simp at hmx; rfl
      subst hmx'
      have b1 := BR.of (G := G) (w := w) hfr el
      have b2 := BR.of (G := G) (w := w) hfr eh
      have hb : (Instr.sliceBounds false s.size s.size (lo.map ρ) (hi.map ρ) none).run P w = .ok (l.toNat, h'.toNat, s.size) w := by
       have c1 : ∀ (k : IntKind) (n : Int) (y : Nat) (code : BoundsCode), 0 ≤ n → n ≤ y → (Instr.sliceBound (.int k n) y code).run P w = .ok n.toNat w := by
        intro k n y code g1 g2
        simp [Instr.sliceBound, asIntOf, g1, g2]
       have hh : 0 ≤ h' := by omega
       generalize lo.map fr = lo' at b1 el
       generalize hi.map fr = hi' at b2 eh
       generalize lo.map ρ = vlo at b1
       generalize hi.map ρ = vhi at b2
       cases b2 with
       | none =>
        simp [jn] at eh
        cases b1 with
        | none => simp [jn] at el; subst el eh; simp [Instr.sliceBounds]
        | int k n =>
         simp [jn] at el; subst el eh
         simp [Instr.sliceBounds, c1 _ _ _ _ hc.1 hc.2.1]
       | int k2 n2 =>
        simp [jn] at eh; subst eh
        cases b1 with
        | none => simp [jn] at el; subst el; simp [Instr.sliceBounds, c1 _ _ _ _ hh hc.2.2]
        | int k n =>
         simp [jn] at el; subst el
         have d2 : n ≤ ((n2.toNat : Nat) : Int) := by omega
         simp [Instr.sliceBounds, c1 _ _ _ _ hh hc.2.2, c1 _ _ _ _ hc.1 d2]
      refine ⟨.string (s.extract l.toNat h'.toNat), w, G, .inl ?_, .refl _ _, hI, .str _⟩
      simp [execOp, e, hvx, Instr.sliceAt, Instr.slice, r, hb]
     ·cases hv
    ·cases hv
   ·cases hv
  ·rename_i n el e1
   simp only [Option.map_eq_some_iff] at e1
   obtain ⟨ti, hti, e1⟩ := e1
   obtain ⟨d, htd, hd, r⟩ := jb (hT _ _ hti)
   rw [e1] at htd; cases Xw htd
   simp only [Option.bind_eq_some_iff] at h
   obtain ⟨ie, hie, h⟩ := h
   obtain ⟨u, G', g1, g2, g3, g4⟩ := run_arrSl (ρ := ρ) hI hT r hie h (hfr x)
   exact ⟨u, w, G', .inl (by simp [execOp, e, g1]), g2, g3, g4⟩
  ·cases h
 ·rename_i t x f e
  simp only [Option.map_eq_some_iff, Prod.mk.injEq] at h
  obtain ⟨v, hv, rfl, rfl⟩ := h
  obtain ⟨u, hu, hr⟩ := run_fieldAddrA (w := w) hT hv (hfr x)
  exact ⟨u, w, G, .inl (by simp [execOp, e, hu]), .refl _ _, hI, hr⟩
 ·rename_i t x f e
  simp only [Option.map_eq_some_iff, Prod.mk.injEq] at h
  obtain ⟨v, hv, rfl, rfl⟩ := h
  obtain ⟨u, hu, hr⟩ := run_fieldA (w := w) hT hv (hfr x)
  exact ⟨u, w, G, .inl (by simp [execOp, e, hu]), .refl _ _, hI, hr⟩
 ·rename_i t x i e
  simp only [Option.map_eq_some_iff, Prod.mk.injEq] at h
  obtain ⟨v, hv, rfl, rfl⟩ := h
  obtain ⟨u, hu, hr⟩ := run_indexAddrA hI hT hv (hfr x) (hfr i)
  exact ⟨u, w, G, .inl (by simp [execOp, e, hu]), .refl _ _, hI, hr⟩
 ·rename_i t x i e
  simp only [Option.map_eq_some_iff, Prod.mk.injEq] at h
  obtain ⟨v, hv, rfl, rfl⟩ := h
  obtain ⟨u, hu, hr⟩ := run_indexA (w := w) hT hv (hfr x) (hfr i)
  exact ⟨u, w, G, .inl (by simp [execOp, e, hu]), .refl _ _, hI, hr⟩
 ·rename_i x xt asserted ok e
  have hx := hfr x
  split at h
  ·cases h
  ·cases h
  ·rename_i t v td hne hxe htd0
   split at h
   ·rename_i ht
    subst ht
    simp only [Option.some.injEq, Prod.mk.injEq] at h; obtain ⟨rfl, rfl⟩ := h
    rw [hxe] at hx
    generalize hvx : ρ x = vx at hx
    cases hx with
    | iface hv =>
     rename_i u
     cases htt : T t with
     | none => simp [htt] at htd0
     | some ti =>
      obtain ⟨d, htd, hd, r⟩ := jb (hT _ _ htt)
      have hni : ∀ ms, d ≠ .interface ms := by
       intro ms hms
       subst hms
       apply hne
       rw [htt] at htd0
       simp only [Option.map_some, Option.some.injEq] at htd0
       rw [← htd0, ← htd]; rfl
      have hrun : (Instr.typeAssert (.iface t u) xt t ok).run P w = .ok (if ok then .tuple #[u, .bool true] else u) w := by
       cases d <;> first | exact absurd rfl (hni _) | (cases ok <;> simp [Instr.typeAssert, r])
      refine ⟨_, w, G, .inl (by simp only [execOp, e, hvx, Sem.run_bind, hrun]; rfl), .refl _ _, hI, ?_⟩
      cases ok
      ·simpa using hv
      ·refine .tuple rfl fun i a b ha hb => ?_
       match i, ha, hb with
       | 0, ha, hb => simp at ha hb; subst ha hb; exact hv
       | 1, ha, hb => simp at ha hb; subst ha hb; exact .bool _
       | k + 2, ha, hb => simp at ha
   ·cases h
  ·cases h
 ·rename_i x i e
  have hx := hfr x
  split at h
  ·rename_i vs hxe
   simp only [Option.map_eq_some_iff, Prod.mk.injEq] at h
   obtain ⟨v, hv, rfl, rfl⟩ := h
   rw [hxe] at hx
   generalize hvx : ρ x = vx at hx
   cases hx with
   | tuple g1 g2 =>
    obtain ⟨u, hu, hr⟩ := CR.get ⟨g1, g2⟩ hv
    exact ⟨u, w, G, .inl (by simp [execOp, e, hvx, Instr.extract, hu]), .refl _ _, hI, hr⟩
  ·cases h
 ·rename_i t e
  simp only [Option.some.injEq, Prod.mk.injEq] at h; obtain ⟨rfl, rfl⟩ := h
  obtain ⟨v, w', G', h1, h2, h3, h4⟩ := run_makeMapA (P := P) (t := t) hI (.push H _)
  exact ⟨v, w', G', .inl (by simp [execOp, e, h1]), h2, h3, h4⟩
 ·rename_i t m k x e
  simp only [Option.map_eq_some_iff, Prod.mk.injEq] at h
  obtain ⟨H1, hH1, rfl, rfl⟩ := h
  obtain ⟨w', hu, h2, h3⟩ := run_insertA hI hT hH1 (hfr m) (hfr k) (hfr x)
  exact ⟨undef, w', G, .inr ⟨by simp [execOp, e, hu], rfl⟩, h2, h3, .junk _⟩
 ·rename_i t m k x e
  simp only [Option.map_eq_some_iff, Prod.mk.injEq] at h
  obtain ⟨H1, hH1, rfl, rfl⟩ := h
  obtain ⟨w', hu, h2, h3⟩ := run_insertA hI hT hH1 (hfr m) (hfr k) (hfr x)
  exact ⟨undef, w', G, .inr ⟨by simp [execOp, e, hu], rfl⟩, h2, h3, .junk _⟩
 ·rename_i t m k ok e
  simp only [Option.map_eq_some_iff, Prod.mk.injEq] at h
  obtain ⟨v, hv, rfl, rfl⟩ := h
  obtain ⟨u, hu, hr⟩ := run_lookupA hI hT hv (hfr m) (hfr k)
  exact ⟨u, w, G, .inl (by simp [execOp, e, hu]), .refl _ _, hI, hr⟩
 ·rename_i c e
  have hargs : VL G w (c.args.toList.map fr) (c.args.toList.map ρ) := VL.of_map hfr _
  have hca : c.args.map ρ = (c.args.toList.map ρ).toArray := by rw [← Array.toList_map]
  have hct : c.argTypes = c.argTypes.toList.toArray := (Array.toArray_toList).symm
  split at h
  ·rename_i x t hcal hx htys
   simp only [Option.map_eq_some_iff, Prod.mk.injEq] at h
   obtain ⟨v, hv, rfl, rfl⟩ := h
   rw [hx] at hargs
   generalize c.args.toList.map ρ = vs at hargs hca
   rw [htys] at hct
   match vs, hargs with
   | [vx], hargs =>
    obtain ⟨u, hu, hr⟩ := run_lenA (ty := o.type) hI hT hv hargs.uncons.1
    refine ⟨u, w, G, .inl ?_, .refl _ _, hI, hr⟩
    simp [execOp, e, resolve, hcal, hca, hct, invoke, builtin, hu]
   | [], hargs => have := hargs.1; simp at this
   | _ :: _ :: _, hargs => have := hargs.1; simp at this
  ·rename_i x t hcal hx htys
   simp only [Option.map_eq_some_iff, Prod.mk.injEq] at h
   obtain ⟨v, hv, rfl, rfl⟩ := h
   rw [hx] at hargs
   generalize c.args.toList.map ρ = vs at hargs hca
   rw [htys] at hct
   match vs, hargs with
   | [vx], hargs =>
    obtain ⟨u, hu, hr⟩ := run_capA (ty := o.type) hT hv hargs.uncons.1
    refine ⟨u, w, G, .inl ?_, .refl _ _, hI, hr⟩
    simp [execOp, e, resolve, hcal, hca, hct, invoke, builtin, hu]
   | [], hargs => have := hargs.1; simp at this
   | _ :: _ :: _, hargs => have := hargs.1; simp at this
  ·rename_i s x t t' hcal hx htys
   split at h
   ·rename_i ht
    subst ht
    rw [hx] at hargs
    generalize c.args.toList.map ρ = vs at hargs hca
    rw [htys] at hct
    match vs, hargs with
    | [v1, v2], hargs =>
     obtain ⟨h1, h2⟩ := hargs.uncons
     obtain ⟨u, w', G', g1, g2, g3, g4⟩ := run_appendA (ty := o.type) hI hT h h1 h2.uncons.1
     refine ⟨u, w', G', .inl ?_, g2, g3, g4⟩
     simp [execOp, e, resolve, hcal, hca, hct, invoke, builtin, g1]
    | [], hargs => have := hargs.1; simp at this
    | [_], hargs => have := hargs.1; simp at this
    | _ :: _ :: _ :: _, hargs => have := hargs.1; simp at this
   ·unfold Un at h
    split at h
    ·rename_i i i' k n hi hi'
     split at h
     ·rename_i el c' e1 e2
      simp only [Option.bind_eq_some_iff] at h
      obtain ⟨ie, hie, h⟩ := h
      split at h
      ·rename_i hc
       obtain ⟨h0, h1, h2, hpos, hz⟩ := hc
       simp only [Option.some.injEq, Prod.mk.injEq] at h; obtain ⟨rfl, rfl⟩ := h
       obtain ⟨d, htd, hd, r⟩ := jb (hT _ _ hi)
       rw [e1] at htd; cases ZH htd
       rw [hx] at hargs
       generalize c.args.toList.map ρ = vs at hargs hca
       rw [htys] at hct
       match vs, hargs with
       | [v1, v2], hargs =>
        obtain ⟨q1, q2⟩ := hargs.uncons
        have q3 := q2.uncons.1
        cases q1; cases q3
        obtain ⟨u, w', G', g1, g2, g3, g4⟩ := run_appendZ (ty := o.type) (k := k) hI hT hd hie hi' e2 h0 h1 h2 hpos hz (.push H _)
        refine ⟨u, w', G', .inl ?_, g2, g3, g4⟩
        simp [execOp, e, resolve, hcal, hca, hct, invoke, builtin, g1]
       | [], hargs => have := hargs.1; simp at this
       | [_], hargs => have := hargs.1; simp at this
       | _ :: _ :: _ :: _, hargs => have := hargs.1; simp at this
      ·cases h
     ·cases h
    ·cases h
  ·rename_i x r hcal hx
   simp only [Option.map_eq_some_iff, Prod.mk.injEq] at h
   obtain ⟨v, hv, rfl, rfl⟩ := h
   rw [hx] at hargs
   generalize c.args.toList.map ρ = vs at hargs hca
   match vs, hargs with
   | vx :: vr, hargs =>
    obtain ⟨h1, h2⟩ := hargs.uncons
    obtain ⟨u, hu, hr⟩ := zaG (P := P) (mx := false) r vr x v vx hv h1 h2
    refine ⟨u, w, G, .inl ?_, .refl _ _, hI, hr⟩
    simp only [Bool.false_eq_true, if_false] at hu
    simp [execOp, e, resolve, hcal, hca, invoke, builtin, Builtin.min_, hu]
   | [], hargs => have := hargs.1; simp at this
  ·rename_i x r hcal hx
   simp only [Option.map_eq_some_iff, Prod.mk.injEq] at h
   obtain ⟨v, hv, rfl, rfl⟩ := h
   rw [hx] at hargs
   generalize c.args.toList.map ρ = vs at hargs hca
   match vs, hargs with
   | vx :: vr, hargs =>
    obtain ⟨h1, h2⟩ := hargs.uncons
    obtain ⟨u, hu, hr⟩ := zaG (P := P) (mx := true) r vr x v vx hv h1 h2
    refine ⟨u, w, G, .inl ?_, .refl _ _, hI, hr⟩
    simp only [if_true] at hu
    simp [execOp, e, resolve, hcal, hca, invoke, builtin, Builtin.max_, hu]
   | [], hargs => have := hargs.1; simp at this
  ·cases h
 ·cases h
structure zW where
 P : Program
 T : z6
 Γ : Nat → Option (List AV)
def zy (E : zW) (fr : Nat → AV) : Operand → AV
 | .tmp t => fr t
 | .const v => absC v
 | .global g => match E.Γ g with
  | some cs => .eptr cs 0
  | none => .junk
 | .func f => .func (.func f) [] []
inductive VQ where
 | ret (v : AV)
 | panic (v : AV)
inductive jJ where
 | normal
 | exit (id : Nat)
 | ret
 | panic (v : AV)
def Wd (F : Fence) : Prop := (F.depth = none ∧ F.alive = false) ∧ ∀ f, F.fn f
def zc9 (G : Gh) (w : World) : VQ → Ending → Prop
 | .ret a, .returned v => VR G w a v
 | .panic a, .panicked [x] => x.recovered = false ∧ x.goexit = false ∧ VR G w a x.v
 | _, _ => False
def zcQ (G : Gh) (w : World) : jJ → Exit → Prop
 | .normal, .normal => True
 | .exit i, .exit j => i = j
 | .ret, .ret => True
 | .panic a, .panic [x] => x.recovered = false ∧ x.goexit = false ∧ VR G w a x.v
 | _, _ => False
def zcP (P : Program) (f : FuncId) : Prop := ∃ fn, P.funcs[f]? = some fn ∧ fn.body.isSome = true ∧ (fn.name == "runtime.NumGoroutine") = false
def zg (E : zW) (f : FuncId) (args : List AV) (H : AH) (e : VQ) (H' : AH) : Prop :=
 zcP E.P f ∧ ∀ (F : Fence) (n : Nat), Wd F → ∀ (G : Gh) (w : World) (vs : Array Value), zw E.Γ G w H → VL G w args vs.toList →
  CallsIn F n E.P f vs w fun r w' => ∃ G', zA G w G' w' ∧ zw E.Γ G' w' H' ∧ zc9 G' w' e r
def zda (E : zW) (f : FuncId) (args captured : List AV) (H : AH) (e : VQ) (H' : AH) : Prop :=
 zg E f (args ++ captured) H e H' ∨ zg E f ((Zr H args).1 ++ captured) (Zr H args).2 e H'
def ZG (E : zW) (b : Nat) (args : List AV) (H : AH) (v : AV) (H' : AH) : Prop :=
 ∀ (F : Fence) (n : Nat), Wd F → ∀ (G : Gh) (w : World) (vs : Array Value) (L : GL), zw E.Γ G w H → VL G w args vs.toList → ownr G b = some L → L.fixed = true →
  ∃ fn tmps assign body, (Instr.yield L.B vs).run E.P w = .ok (.round L.B fn tmps assign body) w ∧ RoundIn F n E.P L.B fn tmps assign body w fun r w' =>
   ∃ u, r = .returned u ∧ ∃ G', zA G w G' w' ∧ zw E.Γ G' w' H' ∧ VR G' w' v u
def YOk (E : zW) (b : Nat) (args : List AV) (H : AH) (v : AV) (H' : AH) : Prop :=
 ZG E b args H v H' ∨ ZG E b (Zr H args).1 (Zr H args).2 v H'
abbrev zx := Nat → AV
abbrev qz := jJ → zx → AH → Prop
def put (fr : zx) (dst : Option Tmp) (v : AV) : zx :=
 match dst with
 | some d => upd fr d v
 | none => fr
def Ul (E : zW) (o : Oper) (next : AV → AH → Prop) (K : qz) (fr : zx) (H : AH) : Prop :=
 match o.op with
 | .call { callee := .value f, args, .. } =>
  match zy E fr f with
  | .func (.func g) first captured => ∃ e H', zda E g (first ++ args.toList.map (zy E fr)) captured H e H' ∧ (match e with
   | .ret v => next v H'
   | .panic v => K (.panic v) fr H')
  | .yld b => ∃ v H', YOk E b (args.toList.map (zy E fr)) H v H' ∧ next v H'
  | _ => False
 | .panic x => match zy E fr x with
  | .iface t v => K (.panic (.iface t v)) fr H
  | _ => False
 | op => match zO E.T (zy E fr) H op with
  | some p => next p.1 p.2
  | none => False
def VK (ops : Array Oper) (fr : zx) (o : Oper) (run skip : Prop) : Prop :=
 match o.guard with
 | none => run
 | some (j, want) =>
  match ((ops[j]?).bind (·.dst)) with
  | some d => match fr d with
   | .bool b => (b = want → run) ∧ (b ≠ want → skip)
   | .tuple _ => skip
   | _ => False
  | none => skip
def Qh (E : zW) (ops : Array Oper) (K : qz) : List Oper → zx → AH → Prop
 | [], fr, H => K .normal fr H
 | o :: r, fr, H => VK ops fr o (Ul E o (fun v H' => Qh E ops K r (put fr o.dst v) H') K fr H) (Qh E ops K r (put fr o.dst (.tuple [])) H)
section
variable {E : zW} {F : Fence} {n : Nat} {G : Gh} {w : World} {H : AH}
theorem zbq (hI : zw E.Γ G w H) {fr : zx} {a : Act} (h : FR G w fr a.tmps) (x : Operand) : VR G w (zy E fr x) (a.eval x) := by
 cases x with
 | tmp t => exact h t
 | const v => exact VR.absC v
 | global g =>
  simp only [zy, Act.eval]
  cases hg : E.Γ g with
  | none => exact .junk _
  | some cs => exact hI.glob g cs hg
 | func f => exact .func rfl rfl (fun i a v h => by simp at h) (fun i a v h => by simp at h)
theorem FR.put {fr : zx} {a : Act} (h : FR G w fr a.tmps) {dst : Option Tmp} (hd : ∀ d, dst = some d → d < a.tmps.size) {x : AV} {v : Value} (hv : VR G w x v) : FR G w (put fr dst x) (a.put dst v).tmps := by
 cases dst with
 | none => exact h
 | some d => exact h.upd (hd d rfl) hv
theorem zbV (a : Act) (dst : Option Tmp) (v : Value) : (a.put dst v).tmps.size = a.tmps.size := by cases dst <;> simp [Act.put]
theorem zba (a : Act) (dst : Option Tmp) (v : Value) : (a.put dst v).defers = a.defers := by cases dst <;> rfl
theorem zap {P : Program} {f : FuncId} (h : zcP P f) (args : Array Value) (w : World) : (callFunc f args).run P w = .ok (.enter f args) w := by
 obtain ⟨fn, h1, h2, h3⟩ := h
 have h4 : fn.body ≠ none := by intro e; rw [e] at h2; cases h2
 have h5 : fn.name ≠ "runtime.NumGoroutine" := by simpa using h3
 simp [callFunc, h1, h5, h4]
theorem VL.append {as bs : List AV} {vs us : List Value} (h : VL G w as vs) (k : VL G w bs us) : VL G w (as ++ bs) (vs ++ us) := by
 refine ⟨by simp [h.1, k.1], fun i a v ha hv => ?_⟩
 rw [List.getElem?_append] at ha hv
 rw [h.1] at ha
 split at ha
 ·rename_i hi
  rw [if_pos hi] at hv
  exact h.2 i a v ha hv
 ·rename_i hi
  rw [if_neg hi] at hv
  exact k.2 _ a v ha hv
theorem callOk_sound (hF : Wd F) {f : FuncId} {args captured : List AV} {e : VQ} {H' : AH} (h : zda E f args captured H e H') (hI : zw E.Γ G w H) {vs cs : List Value} (h1 : VL G w args vs) (h2 : VL G w captured cs) :
  zcP E.P f ∧ CallsIn F n E.P f (vs ++ cs).toArray w fun r w' => ∃ G', zA G w G' w' ∧ zw E.Γ G' w' H' ∧ zc9 G' w' e r := by
 rcases h with h | h
 ·exact ⟨h.1, h.2 F n hF G w _ hI (by simpa using h1.append h2)⟩
 ·obtain ⟨G1, e1, i1, r1⟩ := zbr args vs hI h1
  refine ⟨h.1, (h.2 F n hF G1 w (vs ++ cs).toArray i1 (by simpa using r1.append (h2.mono e1))).mono ?_⟩
  rintro r w' ⟨G2, e2, i2, r2⟩
  exact ⟨G2, hI.trans e1 e2, i2, r2⟩
theorem yOk_sound (hF : Wd F) {b : Nat} {args : List AV} {v : AV} {H' : AH} (h : YOk E b args H v H') (hI : zw E.Γ G w H) {vs : List Value} (h1 : VL G w args vs) {u : Value} (hu : VR G w (.yld b) u) :
  ∃ l, u = .func (.yield l) #[] #[] ∧ ∃ fn tmps assign body, (Instr.yield l vs.toArray).run E.P w = .ok (.round l fn tmps assign body) w ∧ RoundIn F n E.P l fn tmps assign body w fun r w' =>
   ∃ u, r = .returned u ∧ ∃ G', zA G w G' w' ∧ zw E.Γ G' w' H' ∧ VR G' w' v u := by
 rcases h with h | h
 ·cases hu with
  | yld g1 g2 => exact ⟨_, rfl, h F n hF G w vs.toArray _ hI (by simpa using h1) g1 g2⟩
 ·obtain ⟨G1, e1, i1, r1⟩ := zbr args vs hI h1
  have hu' := hu.mono e1
  cases hu' with
  | yld g1 g2 =>
   refine ⟨_, rfl, ?_⟩
   obtain ⟨fn, tmps, assign, body, hy, hR⟩ := h F n hF G1 w vs.toArray _ i1 (by simpa using r1) g1 g2
   refine ⟨fn, tmps, assign, body, hy, hR.mono ?_⟩
   rintro r w' ⟨u, hr, G2, e2, i2, r2⟩
   exact ⟨u, hr, G2, hI.trans e1 e2, i2, r2⟩
theorem Ut (hF : Wd F) (o : Oper) (a : Act) : ∀ f, o.about E.P w a.eval = some f → F.fn f := fun f _ => hF.2 f
theorem astep_sound (hT : qf E.P E.T) (hF : Wd F) {o : Oper} {next : AV → AH → Prop} {K : qz} {fr : zx} {a : Act} (h : Ul E o next K fr H) (hI : zw E.Γ G w H) (hfr : FR G w fr a.tmps)
  {next' : Act → World → Prop} {Q : Exit → Act → World → Prop}
  (hnext : ∀ v H' G' w' u, next v H' → zA G w G' w' → zw E.Γ G' w' H' → VR G' w' v u → next' (a.put o.dst u) w')
  (hpanic : ∀ v H' G' w' x, K (.panic v) fr H' → zA G w G' w' → zw E.Γ G' w' H' → x.recovered = false → x.goexit = false → VR G' w' v x.v → Q (.panic [x]) a w') :
  o.wpIn F n E.P a w next' Q := by
 refine ⟨Ut hF o a, ?_⟩
 have hev : ∀ x, VR G w (zy E fr x) (a.eval x) := fun x => zbq hI hfr x
 have plain : ∀ p, zO E.T (zy E fr) H o.op = some p → next p.1 p.2 → o.uponIn F n E.P a next' Q ((o.semAt F.round a.eval).run E.P w) := by
  intro p hp hn
  have hnd : ∀ c, o.op ≠ .defer c := by intro c e; rw [e] at hp; simp [zO] at hp
  rw [Oper.semAt_eq F.round a.eval o hnd]
  obtain ⟨v, w', G', hr, e1, i1, r1⟩ := run_aop (o := o) (a := p.1) (H' := p.2) hI hT hev hp
  rcases hr with hr | ⟨hr, rfl⟩
  ·rw [hr]; exact hnext _ _ _ _ _ hn e1 i1 r1
  ·rw [hr]; exact hnext _ _ _ _ _ hn e1 i1 r1
 unfold Ul at h
 split at h
 ·rename_i f args tys e
  split at h
  ·rename_i g first captured hf
   have hvf := hev f
   rw [hf] at hvf
   generalize hfv : a.eval f = fv at hvf
   cases hvf with
   | func g1 g2 g3 g4 =>
    rename_i fv cv
    obtain ⟨e', H', hcall, hafter⟩ := h
    have hargs : VL G w (first ++ args.toList.map (zy E fr)) (fv.toList ++ args.toList.map a.eval) := VL.append ⟨by simp [g1], fun k x v hx hv => g3 k x v hx (by simpa using hv)⟩ (VL.of_map hev _)
    have hcap : VL G w captured cv.toList := ⟨by simp [g2], fun k x v hx hv => g4 k x v hx (by simpa using hv)⟩
    obtain ⟨hb, hc⟩ := callOk_sound (F := F) (n := n - 1) hF hcall hI hargs hcap
    have hnd : ∀ c, o.op ≠ .defer c := by intro c e2; rw [e] at e2; cases e2
    rw [Oper.semAt_eq F.round a.eval o hnd]
    have harr : (fv.toList ++ args.toList.map a.eval ++ cv.toList).toArray = fv ++ args.map a.eval ++ cv := by simp
    rw [harr] at hc
    have hrun : (execOp a.eval o).run E.P w = .ok (.enter g (fv ++ args.map a.eval ++ cv)) w := by
     simp only [execOp, e, resolve, hfv, Deferred.ofValue]
     simp [invoke, zap hb]
    rw [hrun]
    refine ⟨(fun hd => by rw [hF.1.1] at hd; cases hd), hc.mono ?_⟩
    rintro r w' ⟨G', e1, i1, r1⟩
    cases r with
    | returned u =>
     cases e' with
     | ret v => exact hnext v H' G' w' u hafter e1 i1 r1
     | panic v => exact r1.elim
    | panicked chain =>
     cases e' with
     | ret v => cases chain <;> exact r1.elim
     | panic v =>
      match chain, r1 with
      | [x], r1 => exact hpanic v H' G' w' x hafter e1 i1 r1.1 r1.2.1 r1.2.2
    | outgrown => cases e' <;> exact r1.elim
  ·rename_i b hf
   have hvf := hev f
   rw [hf] at hvf
   obtain ⟨v, H', hcall, hafter⟩ := h
   obtain ⟨l, hfv, fn, tmps, assign, body, hy, hR⟩ := yOk_sound (F := F) (n := n - 1) hF hcall hI (VL.of_map hev args.toList) hvf
   have hnd : ∀ c, o.op ≠ .defer c := by intro c e2; rw [e] at e2; cases e2
   rw [Oper.semAt_eq F.round a.eval o hnd]
   have harr : (args.toList.map a.eval).toArray = args.map a.eval := by rw [← Array.toList_map]
   rw [harr] at hy
   have hrun : (execOp a.eval o).run E.P w = .ok (.round l fn tmps assign body) w := by
    simp only [execOp, e, resolve, hfv, Deferred.ofValue]
    simp [invoke, hy]
   rw [hrun]
   refine ⟨(fun hd => by rw [hF.1.1] at hd; cases hd), hR.mono ?_⟩
   rintro r w' ⟨u, rfl, G', e1, i1, r1⟩
   exact hnext v H' G' w' u hafter e1 i1 r1
  ·exact h.elim
 ·rename_i x e
  split at h
  ·rename_i t v hx
   have hvx := hev x
   rw [hx] at hvx
   generalize hxv : a.eval x = xv at hvx
   have hnd : ∀ c, o.op ≠ .defer c := by intro c e2; rw [e] at e2; cases e2
   rw [Oper.semAt_eq F.round a.eval o hnd]
   cases hvx with
   | iface hv =>
    rename_i u
    have hrun : (execOp a.eval o).run E.P w = .halt (.panic (.iface t u)) w := by
     simp [execOp, e, hxv, Instr.panic, goPanic, Sem.run, Sem.bind, bind]
    rw [hrun]
    exact hpanic _ _ G w { v := .iface t u, recovered := false } h (.refl _ _) hI rfl rfl (.iface hv)
  ·exact h.elim
 ·split at h
  ·rename_i p hp
   exact plain p hp h
  ·exact h.elim
def Ja (E : zW) (K : qz) (G : Gh) (w : World) (N : Nat) (dfs : List Deferred) : Exit → Act → World → Prop := fun e a w' =>
 ∃ e' fr H G', K e' fr H ∧ zA G w G' w' ∧ zw E.Γ G' w' H ∧ FR G' w' fr a.tmps ∧ a.tmps.size = N ∧ a.defers = dfs ∧ zcQ G' w' e' e
def Ue (N : Nat) (ops : List Oper) : Bool := ops.all fun o => match o.dst with | some d => decide (d < N) | none => true
theorem dstsOk_lt {N : Nat} {o : Oper} {r : List Oper} (h : Ue N (o :: r) = true) : (∀ d, o.dst = some d → d < N) ∧ Ue N r = true := by
 simp only [Ue, List.all_cons, Bool.and_eq_true] at h
 refine ⟨fun d hd => ?_, h.2⟩
 have := h.1
 rw [hd] at this
 simpa using this
theorem zal {ops : Array Oper} {a : Act} {j d : Nat} (h : (ops[j]?).bind (·.dst) = some d) : yielded ops a.tmps j = (match a.tmps[d]? with | some (.bool b) => some b | _ => none) := by
 unfold yielded; rw [h]; simp only [Option.bind_some]
 generalize a.tmps[d]? = x
 cases x with
 | none => rfl
 | some v => cases v <;> rfl
theorem zau (hT : qf E.P E.T) (hF : Wd F) {ops : Array Oper} {K : qz} {N : Nat} {dfs : List Deferred} : ∀ (l : List Nat) (os : List Oper), l.map (ops[·]?) = os.map some → Ue N os = true →
  ∀ (fr : zx) (H : AH) (G0 G : Gh) (w0 w : World) (a : Act), Qh E ops K os fr H → (inj G0 ∧ ∀ b L, ownr G0 b = some L → L.B < w0.heap.size) → zA G0 w0 G w → zw E.Γ G w H → FR G w fr a.tmps → a.tmps.size = N → a.defers = dfs →
  wpOpsIn F n E.P ops (Ja E K G0 w0 N dfs) l a w
 | [], [], _, _, fr, H, G0, G, w0, w, a, h, hb, he, hI, hfr, hN, hd => ⟨.normal, fr, H, G, h, he, hI, hfr, hN, hd, trivial⟩
 | [], _ :: _, hm, _, fr, H, G0, G, w0, w, a, h, hb, he, hI, hfr, hN, hd => by simp at hm
 | _ :: _, [], hm, _, fr, H, G0, G, w0, w, a, h, hb, he, hI, hfr, hN, hd => by simp at hm
 | i :: l, o :: os, hm, hds, fr, H, G0, G, w0, w, a, h, hb, he, hI, hfr, hN, hd => by
  simp only [List.map_cons, List.cons.injEq] at hm
  obtain ⟨hlt, hds'⟩ := dstsOk_lt hds
  simp only [wpOpsIn, hm.1]
  simp only [Qh] at h
  have run : Ul E o (fun v H' => Qh E ops K os (put fr o.dst v) H') K fr H → o.wpIn F n E.P a w (wpOpsIn F n E.P ops (Ja E K G0 w0 N dfs) l) (Ja E K G0 w0 N dfs) := by
   intro hs
   refine astep_sound hT hF hs hI hfr ?_ ?_
   ·intro v H' G' w' u hk e1 i1 r1
    exact zau hT hF l os hm.2 hds' _ H' G0 G' w0 w' _ hk hb (zA.trans hb.1 hb.2 he e1) i1 ((hfr.mono e1).put (fun d hd => by rw [hN]; exact hlt d hd) r1) (by rw [zbV]; exact hN) (by rw [zba]; exact hd)
   ·intro v H' G' w' x hk e1 i1 r1 r2 r3
    exact ⟨.panic v, fr, H', G', hk, zA.trans hb.1 hb.2 he e1, i1, hfr.mono e1, hN, hd, r1, r2, r3⟩
  have skip : Qh E ops K os (put fr o.dst (.tuple [])) H → wpOpsIn F n E.P ops (Ja E K G0 w0 N dfs) l (a.put o.dst undef) w := fun hs =>
   zau hT hF l os hm.2 hds' _ H G0 G w0 w _ hs hb he hI (hfr.put (fun d hd => by rw [hN]; exact hlt d hd) (.tuple rfl fun i a v h => by simp at h)) (by rw [zbV]; exact hN) (by rw [zba]; exact hd)
  unfold VK at h
  split at h
  ·rename_i hg
   simp only [Region.wanted, hg, if_true]
   exact run h
  ·rename_i j want hg
   split at h
   ·rename_i d hdst
    have hy := zal (a := a) hdst
    have hvd := hfr d
    split at h
    ·rename_i b hbv
     rw [hbv, Array.getD_eq_getD_getElem?] at hvd
     cases hg2 : a.tmps[d]? with
     | none =>
      rw [hg2] at hvd
      simp only [Option.getD_none, undef] at hvd
      cases hvd
     | some u =>
      rw [hg2] at hvd hy
      simp only [Option.getD_some] at hvd
      cases hvd
      simp only [Region.wanted, hg, hy]
      by_cases hw : b = want
      ·rw [if_pos (by simp [hw])]; exact run (h.1 hw)
      ·rw [if_neg (by simp [hw])]; exact ⟨Ut hF o a, skip (h.2 hw)⟩
    ·rename_i vs hbv
     rw [hbv] at hvd
     have : yielded ops a.tmps j = none := by
      rw [hy]
      rw [Array.getD_eq_getD_getElem?] at hvd
      cases hg2 : a.tmps[d]? with
      | none => rfl
      | some u => rw [hg2] at hvd; simp only [Option.getD_some] at hvd; cases hvd; rfl
     simp only [Region.wanted, hg, this]
     rw [if_neg (by simp)]; exact ⟨Ut hF o a, skip h⟩
    ·exact h.elim
   ·rename_i hdst
    have : yielded ops a.tmps j = none := by unfold yielded; rw [hdst]; rfl
    simp only [Region.wanted, hg, this]
    rw [if_neg (by simp)]; exact ⟨Ut hF o a, skip h⟩
end
structure za where
 rds : List Nat
 ups : List (Nat × zE)
 new : Option (Nat × zE)
 call : Bool
def za.none : za := ⟨[], [], .none, false⟩
def Za (H : AH) : List (Nat × zE) → AH
 | [] => H
 | (b, k) :: r => Za (H.set b k) r
def za.apply (e : za) (H : AH) : AH :=
 match e.new with
 | some (_, k) => Za H e.ups ++ [k]
 | .none => Za H e.ups
def za.fill (e : za) (H : AH) : AH :=
 match e.new with
 | some (b, k) => (Za H e.ups).set b k
 | .none => Za H e.ups
def jt : AV → Bool
 | .ref _ _ => true
 | _ => false
def JA : AV → Bool
 | .ref _ _ => false
 | .agg cs => cs.all fun c => !jt c
 | _ => true
def Vq (a : AV) : za :=
 match a with
 | .ptr b _ _ _ => ⟨[b], [], .none, false⟩
 | _ => .none
def Zh (a : AV) : za :=
 match a with
 | .ref b _ => ⟨[b], [], .none, false⟩
 | .pre b _ => ⟨[b], [], .none, false⟩
 | .map b => ⟨[b], [], .none, false⟩
 | _ => .none
def upTo (H' : AH) (b : Nat) : za := ⟨[], [(b, (H'[b]?).getD .dead)], .none, false⟩
def newAt (H H' : AH) : za := ⟨[], [], some (H.length, (H'[H.length]?).getD .dead), false⟩
def z4 (ρ : Operand → AV) (H H' : AH) (v : AV) : Op → Option za
 | .load _ a => some (Vq (ρ a))
 | .indexAddr _ x _ => some (Zh (ρ x))
 | .store _ a _ => match ρ a with
  | .ptr b _ _ _ => some (upTo H' b)
  | _ => .none
 | .slice _ x _ _ _ => match ρ x with
  | .ref b _ => some (upTo H' b)
  | .ptr b _ _ _ => some (upTo H' b)
  | .pre b _ => some ⟨[b], [], .none, false⟩
  | _ => some .none
 | .makeMap _ _ => some (newAt H H')
 | .insert _ m _ _ | .mapUpdate _ m _ _ => match ρ m with
  | .map b => some (upTo H' b)
  | _ => .none
 | .lookup _ m _ _ => some (Zh (ρ m))
 | .alloc _ | .box _ _ | .makeSlice _ _ _ => some (newAt H H')
 | .buildSlice _ _ parts => if parts.toList.all (fun p => JA (ρ p.2)) then some .none else .none
 | .call c => match c.callee, c.args.toList.map ρ with
  | .builtin .len, [x] => some (Zh x)
  | .builtin .append, [s, x] => if jt x then .none else match s, v with
   | .ref b _, _ => some (upTo H' b)
   | _, .ref _ _ => some (newAt H H')
   | _, .pre _ _ => some (newAt H H')
   | _, _ => some .none
  | _, _ => some .none
 | _ => some .none
section
variable {Γ : Nat → Option (List AV)} {G : Gh} {w : World} {H : AH} {P : Program} {T : z6}
theorem aop_congr {ρ ρ' : Operand → AV} {op : Op} (h : ∀ x ∈ op.operands, ρ' x = ρ x) : zO T ρ' H op = zO T ρ H op := by
 cases op with
 | call c =>
  have h1 : c.args.toList.map ρ' = c.args.toList.map ρ := by
   apply List.map_congr_left
   intro x hx
   exact h x (by simp only [Op.operands, Call.operands]; simp; exact .inr (by simpa using hx))
  simp only [zO, h1]
 | build t parts =>
  have h1 : (parts.toList.map fun p => (p.1, ρ' p.2)) = (parts.toList.map fun p => (p.1, ρ p.2)) := by
   apply List.map_congr_left
   intro p hp
   rw [h p.2 (by simp only [Op.operands, List.mem_toArray, List.mem_map]; exact ⟨p, hp, rfl⟩)]
  simp only [zO, h1]
 | buildSlice t n parts =>
  have h1 : (parts.toList.map fun p => (p.1, ρ' p.2)) = (parts.toList.map fun p => (p.1, ρ p.2)) := by
   apply List.map_congr_left
   intro p hp
   rw [h p.2 (by simp only [Op.operands, List.mem_toArray, List.mem_map]; exact ⟨p, hp, rfl⟩)]
  simp only [zO, h1]
 | makeFunc f a b =>
  have h1 : a.toList.map ρ' = a.toList.map ρ := by
   apply List.map_congr_left
   intro x hx
   exact h x (by simp only [Op.operands]; simp; exact .inl (by simpa using hx))
  have h2 : b.toList.map ρ' = b.toList.map ρ := by
   apply List.map_congr_left
   intro x hx
   exact h x (by simp only [Op.operands]; simp; exact .inr (by simpa using hx))
  simp only [zO, h1, h2]
 | slice t x lo hi mx =>
  have hx := h x (by simp [Op.operands])
  have h1 : lo.map ρ' = lo.map ρ := by cases lo with | none => rfl | some y => simp [h y (by simp [Op.operands])]
  have h2 : hi.map ρ' = hi.map ρ := by cases hi with | none => rfl | some y => simp [h y (by simp [Op.operands])]
  have h3 : mx.map ρ' = mx.map ρ := by cases mx with | none => rfl | some y => simp [h y (by simp [Op.operands])]
  simp only [zO, hx, h1, h2, h3]
 | pick c a b => simp only [zO, h c (by simp [Op.operands]), h a (by simp [Op.operands]), h b (by simp [Op.operands])]
 | move x => simp only [zO, h x (by simp [Op.operands])]
 | assign x => simp only [zO, h x (by simp [Op.operands])]
 | alloc e => rfl
 | box e x => simp only [zO, h x (by simp [Op.operands])]
 | load t x => simp only [zO, h x (by simp [Op.operands])]
 | store t x y => simp only [zO, h x (by simp [Op.operands]), h y (by simp [Op.operands])]
 | nilCheck x => simp only [zO, h x (by simp [Op.operands])]
 | binOp o t x y u => simp only [zO, h x (by simp [Op.operands]), h y (by simp [Op.operands])]
 | unOp o t x => simp only [zO, h x (by simp [Op.operands])]
 | convert s d x => simp only [zO, h x (by simp [Op.operands])]
 | makeInterface t x => simp only [zO, h x (by simp [Op.operands])]
 | makeSlice t x y => simp only [zO, h x (by simp [Op.operands]), h y (by simp [Op.operands])]
 | fieldAddr t x f => simp only [zO, h x (by simp [Op.operands])]
 | field t x f => simp only [zO, h x (by simp [Op.operands])]
 | indexAddr t x y => simp only [zO, h x (by simp [Op.operands]), h y (by simp [Op.operands])]
 | index t x y => simp only [zO, h x (by simp [Op.operands]), h y (by simp [Op.operands])]
 | typeAssert x t u ok => simp only [zO, h x (by simp [Op.operands])]
 | extract x i => simp only [zO, h x (by simp [Op.operands])]
 | makeMap t r => cases r <;> rfl
 | insert t m k x => simp only [zO, h m (by simp [Op.operands]), h k (by simp [Op.operands]), h x (by simp [Op.operands])]
 | mapUpdate t m k x => simp only [zO, h m (by simp [Op.operands]), h k (by simp [Op.operands]), h x (by simp [Op.operands])]
 | lookup t m k ok => simp only [zO, h m (by simp [Op.operands]), h k (by simp [Op.operands])]
 | _ => rfl
theorem zaL {H : AH} {a : AV} (h : jt a = false) : (Zs H a).2 = H ∧ ∀ H2, (Zs H2 a).1 = (Zs H a).1 := by
 unfold Zs
 cases a <;> simp [jt] at h <;> exact ⟨rfl, fun _ => rfl⟩
theorem zaK {H : AH} : ∀ {cs : List AV}, (cs.all fun c => !jt c) = true → (jq H cs).2 = H ∧ ∀ H2, (jq H2 cs).1 = (jq H cs).1
 | [], _ => ⟨rfl, fun _ => rfl⟩
 | c :: cs, h => by
  simp only [List.all_cons, Bool.and_eq_true, Bool.not_eq_true'] at h
  have h1 := zaL (H := H) h.1
  have h2 := zaK (H := H) (cs := cs) h.2
  refine ⟨by simp only [jq, h1.1, h2.1], fun H2 => ?_⟩
  simp only [jq]
  rw [(zaL (H := H2) h.1).1, h1.1, h1.2 H2, h2.2 H2]
theorem conv_noRef {H : AH} {a : AV} (h : JA a = true) : (conv H a).2 = H ∧ ∀ H2, (conv H2 a).1 = (conv H a).1 := by
 unfold conv
 cases a with
 | agg cs => simp only [JA] at h; exact ⟨(zaK h).1, fun H2 => by simp only [(zaK (H := H) h).2 H2]⟩
 | ref b n => simp [JA] at h
 | _ => exact zaL rfl
theorem litC_noRef {H : AH} {a : AV} (h : JA a = true) : (JC H a).2 = H ∧ ∀ H2, (JC H2 a).1 = (JC H a).1 := by
 unfold JC
 split
 ·exact ⟨rfl, fun _ => rfl⟩
 ·exact conv_noRef h
theorem zah {size : Nat} : ∀ (parts : List (Nat × AV)) (k : Nat) (q : List AV × AH), parts.all (fun p => JA p.2) = true → JB size k H parts = some q → q.2 = H ∧ ∀ H2, JB size k H2 parts = some (q.1, H2)
 | [], k, q, _, h => by simp [JB] at h; subst h; exact ⟨rfl, fun _ => rfl⟩
 | (i, a) :: parts, k, q, hn, h => by
  simp only [List.all_cons, Bool.and_eq_true] at hn
  simp only [JB] at h
  split at h
  ·rename_i hc
   simp only [Option.map_eq_some_iff] at h
   obtain ⟨r, hr, rfl⟩ := h
   have h1 := litC_noRef (H := H) hn.1
   rw [h1.1] at hr
   have ih := zah parts (k + 1) r hn.2 hr
   refine ⟨ih.1, fun H2 => ?_⟩
   simp only [JB, hc, and_self, if_true, (litC_noRef (H := H2) hn.1).1, ih.2 H2, h1.2 H2, Option.map_some]
  ·cases h
end
variable {Γ : Nat → Option (List AV)} {G : Gh} {w : World} {H H2 : AH} {P : Program} {T : z6}
def zdB (ε : za) (H H2 : AH) : Prop :=
 (∀ b ∈ ε.rds, H2[b]? = H[b]? ∨ H2[b]? = some .dead) ∧ (∀ p ∈ ε.ups, H2[p.1]? = H[p.1]? ∨ H2[p.1]? = some .dead) ∧ (∀ p, ε.new = some p → p.1 = H.length ∧ H2[p.1]? = some .dead)
theorem alive {b : Nat} {L : GL} (hI : zw Γ G w H2) (h : ownr G b = some L) : H2[b]? ≠ some .dead := by
 intro e
 have := hI.blk b _ e
 simp only [jy] at this
 rw [h] at this; cases this
theorem zbA (hI : zw Γ G w H2) {b g i off : Nat} {v : Value} (h : VR G w (.ptr b g i off) v) : H2[b]? ≠ some .dead := by
 cases h with
 | ptr h1 _ _ _ => exact alive hI h1
theorem UJ (hI : zw Γ G w H2) {b n : Nat} {v : Value} (h : VR G w (.ref b n) v) : H2[b]? ≠ some .dead := by
 cases h with
 | ref h1 _ _ _ _ => exact alive hI h1
theorem rdPtr_ok (hI : zw Γ G w H2) {a : AV} {v : Value} (hv : VR G w a v) (hm : zdB (Vq a) H H2) : rd H2 a = rd H a := by
 unfold Vq at hm
 cases a <;> try rfl
 case ptr b g i off =>
  have := hm.1 b (by simp)
  rcases this with h | h
  ·simp only [rd, h]
  ·exact absurd h (zbA hI hv)
theorem om {x : Option AV} {v : AV} {H' : AH} (h : x.map (fun v => (v, H)) = some (v, H')) : x.map (fun v => (v, H2)) = some (v, H2) := by
 cases x with
 | none => cases h
 | some y => simp only [Option.map_some, Option.some.injEq, Prod.mk.injEq] at h ⊢; exact ⟨h.1, trivial⟩
theorem os {x v : AV} {H' : AH} (h : some (x, H) = some (v, H')) : some (x, H2) = some (v, H2) := by
 simp only [Option.some.injEq, Prod.mk.injEq] at h; rw [h.1]
theorem replay_free {o : Oper} {ρ : Operand → AV} {v : AV} {H' : AH} (h : zO T ρ H o.op = some (v, H'))
  (hf : match o.op with
   | .alloc _ | .box _ _ | .buildSlice _ _ _ | .load _ _ | .store _ _ _ | .makeSlice _ _ _ | .slice _ _ _ _ _ | .indexAddr _ _ _ | .call _ | .makeMap _ _ | .insert _ _ _ _ | .mapUpdate _ _ _ _ | .lookup _ _ _ _ => False
   | _ => True) : zO T ρ H2 o.op = some (v, H2) := by
 cases hop : o.op <;> rw [hop] at h hf <;> simp only [] at hf <;> simp only [zO] at h ⊢
 case pick c a b =>
  split at h
  ·exact os h
  ·cases h
 case nilCheck x =>
  split at h
  ·exact os h
  ·exact os h
  ·exact os h
  ·exact os h
  ·cases h
 case binOp op t x y u =>
  split at h
  ·cases h
  ·rename_i hc
   simp only [hc, Bool.false_eq_true, if_false]; exact om h
 case makeInterface t x =>
  split at h
  ·cases h
  ·cases h
  ·exact os h
 case typeAssert x t u ok =>
  split at h
  ·cases h
  ·cases h
  ·split at h
   ·rename_i hc
    simp only [hc, if_true]; exact os h
   ·cases h
  ·cases h
 case extract x i =>
  split at h
  ·exact om h
  ·cases h
 all_goals first
  |exact os h
  |exact om h
  | cases h
theorem getD_set {b : Nat} {k x : zE} (h : H[b]? = some x) : ((H.set b k)[b]?).getD .dead = k := by
 rw [List.getElem?_set_self (gI.1 h).1]; rfl
theorem getD_push {k : zE} : ((H ++ [k])[H.length]?).getD .dead = k := by simp
theorem Yl {b : Nat} {k x : zE} (h : H[b]? = some x) : (upTo (H.set b k) b).fill H2 = H2.set b k := by
 simp only [upTo, za.fill, Za, getD_set h]
theorem YP {k : zE} : (newAt H (H ++ [k])).fill H2 = H2.set H.length k := by
 simp only [newAt, za.fill, Za, getD_push]
theorem Xv (hI : zw Γ G w H2) {H' : AH} {b : Nat} (ha : H2[b]? ≠ some .dead) (hm : zdB (upTo H' b) H H2) : H2[b]? = H[b]? := by
 rcases hm.2.1 (b, (H'[b]?).getD .dead) (by simp [upTo]) with h | h
 ·exact h
 ·exact absurd h ha
theorem sliceA_ref {ie : TI} {b n : Nat} {lo hi mx : Option AV} {q : AV × AH} (h : Z0 ie H (.ref b n) lo hi mx = some q) (he : H2[b]? = H[b]?) :
  ∃ x k, H[b]? = some x ∧ q.2 = H.set b k ∧ Z0 ie H2 (.ref b n) lo hi mx = some (q.1, H2.set b k) := by
 simp only [Z0] at h ⊢
 rw [he]
 split at h
 ·rename_i wr sz xs hH
  split at h
  ·rename_i hc
   simp only [Option.map_eq_some_iff] at h
   obtain ⟨a, ha, rfl⟩ := h
   refine ⟨_, .row false sz xs, hH, rfl, ?_⟩
   rw [if_pos hc, ha]; rfl
  ·cases h
 ·cases h
theorem arrSl_ptr {n : Nat} {ie : TI} {x : AV} {lo hi mx : Option AV} {q : AV × AH} (h : VJ n ie H x lo hi mx = some q) : ∃ b, x = .ptr b 1 0 0 ∧ ((H2[b]? = H[b]?) →
  ∃ y k, H[b]? = some y ∧ q.2 = H.set b k ∧ VJ n ie H2 x lo hi mx = some (q.1, H2.set b k)) := by
 unfold VJ at h
 split at h
 ·rename_i b
  refine ⟨b, rfl, fun he => ?_⟩
  simp only [VJ]
  rw [he]
  split at h
  ·rename_i wr sz y hH
   split at h
   ·rename_i hc
    simp only [Option.some.injEq] at h; subst h
    exact ⟨_, .row false sz [y], hH, rfl, by rw [if_pos hc]⟩
   ·cases h
  ·cases h
 ·cases h
def J8 : AV → Bool
 | .pre _ _ => true
 | _ => false
theorem sliceA_val {ie : TI} {x : AV} {lo hi mx : Option AV} {q : AV × AH} (hx : jt x = false) (hp : J8 x = false) (h : Z0 ie H x lo hi mx = some q) : Z0 ie H2 x lo hi mx = some (q.1, H2) := by
 cases x <;> simp [jt] at hx <;> simp [J8] at hp <;> simp only [Z0] at h ⊢ <;> first | (cases h; done) | skip
 ·split at h
  ·rename_i l h' e1 e2 e3
   split at h
   ·rename_i hc0
    simp only [Option.some.injEq] at h; subst h
    rw [if_pos hc0]
   ·cases h
  ·cases h
 ·split at h
  ·rename_i hs
   simp only [Option.map_eq_some_iff] at h
   obtain ⟨a, ha, rfl⟩ := h
   rw [if_pos hs, ha]; rfl
  ·cases h
theorem indexAddrA_congr {t : TypeId} {x i : AV} (he : ∀ b n, x = .ref b n → H2[b]? = H[b]?) : Q6 T H2 t x i = Q6 T H t x i := by
 unfold Q6
 generalize Option.map TI.d (T t) = d
 cases x with
 | ref b n => cases d with
  | none => rfl
  | some td => cases td <;> cases i <;> first | rfl | simp only [he b n rfl]
 | _ => cases d with
  | none => rfl
  | some td => cases td <;> cases i <;> rfl
theorem lenA_congr {t : TypeId} {x : AV} (he : ∀ b n, x = .ref b n → H2[b]? = H[b]?) (hm : ∀ b, x = .map b → H2[b]? = H[b]?) : qu T H2 t x = qu T H t x := by
 unfold qu
 generalize Option.map TI.d (T t) = d
 cases x with
 | map b => cases d with
  | none => rfl
  | some td => cases td <;> first | rfl | simp only [hm b rfl]
 | ref b n => cases d with
  | none => rfl
  | some td => cases td <;> first | rfl | simp only [he b n rfl]
 | _ => cases d with
  | none => rfl
  | some td => cases td <;> rfl
theorem slOk_congr {s : AV} (he : ∀ b n, s = .ref b n → H2[b]? = H[b]?) : QA H2 s = QA H s := by
 unfold QA
 cases s with
 | ref b n => simp only [he b n rfl]
 | _ => rfl
theorem pre_alive (hI : zw Γ G w H2) {b n : Nat} {v : Value} (h : VR G w (.pre b n) v) : H2[b]? ≠ some .dead := by
 cases h with
 | pre h1 _ _ _ => exact alive hI h1
theorem zaV (hI : zw Γ G w H2) {b : Nat} {v : Value} (h : VR G w (.map b) v) : H2[b]? ≠ some .dead := by
 cases h with
 | map h1 _ => exact alive hI h1
theorem sliceA_pre {ie : TI} {b n : Nat} {lo hi mx : Option AV} {q : AV × AH} (h : Z0 ie H (.pre b n) lo hi mx = some q) (he : H2[b]? = H[b]?) : q.2 = H ∧ Z0 ie H2 (.pre b n) lo hi mx = some (q.1, H2) := by
 simp only [Z0] at h ⊢
 rw [he]
 split at h
 ·split at h
  ·rename_i hc
   simp only [Option.some.injEq] at h; subst h
   exact ⟨rfl, by rw [if_pos hc]⟩
  ·cases h
 ·cases h
theorem lookupA_congr {t : TypeId} {m k : AV} {ok : Bool} (he : ∀ b, m = .map b → H2[b]? = H[b]?) : Q3 T H2 t m k ok = Q3 T H t m k ok := by
 have : XZ H2 m = XZ H m := by
  cases m with
  | map b => simp only [XZ, he b rfl]
  | _ => rfl
 simp only [Q3, this]
theorem zaj {t : TypeId} {b : Nat} {k v : AV} {H' : AH} (h : Va T H t (.map b) k v = some H') (he : H2[b]? = H[b]?) : ∃ x y, H[b]? = some x ∧ H' = H.set b y ∧ Va T H2 t (.map b) k v = some (H2.set b y) := by
 unfold Va at h ⊢
 generalize Option.map TI.d (T t) = d at h ⊢
 cases d with
 | none => cases h
 | some td =>
  cases td <;> first | (cases h; done) | skip
  rename_i kt et
  simp only at h ⊢
  rw [he]
  split at h
  ·rename_i ki es hki hH
   split at h
   ·rename_i hk
    simp only [Option.map_eq_some_iff] at h
    obtain ⟨es', hes, rfl⟩ := h
    exact ⟨_, _, hH, rfl, by simp only [hes, Option.map_some]; rw [if_pos hk]⟩
   ·cases h
  ·cases h
theorem zaz {t : TypeId} {m k v : AV} {H' : AH} (h : Va T H t m k v = some H') : ∃ b, m = .map b := by
 unfold Va at h
 split at h
 ·exact ⟨_, rfl⟩
 ·cases h
theorem replay (hI : zw Γ G w H2) (hT : qf P T) {ρ : Operand → AV} {ρc : Operand → Value} (hρ : ∀ x, VR G w (ρ x) (ρc x)) {o : Oper} {v : AV} {H' : AH} {ε : za} (h : zO T ρ H o.op = some (v, H'))
  (hf : z4 ρ H H' v o.op = some ε) (hm : zdB ε H H2) : Xn Γ G w v (ε.fill H2) ((execOp ρc o).run P w) := by
 have again : ∀ {H3 : AH}, ε.fill H2 = H3 → zO T ρ H2 o.op = some (v, H3) → Xn Γ G w v (ε.fill H2) ((execOp ρc o).run P w) := fun e h2 => by rw [e]; exact run_aop hI hT hρ h2
 by_cases hfree : (match o.op with
   | .alloc _ | .box _ _ | .buildSlice _ _ _ | .load _ _ | .store _ _ _ | .makeSlice _ _ _ | .slice _ _ _ _ _ | .indexAddr _ _ _ | .call _ | .makeMap _ _ | .insert _ _ _ _ | .mapUpdate _ _ _ _ | .lookup _ _ _ _ => False
   | _ => True)
 ·have he : ε = .none := by
   cases hop : o.op <;> rw [hop] at hf hfree <;> simp only [] at hfree <;> simp only [z4, Option.some.injEq] at hf <;> exact hf.symm
  subst he
  exact again (H3 := H2) rfl (replay_free h hfree)
 ·cases hop : o.op <;> rw [hop] at h hf hfree <;> simp only [not_true_eq_false] at hfree
  case alloc e =>
   simp only [z4, Option.some.injEq] at hf; subst hf
   simp only [zO] at h
   split at h
   ·rename_i i hi
    simp only [Option.bind_eq_some_iff] at h
    obtain ⟨cs, hcs, h⟩ := h
    split at h
    ·rename_i hl
     simp only [Option.some.injEq, Prod.mk.injEq] at h; obtain ⟨rfl, rfl⟩ := h
     rw [YP]
     obtain ⟨u, w', G', h1, h2, h3, h4⟩ := run_allocA hI hT hi hcs hl (.fill H2 H.length _ (hm.2.2 _ rfl).2)
     exact ⟨u, w', G', .inl (by simp [execOp, hop, h1]), h2, h3, h4⟩
    ·cases h
   ·cases h
  case box e x =>
   simp only [z4, Option.some.injEq] at hf; subst hf
   simp only [zO, Option.map_eq_some_iff, Prod.mk.injEq] at h
   obtain ⟨cs, hcs, rfl, rfl⟩ := h
   rw [YP]
   obtain ⟨u, w', G', h1, h2, h3, h4⟩ := run_boxA (P := P) (e := e) hI (hρ x) hcs (.fill H2 H.length _ (hm.2.2 _ rfl).2)
   exact ⟨u, w', G', .inl (by simp [execOp, hop, h1]), h2, h3, h4⟩
  case makeSlice t l c =>
   simp only [z4, Option.some.injEq] at hf; subst hf
   simp only [zO] at h
   split at h
   ·rename_i k1 l' k2 c' ti hl hc hti
    obtain ⟨d, htd, hd, r⟩ := jb (hT _ _ hti)
    split at h
    ·rename_i el e1
     rw [e1] at htd; cases ZH htd
     split at h
     ·rename_i ie hie
      split at h
      ·rename_i hcond
       obtain ⟨h0, h1, h2, h3, h4, h5⟩ := hcond
       simp only [Option.some.injEq, Prod.mk.injEq] at h; obtain ⟨rfl, rfl⟩ := h
       have hl' := hρ l; have hc' := hρ c
       rw [hl] at hl'; rw [hc] at hc'
       generalize hvl : ρc l = vl at hl'
       generalize hvc : ρc c = vc at hc'
       cases hl'; cases hc'
       rw [YP]
       obtain ⟨u, w', G', g1, g2, g3, g4⟩ := run_makeSliceA (kl := k1) (kc := k2) hI hT hd hie h0 h1 h2 h3 h4 h5 (.fill H2 H.length _ (hm.2.2 _ rfl).2)
       exact ⟨u, w', G', .inl (by simp [execOp, hop, hvl, hvc, g1]), g2, g3, g4⟩
      ·cases h
     ·cases h
    ·cases h
   ·cases h
  case buildSlice t n parts =>
   simp only [z4] at hf
   split at hf
   ·rename_i hn
    simp only [Option.some.injEq] at hf; subst hf
    refine again (H3 := H2) rfl ?_
    rw [hop]
    simp only [zO, Xh] at h ⊢
    split at h
    ·split at h
     ·split at h
      ·split at h
       ·simp only [Option.map_eq_some_iff, Prod.mk.injEq] at h
        obtain ⟨q, hq, rfl, rfl⟩ := h
        rename_i hcond
        rw [if_pos hcond, (zah _ 0 q (by simpa [List.all_map, Function.comp_def] using hn) hq).2 H2]
        rfl
       ·cases h
      ·cases h
     ·cases h
    ·cases h
   ·cases hf
  case load t a =>
   simp only [z4, Option.some.injEq] at hf; subst hf
   have hfill : (Vq (ρ a)).fill H2 = H2 := by unfold Vq; cases ρ a <;> rfl
   refine again hfill ?_
   rw [hop]
   have he := rdPtr_ok hI (hρ a) hm
   simp only [zO, Option.bind_eq_some_iff, Option.map_eq_some_iff, Prod.mk.injEq] at h ⊢
   obtain ⟨i, hi, p, hp, x, hx, rfl, rfl⟩ := h
   exact ⟨i, hi, p, by rw [he]; exact hp, x, hx, rfl, trivial⟩
  case store t a x =>
   simp only [z4] at hf
   split at hf
   ·rename_i b g i off ha
    simp only [Option.some.injEq] at hf; subst hf
    have hal := zbA hI (by have := hρ a; rw [ha] at this; exact this)
    have he := Xv hI hal hm
    simp only [zO, Option.map_eq_some_iff, Prod.mk.injEq] at h
    obtain ⟨H1, hH1, rfl, rfl⟩ := h
    rw [ha] at hH1
    simp only [VY] at hH1
    split at hH1
    ·rename_i a' t' b' g' i' off' ti e1 e2
     cases e1
     split at hH1
     ·rename_i sz xs hH
      split at hH1
      ·rename_i el cs h1 h2
       split at hH1
       ·rename_i hc
        simp only [Option.some.injEq] at hH1; subst hH1
        refine again (Yl hH) ?_
        rw [hop]
        simp only [zO, Option.map_eq_some_iff, Prod.mk.injEq]
        refine ⟨_, ?_, trivial, rfl⟩
        rw [ha]
        simp only [VY, e2, he, hH, h1, h2]
        rw [if_pos hc]
       ·cases hH1
      ·cases hH1
     ·cases hH1
    ·cases hH1
   ·cases hf
  case slice t x lo hi mx =>
   simp only [zO] at h
   split at h
   ·rename_i e e1
    simp only [Option.bind_eq_some_iff] at h
    obtain ⟨ie, hie, h⟩ := h
    by_cases hr : jt (ρ x) = true
    ·obtain ⟨b, n, hx⟩ : ∃ b n, ρ x = .ref b n := by cases hx : ρ x <;> simp [hx, jt] at hr; exact ⟨_, _, rfl⟩
     rw [hx] at h
     simp only [z4, hx, Option.some.injEq] at hf; subst hf
     have hal := UJ hI (by have := hρ x; rw [hx] at this; exact this)
     have he := Xv hI hal hm
     obtain ⟨y, k, hy, hk, hs⟩ := sliceA_ref h he
     simp only at hk
     subst hk
     refine again (Yl hy) ?_
     rw [hop]
     simp only [zO, e1, hie, Option.bind_some, hx]
     exact hs
    ·have hr' : jt (ρ x) = false := by simpa using hr
     by_cases hp : J8 (ρ x) = true
     ·obtain ⟨b, n, hx⟩ : ∃ b n, ρ x = .pre b n := by cases hx : ρ x <;> simp [hx, J8] at hp; exact ⟨_, _, rfl⟩
      rw [hx] at h
      simp only [z4, hx, Option.some.injEq] at hf; subst hf
      have hal := pre_alive hI (by have := hρ x; rw [hx] at this; exact this)
      have he : H2[b]? = H[b]? := by
       rcases hm.1 b (by simp) with h9 | h9
       ·exact h9
       ·exact absurd h9 hal
      refine again (H3 := H2) rfl ?_
      rw [hop]
      simp only [zO, e1, hie, Option.bind_some, hx]
      exact (sliceA_pre h he).2
     ·have hp' : J8 (ρ x) = false := by simpa using hp
      have hε : ε = .none := by
       simp only [z4] at hf
       cases hx : ρ x <;> rw [hx] at hf hr' hp' <;> simp [jt] at hr' <;> simp [J8] at hp' <;> simp only [Option.some.injEq] at hf <;> first | exact hf.symm | (rw [hx] at h; simp [Z0] at h)
      subst hε
      refine again (H3 := H2) rfl ?_
      rw [hop]
      simp only [zO, e1, hie, Option.bind_some]
      exact sliceA_val hr' hp' h
   ·rename_i e1
    have hε : ε = .none := by
     simp only [z4] at hf
     cases hx : ρ x <;> rw [hx] at hf h <;> simp [Yr] at h <;> simp only [Option.some.injEq] at hf <;> exact hf.symm
    subst hε
    refine again (H3 := H2) rfl ?_
    rw [hop]
    simp only [zO, e1]
    exact om h
   ·rename_i n e e1
    simp only [Option.bind_eq_some_iff] at h
    obtain ⟨ie, hie, h⟩ := h
    obtain ⟨b, hx, hall⟩ := arrSl_ptr (H2 := H2) h
    simp only [z4, hx, Option.some.injEq] at hf; subst hf
    have hal := zbA hI (by have := hρ x; rw [hx] at this; exact this)
    have he := Xv hI hal hm
    obtain ⟨y, k, hy, hk, hs⟩ := hall he
    simp only at hk
    subst hk
    refine again (Yl hy) ?_
    rw [hop]
    simp only [zO, e1, hie, Option.bind_some]
    exact hs
   ·cases h
  case indexAddr t x i =>
   simp only [z4, Option.some.injEq] at hf; subst hf
   have hfill : (Zh (ρ x)).fill H2 = H2 := by unfold Zh; cases ρ x <;> rfl
   refine again hfill ?_
   rw [hop]
   simp only [zO] at h ⊢
   have he : Q6 T H2 t (ρ x) (ρ i) = Q6 T H t (ρ x) (ρ i) := indexAddrA_congr fun b n hx => by
    have hal := UJ hI (by have := hρ x; rw [hx] at this; exact this)
    rcases hm.1 b (by simp [Zh, hx]) with h9 | h9
    ·exact h9
    ·exact absurd h9 hal
   rw [he]; exact om h
  case makeMap t r =>
   cases r with
   | some r => simp [zO] at h
   | none =>
    simp only [z4, Option.some.injEq] at hf; subst hf
    simp only [zO, Option.some.injEq, Prod.mk.injEq] at h; obtain ⟨rfl, rfl⟩ := h
    rw [YP]
    obtain ⟨u, w', G', h1, h2, h3, h4⟩ := run_makeMapA (P := P) (t := t) hI (.fill H2 H.length _ (hm.2.2 _ rfl).2)
    exact ⟨u, w', G', .inl (by simp [execOp, hop, h1]), h2, h3, h4⟩
  case insert t m k x =>
   simp only [zO, Option.map_eq_some_iff, Prod.mk.injEq] at h
   obtain ⟨H1, hH1, rfl, rfl⟩ := h
   obtain ⟨b, hb⟩ := zaz hH1
   simp only [z4, hb, Option.some.injEq] at hf; subst hf
   have hal := zaV hI (by have := hρ m; rw [hb] at this; exact this)
   have he := Xv hI hal hm
   rw [hb] at hH1
   obtain ⟨y, z, hy, rfl, h3⟩ := zaj hH1 he
   refine again (Yl hy) ?_
   rw [hop]
   simp only [zO, hb, h3, Option.map_some]
  case mapUpdate t m k x =>
   simp only [zO, Option.map_eq_some_iff, Prod.mk.injEq] at h
   obtain ⟨H1, hH1, rfl, rfl⟩ := h
   obtain ⟨b, hb⟩ := zaz hH1
   simp only [z4, hb, Option.some.injEq] at hf; subst hf
   have hal := zaV hI (by have := hρ m; rw [hb] at this; exact this)
   have he := Xv hI hal hm
   rw [hb] at hH1
   obtain ⟨y, z, hy, rfl, h3⟩ := zaj hH1 he
   refine again (Yl hy) ?_
   rw [hop]
   simp only [zO, hb, h3, Option.map_some]
  case lookup t m k ok =>
   simp only [z4, Option.some.injEq] at hf; subst hf
   have hfill : (Zh (ρ m)).fill H2 = H2 := by unfold Zh; cases ρ m <;> rfl
   refine again hfill ?_
   rw [hop]
   simp only [zO] at h ⊢
   have he : Q3 T H2 t (ρ m) (ρ k) ok = Q3 T H t (ρ m) (ρ k) ok := lookupA_congr fun b hx => by
    have hal := zaV hI (by have := hρ m; rw [hx] at this; exact this)
    rcases hm.1 b (by simp [Zh, hx]) with h9 | h9
    ·exact h9
    ·exact absurd h9 hal
   rw [he]; exact om h
  case call c =>
   simp only [zO] at h
   split at h
   ·rename_i x t hcal hx htys
    simp only [z4, hcal, hx, Option.some.injEq] at hf; subst hf
    have hfill : (Zh x).fill H2 = H2 := by unfold Zh; cases x <;> rfl
    refine again hfill ?_
    rw [hop]
    simp only [zO, hcal, hx, htys]
    have hxv : ∃ u, VR G w x u := by
     have : x ∈ c.args.toList.map ρ := by rw [hx]; simp
     obtain ⟨y, _, rfl⟩ := List.mem_map.1 this
     exact ⟨_, hρ y⟩
    obtain ⟨u, hu⟩ := hxv
    have he : qu T H2 t x = qu T H t x := lenA_congr (fun b n hxb => by
     rw [hxb] at hu hm
     have hal := UJ hI hu
     rcases hm.1 b (by simp [Zh]) with h9 | h9
     ·exact h9
     ·exact absurd h9 hal) (fun b hxb => by
     rw [hxb] at hu hm
     have hal := zaV hI hu
     rcases hm.1 b (by simp [Zh]) with h9 | h9
     ·exact h9
     ·exact absurd h9 hal)
    rw [he]; exact om h
   ·rename_i x t hcal hx htys
    have hε : ε = .none := by simp only [z4, hcal] at hf; simpa using hf.symm
    subst hε
    refine again (H3 := H2) rfl ?_
    rw [hop]
    simp only [zO, hcal, hx, htys]
    exact om h
   ·rename_i s x t t' hcal hx htys
    split at h
    ·rename_i ht
     subst ht
     simp only [z4, hcal, hx] at hf
     split at hf
     ·cases hf
     ·rename_i hxr
      have hels : jk H2 x = jk H x := by cases x <;> simp [jt] at hxr <;> rfl
      have hsv : ∃ u, VR G w s u := by
       have : s ∈ c.args.toList.map ρ := by rw [hx]; simp
       obtain ⟨y, _, rfl⟩ := List.mem_map.1 this
       exact ⟨_, hρ y⟩
      obtain ⟨us, hus⟩ := hsv
      simp only [qn] at h
      split at h
      ·rename_i i hi
       split at h
       ·rename_i e e1
        split at h
        ·rename_i ie ys hie hys
         split at h
         ·rename_i hemp
          split at h
          ·rename_i hsl
           simp only [Option.some.injEq, Prod.mk.injEq] at h; obtain ⟨rfl, rfl⟩ := h
           have hst : ε.fill H2 = H2 ∧ QA H2 s = QA H s := by
            cases s with
            | ref b n =>
             simp only [Option.some.injEq] at hf; subst hf
             have hal := UJ hI hus
             have he := Xv hI hal hm
             refine ⟨?_, slOk_congr fun b' n' e => by cases e; exact he⟩
             simp only [upTo, za.fill, Za]
             cases hb : H[b]? with
             | none => simp [QA, hb] at hsl
             | some k => exact set_same (by rw [he, hb]; rfl)
            | nilslice => simp only [Option.some.injEq] at hf; subst hf; exact ⟨rfl, rfl⟩
            | slice xs full => simp only [Option.some.injEq] at hf; subst hf; exact ⟨rfl, rfl⟩
            | _ => simp [QA] at hsl
           refine again hst.1 ?_
           rw [hop]
           simp only [zO, hcal, hx, htys, if_true, qn, hi, e1, hie, hels, hys, hemp, hst.2, hsl]
          ·cases h
         ·rename_i hemp
          split at h
          ·rename_i hcond
           by_cases hsr : jt s = true
           ·
            obtain ⟨b, n, rfl⟩ : ∃ b n, s = .ref b n := by cases s <;> simp [jt] at hsr; exact ⟨_, _, rfl⟩
            simp only [Option.some.injEq] at hf; subst hf
            have hal := UJ hI hus
            have he := Xv hI hal hm
            simp only [jO] at h
            split at h
            ·rename_i wr sz xs hH
             split at h
             ·rename_i hc2
              simp only [Option.some.injEq, Prod.mk.injEq] at h; obtain ⟨rfl, rfl⟩ := h
              refine again (Yl hH) ?_
              rw [hop]
              simp only [zO, hcal, hx, htys, if_true, qn, hi, e1, hie, hels, hys]
              rw [if_neg hemp, if_pos hcond]
              simp only [jO, he, hH]
              rw [if_pos hc2]
             ·cases h
            ·cases h
           ·
            have hg : ∃ zs, Qc ie s ys = some zs ∧ v = .ref H.length zs.length ∧ H' = H ++ [.row true ie.size zs] := by
             cases s <;> simp [jt] at hsr <;> simp only [jO, Option.map_eq_some_iff, Prod.mk.injEq] at h <;>
              (obtain ⟨zs, hzs, h1, h2⟩ := h; exact ⟨zs, hzs, h1.symm, h2.symm⟩)
            obtain ⟨zs, hzs, rfl, rfl⟩ := hg
            have hε : ε = newAt H (H ++ [.row true ie.size zs]) := by
             cases s <;> simp [jt] at hsr <;> simp only [Option.some.injEq] at hf <;> exact hf.symm
            subst hε
            obtain ⟨d, htd, hd, r⟩ := jb (hT _ _ hi)
            rw [e1] at htd; cases ZH htd
            obtain ⟨hpos, hz, hall⟩ := hcond
            have hargs : VL G w (c.args.toList.map ρ) (c.args.toList.map ρc) := VL.of_map hρ _
            have hca : c.args.map ρc = (c.args.toList.map ρc).toArray := by rw [← Array.toList_map]
            have hct : c.argTypes = c.argTypes.toList.toArray := (Array.toArray_toList).symm
            rw [hx] at hargs
            generalize c.args.toList.map ρc = vs at hargs hca
            rw [htys] at hct
            match vs, hargs with
            | [v1, v2], hargs =>
             obtain ⟨h1, h2⟩ := hargs.uncons
             rw [YP]
             obtain ⟨u, w', G', g1, g2, g3, g4⟩ := run_growNew (ty := o.type) hI hT hd hie (by simpa using hemp) hpos hz (fun y hy => by have := List.all_eq_true.1 hall y hy; simpa using this)
              (hels.trans hys) h2.uncons.1 hzs h1 (.fill H2 H.length _ (hm.2.2 _ rfl).2)
             refine ⟨u, w', G', .inl ?_, g2, g3, g4⟩
             simp [execOp, hop, resolve, hcal, hca, hct, invoke, builtin, g1]
            | [], hargs => have := hargs.1; simp at this
            | [_], hargs => have := hargs.1; simp at this
            | _ :: _ :: _ :: _, hargs => have := hargs.1; simp at this
          ·cases h
        ·cases h
       ·cases h
      ·cases h
    ·rename_i hne
     unfold Un at h
     split at h
     ·rename_i i i' k n hi hi'
      split at h
      ·rename_i el c' e1 e2
       simp only [Option.bind_eq_some_iff] at h
       obtain ⟨ie, hie, h⟩ := h
       split at h
       ·rename_i hc
        obtain ⟨h0, h1, h2, hpos, hz⟩ := hc
        simp only [Option.some.injEq, Prod.mk.injEq] at h; obtain ⟨rfl, rfl⟩ := h
        simp only [z4, hcal, hx, jt, Bool.false_eq_true, if_false, Option.some.injEq] at hf; subst hf
        obtain ⟨d, htd, hd, r⟩ := jb (hT _ _ hi)
        rw [e1] at htd; cases ZH htd
        have hargs : VL G w (c.args.toList.map ρ) (c.args.toList.map ρc) := VL.of_map hρ _
        have hca : c.args.map ρc = (c.args.toList.map ρc).toArray := by rw [← Array.toList_map]
        have hct : c.argTypes = c.argTypes.toList.toArray := (Array.toArray_toList).symm
        rw [hx] at hargs
        generalize c.args.toList.map ρc = vs at hargs hca
        rw [htys] at hct
        match vs, hargs with
        | [v1, v2], hargs =>
         obtain ⟨q1, q2⟩ := hargs.uncons
         have q3 := q2.uncons.1
         cases q1; cases q3
         rw [YP]
         obtain ⟨u, w', G', g1, g2, g3, g4⟩ := run_appendZ (ty := o.type) (k := k) hI hT hd hie hi' e2 h0 h1 h2 hpos hz (.fill H2 H.length _ (hm.2.2 _ rfl).2)
         refine ⟨u, w', G', .inl ?_, g2, g3, g4⟩
         simp [execOp, hop, resolve, hcal, hca, hct, invoke, builtin, g1]
        | [], hargs => have := hargs.1; simp at this
        | [_], hargs => have := hargs.1; simp at this
        | _ :: _ :: _ :: _, hargs => have := hargs.1; simp at this
       ·cases h
      ·cases h
     ·cases h
   ·rename_i x r hcal hx
    have hε : ε = .none := by simp only [z4, hcal] at hf; simpa using hf.symm
    subst hε
    refine again (H3 := H2) rfl ?_
    rw [hop]
    simp only [zO, hcal, hx]
    exact om h
   ·rename_i x r hcal hx
    have hε : ε = .none := by simp only [z4, hcal] at hf; simpa using hf.symm
    subst hε
    refine again (H3 := H2) rfl ?_
    rw [hop]
    simp only [zO, hcal, hx]
    exact om h
   ·cases h
def CallD (E : zW) (f : FuncId) (args captured : List AV) (H : AH) (r : AV) (rds : List Nat) (ups : List (Nat × zE)) : Prop :=
 (∀ b ∈ rds, b < H.length) ∧ (∀ p ∈ ups, p.1 ∈ rds) ∧ ∀ Hx, (∀ b ∈ rds, Hx[b]? = H[b]?) → zda E f args captured Hx (.ret r) (Za Hx ups)
def YldD (E : zW) (b : Nat) (args : List AV) (H : AH) (r : AV) (rds : List Nat) (ups : List (Nat × zE)) : Prop :=
 (∀ b ∈ rds, b < H.length) ∧ (∀ p ∈ ups, p.1 ∈ rds) ∧ ∀ Hx, (∀ b ∈ rds, Hx[b]? = H[b]?) → YOk E b args Hx r (Za Hx ups)
def Ju (E : zW) (o : Oper) (next : AV → za → AH → Prop) (fr : zx) (H : AH) : Prop :=
 match o.op with
 | .call { callee := .value f, args, .. } =>
  match zy E fr f with
  | .func (.func g) first captured => ∃ r rds ups, CallD E g (first ++ args.toList.map (zy E fr)) captured H r rds ups ∧ next r ⟨rds, ups, none, true⟩ (Za H ups)
  | .yld b => ∃ r rds ups, YldD E b (args.toList.map (zy E fr)) H r rds ups ∧ next r ⟨rds, ups, none, true⟩ (Za H ups)
  | _ => False
 | .panic _ => False
 | op => match zO E.T (zy E fr) H op with
  | some p => match z4 (zy E fr) H p.2 p.1 op with
   | some ε => next p.1 ε p.2
   | none => False
  | none => False
def Ur (acc : List Nat) (o : Oper) : Nat := o.after.toList.foldl (fun s e => if Region.binds .any e then s ||| 2 ^ e.on ||| acc.getD e.on 0 else s) 0
def j7 : List Oper → List Nat → List Nat
 | [], acc => acc
 | o :: r, acc => j7 r (acc ++ [Ur acc o])
def ord (m : List Nat) (i j : Nat) : Bool := (m.getD (max i j) 0).testBit (min i j)
def za.wr (ε : za) : List Nat := ε.ups.map (·.1) ++ (ε.new.toList.map (·.1))
def za.triv (ε : za) : Bool := ε.rds.isEmpty && ε.ups.isEmpty && ε.new.isNone
def zk (tr : List (Nat × za)) (k : Nat) (ε : za) : List (Nat × za) := if ε.triv then tr else tr ++ [(k, ε)]
def zds (m : List Nat) (tr : List (Nat × za)) : Prop :=
 ∀ p ∈ tr, ∀ b ∈ p.2.wr, ∀ q ∈ tr, q.1 ≠ p.1 → ord m p.1 q.1 = true ∨ ((∀ c ∈ q.2.rds, c ≠ b) ∧ (∀ c ∈ q.2.wr, c ≠ b))
def Qi (E : zW) (ops : Array Oper) (K : qz) : List Oper → Nat → zx → AH → List (Nat × za) → Prop
 | [], _, fr, H, tr => (∃ m, j7 ops.toList [] = m ∧ zds m tr) ∧ K .normal fr H
 | o :: r, k, fr, H, tr => VK ops fr o (Ju E o (fun v ε H' => Qi E ops K r (k + 1) (put fr o.dst v) H' (zk tr k ε)) fr H) (Qi E ops K r (k + 1) (put fr o.dst (.tuple [])) H tr)
def W0 (ops : Array Oper) : Bool :=
 let m := j7 ops.toList []
 ops.toList.zipIdx.all fun p => (p.1.after.toList.all fun e => !Region.binds .any e || decide (e.on < p.2)) &&
  (ops.toList.zipIdx.all fun q => (m.getD p.2 0).testBit q.2 || decide (p.2 ≤ q.2) || q.1.apart ops p.1)
section
variable {E : zW} {F : Fence} {n : Nat} {G : Gh} {w : World} {H : AH}
def Yc (ops : Array Oper) (fr : zx) (o : Oper) : Prop :=
 match o.guard with
 | none => True
 | some (j, want) => ∃ d, (ops[j]?).bind (·.dst) = some d ∧ fr d = .bool want
def Yb (ops : Array Oper) (fr : zx) (o : Oper) : Prop :=
 match o.guard with
 | none => False
 | some (j, want) => (ops[j]?).bind (·.dst) = none ∨ ∃ d, (ops[j]?).bind (·.dst) = some d ∧ ((∃ b, fr d = .bool b ∧ b ≠ want) ∨ ∃ vs, fr d = .tuple vs)
theorem aguard_cases {ops : Array Oper} {fr : zx} {o : Oper} {run skip : Prop} (h : VK ops fr o run skip) : (Yc ops fr o ∧ run) ∨ (Yb ops fr o ∧ skip) := by
 unfold VK at h
 unfold Yc Yb
 split at h
 ·rename_i hg; (try rw [hg]); exact .inl ⟨trivial, h⟩
 ·rename_i j want hg
  (try rw [hg])
  split at h
  ·rename_i d hd
   split at h
   ·rename_i b hb
    by_cases e : b = want
    ·exact .inl ⟨⟨d, hd, by rw [hb, e]⟩, h.1 e⟩
    ·exact .inr ⟨.inr ⟨d, hd, .inl ⟨b, hb, e⟩⟩, h.2 e⟩
   ·rename_i vs hb
    exact .inr ⟨.inr ⟨d, hd, .inr ⟨vs, hb⟩⟩, h⟩
   ·exact h.elim
  ·rename_i hd
   exact .inr ⟨.inl hd, h⟩
structure Uw where
 v : AV
 ε : za
def Yh (E : zW) (ops : Array Oper) (o : Oper) (fr : zx) (H : AH) (e : Uw) (H' : AH) : Prop :=
 (Yc ops fr o ∧ Ju E o (fun v ε H1 => v = e.v ∧ ε = e.ε ∧ H1 = H') fr H) ∨ (Yb ops fr o ∧ e.v = .tuple [] ∧ e.ε = za.none ∧ H' = H)
theorem stepD_mono {o : Oper} {fr : zx} {next : AV → za → AH → Prop} (h : Ju E o next fr H) : ∃ v ε H', next v ε H' ∧ Ju E o (fun v1 ε1 H1 => v1 = v ∧ ε1 = ε ∧ H1 = H') fr H := by
 unfold Ju at h
 unfold Ju
 split at h
 ·rename_i f args tys e
  split at h
  ·rename_i g first captured hf
   obtain ⟨r, rds, ups, h1, h2⟩ := h
   exact ⟨r, _, _, h2, r, rds, ups, h1, rfl, rfl, rfl⟩
  ·obtain ⟨r, rds, ups, h1, h2⟩ := h
   exact ⟨r, _, _, h2, r, rds, ups, h1, rfl, rfl, rfl⟩
  ·exact h.elim
 ·exact h.elim
 ·rename_i op h1 h2
  split at h
  ·rename_i p hp
   split at h
   ·rename_i ε hε
    refine ⟨p.1, ε, p.2, h, ?_⟩
    simp only [hp, hε, and_self]
   ·exact h.elim
  ·exact h.elim
theorem trace_of {ops : Array Oper} {K : qz} : ∀ (os : List Oper) (k : Nat) (fr : zx) (H : AH) (tr : List (Nat × za)), Qi E ops K os k fr H tr →
  ∃ (frs : Nat → zx) (Hs : Nat → AH) (es : Nat → Uw) (tr' : List (Nat × za)), frs 0 = fr ∧ Hs 0 = H ∧
   (∀ i o, os[i]? = some o → Yh E ops o (frs i) (Hs i) (es i) (Hs (i + 1)) ∧ frs (i + 1) = put (frs i) o.dst (es i).v) ∧
   (∀ i, i < os.length → (es i).ε.triv = false → (k + i, (es i).ε) ∈ tr') ∧ (∀ p ∈ tr, p ∈ tr') ∧
   (∃ m, j7 ops.toList [] = m ∧ zds m tr') ∧ K .normal (frs os.length) (Hs os.length)
 | [], k, fr, H, tr, h => ⟨fun _ => fr, fun _ => H, fun _ => ⟨.junk, .none⟩, tr, rfl, rfl, fun i o ho => by simp at ho, fun i hi => by simp at hi, fun p hp => hp, h.1, h.2⟩
 | o :: os, k, fr, H, tr, h => by
  simp only [Qi] at h
  have fin : ∀ (e : Uw) (H1 : AH) (tr1 : List (Nat × za)), Yh E ops o fr H e H1 → Qi E ops K os (k + 1) (put fr o.dst e.v) H1 tr1 → (∀ p ∈ tr, p ∈ tr1) → (e.ε.triv = false → (k, e.ε) ∈ tr1) →
    ∃ (frs : Nat → zx) (Hs : Nat → AH) (es : Nat → Uw) (tr' : List (Nat × za)), frs 0 = fr ∧ Hs 0 = H ∧
     (∀ i o', (o :: os)[i]? = some o' → Yh E ops o' (frs i) (Hs i) (es i) (Hs (i + 1)) ∧ frs (i + 1) = put (frs i) o'.dst (es i).v) ∧
     (∀ i, i < (o :: os).length → (es i).ε.triv = false → (k + i, (es i).ε) ∈ tr') ∧ (∀ p ∈ tr, p ∈ tr') ∧
     (∃ m, j7 ops.toList [] = m ∧ zds m tr') ∧ K .normal (frs (o :: os).length) (Hs (o :: os).length) := by
   intro e H1 tr1 hfact hrest hsub hnew
   obtain ⟨frs, Hs, es, tr', h1, h2, h3, h4, h5, h6, h7⟩ := trace_of os (k + 1) _ H1 tr1 hrest
   refine ⟨fun i => match i with | 0 => fr | i + 1 => frs i, fun i => match i with | 0 => H | i + 1 => Hs i, fun i => match i with | 0 => e | i + 1 => es i, tr', rfl, rfl, ?_, ?_, fun p hp => h5 p (hsub p hp), h6, h7⟩
   ·intro i o' ho
    cases i with
    | zero => simp at ho; subst ho; exact ⟨by show Yh E ops o fr H e (Hs 0); rw [h2]; exact hfact, by show frs 0 = put fr o.dst e.v; rw [h1]⟩
    | succ i => exact h3 i o' (by simpa using ho)
   ·intro i hi ht
    cases i with
    | zero => exact h5 _ (hnew ht)
    | succ i =>
     have := h4 i (by simpa using hi) ht
     rw [show k + (i + 1) = k + 1 + i by omega]; exact this
  rcases aguard_cases h with ⟨hr, hs⟩ | ⟨hr, hs⟩
  ·obtain ⟨v, ε, H', hn, hst⟩ := stepD_mono hs
   refine fin ⟨v, ε⟩ H' _ (.inl ⟨hr, hst⟩) hn ?_ ?_
   ·intro p hp; unfold zk; split
    ·exact hp
    ·exact List.mem_append.2 (.inl hp)
   ·intro ht
    have ht' : ε.triv = false := ht
    unfold zk; rw [ht']; simp
  ·exact fin ⟨.tuple [], .none⟩ H tr (.inr ⟨hr, rfl, rfl, rfl⟩) hs (fun p hp => hp) (fun ht => by simp [za.none, za.triv] at ht)
end
structure Qw (ε : za) (H H' : AH) : Prop where
 apply : H' = ε.apply H
 ups : ∀ p ∈ ε.ups, p.1 < H.length
 new : ∀ p, ε.new = some p → p.1 = H.length
section
variable {H : AH} {T : z6} {E : zW}
theorem Qw.nothing : Qw za.none H H := ⟨rfl, fun p hp => by simp [za.none] at hp, fun p hp => by simp [za.none] at hp⟩
theorem Qw.rd {ε : za} (h1 : ε.ups = []) (h2 : ε.new = .none) : Qw ε H H := ⟨by simp [za.apply, h1, h2, Za], fun p hp => by simp [h1] at hp, fun p hp => by simp [h2] at hp⟩
theorem Qw.upTo {b : Nat} {x k : zE} (h : H[b]? = some x) : Qw (upTo (H.set b k) b) H (H.set b k) :=
 ⟨by simp only [Arm.upTo, za.apply, Za, getD_set h], fun p hp => by simp [Arm.upTo] at hp; subst hp; exact (gI.1 h).1, fun p hp => by simp [Arm.upTo] at hp⟩
theorem Qw.newAt {k : zE} : Qw (newAt H (H ++ [k])) H (H ++ [k]) :=
 ⟨by simp only [Arm.newAt, za.apply, Za, getD_push], fun p hp => by simp [Arm.newAt] at hp, fun p hp => by simp [Arm.newAt] at hp; rw [← hp]⟩
theorem om' {x : Option AV} {v : AV} {H' : AH} (h : x.map (fun v => (v, H)) = some (v, H')) : H' = H := by
 cases x with
 | none => cases h
 | some y => simp only [Option.map_some, Option.some.injEq, Prod.mk.injEq] at h; exact h.2.symm
theorem foot_apply {ρ : Operand → AV} {op : Op} {v : AV} {H' : AH} {ε : za} (h : zO T ρ H op = some (v, H')) (hf : z4 ρ H H' v op = some ε) : Qw ε H H' := by
 by_cases hfree : (match op with
   | .alloc _ | .box _ _ | .buildSlice _ _ _ | .load _ _ | .store _ _ _ | .makeSlice _ _ _ | .slice _ _ _ _ _ | .indexAddr _ _ _ | .call _ | .makeMap _ _ | .insert _ _ _ _ | .mapUpdate _ _ _ _ | .lookup _ _ _ _ => False
   | _ => True)
 ·have he : ε = .none := by
   cases op <;> simp only [] at hfree <;> simp only [z4, Option.some.injEq] at hf <;> exact hf.symm
  subst he
  have := replay_free (o := { dst := none, op := op, type := 0, after := #[], pos := default, guard := none }) (H2 := H) h hfree
  have h2 : zO T ρ H op = some (v, H) := this
  rw [h] at h2; simp only [Option.some.injEq, Prod.mk.injEq, true_and] at h2; subst h2
  exact .nothing
 ·cases op <;> simp only [not_true_eq_false] at hfree
  case alloc e =>
   simp only [z4, Option.some.injEq] at hf; subst hf
   simp only [zO] at h
   split at h
   ·simp only [Option.bind_eq_some_iff] at h
    obtain ⟨cs, hcs, h⟩ := h
    split at h
    ·simp only [Option.some.injEq, Prod.mk.injEq] at h; obtain ⟨rfl, rfl⟩ := h
     exact .newAt
    ·cases h
   ·cases h
  case box e x =>
   simp only [z4, Option.some.injEq] at hf; subst hf
   simp only [zO, Option.map_eq_some_iff, Prod.mk.injEq] at h
   obtain ⟨cs, hcs, rfl, rfl⟩ := h
   exact .newAt
  case makeSlice t l c =>
   simp only [z4, Option.some.injEq] at hf; subst hf
   simp only [zO] at h
   repeat (split at h <;> first | cases h; done | skip)
   all_goals first
    |(simp only [Option.some.injEq, Prod.mk.injEq] at h; obtain ⟨rfl, rfl⟩ := h; exact .newAt)
    | cases h
  case buildSlice t n parts =>
   simp only [z4] at hf
   split at hf
   ·rename_i hn
    simp only [Option.some.injEq] at hf; subst hf
    simp only [zO, Xh] at h
    split at h
    ·split at h
     ·split at h
      ·split at h
       ·simp only [Option.map_eq_some_iff, Prod.mk.injEq] at h
        obtain ⟨q, hq, rfl, rfl⟩ := h
        rw [(zah _ 0 q (by simpa [List.all_map, Function.comp_def] using hn) hq).1]
        exact .nothing
       ·cases h
      ·cases h
     ·cases h
    ·cases h
   ·cases hf
  case load t a =>
   simp only [z4, Option.some.injEq] at hf; subst hf
   simp only [zO, Option.bind_eq_some_iff, Option.map_eq_some_iff, Prod.mk.injEq] at h
   obtain ⟨i, hi, p, hp, x, hx, rfl, rfl⟩ := h
   refine .rd ?_ ?_ <;> (unfold Vq; cases ρ a <;> rfl)
  case store t a x =>
   simp only [z4] at hf
   split at hf
   ·rename_i b g i off ha
    simp only [Option.some.injEq] at hf; subst hf
    simp only [zO, Option.map_eq_some_iff, Prod.mk.injEq] at h
    obtain ⟨H1, hH1, rfl, rfl⟩ := h
    rw [ha] at hH1
    simp only [VY] at hH1
    split at hH1
    ·rename_i e1 e2
     cases e1
     split at hH1
     ·rename_i sz xs hH
      split at hH1
      ·split at hH1
       ·simp only [Option.some.injEq] at hH1; subst hH1
        exact .upTo hH
       ·cases hH1
      ·cases hH1
     ·cases hH1
    ·cases hH1
   ·cases hf
  case slice t x lo hi mx =>
   simp only [zO] at h
   split at h
   ·rename_i e e1
    simp only [Option.bind_eq_some_iff] at h
    obtain ⟨ie, hie, h⟩ := h
    by_cases hr : jt (ρ x) = true
    ·obtain ⟨b, n, hx⟩ : ∃ b n, ρ x = .ref b n := by cases hx : ρ x <;> simp [hx, jt] at hr; exact ⟨_, _, rfl⟩
     rw [hx] at h
     simp only [z4, hx, Option.some.injEq] at hf; subst hf
     obtain ⟨y, k, hy, hk, hs⟩ := sliceA_ref (H2 := H) h rfl
     simp only at hk
     subst hk
     exact .upTo hy
    ·have hr' : jt (ρ x) = false := by simpa using hr
     by_cases hp : J8 (ρ x) = true
     ·obtain ⟨b, n, hx⟩ : ∃ b n, ρ x = .pre b n := by cases hx : ρ x <;> simp [hx, J8] at hp; exact ⟨_, _, rfl⟩
      rw [hx] at h
      simp only [z4, hx, Option.some.injEq] at hf; subst hf
      have h2 := (sliceA_pre (H2 := H) h rfl).1
      simp only at h2; subst h2
      exact .rd rfl rfl
     have hp' : J8 (ρ x) = false := by simpa using hp
     have hε : ε = .none := by
      simp only [z4] at hf
      cases hx : ρ x <;> rw [hx] at hf hr' hp' <;> simp [jt] at hr' <;> simp [J8] at hp' <;> simp only [Option.some.injEq] at hf <;> first | exact hf.symm | (rw [hx] at h; simp [Z0] at h)
     subst hε
     have h2 := sliceA_val (H2 := H) hr' hp' h
     rw [h] at h2; simp only [Option.some.injEq, Prod.mk.injEq, true_and] at h2; subst h2
     exact .nothing
   ·rename_i e1
    have hε : ε = .none := by
     simp only [z4] at hf
     cases hx : ρ x <;> rw [hx] at hf h <;> simp [Yr] at h <;> simp only [Option.some.injEq] at hf <;> exact hf.symm
    subst hε
    rw [om' h]; exact .nothing
   ·rename_i n e e1
    simp only [Option.bind_eq_some_iff] at h
    obtain ⟨ie, hie, h⟩ := h
    obtain ⟨b, hx, hall⟩ := arrSl_ptr (H2 := H) h
    simp only [z4, hx, Option.some.injEq] at hf; subst hf
    obtain ⟨y, k, hy, hk, hs⟩ := hall rfl
    simp only at hk
    subst hk
    exact .upTo hy
   ·cases h
  case indexAddr t x i =>
   simp only [z4, Option.some.injEq] at hf; subst hf
   simp only [zO] at h
   rw [om' h]
   refine .rd ?_ ?_ <;> (unfold Zh; cases ρ x <;> rfl)
  case makeMap t r =>
   cases r with
   | some r => simp [zO] at h
   | none =>
    simp only [z4, Option.some.injEq] at hf; subst hf
    simp only [zO, Option.some.injEq, Prod.mk.injEq] at h; obtain ⟨rfl, rfl⟩ := h
    exact .newAt
  case insert t m k x =>
   simp only [zO, Option.map_eq_some_iff, Prod.mk.injEq] at h
   obtain ⟨H1, hH1, rfl, rfl⟩ := h
   obtain ⟨b, hb⟩ := zaz hH1
   simp only [z4, hb, Option.some.injEq] at hf; subst hf
   rw [hb] at hH1
   obtain ⟨y, z, hy, rfl, _⟩ := zaj (H2 := H) hH1 rfl
   exact .upTo hy
  case mapUpdate t m k x =>
   simp only [zO, Option.map_eq_some_iff, Prod.mk.injEq] at h
   obtain ⟨H1, hH1, rfl, rfl⟩ := h
   obtain ⟨b, hb⟩ := zaz hH1
   simp only [z4, hb, Option.some.injEq] at hf; subst hf
   rw [hb] at hH1
   obtain ⟨y, z, hy, rfl, _⟩ := zaj (H2 := H) hH1 rfl
   exact .upTo hy
  case lookup t m k ok =>
   simp only [z4, Option.some.injEq] at hf; subst hf
   simp only [zO] at h
   rw [om' h]
   refine .rd ?_ ?_ <;> (unfold Zh; cases ρ m <;> rfl)
  case call c =>
   simp only [zO] at h
   split at h
   ·rename_i x t hcal hx htys
    simp only [z4, hcal, hx, Option.some.injEq] at hf; subst hf
    rw [om' h]
    refine .rd ?_ ?_ <;> (unfold Zh; cases x <;> rfl)
   ·rename_i x t hcal hx htys
    have hε : ε = .none := by simp only [z4, hcal] at hf; simpa using hf.symm
    subst hε
    rw [om' h]; exact .nothing
   ·rename_i s x t t' hcal hx htys
    split at h
    ·rename_i ht
     subst ht
     simp only [z4, hcal, hx] at hf
     split at hf
     ·cases hf
     ·simp only [qn] at h
      split at h
      ·split at h
       ·split at h
        ·rename_i ie ys hie hys
         split at h
         ·rename_i hemp
          split at h
          ·rename_i hsl
           simp only [Option.some.injEq, Prod.mk.injEq] at h; obtain ⟨rfl, rfl⟩ := h
           cases s with
           | ref b n =>
            simp only [Option.some.injEq] at hf; subst hf
            cases hb : H[b]? with
            | none => simp [QA, hb] at hsl
            | some k =>
             have := Qw.upTo (H := H) (b := b) (k := k) hb
             rwa [set_same hb] at this
           | nilslice => simp only [Option.some.injEq] at hf; subst hf; exact .nothing
           | slice xs full => simp only [Option.some.injEq] at hf; subst hf; exact .nothing
           | _ => simp [QA] at hsl
          ·cases h
         ·split at h
          ·by_cases hsr : jt s = true
           ·obtain ⟨b, n, rfl⟩ : ∃ b n, s = .ref b n := by cases s <;> simp [jt] at hsr; exact ⟨_, _, rfl⟩
            simp only [Option.some.injEq] at hf; subst hf
            simp only [jO] at h
            split at h
            ·rename_i wr sz xs hH
             split at h
             ·simp only [Option.some.injEq, Prod.mk.injEq] at h; obtain ⟨rfl, rfl⟩ := h
              exact .upTo hH
             ·cases h
            ·cases h
           ·have hg : ∃ zs, Qc ie s ys = some zs ∧ v = .ref H.length zs.length ∧ H' = H ++ [.row true ie.size zs] := by
             cases s <;> simp [jt] at hsr <;> simp only [jO, Option.map_eq_some_iff, Prod.mk.injEq] at h <;>
              (obtain ⟨zs, hzs, h1, h2⟩ := h; exact ⟨zs, hzs, h1.symm, h2.symm⟩)
            obtain ⟨zs, hzs, rfl, rfl⟩ := hg
            have hε : ε = newAt H (H ++ [.row true ie.size zs]) := by
             cases s <;> simp [jt] at hsr <;> simp only [Option.some.injEq] at hf <;> exact hf.symm
            subst hε
            exact .newAt
          ·cases h
        ·cases h
       ·cases h
      ·cases h
    ·unfold Un at h
     split at h
     ·split at h
      ·simp only [Option.bind_eq_some_iff] at h
       obtain ⟨ie, hie, h⟩ := h
       split at h
       ·simp only [Option.some.injEq, Prod.mk.injEq] at h; obtain ⟨rfl, rfl⟩ := h
        simp only [z4, hcal, hx, jt, Bool.false_eq_true, if_false, Option.some.injEq] at hf; subst hf
        exact .newAt
       ·cases h
      ·cases h
     ·cases h
   ·rename_i x r hcal hx
    have hε : ε = .none := by simp only [z4, hcal] at hf; simpa using hf.symm
    subst hε
    rw [om' h]; exact .nothing
   ·rename_i x r hcal hx
    have hε : ε = .none := by simp only [z4, hcal] at hf; simpa using hf.symm
    subst hε
    rw [om' h]; exact .nothing
   ·cases h
theorem Yh.footOk {ops : Array Oper} {o : Oper} {fr : zx} {e : Uw} {H' : AH} (h : Yh E ops o fr H e H') : Qw e.ε H H' := by
 rcases h with ⟨_, h⟩ | ⟨_, _, h1, h2⟩
 ·unfold Ju at h
  split at h
  ·split at h
   ·obtain ⟨r, rds, ups, hc, h1, h2, h3⟩ := h
    rw [← h2, ← h3]
    exact ⟨rfl, fun p hp => hc.1 _ (hc.2.1 p hp), fun p hp => by cases hp⟩
   ·obtain ⟨r, rds, ups, hc, h1, h2, h3⟩ := h
    rw [← h2, ← h3]
    exact ⟨rfl, fun p hp => hc.1 _ (hc.2.1 p hp), fun p hp => by cases hp⟩
   ·exact h.elim
  ·exact h.elim
  ·split at h
   ·rename_i p hp
    split at h
    ·rename_i ε hε
     obtain ⟨h1, h2, h3⟩ := h
     rw [← h2, ← h3]
     exact foot_apply (v := p.1) hp hε
    ·exact h.elim
   ·exact h.elim
 ·rw [h1, h2]; exact .nothing
end
section
variable {X : Type}
def jX (S : Nat → Bool) (V : Nat → Option X) : Nat → X → X
 | 0, x => x
 | n + 1, x => if S n = true then (V n).getD (jX S V n x) else jX S V n x
theorem XM {S S' : Nat → Bool} {V : Nat → Option X} {x : X} : ∀ {n : Nat}, (∀ i, i < n → V i ≠ none → S i = S' i) → jX S V n x = jX S' V n x
 | 0, _ => rfl
 | n + 1, h => by
  have ih := XM (S := S) (S' := S') (V := V) (x := x) (n := n) fun i hi => h i (by omega)
  simp only [jX, ih]
  cases hv : V n with
  | none => simp
  | some y => rw [h n (by omega) (by rw [hv]; exact fun e => by cases e)]
theorem zbc {S : Nat → Bool} {V : Nat → Option X} {x : X} : ∀ {n : Nat}, (∀ i, i < n → S i = true → V i = none) → jX S V n x = x
 | 0, _ => rfl
 | n + 1, h => by
  have ih := zbc (S := S) (V := V) (x := x) (n := n) fun i hi => h i (by omega)
  simp only [jX, ih]
  split
  ·rename_i hs; rw [h n (by omega) hs]; rfl
  ·rfl
theorem zbC {S S' : Nat → Bool} {V : Nat → Option X} {x : X} {j : Nat} (h1 : S' j = true) (h2 : S j = false) (h3 : ∀ i, i ≠ j → S' i = S i) : ∀ {n : Nat}, j < n →
  (V j ≠ none → ∀ i, j < i → i < n → S i = true → V i = none) → jX S' V n x = (V j).getD (jX S V n x)
 | 0, hj, _ => by omega
 | n + 1, hj, h => by
  by_cases e : j = n
  ·subst e
   have : jX S' V j x = jX S V j x := XM fun i hi _ => h3 i (by omega)
   simp [jX, h1, h2, this]
  ·have ih := zbC (x := x) h1 h2 h3 (V := V) (n := n) (by omega) fun hv i hi hn hs => h hv i hi (by omega) hs
   simp only [jX, ih, h3 n (fun e' => e e'.symm)]
   cases hv : V j with
   | none => rfl
   | some y =>
    split
    ·rename_i hs
     rw [h (by rw [hv]; exact fun e => by cases e) n (by omega) (by omega) hs]; rfl
    ·rfl
theorem zb5 {V : Nat → Option X} {x : X} {j : Nat} : ∀ {n : Nat}, j ≤ n → jX (fun i => decide (i < j)) V n x = jX (fun _ => true) V j x
 | 0, hj => by
  have : j = 0 := by omega
  subst this; rfl
 | n + 1, hj => by
  by_cases e : j = n + 1
  ·subst e
   exact XM fun i hi _ => by simp [hi]
  ·simp only [jX]
   rw [if_neg (by simp; omega)]
   exact zb5 (by omega)
end
theorem amask_bit {acc : List Nat} {o : Oper} {i : Nat} (h : (Ur acc o).testBit i = true) :
  ∃ e ∈ o.after, Region.binds .any e = true ∧ (i = e.on ∨ (acc.getD e.on 0).testBit i = true) := by
 have key : ∀ (l : List Edge) (s : Nat), (l.foldl (fun s e => if Region.binds .any e then s ||| 2 ^ e.on ||| acc.getD e.on 0 else s) s).testBit i = true →
   s.testBit i = true ∨ ∃ e ∈ l, Region.binds .any e = true ∧ (i = e.on ∨ (acc.getD e.on 0).testBit i = true) := by
  intro l
  induction l with
  | nil => intro s h; exact .inl h
  | cons e l ih =>
   intro s h
   rcases ih _ h with h1 | ⟨e', he, h2⟩
   ·simp only at h1
    split at h1
    ·rename_i hb
     simp only [Nat.testBit_or, Bool.or_eq_true] at h1
     rcases h1 with (h1 | h1) | h1
     ·exact .inl h1
     ·refine .inr ⟨e, by simp, hb, .inl ?_⟩
      rw [Nat.testBit_two_pow] at h1
      exact (of_decide_eq_true h1).symm
     ·exact .inr ⟨e, by simp, hb, .inr h1⟩
    ·exact .inl h1
   ·exact .inr ⟨e', by simp [he], h2⟩
 rcases key o.after.toList 0 h with h | ⟨e, he, h⟩
 ·simp at h
 ·exact ⟨e, by simpa using he, h⟩
theorem masks_acc : ∀ (os : List Oper) (acc : List Nat), ∃ m, j7 os acc = acc ++ m ∧ ∀ k o, os[k]? = some o → m.getD k 0 = Ur ((acc ++ m).take (acc.length + k)) o
 | [], acc => ⟨[], by simp [j7], fun k o h => by simp at h⟩
 | o :: os, acc => by
  obtain ⟨m, h1, h2⟩ := masks_acc os (acc ++ [Ur acc o])
  refine ⟨Ur acc o :: m, by simp [j7, h1], fun k o' ho => ?_⟩
  cases k with
  | zero =>
   simp at ho; subst ho
   simp
  | succ k =>
   have := h2 k o' (by simpa using ho)
   simp only [List.getD_cons_succ, this]
   congr 1
   simp only [List.length_append, List.length_cons, List.length_nil, List.append_assoc, List.cons_append, List.nil_append]
   congr 1
   omega
theorem masks_at {os : List Oper} {j : Nat} {o : Oper} (h : os[j]? = some o) : (j7 os []).getD j 0 = Ur ((j7 os []).take j) o := by
 obtain ⟨m, h1, h2⟩ := masks_acc os []
 simp only [List.nil_append, List.length_nil, Nat.zero_add] at h1 h2
 rw [h1]; exact h2 j o h
theorem masks_out {os : List Oper} {j : Nat} (h : os[j]? = none) : (j7 os []).getD j 0 = 0 := by
 have hl : ∀ (os : List Oper) (acc : List Nat), (j7 os acc).length = acc.length + os.length := by
  intro os
  induction os with
  | nil => intro acc; simp [j7]
  | cons o os ih => intro acc; simp [j7, ih]; omega
 have := List.getElem?_eq_none_iff.1 h
 rw [List.getD_eq_getElem?_getD, List.getElem?_eq_none (by rw [hl]; simpa using this)]; rfl
def WU (ops : Array Oper) (S : Nat → Bool) : Prop := ∀ j, S j = true → ∀ o, ops[j]? = some o → ∀ e ∈ o.after, Region.binds .any e = true → S e.on = true
theorem before_in {ops : Array Oper} {S : Nat → Bool} (hc : WU ops S) : ∀ (j : Nat), (∀ o, ops[j]? = some o → ∀ e ∈ o.after, Region.binds .any e = true → S e.on = true) →
  ∀ i, ((j7 ops.toList []).getD j 0).testBit i = true → S i = true := by
 intro j
 induction j using Nat.strongRecOn with
 | ind j ih =>
  intro hj i hi
  cases ho : ops[j]? with
  | none => rw [masks_out (by simpa using ho)] at hi; simp at hi
  | some o =>
   rw [masks_at (o := o) (by simpa using ho)] at hi
   obtain ⟨e, he, hb, h⟩ := amask_bit hi
   have hS := hj o ho e he hb
   rcases h with h | h
   ·rw [h]; exact hS
   ·rw [List.getD_eq_getElem?_getD, List.getElem?_take] at h
    split at h
    ·rename_i hlt
     rw [← List.getD_eq_getElem?_getD] at h
     exact ih e.on hlt (fun o' ho' => hc e.on hS o' ho') i h
    ·simp at h
def Qy : List (Nat × zE) → Nat → Option zE
 | [], _ => none
 | (c, k) :: r, b => match Qy r b with
  | some x => some x
  | none => if c = b then some k else none
def za.at (ε : za) (b : Nat) : Option zE :=
 match ε.new with
 | .some (s, k) => if s = b then .some k else Qy ε.ups b
 | .none => Qy ε.ups b
theorem JJ : ∀ (ups : List (Nat × zE)) (H : AH), (Za H ups).length = H.length
 | [], H => rfl
 | (b, k) :: r, H => by simp [Za, JJ r]
theorem Um : ∀ (ups : List (Nat × zE)) (H : AH) (b : Nat), b < H.length → (Za H ups)[b]? = some ((Qy ups b).getD ((H[b]?).getD .dead))
 | [], H, b, hb => by simp [Za, Qy, hb]
 | (c, k) :: r, H, b, hb => by
  rw [Za, Um r (H.set c k) b (by simpa using hb), Qy]
  cases hr : Qy r b with
  | some x => simp
  | none =>
   simp only [Option.getD_none]
   by_cases e : c = b
   ·subst e; simp [hb]
   ·simp [e, List.getElem?_set_ne e]
theorem zbM : ∀ {ups : List (Nat × zE)} {b : Nat}, (∀ p ∈ ups, p.1 ≠ b) → Qy ups b = none
 | [], b, _ => rfl
 | (c, k) :: r, b, h => by
  have h1 := h (c, k) (by simp)
  simp only at h1
  simp [Qy, zbM (ups := r) fun p hp => h p (by simp [hp]), h1]
theorem zdV {ε : za} {b : Nat} (h : ε.at b ≠ none) : b ∈ ε.wr := by
 apply Classical.byContradiction
 intro hb
 apply h
 simp only [za.wr, List.mem_append, List.mem_map, not_or, not_exists, not_and] at hb
 have h1 : Qy ε.ups b = none := zbM fun p hp => hb.1 p hp
 unfold za.at
 split
 ·rename_i s k hn
  split
  ·rename_i e
   exact absurd e (hb.2 (s, k) (by simp [hn]))
  ·exact h1
 ·exact h1
theorem fill_len {ε : za} {H : AH} : (ε.fill H).length = H.length := by
 unfold za.fill; split <;> simp [JJ]
theorem fill_get {ε : za} {H : AH} {b : Nat} (hb : b < H.length) : (ε.fill H)[b]? = some ((ε.at b).getD ((H[b]?).getD .dead)) := by
 unfold za.fill za.at
 cases ε.new with
 | some p =>
  obtain ⟨s, k⟩ := p
  simp only
  by_cases e : s = b
  ·subst e; simp [JJ, hb]
  ·rw [if_neg e, List.getElem?_set_ne e]; exact Um _ _ _ hb
 | none => exact Um _ _ _ hb
theorem foot_get {ε : za} {H H' : AH} (h : Qw ε H H') (b : Nat) : (H'[b]?).getD .dead = (ε.at b).getD ((H[b]?).getD .dead) := by
 rw [h.apply]
 have hout : H.length ≤ b → Qy ε.ups b = none := fun hb => zbM fun p hp => by have := h.ups p hp; omega
 have hs := h.new
 unfold za.apply za.at
 cases hn : ε.new with
 | some p =>
  obtain ⟨s, k⟩ := p
  have hs := hs _ hn
  simp only at hs ⊢
  rcases Nat.lt_trichotomy b H.length with hb | hb | hb
  ·rw [List.getElem?_append_left (by rw [JJ]; exact hb), Um _ _ _ hb, if_neg (by omega)]; rfl
  ·rw [if_pos (by omega), List.getElem?_append_right (by rw [JJ]; omega), JJ, hb]; simp
  ·rw [if_neg (by omega), hout (by omega), List.getElem?_eq_none (by simp [JJ]; omega), List.getElem?_eq_none (by omega)]; rfl
 | none =>
  simp only
  by_cases hb : b < H.length
  ·rw [Um _ _ _ hb]; rfl
  ·rw [hout (by omega), List.getElem?_eq_none (by rw [JJ]; omega), List.getElem?_eq_none (by omega)]; rfl
theorem foot_len {ε : za} {H H' : AH} (h : Qw ε H H') : H.length ≤ H'.length := by
 rw [h.apply]; unfold za.apply; split <;> simp [JJ]
theorem foot_new {ε : za} {H H' : AH} (h : Qw ε H H') {p : Nat × zE} (hp : ε.new = some p) : H'.length = H.length + 1 := by
 rw [h.apply]; unfold za.apply; rw [hp]; simp [JJ]
theorem zw.pad {Γ : Nat → Option (List AV)} {G : Gh} {w : World} {H : AH} (hI : zw Γ G w H) (k : Nat) : zA G w (G ++ List.replicate k none) w ∧ zw Γ (G ++ List.replicate k none) w (H ++ List.replicate k .dead) := by
 have ho : ∀ b, ownr (G ++ List.replicate k none) b = ownr G b := by
  intro b
  unfold ownr
  rw [List.getElem?_append]
  split
  ·rfl
  ·rename_i hb
   rw [List.getElem?_eq_none (by omega : G.length ≤ b), List.getElem?_replicate]
   split <;> rfl
 have e : zA G w (G ++ List.replicate k none) w := ⟨rfl, rfl, rfl, Nat.le_refl _, fun _ _ _ => rfl,
  fun b L h => ⟨L, by rw [ho]; exact h, Nat.le_refl _, rfl, rfl, fun _ => ⟨rfl, rfl⟩, fun _ => rfl, fun _ _ => rfl⟩, fun b L h _ => ⟨L, by rw [← ho]; exact h, rfl, Nat.le_refl _⟩⟩
 refine ⟨e, by simp [hI.len], ?_, ?_, fun g cs hg => (hI.glob g cs hg).mono e⟩
 ·intro b x hx
  rw [List.getElem?_append] at hx
  split at hx
  ·exact (hI.blk b x hx).mono e (ho b) fun _ _ => rfl
  ·rename_i hb
   rw [List.getElem?_replicate] at hx
   split at hx
   ·cases hx
    simp only [jy, ho]
    unfold ownr
    rw [List.getElem?_eq_none (by rw [hI.len]; omega)]; rfl
   ·cases hx
 ·intro b b' L L' h1 h2 h3
  rw [ho] at h1 h2
  exact hI.inj b b' L L' h1 h2 h3
end Go.Arm
