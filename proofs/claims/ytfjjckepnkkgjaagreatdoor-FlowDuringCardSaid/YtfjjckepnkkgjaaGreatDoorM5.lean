/- Part of a proof: what the functions of the program do to abstract states, step by step. -/
import Derived.Test.YtfjjckepnkkgjaaGreatDoorM4
import Derived.Test.YtfjjckepnkkgjaaGreatDoorTie
import Derived.Test.YtfjjckepnkkgjaaGreatDoorCards
import Derived.ProofKit
import Derived.Stop.Joined
import Derived.SevenTiedAt
set_option linter.unusedVariables false
set_option linter.unusedSimpArgs false
namespace Go.Proofs.YtfjjckepnkkgjaaGreatDoor.Arm
open Go.Arm Go.Pl
theorem rPick (p : I) (k : Int) (hp : -2147483648 ≤ p.1 ∧ p.1 ≤ p.2 ∧ p.2 ≤ 2147483648) (hk : 0 ≤ k ∧ k ≤ 4294967295) (H : AH) : Sound E 22 [iv p, .int .u32 k] H (.ret (.int .i64 (pickI p k))) H := by
  refine sound_of_awp tabOk mixed Tryz.func22 rfl (by rfl) Tryz.ntmps22 (by kernel_rfl) (by simp) ?_
  have hin := pickI_in hp.2.1 hk.1
  have w1 : IntKind.i64.wrap k = k := wrap64 (by omega) (by omega)
  have w2 : IntKind.i64.wrap (p.2 - p.1) = p.2 - p.1 := wrap64 (by omega) (by omega)
  have w3 : IntKind.i64.wrap (p.2 - p.1 + 1) = p.2 - p.1 + 1 := wrap64 (by omega) (by omega)
  have h1 := Int.tmod_nonneg (p.2 - p.1 + 1) hk.1
  have h2 := Int.tmod_lt_of_pos k (b := p.2 - p.1 + 1) (by omega)
  have w4 : IntKind.i64.wrap (k.tmod (p.2 - p.1 + 1)) = k.tmod (p.2 - p.1 + 1) := wrap64 (by omega) (by omega)
  have w5 : IntKind.i64.wrap (p.1 + k.tmod (p.2 - p.1 + 1)) = pickI p k := by rw [wrap64 (by omega) (by omega)]; rfl
  have hne : ¬ p.2 - p.1 + 1 = 0 := by omega
  simp [w1, w2, w3, hne, w4, w5]
  refine endD [] (by rfl) (by simp [okW, note, Eff.triv, Eff.wr, Eff.none, upTo, newAt]) ?_
  simp
  exact fin1 (rs := [.tmp 4]) (by rfl) (by simp [resA]) (by simp [noF])
theorem r14Control (o : Int) (ho : 0 ≤ o ∧ o ≤ 255) (H : AH) : Sound E 48 [.int .u8 o] H (.ret (ctA ⟨1 + o.tmod 3, 4096, 1024, 16384, 16777216⟩)) H := by
  refine sound_of_awp tabOk mixed Tryz.func48 rfl (by rfl) Tryz.ntmps48 (by kernel_rfl) (by simp) ?_
  have h1 := Int.tmod_nonneg 3 ho.1
  have h2 := Int.tmod_lt_of_pos o (b := 3) (by decide)
  have w0 : IntKind.u8.wrap (o.tmod 3) = o.tmod 3 := wrap8 (by omega) (by omega)
  have w1 : IntKind.i64.wrap (o.tmod 3) = o.tmod 3 := wrap64 (by omega) (by omega)
  have w2 : IntKind.i64.wrap (1 + o.tmod 3) = 1 + o.tmod 3 := wrap64 (by omega) (by omega)
  simp [w0, w1, w2]
  exact fin1 (rs := [.cell 2 32]) (by rfl) (by simp [resA, ctA]) (by simp [noF, noFs, ctA])
def ctS (o : Int) : Ct := ⟨1 + o.tmod 3, 4096, 1024, 16384, 16777216⟩
theorem nbox_eq (b : List I) (n : Nat) : nbox b n = nrb b 200000 n := by
  unfold nbox nrb atN nearP nearI; rfl
def LNb (l : List I) (n : Nat) (H : AH) (i : Nat) (fr : AFr) (H' : AH) : Prop :=
  fr 0 = bx l ∧ fr 1 = .int .i64 n ∧ fr 6 = .int .i64 i ∧ i ≤ n ∧ ∃ J, H' = H ++ J ∧ Acc H J (fr 5) 2 ((nrb l 200000 i).map iv) (.slice [] true)
theorem r14Box (l : List I) (n : Nat) (hn : n ≤ 1000000) (hl : l.length ≤ 200000000000000) (H : AH) : Sound E 69 [bx l, .int .i64 n] H (.ret (bx (nbox l n))) H := by
  rw [nbox_eq]
  refine sound_of_awp tabOk mixed Tryz.func69 rfl (by rfl) Tryz.ntmps69 (by kernel_rfl) (by simp) ?_
  have hw : (1 : Int) ≤ 200000 ∧ (200000 : Int) ≤ 1000000 := by decide
  simp [bx]
  refine loop_count (LNb l n H) (fun i => n - i) 0 ⟨by simp [bx], by simp, by simp, by omega, [], by simp, .inl ⟨by simp [nrb], by simp⟩⟩ ?_
  rintro i fr H' ⟨g0, g1, g8, hi, J, rfl, hacc⟩
  simp [g1, g8]
  refine branch (fun hc => ?_) (fun hc => ?_)
  · have hlt : i < n := by simpa using hc
    have w2 : IntKind.i64.wrap ((i : Int) + 1) = ((i + 1 : Nat) : Int) := by rw [wrap64 (by omega) (by omega)]; omega
    simp [g0, g8, bx]
    refine branch (fun hc2 => ?_) (fun hc2 => ?_)
    · have hlt2 : i < l.length := by simpa using hc2
      obtain ⟨p, hp⟩ := get_lt hlt2
      have hpE : ∀ h, l[i]'h = p := fun h => (List.getElem?_eq_some_iff.1 hp).2
      simp [g0, g8, bx, hp, hpE]
      refine call_ret (rNear p 200000 hw _) ?_
      simp
      obtain ⟨v', J', hap, hacc', _⟩ := pushIv (p := nearI p 200000) (hacc.len (L := [.row true 2 [iv p]])) rfl (by rw [nrb_len]; omega)
      refine bind_some (by simpa [iv] using hap) ?_
      simp [g8, w2]
      exact ⟨i + 1, by show n - (i + 1) < n - i; omega, by simp [g0, bx], by simp [g1], by simp, by omega, J', rfl, by rw [nrb_succ]; simpa [hp] using hacc'⟩
    · have hlt2 : l[i]? = none := by
        have : ¬ i < l.length := by simpa using hc2
        rw [List.getElem?_eq_none_iff]; omega
      simp
      refine call_ret (rNear (0, 0) 200000 hw _) ?_
      simp
      obtain ⟨v', J', hap, hacc', _⟩ := pushIv (p := nearI (0, 0) 200000) (hacc.len (L := [.row true 2 [iv (0, 0)]])) rfl (by rw [nrb_len]; omega)
      refine bind_some (by simpa [iv] using hap) ?_
      simp [g8, w2]
      exact ⟨i + 1, by show n - (i + 1) < n - i; omega, by simp [g0, bx], by simp [g1], by simp, by omega, J', rfl, by rw [nrb_succ]; simpa [hlt2] using hacc'⟩
  · have hi' : i = n := by
      have : ¬ i < n := by simpa using hc
      omega
    subst hi'
    simp
    exact finS (t := 4) (by rfl) (by simp) hacc rfl (iv_noFs _ _)
theorem partB_take {b pick : List I} {i : Nat} (h : i < b.length) : (partB b pick).take (i + 1) = (partB b pick).take i ++ [partI (atN b i) (atN pick i)] := by
  rw [List.take_add_one]
  congr 1
  simp [partB, h]
def LPa (b pick : List I) (H : AH) (i : Nat) (fr : AFr) (H' : AH) : Prop :=
  fr 0 = bx b ∧ fr 1 = bx pick ∧ fr 6 = .int .i64 i ∧ i ≤ b.length ∧ ∃ J, H' = H ++ J ∧ Acc H J (fr 5) 2 (((partB b pick).take i).map iv) (.slice [] true)
theorem r14Part (b pick : List I) (hb : ∀ p ∈ b, -2147483648 ≤ p.1 ∧ p.1 ≤ p.2 ∧ p.2 ≤ 2147483648) (hl : b.length ≤ 1000000) (hp : pick.length ≤ 200000000000000) (H : AH) : Sound E 70 [bx b, bx pick] H (.ret (bx (partB b pick))) H := by
  refine sound_of_awp tabOk mixed Tryz.func70 rfl (by rfl) Tryz.ntmps70 (by kernel_rfl) (by simp) ?_
  simp [bx]
  refine loop_count (LPa b pick H) (fun i => b.length - i) 0 ⟨by simp [bx], by simp [bx], by simp, by omega, [], by simp, .inl ⟨by simp, by simp⟩⟩ ?_
  rintro i fr H' ⟨g0, g1, g6, hi, J, rfl, hacc⟩
  simp [g0, g6, bx]
  refine branch (fun hc => ?_) (fun hc => ?_)
  · have hlt : i < b.length := by simpa using hc
    obtain ⟨p, hp0⟩ := get_lt hlt
    have hpE : ∀ h, b[i]'h = p := fun h => (List.getElem?_eq_some_iff.1 hp0).2
    have hpb := hb p (List.mem_of_getElem? hp0)
    have w2 : IntKind.i64.wrap ((i : Int) + 1) = ((i + 1 : Nat) : Int) := by rw [wrap64 (by omega) (by omega)]; omega
    have wu : ∀ x : Int, IntKind.u32.wrap x = u32 x := fun x => by simp only [IntKind.wrap, IntKind.bits, IntKind.signed]; simp; rfl
    have hPk := fun k (hk : 0 ≤ k ∧ k ≤ 4294967295) Hx => rPick p k hpb hk Hx
    have hat : atN b i = p := by simp [atN, hp0]
    have hlt3 : ((partB b pick).take i).length ≤ 1000000000 := by rw [List.length_take]; omega
    simp [g1, g6, bx]
    refine branch (fun hc2 => ?_) (fun hc2 => ?_)
    · have hlt2 : i < pick.length := by simpa using hc2
      obtain ⟨x, hx⟩ := get_lt hlt2
      have hxE : ∀ h, pick[i]'h = x := fun h => (List.getElem?_eq_some_iff.1 hx).2
      have hatx : atN pick i = x := by simp [atN, hx]
      simp [g0, g1, g6, bx, hx, hxE, hp0, hpE, wu]
      refine callD_ret0 (fun Hx => by simpa using hPk _ (u32_b x.1) Hx) ?_
      simp [g0, g6, bx, hp0, hpE, wu]
      refine callD_ret0 (fun Hx => by simpa using hPk _ (u32_b x.2) Hx) ?_
      simp
      refine endD [] (by rfl) (by simp [okW, note, Eff.triv, Eff.wr, Eff.none, upTo, newAt]) ?_
      simp
      have m1 : (if pickI p (u32 x.2) < pickI p (u32 x.1) then pickI p (u32 x.2) else pickI p (u32 x.1)) = (partI p x).1 := by show _ = min _ _; split <;> omega
      have m2 : (if pickI p (u32 x.1) < pickI p (u32 x.2) then pickI p (u32 x.2) else pickI p (u32 x.1)) = (partI p x).2 := by show _ = max _ _; split <;> omega
      rw [m1, m2]
      obtain ⟨v', J', hap, hacc', _⟩ := pushIv (p := partI p x) (hacc.len (L := [.row true 2 [iv x]])) rfl hlt3
      refine bind_some (by simpa [iv] using hap) ?_
      simp [g6, w2]
      exact ⟨i + 1, by show b.length - (i + 1) < b.length - i; omega, by simp [g0, bx], by simp [g1, bx], by simp, by omega, J', rfl, by rw [partB_take hlt, hat, hatx]; simpa using hacc'⟩
    · have hx : pick[i]? = none := by
        have : ¬ i < pick.length := by simpa using hc2
        rw [List.getElem?_eq_none_iff]; omega
      have hatx : atN pick i = (0, 0) := by simp [atN, hx]
      have hu0 := u32_b 0
      simp [g0, g1, g6, bx, hp0, hpE, wu]
      refine callD_ret0 (fun Hx => by simpa using hPk _ (u32_b 0) Hx) ?_
      simp [g0, g6, bx, hp0, hpE, wu]
      refine callD_ret0 (fun Hx => by simpa using hPk _ (u32_b 0) Hx) ?_
      simp
      refine endD [] (by rfl) (by simp [okW, note, Eff.triv, Eff.wr, Eff.none, upTo, newAt]) ?_
      simp
      have m1 : pickI p (u32 0) = (partI p (0, 0)).1 := (Int.min_self _).symm
      have m2 : pickI p (u32 0) = (partI p (0, 0)).2 := (Int.max_self _).symm
      have hiv : iv (partI p (0, 0)) = .agg [.int .i64 (pickI p (u32 0)), .int .i64 (pickI p (u32 0))] := by show AV.agg [.int .i64 (partI p (0, 0)).1, .int .i64 (partI p (0, 0)).2] = _; rw [← m1, ← m2]
      obtain ⟨v', J', hap, hacc', _⟩ := pushIv (p := partI p (0, 0)) (hacc.len (L := [.row true 2 [iv (0, 0)]])) rfl hlt3
      rw [hiv] at hap
      refine bind_some (by simpa [iv] using hap) ?_
      simp [g6, w2]
      exact ⟨i + 1, by show b.length - (i + 1) < b.length - i; omega, by simp [g0, bx], by simp [g1, bx], by simp, by omega, J', rfl, by rw [partB_take hlt, hat, hatx]; simpa using hacc'⟩
  · have hi' : i = b.length := by
      have : ¬ i < b.length := by simpa using hc
      omega
    subst hi'
    rw [List.take_of_length_le (by rw [partB_len]; exact Nat.le_refl _)] at hacc
    simp
    exact finS (t := 4) (by rfl) (by simp) hacc rfl (iv_noFs _ _)
end Go.Proofs.YtfjjckepnkkgjaaGreatDoor.Arm

namespace Go.Proofs.YtfjjckepnkkgjaaGreatDoor.Arm
open Go.Arm Go.Pl
theorem app_sg0 {H : AH} {s : Sg} {f : Bool} : appendA tab H 37 (.slice [] true) (.slice [sgA s] f) = some (.ref H.length 1, H ++ [.row true 6 [sgA s]]) := by
  have h2 : appendA tab H 37 (.slice [] true) (.slice [sgA s] f) = growA i47 H (.slice [] true) [sgA s] := by
    simp only [appendA, tab37, tab47, els]
    rfl
  rw [h2]
  rfl
theorem app_sg {H : AH} {s : Sg} {l : List AV} {b n : Nat} {f : Bool} (hn : l.length = n) (hnb : n ≤ 1000000000) (hH : H[b]? = some (.row true 6 l)) :
    appendA tab H 37 (.ref b n) (.slice [sgA s] f) = some (.ref b (n + 1), H.set b (.row true 6 (l ++ [sgA s]))) :=
  app_row tab37 rfl tab47 rfl (by decide) (by simp [sgA, bx, okc]) (by simp [sgA]) (by decide) hn hnb hH
def cntS (l : List Sg) (most : Nat) : Nat := max 1 (min l.length most)
def LMd (l : List Sg) (n most : Nat) (H : AH) (i : Nat) (fr : AFr) (H' : AH) : Prop :=
  fr 0 = sgL l ∧ fr 1 = .int .i64 n ∧ fr 2 = .int .i64 most ∧ fr 8 = .int .i64 (mdG l n i).2 ∧ fr 9 = .int .i64 i ∧ i ≤ cntS l most ∧ ∃ J, H' = H ++ J ∧ Acc H J (fr 7) 6 (((mdG l n i).1).map sgA) (.slice [] true)
theorem r14Made (l : List Sg) (n most : Nat) (hn : n ≤ 1000) (hm : most ≤ 1000) (hl : l.length ≤ 200000000000000) (hs : ∀ s ∈ l, s.frm.length ≤ 200000000000000 ∧ s.tube.length ≤ 200000000000000 ∧ s.to.length ≤ 200000000000000) (H : AH) :
    Sound E 29 [sgL l, .int .i64 n, .int .i64 most] H (.ret (sgL (mdF l n most))) H := by
  refine sound_of_awp tabOk mixed Tryz.func29 rfl (by rfl) Tryz.ntmps29 (by kernel_rfl) (by simp) ?_
  have hc1 : 1 ≤ cntS l most ∧ cntS l most ≤ 1000 := by unfold cntS; omega
  have hcnt : (if (1 : Int) < (if most < l.length then (most : Int) else (l.length : Int)) then (if most < l.length then (most : Int) else (l.length : Int)) else 1) = (cntS l most : Int) := by
    unfold cntS; split <;> split <;> omega
  have hmH : ∀ x : Int, IntKind.i64.wrap (1 + (IntKind.i64.wrap (x.tmod 65536 + 65536)).tmod 65536) = mdH x := fun x => by
    obtain ⟨a, b⟩ := tmod_bounds x (b := 65536) (by decide)
    have h0 : -65536 < x.tmod 65536 ∧ x.tmod 65536 < 65536 := by
      by_cases hh : 0 ≤ x
      · have := a hh; omega
      · have := b (by omega); omega
    have h1 := Int.tmod_nonneg 65536 (show 0 ≤ x.tmod 65536 + 65536 by omega)
    have h2 := Int.tmod_lt_of_pos (x.tmod 65536 + 65536) (b := 65536) (by decide)
    rw [wrap64 (n := x.tmod 65536 + 65536) (by omega) (by omega), wrap64 (by omega) (by omega)]
    rfl
  have w0 : IntKind.i64.wrap ((sgAt l 0).t.tmod 1048576) = (sgAt l 0).t.tmod 1048576 := by
    obtain ⟨a, b⟩ := tmod_bounds (sgAt l 0).t (b := 1048576) (by decide)
    by_cases hh : 0 ≤ (sgAt l 0).t
    · have := a hh; exact wrap64 (by omega) (by omega)
    · have := b (by omega); exact wrap64 (by omega) (by omega)
  have wr1 : IntKind.i64.wrap 1 = 1 := wrap64 (by decide) (by decide)
  have hnb : ∀ b : List I, ∀ p ∈ nbox b n, -2147483648 ≤ p.1 ∧ p.1 ≤ p.2 ∧ p.2 ≤ 2147483648 := fun b p hp => by
    obtain ⟨k, _, rfl⟩ := List.mem_map.1 hp
    have := nearP_b (atN b k)
    omega
  have hN := fun b (hb : b.length ≤ 200000000000000) Hx => r14Box b n (by omega) hb Hx
  have hN0 := fun Hx => (r14Box [] n (by omega) (by simp) Hx).weaken (args := [.nilslice, .int .i64 n]) ⟨by simp only [bx, List.map_nil]; exact Wk.nil, Wk.refl _, trivial⟩
  have hP := fun b pk (hpk : pk.length ≤ 200000000000000) Hx => r14Part (nbox b n) pk (hnb b) (by rw [nbox_len]; omega) hpk Hx
  have hP0 := fun b Hx => (r14Part (nbox b n) [] (hnb b) (by rw [nbox_len]; omega) (by simp) Hx).weaken (args := [bx (nbox b n), .nilslice]) ⟨Wk.refl _, by simp only [bx, List.map_nil]; exact Wk.nil, trivial⟩
  simp only [bx] at hN hN0 hP hP0
  simp [sgL]
  refine branch (fun hp => ?_) (fun hp => ?_)
  · have hpos : 0 < l.length := by simpa using hp
    obtain ⟨a, h0⟩ : ∃ a, l[0]? = some a := ⟨l[0], by simp⟩
    have h0E : ∀ h, l[0]'h = a := fun h => (List.getElem?_eq_some_iff.1 h0).2
    have hsa : sgAt l 0 = a := by simp [sgAt, h0]
    rw [hsa] at w0
    have ht0 : mdT0 l = a.t.tmod 1048576 := by unfold mdT0; rw [if_pos hpos, hsa]
    simp [h0, h0E, hpos, sgA, bx, w0]
    refine loop_count (LMd l n most H) (fun i => cntS l most - i) 0 ⟨by simp [sgL], by simp, by simp, by simp [mdG, ht0], by simp, by omega, [], by simp, .inl ⟨by simp [mdG], by simp⟩⟩ ?_
    clear h0 h0E hsa w0 ht0 a hp
    rintro i fr H' ⟨g0, g1, g2, g8, g9, hi, J, rfl, hacc⟩
    have ht := mdG_t l n i
    have htb := mdT0_b l
    have hgl := mdG_len l n i
    have w2 : IntKind.i64.wrap ((i : Int) + 1) = ((i + 1 : Nat) : Int) := by rw [wrap64 (by omega) (by omega)]; omega
    simp [g0, g2, g9, sgL, hcnt]
    refine branch (fun hc => ?_) (fun hc => ?_)
    · have hlt : i < cntS l most := by simpa using hc
      have hmd := mdH_b (sgAt l i).h
      have wt : IntKind.i64.wrap ((mdG l n i).2 + mdH (sgAt l i).h) = (mdG l n i).2 + mdH (sgAt l i).h := wrap64 (by omega) (by omega)
      simp [g0, g9, sgL]
      refine branch (fun hc2 => ?_) (fun hc2 => ?_)
      · have hlt2 : i < l.length := by simpa using hc2
        obtain ⟨s, hs0⟩ := get_lt hlt2
        have hsE : ∀ h, l[i]'h = s := fun h => (List.getElem?_eq_some_iff.1 hs0).2
        have hsa : sgAt l i = s := by simp [sgAt, hs0]
        obtain ⟨hb1, hb2, hb3⟩ := hs s (List.mem_of_getElem? hs0)
        rw [hsa] at hmd wt
        rcases hacc with ⟨h0, hv⟩ | ⟨kk, hv, hJk⟩
        · have hi0 : i = 0 := by have := congrArg List.length h0; simpa [hgl] using this
          subst hi0
          simp [g0, g1, g9, sgL, hs0, hsE, sgA, bx, hmH]
          refine call_ret (by simpa using hN s.tube hb2 _) ?_
          simp [g8, hv]
          refine callD_ret0 (fun Hx => by simpa using hP s.tube s.frm hb1 Hx) ?_
          simp
          refine callD_ret0 (fun Hx => by simpa using hP s.tube s.to hb3 Hx) ?_
          simp [hmH]
          refine bind_some (by simpa [sgA, bx, mdSeg] using app_sg0 (s := mdSeg s n (mdG l n 0).2)) ?_
          simp
          refine endD [] (by rfl) (by simp [okW, note, Eff.triv, Eff.wr, Eff.none, upTo, newAt]) ?_
          simp [g8, g9, wt, wr1]
          exact ⟨1, by show cntS l most - 1 < cntS l most - 0; omega, by simp [g0, sgL], by simp [g1], by simp [g2], by simp [mdG, hsa], by simp, by omega, J ++ [.row true 6 [sgA s], .row true 6 [sgA (mdSeg s n (mdG l n 0).2)]], by simp [sgA, bx, mdSeg], .inr ⟨J.length + 1, by simp [mdG], by simp [mdG, hsa]⟩⟩
        · simp only [List.length_map, hgl] at hv
          have hJ2 := old hJk
          have hkl := (List.getElem?_eq_some_iff.1 hJk).1
          simp [g0, g1, g9, sgL, hs0, hsE, sgA, bx, hmH]
          refine call_ret (by simpa using hN s.tube hb2 _) ?_
          simp [g8, hv]
          refine callD_ret0 (fun Hx => by simpa using hP s.tube s.frm hb1 Hx) ?_
          simp
          refine callD_ret0 (fun Hx => by simpa using hP s.tube s.to hb3 Hx) ?_
          simp [hmH]
          refine bind_some (by simpa [sgA, bx, mdSeg] using app_sg (s := mdSeg s n (mdG l n i).2) (l := (mdG l n i).1.map sgA) (b := H.length + kk) (by simp [hgl]) (by omega) (by simpa using hJ2 _)) ?_
          simp
          refine endD [] (by rfl) (by simp [okW, note, Eff.triv, Eff.wr, Eff.none, upTo, newAt]; omega) ?_
          simp [g8, g9, w2, wt]
          exact ⟨i + 1, by show cntS l most - (i + 1) < cntS l most - i; omega, by simp [g0, sgL], by simp [g1], by simp [g2], by simp [mdG, hsa], by simp, by omega, (J ++ [ABlk.row true 6 [sgA s]]).set kk (.row true 6 ((mdG l n (i + 1)).1.map sgA)), by simp [mdG, hsa, sgA, bx, mdSeg], .inr ⟨kk, by simp [mdG, hgl], by rw [List.getElem?_set_self (by simp; omega)]⟩⟩
      · exfalso
        have : ¬ i < l.length := by simpa using hc2
        unfold cntS at hlt
        omega
    · have hi' : i = cntS l most := by
        have : ¬ i < cntS l most := by simpa using hc
        omega
      subst hi'
      simp
      exact finS (t := 6) (by rfl) (by simp) hacc rfl (sgs_noFs _ _)
  · have hl0 : l = [] := by
      have : ¬ 0 < l.length := by simpa using hp
      exact List.length_eq_zero_iff.1 (by omega)
    subst hl0
    have hct : cntS [] most = 1 := by unfold cntS; simp
    have hz := hmH 0
    have w5 : IntKind.i64.wrap 65536 = 65536 := wrap64 (by decide) (by decide)
    have e0 : mdH 0 = 1 := by decide
    have hlt0 : ¬ (most : Int) < 0 := by omega
    clear hcnt
    have hif : (if (1 : Int) < (if (most : Int) < 0 then (most : Int) else 0) then (if (most : Int) < 0 then (most : Int) else 0) else 1) = 1 := by rw [if_neg hlt0]; rfl
    simp
    refine loop_count (fun i fr H' => LMd [] n most H i fr H' ∧ (i = 0 → fr 7 = .slice [] true)) (fun i => cntS [] most - i) 0 ⟨⟨by simp [sgL], by simp, by simp, by simp [mdG, mdT0], by simp, by omega, [], by simp, .inl ⟨by simp [mdG], by simp⟩⟩, fun _ => by simp⟩ ?_
    rintro i fr H' ⟨⟨g0, g1, g2, g8, g9, hi, J, rfl, hacc⟩, hz7⟩
    have hgl := mdG_len [] n i
    rw [hct] at hi
    simp [g0, g2, g9, sgL]
    rw [hif]
    refine branch (fun hc => ?_) (fun hc => ?_)
    · have hi0 : i = 0 := by
        have : (i : Int) < 1 := by simpa using hc
        omega
      subst hi0
      rcases hacc with ⟨h0, hv⟩ | ⟨kk, hv, hJk⟩
      · simp [g0, g1, g9, sgL]
        refine call_ret (by simpa using hN0 _) ?_
        simp [g8, hv]
        refine callD_ret0 (fun Hx => by simpa using hP0 [] Hx) ?_
        simp
        refine callD_ret0 (fun Hx => by simpa using hP0 [] Hx) ?_
        simp [w5, wr1]
        refine bind_some (by simpa [sgA, bx, mdSeg, zeroSg, e0] using app_sg0 (s := mdSeg zeroSg n (mdG [] n 0).2)) ?_
        simp
        refine endD [] (by rfl) (by simp [okW, note, Eff.triv, Eff.wr, Eff.none, upTo, newAt]) ?_
        simp [g8, g9, wr1, mdG, mdT0]
        exact ⟨1, by show cntS [] most - 1 < cntS [] most - 0; omega, ⟨by simp [g0, sgL], by simp [g1], by simp [g2], by simp [mdG, mdT0, sgAt, zeroSg, e0], by simp, by omega, J ++ [.row true 6 [zsA], .row true 6 [sgA (mdSeg zeroSg n (mdG [] n 0).2)]], by simp [sgA, bx, mdSeg, zsA, zeroSg, e0, mdG, mdT0], .inr ⟨J.length + 1, by simp [mdG], by simp [mdG, sgAt]⟩⟩, fun h => by omega⟩
      · exfalso
        rw [hz7 rfl] at hv
        cases hv
    · have hi' : i = cntS [] most := by
        have : ¬ (i : Int) < 1 := by simpa using hc
        omega
      subst hi'
      simp
      exact finS (t := 6) (by rfl) (by simp) hacc rfl (sgs_noFs _ _)
end Go.Proofs.YtfjjckepnkkgjaaGreatDoor.Arm

namespace Go.Proofs.YtfjjckepnkkgjaaGreatDoor.Arm
open Go.Arm Go.Pl
theorem finC0 {E : Env} {fr : AFr} {fn : Func} {rs : List ResultVar} {H0 : AH} {vs vs' : List AV} {v : AV} {e : AExit} (hr : fn.results.toList = rs) (h : resA E fr H0 rs = some vs) (hc : convL H0 vs = (vs', H0)) (hv : noFs H0.length vs' = true) (ho : one vs' = v)
    (hx : e = .ret ∨ e = .normal := by simp) : bodyK E fn H0 (.ret v) H0 e fr H0 := by
  have := finC (J := []) (J' := []) hr (by rw [List.append_nil]; exact h) (by rw [List.append_nil]; exact hc) hv ho hx
  rwa [List.append_nil] at this
theorem lPoint (n : Int) (hn : -1000 ≤ n ∧ n ≤ 1000) (H : AH) : Sound E 46 [.int .i64 n] H (.ret (bx [(n * 65536, n * 65536)])) H := by
  refine sound_of_awp tabOk mixed Tryz.func46 rfl (by rfl) Tryz.ntmps46 (by kernel_rfl) (by simp) ?_
  have w1 : IntKind.i64.wrap (n * 65536) = n * 65536 := wrap64 (by omega) (by omega)
  have e : pt (n * 65536) = (n * 65536, n * 65536) := pt_num (by omega)
  have hP := rPoint (n * 65536)
  rw [e] at hP
  simp [w1]
  refine call_ret (hP _) ?_
  simp
  exact finC0 (rs := [.tmp 2]) (vs := [.slice [iv (n * 65536, n * 65536)] true]) (vs' := [bx [(n * 65536, n * 65536)]]) (by rfl) (by simp [resA]) (by simp [bx]) (by simp [noFs, noF, bx]) rfl
theorem lSpan (m n : Int) (hm : -1000 ≤ m ∧ m ≤ 1000) (hn : -1000 ≤ n ∧ n ≤ 1000) (H : AH) : Sound E 47 [.int .i64 m, .int .i64 n] H (.ret (bx [(m * 65536, n * 65536)])) H := by
  refine sound_of_awp tabOk mixed Tryz.func47 rfl (by rfl) Tryz.ntmps47 (by kernel_rfl) (by simp) ?_
  have w1 : IntKind.i64.wrap (n * 65536) = n * 65536 := wrap64 (by omega) (by omega)
  have w2 : IntKind.i64.wrap (m * 65536) = m * 65536 := wrap64 (by omega) (by omega)
  simp [w1, w2]
  exact finC0 (rs := [.tmp 4]) (vs := [.slice [iv (m * 65536, n * 65536)] true]) (vs' := [bx [(m * 65536, n * 65536)]]) (by rfl) (by simp [resA]) (by simp [bx]) (by simp [noFs, noF, bx]) rfl
theorem lNum (x : Int) (hx : -2147483648 < x ∧ x < 2147483648) (H : AH) : Sound E 27 [.int .i64 x] H (.ret (insA ⟨1, 0, 0, (x, x)⟩)) H := by
  refine sound_of_awp tabOk mixed Tryz.func27 rfl (by rfl) Tryz.ntmps27 (by kernel_rfl) (by simp) ?_
  have hP := rPoint x
  rw [pt_num hx] at hP
  simp
  refine call_ret (hP _) ?_
  simp
  exact fin1 (rs := [.cell 2 63]) (by rfl) (by simp [resA, insA]) (by simp [noF, noFs, insA])
theorem lSteady (x : Int) (hx : -2147483648 < x ∧ x < 2147483648) (H : AH) : Sound E 21 [.int .i64 x] H (.ret (tpA ⟨1, [⟨1, 0, 0, (x, x)⟩], [0]⟩)) H := by
  refine sound_of_awp tabOk mixed Tryz.func21 rfl (by rfl) Tryz.ntmps21 (by kernel_rfl) (by simp) ?_
  simp
  refine call_ret (lNum x hx _) ?_
  simp [insA]
  exact finC (rs := [.cell 2 25]) (vs := [.agg [.int .i64 1, .slice [insA ⟨1, 0, 0, (x, x)⟩] true, .slice [.int .i64 0] true]]) (vs' := [tpA ⟨1, [⟨1, 0, 0, (x, x)⟩], [0]⟩]) (J' := _) (by rfl) (by simp [resA, insA]) (by simp [tpA, insA, outA]; rfl) (by simp [noFs, noF, tpA, insA, outA]) rfl
def itA (id : Int) (s : Sg) : AV := .agg [.int .i64 id, .int .i64 s.t, .int .i64 (s.t + s.h), bx s.tube]
def itZ : AV := .agg [.int .i64 0, .int .i64 0, .int .i64 0, .nilslice]
def padT (id : Int) (l : List Sg) (i : Nat) : List AV := (l.take i).map (itA id) ++ List.replicate (l.length - i) itZ
theorem padT_len (id : Int) (l : List Sg) (i : Nat) (h : i ≤ l.length) : (padT id l i).length = l.length := by simp [padT]; omega
theorem padT_set {id : Int} {l : List Sg} {i : Nat} {s : Sg} (h : l[i]? = some s) : (padT id l i).set i (itA id s) = padT id l (i + 1) := by
  have hlt := (List.getElem?_eq_some_iff.1 h).1
  unfold padT
  have e : List.replicate (l.length - i) itZ = itZ :: List.replicate (l.length - (i + 1)) itZ := by
    rw [show l.length - i = (l.length - (i + 1)) + 1 by omega, List.replicate_succ]
  rw [e, List.take_add_one, h, List.set_append_right _ _ (by simp; omega)]
  simp [Nat.min_eq_left (Nat.le_of_lt hlt)]
theorem padT_get {id : Int} {l : List Sg} {i : Nat} (h : i < l.length) : (padT id l i)[i]? = some itZ := by
  unfold padT
  rw [List.getElem?_append_right (by simp; omega), List.getElem?_replicate, if_pos (by simp; omega)]
def LIt (id : Int) (l : List Sg) (H : AH) (i : Nat) (fr : AFr) (H' : AH) : Prop :=
  fr 0 = .int .i64 id ∧ fr 5 = .ref H.length l.length ∧ fr 11 = sgL l ∧ fr 12 = .int .i64 l.length ∧ fr 13 = .int .i64 i ∧ i ≤ l.length ∧ ∃ J, H' = H ++ (.row true 4 (padT id l i) :: J)
theorem wItems (id : Int) (l : List Sg) (hl : l.length ≤ 1000000) (hb : ∀ s ∈ l, -1000000000 ≤ s.t ∧ s.t ≤ 1000000000 ∧ 0 ≤ s.h ∧ s.h ≤ 1000000000) (H : AH) : Sound E 35 [.int .i64 id, sgL l] H (.ret (.slice (l.map (itA id)) false)) H := by
  refine sound_of_awp tabOk mixed Tryz.func35 rfl (by rfl) Tryz.ntmps35 (by kernel_rfl) (by simp) ?_
  simp [sgL]
  refine bind_if (by omega) ?_
  simp
  refine loop_count (LIt id l H) (fun i => l.length - i) 0 ⟨by simp, by simp, by simp [sgL], by simp, by simp, by omega, [], by simp [padT, itZ]⟩ ?_
  rintro i fr H' ⟨g0, g5, g11, g12, g13, hi, J, rfl⟩
  simp [g12, g13]
  refine branch (fun hc => ?_) (fun hc => ?_)
  · have hlt : i < l.length := by simpa using hc
    obtain ⟨s, hs⟩ := get_lt hlt
    have hsE : ∀ h, l[i]'h = s := fun h => (List.getElem?_eq_some_iff.1 hs).2
    have hsb := hb s (List.mem_of_getElem? hs)
    have w2 : IntKind.i64.wrap ((i : Int) + 1) = ((i + 1 : Nat) : Int) := by rw [wrap64 (by omega) (by omega)]; omega
    have w3 : IntKind.i64.wrap (s.t + s.h) = s.t + s.h := wrap64 (by omega) (by omega)
    have emk : mk s.t (s.t + s.h) = (s.t, s.t + s.h) := by unfold mk numB; rw [if_pos (by simp; omega)]
    have hN := fun Hx => iNew s.t (s.t + s.h) Hx
    rw [emk] at hN
    have hset := padT_set (id := id) hs
    have hget := padT_get (id := id) hlt
    have hWl := padT_len id l i hi
    generalize padT id l i = W at *
    have hgE : ∀ h, W[i]'h = itZ := fun h => (List.getElem?_eq_some_iff.1 hget).2
    simp [g0, g5, g11, g13, sgL, hs, hsE, sgA, bx, w3]
    refine callD_ret0 (fun Hx => hN Hx) ?_
    simp [g5, hWl, hlt, hget, hgE, itZ]
    refine endD [(14, 15)] (by rfl) (by simp [okW, note, Eff.triv, Eff.wr, Eff.none, upTo, newAt]) ?_
    simp [g13, w2]
    exact ⟨i + 1, by show l.length - (i + 1) < l.length - i; omega, by simp [g0], by simp [g5], by simp [g11, sgL], by simp [g12], by simp, by omega, _, by rw [← hset]; simp [itA, bx]; rfl⟩
  · have hi' : i = l.length := by
      have : ¬ i < l.length := by simpa using hc
      omega
    subst hi'
    have e : padT id l l.length = l.map (itA id) := by simp [padT]
    rw [e]
    simp
    exact finS (t := 4) (v := .ref (H.length + 0) l.length) (v0 := .nilslice) (sz := 4) (xs := l.map (itA id)) (by rfl) (by simp [g5]) (.inr ⟨0, by simp, by simp⟩) rfl (noFs_iff.2 fun x hx => by obtain ⟨y, _, rfl⟩ := List.mem_map.1 hx; simp only [itA, bx, noF, noFs, iv_noFs, Bool.and_self])
end Go.Proofs.YtfjjckepnkkgjaaGreatDoor.Arm

namespace Go.Proofs.YtfjjckepnkkgjaaGreatDoor.Arm
open Go.Arm Go.Pl
def exL : List Sg := [⟨0, 65536, [(0, 0)], [(0, 65536)], [(0, 65536)], [(65536, 65536)]⟩, ⟨65536, 65536, [(65536, 65536)], [(65536, 131072)], [(65536, 131072)], [(131072, 131072)]⟩, ⟨131072, 65536, [(131072, 131072)], [(131072, 196608)], [(131072, 196608)], [(196608, 196608)]⟩]
def exT : Tp := ⟨1, [⟨1, 0, 0, (65536, 65536)⟩], [0]⟩
def exS : Sg := ⟨0, 3000, [(0, 0)], [(0, 3000)], [(0, 3000)], [(3000, 3000)]⟩
theorem exInt : intS exT (ctS 0) 3000 256 [(0, 0)] 0 3000 = .ok [exS] := by
  have ha : advS exT [(0, 0)] ⟨ctS 0, 0, 3000, 3000⟩ = some exS := by kernel_rfl
  rw [intS_some (n := 255) (by decide) ha, intS_end (by decide)]
  rfl
theorem exT_ok : tpOk exT := by
  refine ⟨fun i x hx => ?_, rfl, fun k hk => ?_, by simp [exT]⟩
  · cases i with
    | zero => simp [exT] at hx; subst hx; exact .inl ⟨rfl, vB_pair (by omega) (by omega) (by omega)⟩
    | succ i => simp [exT] at hx
  · simp [exT] at hk; subst hk; simp [exT]
theorem exCtg : Ctg 0 exL := ⟨rfl, by decide, rfl, by decide, rfl, by decide, trivial⟩
theorem exTm : ∀ s ∈ exL, tmS s := fun s hs => by
  simp [exL] at hs
  rcases hs with rfl | rfl | rfl <;> exact ⟨by decide, by decide, by decide, by decide⟩
theorem exN : ∀ s ∈ exL, s.tube.length = 1 := fun s hs => by
  simp [exL] at hs
  rcases hs with rfl | rfl | rfl <;> rfl
end Go.Proofs.YtfjjckepnkkgjaaGreatDoor.Arm

namespace Go.Arm
theorem list_of {α : Type} {f : α → AV} {p : α → Prop} : ∀ {xs : List AV}, (∀ x ∈ xs, ∃ a, x = f a ∧ p a) → ∃ l : List α, xs = l.map f ∧ ∀ a ∈ l, p a
  | [], h => ⟨[], rfl, fun a ha => by cases ha⟩
  | x :: r, h => by
    obtain ⟨a, rfl, ha⟩ := h x (by simp)
    obtain ⟨l, rfl, hl⟩ := list_of (xs := r) (fun y hy => h y (by simp [hy]))
    exact ⟨a :: l, rfl, fun b hb => by
      rcases List.mem_cons.1 hb with rfl | hb
      · exact ha
      · exact hl b hb⟩
theorem okL_cons {ok : TypeId → AV → Prop} {f : TypeId × Nat} {fs : List (TypeId × Nat)} {vs : List AV} (h : OkL ok (f :: fs) vs) : ∃ v vs', vs = v :: vs' ∧ ok f.1 v ∧ OkL ok fs vs' := by
  cases vs with
  | nil => exact h.elim
  | cons v vs' => exact ⟨v, vs', rfl, h.1, h.2⟩
theorem okL_nil {ok : TypeId → AV → Prop} {vs : List AV} (h : OkL ok [] vs) : vs = [] := by
  cases vs with
  | nil => rfl
  | cons v vs' => exact h.elim
section
variable {tab : Tab}
theorem okInt {n : Nat} {t : TypeId} {i : TI} {k : IntKind} {v : AV} (hi : tab t = some i) (hd : i.d = .int k) (h : OkA tab (n + 1) t v) : ∃ x, v = .int k x ∧ (Lit.int k x).wf = true := by
  unfold OkA at h
  rw [hi] at h
  simp only [hd] at h
  exact h
theorem okSlice {n : Nat} {t e : TypeId} {i ie : TI} {v : AV} (hi : tab t = some i) (hd : i.d = .slice e) (he : tab e = some ie) (h : OkA tab (n + 1) t v) : ∃ xs, v = .slice xs false ∧ (∀ x ∈ xs, OkA tab n e x) ∧ xs.length * ie.bytes ≤ reachBytes ∧ xs.length ≤ maxLen := by
  unfold OkA at h
  rw [hi] at h
  simp only [hd] at h
  obtain ⟨xs, h1, h2, h3, h4⟩ := h
  exact ⟨xs, h1, h2, h3 ie he, h4⟩
theorem okStruct {n : Nat} {t : TypeId} {i : TI} {fs : List (TypeId × Nat)} {v : AV} (hi : tab t = some i) (hd : i.d = .struct fs) (h : OkA tab (n + 1) t v) : ∃ vs : List AV, v = .agg (vs.flatMap AV.cells) ∧ OkL (OkA tab n) fs vs := by
  unfold OkA at h
  rw [hi] at h
  simp only [hd] at h
  exact h
theorem okRow {α : Type} {f : α → AV} {p : α → Prop} {n : Nat} {t e : TypeId} {i ie : TI} {v : AV} (hi : tab t = some i) (hd : i.d = .slice e) (he : tab e = some ie) (hb : 0 < ie.bytes) (hf : ∀ x, OkA tab n e x → ∃ a, x = f a ∧ p a) (h : OkA tab (n + 1) t v) :
    ∃ l : List α, v = .slice (l.map f) false ∧ (∀ a ∈ l, p a) ∧ l.length ≤ 140737488351232 := by
  obtain ⟨xs, rfl, h1, h2, h3⟩ := okSlice hi hd he h
  obtain ⟨l, rfl, hl⟩ := list_of (f := f) (p := p) (fun x hx => hf x (h1 x hx))
  refine ⟨l, rfl, hl, ?_⟩
  have e : reachBytes = 140737488351232 := rfl
  rw [e, List.length_map] at h2
  exact Nat.le_trans (Nat.le_mul_of_pos_right _ hb) h2
end
theorem okArgs1 {T : Tab} {m : Nat} {a : TypeId} {av : List AV} (h : OkArgs T m [a] av) : ∃ x, av = [x] ∧ OkA T m a x := by
  match av, h with
  | [x], h => exact ⟨x, rfl, h.1⟩
theorem okArgs2 {T : Tab} {m : Nat} {a b : TypeId} {av : List AV} (h : OkArgs T m [a, b] av) : ∃ x y, av = [x, y] ∧ OkA T m a x ∧ OkA T m b y := by
  match av, h with
  | [x, y], h => exact ⟨x, y, rfl, h.1, h.2.1⟩
theorem wfI {k : IntKind} {x : Int} (h : (Lit.int k x).wf = true) : k.min ≤ x ∧ x ≤ k.max := by
  simp [Lit.wf] at h
  exact h
theorem wfU8 {x : Int} (h : (Lit.int .u8 x).wf = true) : 0 ≤ x ∧ x ≤ 255 := by have := wfI h; simp [IntKind.min, IntKind.max, IntKind.signed, IntKind.bits] at this; exact this
end Go.Arm

namespace Go.Proofs.YtfjjckepnkkgjaaGreatDoor.Arm
open Go.Arm Go.Pl
theorem okIv {n : Nat} {v : AV} (h : OkA tab (n + 2) 54 v) : ∃ p : I, v = iv p ∧ True := by
  obtain ⟨vs, rfl, hv⟩ := okStruct tab54 rfl h
  obtain ⟨a, vs, rfl, ha, hv⟩ := okL_cons hv
  obtain ⟨b, vs, rfl, hb, hv⟩ := okL_cons hv
  cases okL_nil hv
  obtain ⟨x, rfl, hx⟩ := okInt tab2 rfl ha
  obtain ⟨y, rfl, hy⟩ := okInt tab2 rfl hb
  exact ⟨(x, y), rfl, trivial⟩
theorem okBx {n : Nat} {v : AV} (h : OkA tab (n + 3) 26 v) : ∃ l : List I, v = bx l ∧ l.length ≤ 140737488351232 := by
  obtain ⟨l, rfl, _, hl⟩ := okRow (f := iv) tab26 rfl tab54 (by decide) (fun x hx => okIv hx) h
  exact ⟨l, rfl, hl⟩
structure SgLn (s : Sg) : Prop where
  h1 : s.frm.length ≤ 140737488351232
  h2 : s.pre.length ≤ 140737488351232
  h3 : s.tube.length ≤ 140737488351232
  h4 : s.to.length ≤ 140737488351232
theorem okSg {n : Nat} {v : AV} (h : OkA tab (n + 4) 47 v) : ∃ s : Sg, v = sgA s ∧ SgLn s := by
  obtain ⟨vs, rfl, hv⟩ := okStruct tab47 rfl h
  obtain ⟨a, vs, rfl, ha, hv⟩ := okL_cons hv
  obtain ⟨b, vs, rfl, hb, hv⟩ := okL_cons hv
  obtain ⟨c, vs, rfl, hc, hv⟩ := okL_cons hv
  obtain ⟨d, vs, rfl, hd, hv⟩ := okL_cons hv
  obtain ⟨e, vs, rfl, he, hv⟩ := okL_cons hv
  obtain ⟨f, vs, rfl, hf, hv⟩ := okL_cons hv
  cases okL_nil hv
  obtain ⟨x, rfl, -⟩ := okInt tab2 rfl ha
  obtain ⟨y, rfl, -⟩ := okInt tab2 rfl hb
  obtain ⟨p1, rfl, l1⟩ := okBx hc
  obtain ⟨p2, rfl, l2⟩ := okBx hd
  obtain ⟨p3, rfl, l3⟩ := okBx he
  obtain ⟨p4, rfl, l4⟩ := okBx hf
  exact ⟨⟨x, y, p1, p2, p3, p4⟩, rfl, ⟨l1, l2, l3, l4⟩⟩
theorem okSgL {n : Nat} {v : AV} (h : OkA tab (n + 5) 37 v) : ∃ l : List Sg, v = sgL l ∧ (∀ s ∈ l, SgLn s) ∧ l.length ≤ 140737488351232 := by
  obtain ⟨l, rfl, h1, hl⟩ := okRow (f := sgA) tab37 rfl tab47 (by decide) (fun x hx => okSg hx) h
  exact ⟨l, rfl, h1, hl⟩
end Go.Proofs.YtfjjckepnkkgjaaGreatDoor.Arm

namespace Go.Proofs.YtfjjckepnkkgjaaGreatDoor.Arm
open Go.Arm Go.Pl Go.ChangeShapes Go.WideShapes Go.ChangeAt Go.RowKit
theorem own : ownKnob Tryz.prog.godebug = none := by kernel_rfl
theorem laidOut : laidOutB Tryz.prog = true := by kernel_rfl
def laidL : List (String × DataW Unit) := [("armillary/interval.products", Rows.laid_armillary_interval_products), ("armillary/interval.quotients", Rows.laid_armillary_interval_quotients), ("armillary/tape.ops", Rows.laid_armillary_tape_ops)]
theorem door_met (os : Os) (args : Array Value) : laidMetH Tryz.prog laidL ((World.doorLaid Tryz.prog 600 os).forCall (fun _ _ => 0) ⟨#[], args, []⟩).memory :=
  laidMetH_of_parts3 (fuel := 12) (laidMet_of_run' 8 (by kernel_rfl) (by kernel_rfl)) (by kernel_rfl) (by kernel_rfl)
def fnames : List (List UInt8 × FuncId) := [([97, 114, 109, 105, 108, 108, 97, 114, 121, 47, 105, 110, 116, 101, 114, 118, 97, 108, 46, 104, 104], 255), ([97, 114, 109, 105, 108, 108, 97, 114, 121, 47, 105, 110, 116, 101, 114, 118, 97, 108, 46, 108, 108], 256), ([97, 114, 109, 105, 108, 108, 97, 114, 121, 47, 105, 110, 116, 101, 114, 118, 97, 108, 46, 108, 104], 257), ([97, 114, 109, 105, 108, 108, 97, 114, 121, 47, 105, 110, 116, 101, 114, 118, 97, 108, 46, 104, 108], 258), ([97, 114, 109, 105, 108, 108, 97, 114, 121, 47, 105, 110, 116, 101, 114, 118, 97, 108, 46, 78, 101, 103], 184), ([97, 114, 109, 105, 108, 108, 97, 114, 121, 47, 105, 110, 116, 101, 114, 118, 97, 108, 46, 83, 113, 117, 97, 114, 101], 186), ([97, 114, 109, 105, 108, 108, 97, 114, 121, 47, 116, 97, 112, 101, 46, 114, 111, 111, 116], 259), ([97, 114, 109, 105, 108, 108, 97, 114, 121, 47, 105, 110, 116, 101, 114, 118, 97, 108, 46, 65, 100, 100], 175), ([97, 114, 109, 105, 108, 108, 97, 114, 121, 47, 105, 110, 116, 101, 114, 118, 97, 108, 46, 83, 117, 98], 185), ([97, 114, 109, 105, 108, 108, 97, 114, 121, 47, 105, 110, 116, 101, 114, 118, 97, 108, 46, 77, 117, 108], 174), ([97, 114, 109, 105, 108, 108, 97, 114, 121, 47, 105, 110, 116, 101, 114, 118, 97, 108, 46, 68, 105, 118], 207)]
theorem fnames_ok : ∀ p ∈ fnames, ((List.range Tryz.prog.funcs.size).filter fun f => (Tryz.prog.funcs[f]?).any (·.name.toUTF8.data.toList == p.1)) = [p.2] := by
  intro p hp
  simp only [fnames, List.mem_cons, List.not_mem_nil, or_false] at hp
  rcases hp with rfl | rfl | rfl | rfl | rfl | rfl | rfl | rfl | rfl | rfl | rfl <;> kernel_rfl
theorem fnames_ne : ∀ p ∈ fnames, p.1 ≠ [] := by
  intro p hp
  simp only [fnames, List.mem_cons, List.not_mem_nil, or_false] at hp
  rcases hp with rfl | rfl | rfl | rfl | rfl | rfl | rfl | rfl | rfl | rfl | rfl <;> exact List.cons_ne_nil _ _
theorem gProd : Tryz.prog.globalNamed "armillary/interval.products" = some 0 := by kernel_rfl
theorem gQuot : Tryz.prog.globalNamed "armillary/interval.quotients" = some 2 := by kernel_rfl
theorem gOps : Tryz.prog.globalNamed "armillary/tape.ops" = some 1 := by kernel_rfl
theorem glob_met {W : World} (h : laidMetH Tryz.prog laidL W) : ∀ g cs, E.Γ g = some cs → VR [] W (.eptr cs 0) (.pointer (some ⟨g, 0, none⟩)) := by
  intro g cs hg
  have hg' : glob g = some cs := hg
  unfold glob at hg'
  split at hg'
  · cases hg'
    exact glob_of (P := Tryz.prog) (T := tab) (L := fnames) tab_ok h (name := "armillary/interval.products") (List.mem_cons_self ..) gProd (t := 238) (by kernel_rfl) (m := 8) (by kernel_rfl) fnames_ok fnames_ne (by kernel_rfl) (by decide)
  · cases hg'
    exact glob_of (P := Tryz.prog) (T := tab) (L := fnames) tab_ok h (name := "armillary/interval.quotients") (List.mem_cons_of_mem _ (List.mem_cons_self ..)) gQuot (t := 252) (by kernel_rfl) (m := 8) (by kernel_rfl) fnames_ok fnames_ne (by kernel_rfl) (by decide)
  · cases hg'
    exact glob_of (P := Tryz.prog) (T := tab) (L := fnames) tab_ok h (name := "armillary/tape.ops") (List.mem_cons_of_mem _ (List.mem_cons_of_mem _ (List.mem_cons_self ..))) gOps (t := 245) (by kernel_rfl) (m := 8) (by kernel_rfl) fnames_ok fnames_ne (by kernel_rfl) (by decide)
  · cases hg'
end Go.Proofs.YtfjjckepnkkgjaaGreatDoor.Arm

namespace Go.Proofs.YtfjjckepnkkgjaaGreatDoor.Arm
open Go.Arm Go.Pl
def ex2 : List Sg := [⟨0, 65536, [(0, 0)], [(0, 65536)], [(0, 65536)], [(65536, 65536)]⟩, ⟨131072, 65536, [(131072, 131072)], [(131072, 196608)], [(131072, 196608)], [(196608, 196608)]⟩]
theorem zero14 : allV [(0, 0)] := fun p hp => by simp at hp; subst hp; exact vB_pair (by omega) (by omega) (by omega)
theorem hz14 : hzOk (ctS 0) 0 3000 := ⟨by decide, by decide, by decide, by decide, by decide⟩
set_option maxHeartbeats 8000000 in
set_option maxRecDepth 100000 in
theorem lSanity14 (H : AH) : Sound E 12 [] H (.ret (.bool true)) H := by
  refine sound_of_awp tabOk mixed Tryz.func12 rfl (by rfl) Tryz.ntmps12 (by kernel_rfl) (by simp) ?_
  have p0 := lPoint 0 (by decide)
  have p1 := lPoint 1 (by decide)
  have p2 := lPoint 2 (by decide)
  have p3 := lPoint 3 (by decide)
  have s01 := lSpan 0 1 (by decide) (by decide)
  have s12 := lSpan 1 2 (by decide) (by decide)
  have s23 := lSpan 2 3 (by decide) (by decide)
  have s02 := lSpan 0 2 (by decide) (by decide)
  have hlen : exL.length = 3 := rfl
  have hAt := fun τ Hx => wAt exL 0 τ exCtg (by rw [hlen]; decide) exTm Hx
  have a1 := hAt 65536
  rw [show atS exL 65536 = some [(65536, 65536)] by kernel_rfl] at a1
  have a2 := hAt 196608
  rw [show atS exL 196608 = some [(196608, 196608)] by kernel_rfl] at a2
  have a3 := hAt 65537
  rw [show atS exL 65537 = some [(65536, 131072)] by kernel_rfl] at a3
  have a4 := hAt (-1)
  rw [show atS exL (-1) = none by kernel_rfl] at a4
  have hDu := fun u Hx => wDuring exL 0 u 1 (by decide) exCtg (by rw [hlen]; decide) exTm exN Hx
  have d1 := hDu (32768, 65536)
  rw [show durS exL (32768, 65536) = some [(0, 131072)] by kernel_rfl] at d1
  have d2 := hDu (196609, 196609)
  rw [show durS exL (196609, 196609) = none by kernel_rfl] at d2
  have hE := fun Hx => wEnd exL ⟨131072, 65536, [(131072, 131072)], [(131072, 196608)], [(131072, 196608)], [(196608, 196608)]⟩ rfl (by rw [hlen]; decide) (by decide) Hx
  have hI := fun Hx => wItems 7 exL (by rw [hlen]; decide) (fun s hs => by simp [exL] at hs; rcases hs with rfl | rfl | rfl <;> decide) Hx
  have hSt := lSteady 65536 (by decide)
  have hCt := r14Control 0 (by decide)
  have hG := fun Hx => wIntegrate exT [(0, 0)] (ctS 0) 0 3000 exT_ok zero14 rfl (by decide) hz14 (by decide) (by decide) (by decide) Hx
  rw [show initS (ctS 0) (3000 - 0) = 3000 by decide, exInt] at hG
  have hB := fun Hx => wIntegrateBad exT [(0, 0)] (ctS 0) 5 5 (.inr (.inr (.inr (Int.le_refl _)))) Hx
  have hV := fun l hl hs Hx => wValid l hl hs Hx
  have v1 := hV exL (by rw [hlen]; decide) (fun s hs b hb => by simp [exL] at hs; rcases hs with rfl | rfl | rfl <;> (simp [boxs] at hb; rcases hb with rfl | rfl | rfl | rfl <;> decide))
  rw [show flowB exL = true by kernel_rfl] at v1
  have v2 := hV [] (by decide) (by simp)
  rw [show flowB [] = false from rfl] at v2
  have v2n := fun Hx => (v2 Hx).weaken (args := [.nilslice]) (by simp only [sgL, List.map_nil]; exact ⟨Wk.nil, trivial⟩)
  have v3 := hV ex2 (by decide) (fun s hs b hb => by simp [ex2] at hs; rcases hs with rfl | rfl <;> (simp [boxs] at hb; rcases hb with rfl | rfl | rfl | rfl <;> decide))
  rw [show flowB ex2 = false by kernel_rfl] at v3
  have hs1 := fun (a : List I) (ha : a.length ≤ 1000000) Hx => r3Same a a ha ha Hx
  have e1 := hs1 [(65536, 65536)] (by decide)
  have e2 := hs1 [(0, 131072)] (by decide)
  have e3 := hs1 [(196608, 196608)] (by decide)
  have e4 := hs1 [(65536, 131072)] (by decide)
  have e5 := hs1 [(3000, 3000)] (by decide)
  have e6 := hs1 [(0, 3000)] (by decide)
  simp only [decide_true] at e1 e2 e3 e4 e5 e6
  have q1 := rSame2 (65536, 131072) (65536, 131072)
  simp
  refine call_ret (p0 _) ?_
  simp [bx]
  refine call_ret (s01 _) ?_
  simp [bx]
  refine call_ret (s01 _) ?_
  simp [bx]
  refine call_ret (p1 _) ?_
  simp [bx]
  refine call_ret (p1 _) ?_
  simp [bx]
  refine call_ret (s12 _) ?_
  simp [bx]
  refine call_ret (s12 _) ?_
  simp [bx]
  refine call_ret (p2 _) ?_
  simp [bx]
  refine call_ret (p2 _) ?_
  simp [bx]
  refine call_ret (s23 _) ?_
  simp [bx]
  refine call_ret (s23 _) ?_
  simp [bx]
  refine call_ret (p3 _) ?_
  simp [bx]
  refine call_conv0 (a1 _) (by simp [sgL, exL, sgA, bx]; rfl) ?_
  simp [atR, bx]
  refine call_conv0 (d1 _) (by simp [sgL, exL, sgA, bx]; rfl) ?_
  simp [atR, bx]
  refine call_conv0 (hE _) (by simp [sgL, exL, sgA, bx]; rfl) ?_
  simp [atR, bx]
  refine call_conv0 (a2 _) (by simp [sgL, exL, sgA, bx]; rfl) ?_
  simp [atR, bx]
  refine call_conv0 (a3 _) (by simp [sgL, exL, sgA, bx]; rfl) ?_
  simp [atR, bx]
  refine call_conv0 (a4 _) (by simp [sgL, exL, sgA, bx]; rfl) ?_
  simp [atR, bx]
  refine call_ret (rPoint 196609 _) ?_
  rw [pt_num (by decide)]
  simp
  refine call_conv0 (d2 _) (by simp [sgL, exL, sgA, bx]; rfl) ?_
  simp [atR, bx]
  refine call_conv0 (hI _) (by simp [sgL, exL, sgA, bx]; rfl) ?_
  simp [exL, itA, bx]
  refine call_ret (hSt _) ?_
  simp [tpA, insA, outA]
  refine call_ret (p0 _) ?_
  simp [bx]
  refine call_ret (hCt _) ?_
  simp [ctA]
  refine call_ret (by simpa [tpA, exT, insA, outA, bx, hzA, ctS] using hG _) ?_
  simp [intR, sgL, exS, sgA, bx]
  refine call_ret (hSt _) ?_
  simp [tpA, insA, outA]
  refine call_ret (p0 _) ?_
  simp [bx]
  refine call_ret (hCt _) ?_
  simp [ctA]
  refine call_ret (by simpa [tpA, exT, insA, outA, bx, hzA, ctS] using hB _) ?_
  simp [intR, sgL, exS, sgA, bx]
  refine callD_ret0 (fun Hx => by simpa [bx] using p1 Hx) ?_
  simp [bx]
  refine callD_ret0 (fun Hx => by simpa [bx] using e1 Hx) ?_
  simp [bx]
  refine callD_ret0 (fun Hx => by simpa [bx] using s02 Hx) ?_
  simp [bx]
  refine callD_ret0 (fun Hx => by simpa [bx] using e2 Hx) ?_
  simp [bx]
  refine callD_ret0 (fun Hx => by simpa [bx] using p3 Hx) ?_
  simp [bx]
  refine callD_ret0 (fun Hx => by simpa [bx] using e3 Hx) ?_
  simp [bx]
  refine callD_ret0 (fun Hx => by simpa [bx] using p3 Hx) ?_
  simp [bx]
  refine callD_ret0 (fun Hx => by simpa [bx] using e3 Hx) ?_
  simp [bx]
  refine callD_ret0 (fun Hx => by simpa [bx] using s12 Hx) ?_
  simp [bx]
  refine callD_ret0 (fun Hx => by simpa [bx] using e4 Hx) ?_
  simp [bx]
  refine callD_ret0 (fun Hx => by simpa [bx] using q1 Hx) ?_
  simp [bx]
  refine callD_conv0 (fun Hx => v1 Hx) (fun Hx => by simp [sgL, exL, sgA, bx]) ?_
  simp
  refine callD_ret0 (fun Hx => v2n Hx) ?_
  simp
  refine callD_ret0 (fun Hx => by simpa [sgL] using v2 Hx) ?_
  simp
  refine callD_conv0 (fun Hx => v3 Hx) (fun Hx => by simp [sgL, ex2, sgA, bx]) ?_
  simp
  refine callD_conv0 (fun Hx => e5 Hx) (fun Hx => by simp [bx]) ?_
  simp
  refine callD_conv0 (fun Hx => e6 Hx) (fun Hx => by simp [bx]) ?_
  simp
  refine endD [] (by rfl) (by simp [okW, note, Eff.triv, Eff.wr, Eff.none, upTo, newAt]) ?_
  simp
  exact fin0 (rs := [.tmp 0]) (by rfl) (by simp [resA])
end Go.Proofs.YtfjjckepnkkgjaaGreatDoor.Arm

namespace Go.Proofs.YtfjjckepnkkgjaaGreatDoor.Arm
open Go.Arm Go.Pl
structure Qq where
  L : List Sg
  n : Int
  t : Int
  u : I
  id : Int
structure QqOk (q : Qq) : Prop where
  hL : q.L.length ≤ 200000000000000
  hs : ∀ s ∈ q.L, s.frm.length ≤ 200000000000000 ∧ s.tube.length ≤ 200000000000000 ∧ s.to.length ≤ 200000000000000
  hn : 0 ≤ q.n ∧ q.n ≤ 255
def qqA (q : Qq) : AV := .agg [sgL q.L, .int .u8 q.n, .int .i64 q.t, .int .i64 q.u.1, .int .i64 q.u.2, .int .i64 q.id]
def qqN (q : Qq) : Nat := (1 + q.n.tmod 3).toNat
def qqL (q : Qq) : List Sg := mdF q.L (qqN q) 8
theorem qqN_b {q : Qq} (h : QqOk q) : (qqN q : Int) = 1 + q.n.tmod 3 ∧ 1 ≤ qqN q ∧ qqN q ≤ 3 := by
  have h1 := Int.tmod_nonneg 3 h.hn.1
  have h2 := Int.tmod_lt_of_pos q.n (b := 3) (by decide)
  unfold qqN; omega
structure MdOk (l : List Sg) (n : Nat) (t0 : Int) : Prop where
  ctg : Ctg t0 l
  len : 1 ≤ l.length ∧ l.length ≤ 8
  tm : ∀ s ∈ l, -1048576 < s.t ∧ s.t ≤ 1572864 ∧ 1 ≤ s.h ∧ s.h ≤ 65536
  n3 : 1 ≤ n ∧ n ≤ 3
  tube : ∀ s ∈ l, s.tube.length = n ∧ s.frm.length = n ∧ s.to.length = n
  sub : ∀ s ∈ l, subI s.frm s.tube = true ∧ subI s.to s.tube = true
theorem qqL_ok {q : Qq} (h : QqOk q) : MdOk (qqL q) (qqN q) (mdT0 q.L) := by
  obtain ⟨-, hn⟩ := qqN_b h
  obtain ⟨hc, he⟩ := mdG_ctg q.L (qqN q) (max 1 (min q.L.length 8))
  have hl := mdG_len q.L (qqN q) (max 1 (min q.L.length 8))
  have ht := mdG_t q.L (qqN q) (max 1 (min q.L.length 8))
  have h0 := mdT0_b q.L
  have hm := fun s hs => mdG_mem q.L (qqN q) (max 1 (min q.L.length 8)) s hs
  have hll : (qqL q).length = max 1 (min q.L.length 8) := hl
  refine ⟨hc, by omega, fun s hs => ?_, hn, fun s hs => ?_, fun s hs => ?_⟩
  · have hg := hc.ge s hs
    obtain ⟨r, t, rfl⟩ := hm s hs
    have hb := mdH_b r.h
    have e : (mdSeg r (qqN q) t).h = mdH r.h := rfl
    rw [he] at hg
    rw [e] at hg ⊢
    omega
  · obtain ⟨r, t, rfl⟩ := hm s hs
    exact ⟨nbox_len _ _, by show (partB _ _).length = _; rw [partB_len, nbox_len], by show (partB _ _).length = _; rw [partB_len, nbox_len]⟩
  · obtain ⟨r, t, rfl⟩ := hm s hs
    exact ⟨part_sub _ _ (nbox_at _ _), part_sub _ _ (nbox_at _ _)⟩
theorem MdOk.tmS {l : List Sg} {n : Nat} {t0 : Int} (h : MdOk l n t0) : ∀ s ∈ l, Arm.tmS s := fun s hs => by
  have := h.tm s hs
  exact ⟨by omega, by omega, by omega, by omega⟩
theorem MdOk.tubeL {l : List Sg} {n : Nat} {t0 : Int} (h : MdOk l n t0) (u : I) : ∀ b ∈ (durL l u).map (·.tube), b.length = n := fun b hb => by
  obtain ⟨s, hs, rfl⟩ := List.mem_map.1 hb
  exact (h.tube s (List.mem_filter.1 hs).1).1
theorem MdOk.dur {l : List Sg} {n : Nat} {t0 : Int} (h : MdOk l n t0) {s : Sg} (hs : s ∈ l) {u : I} (h1 : u.1 ≤ s.t + s.h) (h2 : s.t ≤ u.2) : ∃ B, durS l u = some B ∧ HullOf n ((durL l u).map (·.tube)) B ∧ s.tube ∈ (durL l u).map (·.tube) := by
  have hm : s ∈ durL l u := List.mem_filter.2 ⟨hs, by unfold durP; simp [h1, h2]⟩
  have hmt : s.tube ∈ (durL l u).map (·.tube) := List.mem_map.2 ⟨s, hm, rfl⟩
  cases hd : durS l u with
  | none =>
    unfold durS at hd
    cases he : (durL l u).map (·.tube) with
    | nil => rw [he] at hmt; cases hmt
    | cons a r => rw [he] at hd; cases hd
  | some B => exact ⟨B, rfl, hullL_of (h.tubeL u) hd, hmt⟩
theorem subI_refl (a : List I) : subI a a = true := by
  unfold subI; rw [List.all_eq_true]; intro i _; simp [subB]
theorem ctg_next : ∀ {l : List Sg} {t : Int}, Ctg t l → ∀ {i : Nat} {s s' : Sg}, l[i]? = some s → l[i + 1]? = some s' → s'.t = s.t + s.h := by
  intro l
  induction l with
  | nil => intro t _ i s s' h; simp at h
  | cons a l ih =>
    intro t hc i s s' h1 h2
    cases i with
    | zero =>
      simp at h1; subst h1
      cases l with
      | nil => simp at h2
      | cons b l => simp at h2; subst h2; exact hc.2.2.1
    | succ i => exact ih hc.2.2 (by simpa using h1) (by simpa using h2)
theorem ctg_prev {l : List Sg} {t : Int} (hc : Ctg t l) {i : Nat} {s : Sg} (hs : l[i]? = some s) (h : 0 < i) : ∃ r, l[i - 1]? = some r ∧ r.t + r.h = s.t := by
  have hlt := (List.getElem?_eq_some_iff.1 hs).1
  refine ⟨l[i - 1]'(by omega), by rw [List.getElem?_eq_getElem], ?_⟩
  exact (ctg_next hc (i := i - 1) (by rw [List.getElem?_eq_getElem]) (by rw [show i - 1 + 1 = i by omega]; exact hs)).symm
def LItm (q : Qq) (l : List Sg) (H : AH) (i : Nat) (fr : AFr) (H' : AH) : Prop :=
  fr 1 = .ptr H.length 1 0 0 ∧ fr 3 = .bool true ∧ fr 4 = sgL l ∧ fr 5 = .slice (l.map (itA q.id)) false ∧ fr 9 = .int .i64 i ∧ i ≤ l.length ∧ ∃ J, H' = H ++ (.row true 6 [qqA q] :: J)
set_option maxRecDepth 100000 in
set_option maxHeartbeats 4000000 in
theorem lItems (q : Qq) (hq : QqOk q) (H : AH) : Sound E 9 [qqA q] H (.ret (.bool true)) H := by
  refine sound_of_awp tabOk mixed Tryz.func9 rfl (by rfl) Tryz.ntmps9 (by kernel_rfl) (by simp) ?_
  obtain ⟨hN, hN3⟩ := qqN_b hq
  have hM := fun Hx => r14Made q.L (qqN q) 8 (by omega) (by decide) hq.hL hq.hs Hx
  have eL : mdF q.L (qqN q) 8 = qqL q := rfl
  rw [eL] at hM
  have hok := qqL_ok hq
  have h1 := Int.tmod_nonneg 3 hq.hn.1
  have h2 := Int.tmod_lt_of_pos q.n (b := 3) (by decide)
  have w0 : IntKind.i64.wrap (q.n.tmod 3) = q.n.tmod 3 := wrap64 (by omega) (by omega)
  have w1 : IntKind.i64.wrap (1 + q.n.tmod 3) = (qqN q : Int) := by rw [wrap64 (by omega) (by omega), hN]
  generalize qqL q = l at *
  generalize qqN q = n at *
  generalize mdT0 q.L = t0 at *
  obtain ⟨l8, l9⟩ := hok.len
  obtain ⟨a, h0⟩ : ∃ a, l[0]? = some a := ⟨l[0], by simp⟩
  obtain ⟨z, hz⟩ : ∃ z, l[l.length - 1]? = some z := ⟨l[l.length - 1], by rw [List.getElem?_eq_getElem]⟩
  have h0E : ∀ h, l[0]'h = a := fun h => (List.getElem?_eq_some_iff.1 h0).2
  have hzE : ∀ h, l[l.length - 1]'h = z := fun h => (List.getElem?_eq_some_iff.1 hz).2
  have hI := fun Hx => wItems q.id l (by omega) (fun s hs => by have := hok.tm s hs; omega) Hx
  have hE := fun Hx => wEnd l z hz (by omega) (hok.tmS z (List.mem_of_getElem? hz)) Hx
  have hpos : 0 < l.length := by omega
  have wl : IntKind.i64.wrap ((l.length : Int) - 1) = ((l.length - 1 : Nat) : Int) := by rw [wrap64 (by omega) (by omega)]; omega
  have hlt : l.length - 1 < l.length := by omega
  simp [qqA, sgL, w0, w1]
  refine call_ret (lSanity14 _) ?_
  simp [w0, w1]
  refine call_ret (by simpa [sgL] using hM _) ?_
  simp [sgL]
  refine call_ret (by simpa [sgL] using hI _) ?_
  simp
  refine call_ret (by simpa [sgL] using hE _) ?_
  simp [itA, sgA, bx, h0, h0E, hpos, wl, hz, hzE, hlt]
  refine endD [] (by rfl) (by simp [okW, note, Eff.triv, Eff.wr, Eff.none, upTo, newAt]) ?_
  simp
  refine loop_count (LItm q l H) (fun i => l.length - i) 0 ⟨by simp, by simp, by simp [sgL], by simp [itA, bx], by simp, by omega, _, by simp [qqA, sgL]; rfl⟩ ?_
  rintro i fr H' ⟨g1, g3, g4, g5, g9, hi, J, rfl⟩
  simp [g5, g9]
  refine branch (fun hc => ?_) (fun hc => ?_)
  · have hlt : i < l.length := by simpa using hc
    obtain ⟨s, hs⟩ := get_lt hlt
    have hsE : ∀ h, l[i]'h = s := fun h => (List.getElem?_eq_some_iff.1 hs).2
    have hsm := List.mem_of_getElem? hs
    have hsb := hok.tm s hsm
    have w2 : IntKind.i64.wrap ((i : Int) + 1) = ((i + 1 : Nat) : Int) := by rw [wrap64 (by omega) (by omega)]; omega
    obtain ⟨B, hB, hH, hmt⟩ := hok.dur hsm (u := (s.t, s.t + s.h)) (by show s.t ≤ _; omega) (by show s.t ≤ s.t + s.h; omega)
    have hD := fun Hx => wDuring l t0 (s.t, s.t + s.h) n (by omega) hok.ctg (by omega) hok.tmS (fun s hs => (hok.tube s hs).1) Hx
    rw [hB] at hD
    have hsub : subI s.tube B = true := hH.in1 hmt (subI_refl s.tube) (hok.tube s hsm).1
    have hS := fun Hx => r3Subset s.tube B (by rw [hH.len, (hok.tube s hsm).1]; exact Nat.le_refl _) (by rw [(hok.tube s hsm).1]; omega) Hx
    rw [hsub] at hS
    simp only [bx] at hS
    have hp : 0 < i → ∃ r, l[i - 1]? = some r ∧ r.t + r.h = s.t := fun h => ctg_prev hok.ctg hs h
    simp [g4, g5, g9, sgL, hs, hsE, itA, bx]
    refine call_ret (by simpa [sgL] using hD _) ?_
    simp [atR]
    rcases Nat.eq_zero_or_pos i with h00 | hpi
    · subst h00
      simp [qqA, g1, g3, g4, g5, g9, sgL, hs, hsE, itA, bx]
      refine callD_ret0 (fun Hx => hS Hx) ?_
      simp
      refine endD [] (by rfl) (by simp [okW, note, Eff.triv, Eff.wr, Eff.none, upTo, newAt]) ?_
      simp [g9, w2]
      exact ⟨1, by show l.length - 1 < l.length - 0; omega, by simp [g1], by simp [g3], by simp [g4, sgL], by simp [g5, itA, bx], by simp; decide, by omega, J, by simp [qqA, sgL]⟩
    · obtain ⟨r, hr, her⟩ := hp hpi
      have hrE : ∀ h, l[i - 1]'h = r := fun h => (List.getElem?_eq_some_iff.1 hr).2
      have w3 : IntKind.i64.wrap ((i : Int) - 1) = ((i - 1 : Nat) : Int) := by rw [wrap64 (by omega) (by omega)]; omega
      simp [qqA, g1, g3, g4, g5, g9, sgL, hs, hsE, itA, bx, hpi, w3, hr, hrE, her]
      refine callD_ret0 (fun Hx => hS Hx) ?_
      simp
      refine endD [] (by rfl) (by simp [okW, note, Eff.triv, Eff.wr, Eff.none, upTo, newAt]) ?_
      simp [g9, w2]
      exact ⟨i + 1, by show l.length - (i + 1) < l.length - i; omega, by simp [g1], by simp [g3], by simp [g4, sgL], by simp [g5, itA, bx], by simp, by omega, J, by simp [qqA, sgL]⟩
  · simp [g3]
    exact fin1 (rs := [.tmp 2]) (by rfl) (by simp [resA]) (by simp [noF])
end Go.Proofs.YtfjjckepnkkgjaaGreatDoor.Arm

namespace Go.Proofs.YtfjjckepnkkgjaaGreatDoor.Arm
open Go.Arm Go.Pl
theorem okQq {n : Nat} {v : AV} (h : OkA tab (n + 7) 69 v) : ∃ q, v = qqA q ∧ QqOk q := by
  obtain ⟨vs, rfl, hv⟩ := okStruct tab69 rfl h
  obtain ⟨a, vs, rfl, ha, hv⟩ := okL_cons hv
  obtain ⟨b, vs, rfl, hb, hv⟩ := okL_cons hv
  obtain ⟨c, vs, rfl, hc, hv⟩ := okL_cons hv
  obtain ⟨d, vs, rfl, hd, hv⟩ := okL_cons hv
  obtain ⟨e, vs, rfl, he, hv⟩ := okL_cons hv
  cases okL_nil hv
  obtain ⟨L, rfl, h1, h2⟩ := okSgL ha
  obtain ⟨x, rfl, hx⟩ := okInt tab5 rfl hb
  obtain ⟨t, rfl, ht⟩ := okInt tab2 rfl hc
  obtain ⟨u, rfl, -⟩ := okIv hd
  obtain ⟨k, rfl, hk⟩ := okInt tab3 rfl he
  refine ⟨⟨L, x, t, u, k⟩, rfl, ⟨by show L.length ≤ _; omega, fun s hs => ?_, wfU8 hx⟩⟩
  have := h1 s hs
  exact ⟨by have := this.h1; omega, by have := this.h3; omega, by have := this.h4; omega⟩
end Go.Proofs.YtfjjckepnkkgjaaGreatDoor.Arm

namespace Go.Proofs.YtfjjckepnkkgjaaGreatDoor.Arm
open Go.Arm Go.Pl
theorem r3Hull (a b : List I) (hab : a.length ≤ b.length) (hl : a.length ≤ 1000000) (H : AH) : Sound E 34 [bx a, bx b] H (.ret (bx (hullB a b))) H := by
  refine sound_of_awp tabOk mixed Tryz.func34 rfl (by rfl) Tryz.ntmps34 (by kernel_rfl) (by simp) ?_
  simp [bx]
  refine loop_count (LHu a b H) (fun i => a.length - i) 0 ⟨by simp [bx], by simp [bx], by simp, by omega, [], by simp, .inl ⟨by simp, by simp⟩⟩ ?_
  rintro i fr H' ⟨g0, g1, g6, hi, J, rfl, hacc⟩
  simp [g0, g6, bx]
  refine branch (fun hc => ?_) (fun hc => ?_)
  · have hlt : i < a.length := by simpa using hc
    obtain ⟨p, hp⟩ := get_lt hlt
    obtain ⟨q, hq⟩ := get_lt (l := b) (i := i) (by omega)
    have hpE : ∀ h, a[i]'h = p := fun h => (List.getElem?_eq_some_iff.1 hp).2
    have hqE : ∀ h, b[i]'h = q := fun h => (List.getElem?_eq_some_iff.1 hq).2
    have w2 : IntKind.i64.wrap ((i : Int) + 1) = ((i + 1 : Nat) : Int) := by rw [wrap64 (by omega) (by omega)]; omega
    have hs : hull (atN a i) (atN b i) = hull p q := by simp [atN, hp, hq]
    have hnx : (List.range (i + 1)).map (fun i => hull (atN a i) (atN b i)) = (List.range i).map (fun i => hull (atN a i) (atN b i)) ++ [hull p q] := by rw [List.range_succ, List.map_append]; simp [hs]
    rcases hacc with ⟨h0, hv⟩ | ⟨kk, hv, hJk⟩
    · have hi0 : i = 0 := by simpa using congrArg List.length h0
      subst hi0
      have wr1 : IntKind.i64.wrap 1 = 1 := wrap64 (by decide) (by decide)
      simp [g0, g1, g6, hv, bx, hp, hpE, hq, hqE]
      refine callD_ret0 (fun Hx => rHull p q Hx) ?_
      simp
      refine bind_some (app_iv0 (p := hull p q)) ?_
      simp
      refine endD [] (by rfl) (by simp [okW, note, Eff.triv, Eff.wr, Eff.none, upTo, newAt]) ?_
      simp [g6, wr1]
      exact ⟨1, by show a.length - 1 < a.length - 0; omega, by simp [g0, bx], by simp [g1, bx], by simp, by omega, J ++ [.row true 2 [iv (hull p q)]], by simp, .inr ⟨J.length, by simp, by rw [hnx]; simp⟩⟩
    · simp only [List.length_map, List.length_range] at hv
      have hkl := (List.getElem?_eq_some_iff.1 hJk).1
      simp [g0, g1, g6, hv, bx, hp, hpE, hq, hqE]
      refine callD_ret0 (fun Hx => rHull p q Hx) ?_
      simp
      refine bind_some (app_iv (p := hull p q) (l := ((List.range i).map fun i => hull (atN a i) (atN b i)).map iv) (by simp) (by omega) (by simpa using hJk)) ?_
      simp
      refine endD [] (by rfl) (by simp [okW, note, Eff.triv, Eff.wr, Eff.none, upTo, newAt]) ?_
      simp [g6, w2]
      exact ⟨i + 1, by show a.length - (i + 1) < a.length - i; omega, by simp [g0, bx], by simp [g1, bx], by simp, by omega, J.set kk (.row true 2 (((List.range (i + 1)).map fun i => hull (atN a i) (atN b i)).map iv)), by rw [hnx]; simp, .inr ⟨kk, by simp, set_get hJk⟩⟩
  · have hi' : i = a.length := by have : ¬ i < a.length := by simpa using hc
                                  omega
    subst hi'
    simp
    exact finS (t := 4) (by rfl) (by simp) hacc rfl (iv_noFs _ _)
theorem MdOk.durH {l : List Sg} {n : Nat} {t0 : Int} (h : MdOk l n t0) {u : I} {B : List I} (hd : durS l u = some B) : HullOf n ((durL l u).map (·.tube)) B := hullL_of (h.tubeL u) hd
theorem dur_mem {l : List Sg} {u : I} {B : List I} (hd : durS l u = some B) : ∃ s, s ∈ durL l u := by
  unfold durS at hd
  cases he : durL l u with
  | nil => rw [he] at hd; cases hd
  | cons a r => exact ⟨a, by simp⟩
theorem mem_dur {l : List Sg} {u : I} {s : Sg} : s ∈ durL l u ↔ s ∈ l ∧ u.1 ≤ s.t + s.h ∧ s.t ≤ u.2 := by
  unfold durL durP; simp
theorem MdOk.mono {l : List Sg} {n : Nat} {t0 : Int} (h : MdOk l n t0) {u w : I} {B : List I} (hw : w.1 ≤ u.1 ∧ u.2 ≤ w.2) (hd : durS l u = some B) : ∃ C, durS l w = some C ∧ subI B C = true := by
  obtain ⟨s, hs⟩ := dur_mem hd
  obtain ⟨h1, h2, h3⟩ := mem_dur.1 hs
  obtain ⟨C, hC, hH, -⟩ := h.dur h1 (u := w) (by omega) (by omega)
  refine ⟨C, hC, (h.durH hd).subI hH fun b hb => ?_⟩
  obtain ⟨r, hr, rfl⟩ := List.mem_map.1 hb
  obtain ⟨k1, k2, k3⟩ := mem_dur.1 hr
  exact List.mem_map.2 ⟨r, mem_dur.2 ⟨k1, by omega, by omega⟩, rfl⟩
theorem MdOk.at {l : List Sg} {n : Nat} {t0 : Int} (h : MdOk l n t0) {u : I} {τ : Int} {b : List I} (hb : atS l τ = some b) (h1 : u.1 ≤ τ ∧ τ ≤ u.2) : ∃ B, durS l u = some B ∧ subI b B = true := by
  obtain ⟨s, hs, a1, a2, ha⟩ := atS_cases h.ctg hb
  obtain ⟨B, hB, hH, hm⟩ := h.dur hs (u := u) (by omega) (by omega)
  refine ⟨B, hB, ?_⟩
  obtain ⟨n1, n2, n3⟩ := h.tube s hs
  obtain ⟨s1, s2⟩ := h.sub s hs
  rcases ha with ⟨-, rfl⟩ | ⟨-, rfl⟩ | rfl
  · exact hH.in1 hm s1 n2
  · exact hH.in1 hm s2 n3
  · exact hH.in1 hm (subI_refl _) n1
theorem MdOk.uni {l : List Sg} {n : Nat} {t0 : Int} (h : MdOk l n t0) {a b : I} {A B C : List I} (hA : durS l a = some A) (hB : durS l b = some B) (hC : durS l (hull a b) = some C) (hm : interB a b = true) (ha : a.1 ≤ a.2) (hb : b.1 ≤ b.2) : C = hullB A B := by
  refine (h.durH hA).union (h.durH hB) (h.durH hC) fun x => ?_
  simp only [interB, decide_eq_true_eq] at hm
  have e1 : (hull a b).1 = min a.1 b.1 := rfl
  have e2 : (hull a b).2 = max a.2 b.2 := rfl
  constructor
  · intro hx
    obtain ⟨s, hs, rfl⟩ := List.mem_map.1 hx
    obtain ⟨k1, k2, k3⟩ := mem_dur.1 hs
    by_cases hq : a.1 ≤ s.t + s.h ∧ s.t ≤ a.2
    · exact .inl (List.mem_map.2 ⟨s, mem_dur.2 ⟨k1, hq.1, hq.2⟩, rfl⟩)
    · refine .inr (List.mem_map.2 ⟨s, mem_dur.2 ⟨k1, ?_, ?_⟩, rfl⟩)
      · have := (h.tm s k1).2.2.1
        omega
      · have := (h.tm s k1).2.2.1
        omega
  · rintro (hx | hx)
    · obtain ⟨s, hs, rfl⟩ := List.mem_map.1 hx
      obtain ⟨k1, k2, k3⟩ := mem_dur.1 hs
      exact List.mem_map.2 ⟨s, mem_dur.2 ⟨k1, by omega, by omega⟩, rfl⟩
    · obtain ⟨s, hs, rfl⟩ := List.mem_map.1 hx
      obtain ⟨k1, k2, k3⟩ := mem_dur.1 hs
      exact List.mem_map.2 ⟨s, mem_dur.2 ⟨k1, by omega, by omega⟩, rfl⟩
theorem atS_len {l : List Sg} {n : Nat} {t0 : Int} (h : MdOk l n t0) {τ : Int} {b : List I} (hb : atS l τ = some b) : b.length = n ∧ -1048577 ≤ τ ∧ τ ≤ 1700000 := by
  obtain ⟨s, hs, a1, a2, ha⟩ := atS_cases h.ctg hb
  obtain ⟨n1, n2, n3⟩ := h.tube s hs
  have := h.tm s hs
  rcases ha with ⟨-, rfl⟩ | ⟨-, rfl⟩ | rfl
  · exact ⟨n2, by omega, by omega⟩
  · exact ⟨n3, by omega, by omega⟩
  · exact ⟨n1, by omega, by omega⟩
set_option maxRecDepth 100000 in
set_option maxHeartbeats 4000000 in
theorem lDuring (q : Qq) (hq : QqOk q) (u : I) (H : AH) : Sound E 8 [qqA q, iv u] H (.ret (.bool true)) H := by
  refine sound_of_awp tabOk mixed Tryz.func8 rfl (by rfl) Tryz.ntmps8 (by kernel_rfl) (by simp) ?_
  obtain ⟨hN, hN3⟩ := qqN_b hq
  have hM := fun Hx => r14Made q.L (qqN q) 8 (by omega) (by decide) hq.hL hq.hs Hx
  have eL : mdF q.L (qqN q) 8 = qqL q := rfl
  rw [eL] at hM
  have hok := qqL_ok hq
  have h1 := Int.tmod_nonneg 3 hq.hn.1
  have h2 := Int.tmod_lt_of_pos q.n (b := 3) (by decide)
  have w0 : IntKind.i64.wrap (q.n.tmod 3) = q.n.tmod 3 := wrap64 (by omega) (by omega)
  have w1 : IntKind.i64.wrap (1 + q.n.tmod 3) = (qqN q : Int) := by rw [wrap64 (by omega) (by omega), hN]
  generalize qqL q = l at *
  generalize qqN q = n at *
  generalize mdT0 q.L = t0 at *
  obtain ⟨l8, l9⟩ := hok.len
  have va := vB_bounds (madeI_valid q.u)
  have vb := vB_bounds (madeI_valid u)
  have hma := fun Hx => rMade q.u Hx
  have hmb := fun Hx => rMade u Hx
  generalize madeI q.u = a at *
  generalize madeI u = b at *
  have hD := fun u Hx => wDuring l t0 u n (by omega) hok.ctg (by omega) hok.tmS (fun s hs => (hok.tube s hs).1) Hx
  have hda := hD a
  have hdb := hD b
  have hdc := hD (hull a b)
  have hat := fun Hx => wAt l t0 q.t hok.ctg (by omega) hok.tmS Hx
  have hhu := fun Hx => rHull a b Hx
  have m1 : ∀ p, durS l a = some p → ∃ C, durS l (hull a b) = some C ∧ subI p C = true := fun p hp => hok.mono ⟨by show min _ _ ≤ _; omega, by show _ ≤ max _ _; omega⟩ hp
  have m2 : ∀ p, durS l b = some p → ∃ C, durS l (hull a b) = some C ∧ subI p C = true := fun p hp => hok.mono ⟨by show min _ _ ≤ _; omega, by show _ ≤ max _ _; omega⟩ hp
  have m3 : ∀ x, atS l q.t = some x → conB a q.t = true → ∃ B, durS l a = some B ∧ subI x B = true := fun x hx hc => by
    have := atS_len hok hx
    refine hok.at hx ?_
    simp only [conB, entB, Bool.or_eq_true, Bool.and_eq_true, beq_iff_eq, decide_eq_true_eq] at hc
    omega
  have hLP : ∀ p, durS l a = some p → p.length = n := fun p h => (hok.durH h).len
  have hLR : ∀ p, durS l b = some p → p.length = n := fun p h => (hok.durH h).len
  have hLS : ∀ p, durS l (hull a b) = some p → p.length = n := fun p h => (hok.durH h).len
  have hin := fun Hx => rIntersect a b Hx
  have hct := fun Hx => rContains a q.t Hx
  have m4 : ∀ A B C, durS l a = some A → durS l b = some B → durS l (hull a b) = some C → interB a b = true → C = hullB A B := fun A B C e1 e2 e3 hm => hok.uni e1 e2 e3 hm va.2.1 vb.2.1
  have hsu := fun (x y : List I) (hx : x.length = n) (hy : y.length = n) Hx => r3Subset x y (by omega) (by omega) Hx
  have m5 : ∀ x, atS l q.t = some x → x.length = n := fun x hx => (atS_len hok hx).1
  have hhl := fun (x y : List I) (hx : x.length = n) (hy : y.length = n) Hx => r3Hull x y (by omega) (by omega) Hx
  have hsa := fun (x : List I) (hx : x.length = n) Hx => r3Same x x (by omega) (by omega) Hx
  have hhbl : ∀ x y : List I, (hullB x y).length = x.length := hullB_len
  generalize durS l a = P at *
  generalize durS l b = R at *
  generalize durS l (hull a b) = S at *
  generalize atS l q.t = X at *
  generalize hull a b = hab at *
  generalize conB a q.t = cc at *
  generalize interB a b = ii at *
  generalize inter a b = ji at *
  clear hok hD va vb
  simp [qqA, sgL, w0, w1]
  refine call_ret (lSanity14 _) ?_
  simp [w0, w1]
  refine call_ret (by simpa [sgL] using hM _) ?_
  simp
  refine callD_ret0 (fun Hx => hma Hx) ?_
  simp
  refine callD_ret0 (fun Hx => hmb Hx) ?_
  simp
  refine endD [(5, 7), (6, 8), (7, 8)] (by rfl) (by simp [okW, note, Eff.triv, Eff.wr, Eff.none, upTo, newAt]) ?_
  simp
  cases cc <;> cases ii <;> cases P with
  | none =>
    cases X with
    | none =>
      cases R with
      | none => cases S <;> (repeat ((first | refine call_ret (hda _) ?_ | refine call_ret (hdb _) ?_ | refine call_ret (hhu _) ?_ | refine call_ret (hdc _) ?_ | refine call_ret (hat _) ?_ | refine call_ret (hct _) ?_ | refine call_ret (hin _) ?_ | refine call_ret (s1 _) ?_ | refine call_ret (s2 _) ?_ | refine call_ret (s3 _) ?_ | refine call_ret (k1 _) ?_ | refine call_ret (k2 _) ?_); simp [atR])) <;> exact fin1 (rs := [.tmp 4]) (by rfl) (by simp [resA]) (by simp [noF])
      | some r =>
        obtain ⟨s, hs, hrs⟩ := m2 r rfl
        subst hs
        have s2 := hsu r s (hLR r rfl) (hLS s rfl)
        rw [hrs] at s2
        (repeat ((first | refine call_ret (hda _) ?_ | refine call_ret (hdb _) ?_ | refine call_ret (hhu _) ?_ | refine call_ret (hdc _) ?_ | refine call_ret (hat _) ?_ | refine call_ret (hct _) ?_ | refine call_ret (hin _) ?_ | refine call_ret (s1 _) ?_ | refine call_ret (s2 _) ?_ | refine call_ret (s3 _) ?_ | refine call_ret (k1 _) ?_ | refine call_ret (k2 _) ?_); simp [atR])) <;> exact fin1 (rs := [.tmp 4]) (by rfl) (by simp [resA]) (by simp [noF])
    | some x =>
      first
        | (obtain ⟨B, hB, -⟩ := m3 x rfl rfl
           cases hB
           done)
        | (cases R with
           | none => cases S <;> (repeat ((first | refine call_ret (hda _) ?_ | refine call_ret (hdb _) ?_ | refine call_ret (hhu _) ?_ | refine call_ret (hdc _) ?_ | refine call_ret (hat _) ?_ | refine call_ret (hct _) ?_ | refine call_ret (hin _) ?_ | refine call_ret (s1 _) ?_ | refine call_ret (s2 _) ?_ | refine call_ret (s3 _) ?_ | refine call_ret (k1 _) ?_ | refine call_ret (k2 _) ?_); simp [atR])) <;> exact fin1 (rs := [.tmp 4]) (by rfl) (by simp [resA]) (by simp [noF])
           | some r =>
             obtain ⟨s, hs, hrs⟩ := m2 r rfl
             subst hs
             have s2 := hsu r s (hLR r rfl) (hLS s rfl)
             rw [hrs] at s2
             (repeat ((first | refine call_ret (hda _) ?_ | refine call_ret (hdb _) ?_ | refine call_ret (hhu _) ?_ | refine call_ret (hdc _) ?_ | refine call_ret (hat _) ?_ | refine call_ret (hct _) ?_ | refine call_ret (hin _) ?_ | refine call_ret (s1 _) ?_ | refine call_ret (s2 _) ?_ | refine call_ret (s3 _) ?_ | refine call_ret (k1 _) ?_ | refine call_ret (k2 _) ?_); simp [atR])) <;> exact fin1 (rs := [.tmp 4]) (by rfl) (by simp [resA]) (by simp [noF]))
  | some p =>
    obtain ⟨s, hs, hps⟩ := m1 p rfl
    subst hs
    have s1 := hsu p s (hLP p rfl) (hLS s rfl)
    rw [hps] at s1
    cases X with
    | none =>
      cases R with
      | none => (repeat ((first | refine call_ret (hda _) ?_ | refine call_ret (hdb _) ?_ | refine call_ret (hhu _) ?_ | refine call_ret (hdc _) ?_ | refine call_ret (hat _) ?_ | refine call_ret (hct _) ?_ | refine call_ret (hin _) ?_ | refine call_ret (s1 _) ?_ | refine call_ret (s2 _) ?_ | refine call_ret (s3 _) ?_ | refine call_ret (k1 _) ?_ | refine call_ret (k2 _) ?_); simp [atR])) <;> exact fin1 (rs := [.tmp 4]) (by rfl) (by simp [resA]) (by simp [noF])
      | some r =>
        obtain ⟨s', hs', hrs⟩ := m2 r rfl
        cases hs'
        have s2 := hsu r s (hLR r rfl) (hLS s rfl)
        rw [hrs] at s2
        have k1 := hhl p r (hLP p rfl) (hLR r rfl)
        have k2 := hsa s (hLS s rfl)
        have e4 := fun h => m4 p r s rfl rfl rfl h
        first
          | ((repeat ((first | refine call_ret (hda _) ?_ | refine call_ret (hdb _) ?_ | refine call_ret (hhu _) ?_ | refine call_ret (hdc _) ?_ | refine call_ret (hat _) ?_ | refine call_ret (hct _) ?_ | refine call_ret (hin _) ?_ | refine call_ret (s1 _) ?_ | refine call_ret (s2 _) ?_ | refine call_ret (s3 _) ?_ | refine call_ret (k1 _) ?_ | refine call_ret (k2 _) ?_); simp [atR])) <;> exact fin1 (rs := [.tmp 4]) (by rfl) (by simp [resA]) (by simp [noF]))
          | (rw [← e4 rfl] at k1
             (repeat ((first | refine call_ret (hda _) ?_ | refine call_ret (hdb _) ?_ | refine call_ret (hhu _) ?_ | refine call_ret (hdc _) ?_ | refine call_ret (hat _) ?_ | refine call_ret (hct _) ?_ | refine call_ret (hin _) ?_ | refine call_ret (s1 _) ?_ | refine call_ret (s2 _) ?_ | refine call_ret (s3 _) ?_ | refine call_ret (k1 _) ?_ | refine call_ret (k2 _) ?_); simp [atR])) <;> exact fin1 (rs := [.tmp 4]) (by rfl) (by simp [resA]) (by simp [noF]))
    | some x =>
      cases R with
      | none => 
        first
          | ((repeat ((first | refine call_ret (hda _) ?_ | refine call_ret (hdb _) ?_ | refine call_ret (hhu _) ?_ | refine call_ret (hdc _) ?_ | refine call_ret (hat _) ?_ | refine call_ret (hct _) ?_ | refine call_ret (hin _) ?_ | refine call_ret (s1 _) ?_ | refine call_ret (s2 _) ?_ | refine call_ret (s3 _) ?_ | refine call_ret (k1 _) ?_ | refine call_ret (k2 _) ?_); simp [atR])) <;> exact fin1 (rs := [.tmp 4]) (by rfl) (by simp [resA]) (by simp [noF]))
          | (obtain ⟨p', hp', hxp⟩ := m3 x rfl rfl
             cases hp'
             have s3 := hsu x p (m5 x rfl) (hLP p rfl)
             rw [hxp] at s3
             (repeat ((first | refine call_ret (hda _) ?_ | refine call_ret (hdb _) ?_ | refine call_ret (hhu _) ?_ | refine call_ret (hdc _) ?_ | refine call_ret (hat _) ?_ | refine call_ret (hct _) ?_ | refine call_ret (hin _) ?_ | refine call_ret (s1 _) ?_ | refine call_ret (s2 _) ?_ | refine call_ret (s3 _) ?_ | refine call_ret (k1 _) ?_ | refine call_ret (k2 _) ?_); simp [atR])) <;> exact fin1 (rs := [.tmp 4]) (by rfl) (by simp [resA]) (by simp [noF]))
      | some r =>
        obtain ⟨s', hs', hrs⟩ := m2 r rfl
        cases hs'
        have s2 := hsu r s (hLR r rfl) (hLS s rfl)
        rw [hrs] at s2
        have k1 := hhl p r (hLP p rfl) (hLR r rfl)
        have k2 := hsa s (hLS s rfl)
        have e4 := fun h => m4 p r s rfl rfl rfl h
        try rw [← e4 rfl] at k1
        first
          | (obtain ⟨p', hp', hxp⟩ := m3 x rfl rfl
             cases hp'
             have s3 := hsu x p (m5 x rfl) (hLP p rfl)
             rw [hxp] at s3
             (repeat ((first | refine call_ret (hda _) ?_ | refine call_ret (hdb _) ?_ | refine call_ret (hhu _) ?_ | refine call_ret (hdc _) ?_ | refine call_ret (hat _) ?_ | refine call_ret (hct _) ?_ | refine call_ret (hin _) ?_ | refine call_ret (s1 _) ?_ | refine call_ret (s2 _) ?_ | refine call_ret (s3 _) ?_ | refine call_ret (k1 _) ?_ | refine call_ret (k2 _) ?_); simp [atR])) <;> exact fin1 (rs := [.tmp 4]) (by rfl) (by simp [resA]) (by simp [noF]))
          | ((repeat ((first | refine call_ret (hda _) ?_ | refine call_ret (hdb _) ?_ | refine call_ret (hhu _) ?_ | refine call_ret (hdc _) ?_ | refine call_ret (hat _) ?_ | refine call_ret (hct _) ?_ | refine call_ret (hin _) ?_ | refine call_ret (s1 _) ?_ | refine call_ret (s2 _) ?_ | refine call_ret (s3 _) ?_ | refine call_ret (k1 _) ?_ | refine call_ret (k2 _) ?_); simp [atR])) <;> exact fin1 (rs := [.tmp 4]) (by rfl) (by simp [resA]) (by simp [noF]))
end Go.Proofs.YtfjjckepnkkgjaaGreatDoor.Arm
