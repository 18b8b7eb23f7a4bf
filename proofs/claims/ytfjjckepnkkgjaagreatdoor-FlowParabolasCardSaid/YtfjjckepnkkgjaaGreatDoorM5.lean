/- Part of a proof: what the functions of the program do to abstract states, step by step. -/
import Derived.Test.YtfjjckepnkkgjaaGreatDoorM4
import Derived.WalkKit
import Derived.Stop.Asserts
import Derived.Lib.IfaceEq
import Derived.RowKitTokens
import Derived.Test.YtfjjckepnkkgjaaGreatDoorTie
import Derived.Test.YtfjjckepnkkgjaaGreatDoorCards
import Derived.ProofKit
import Derived.Stop.Joined
import Derived.SevenTiedAt
set_option linter.unusedVariables false
set_option linter.unusedSimpArgs false
namespace Go.Proofs.YtfjjckepnkkgjaaGreatDoor.Arm
open Go.Arm Go.Pl
def mkOp (x : Ins) : Int := 1 + low (IntKind.i64.wrap (x.op + 9)) 255 % 10
def mkO (i : Nat) (x : Ins) : Int := if i = 0 ∧ 0 < arity (mkOp x) then 2 else mkOp x
def mkI (N i : Nat) (x : Ins) : Ins :=
  ⟨mkO i x, if mkO i x = 2 then low x.a 255 % N else if 0 < arity (mkO i x) then low x.a 255 % i else 0, if 1 < arity (mkO i x) then low x.b 255 % i else 0, if mkO i x = 1 then nearI x.c 4096 else (0, 0)⟩
theorem mkOp_b (x : Ins) : 1 ≤ mkOp x ∧ mkOp x ≤ 10 := by
  have h1 := Int.emod_nonneg (low (IntKind.i64.wrap (x.op + 9)) 255) (b := 10) (by decide)
  have h2 := Int.emod_lt_of_pos (low (IntKind.i64.wrap (x.op + 9)) 255) (b := 10) (by decide)
  unfold mkOp; omega
theorem mkI_ok {N i : Nat} (hN : 0 < N) (x : Ins) : insOk N i (mkI N i x) := by
  have hb := mkOp_b x
  have hm1 := Int.emod_nonneg (low x.a 255) (b := (N : Int)) (by omega)
  have hm2 := Int.emod_lt_of_pos (low x.a 255) (b := (N : Int)) (by omega)
  have hO : (1 ≤ mkO i x ∧ mkO i x ≤ 10) ∧ (0 < arity (mkO i x) → 0 < i) := by
    unfold mkO
    split
    · exact ⟨by omega, fun h => absurd h (by decide)⟩
    · rename_i h
      refine ⟨hb, fun h2 => ?_⟩
      have : ¬ i = 0 := fun e => h ⟨e, h2⟩
      omega
  obtain ⟨ho, hi⟩ := hO
  unfold insOk mkI
  simp only
  generalize mkO i x = o at *
  by_cases o1 : o = 1
  · subst o1; exact .inl ⟨rfl, by rw [if_pos rfl]; exact nearI_valid _ (by decide)⟩
  by_cases o2 : o = 2
  · subst o2; exact .inr (.inl ⟨rfl, by rw [if_pos rfl]; exact hm1, by rw [if_pos rfl]; exact hm2⟩)
  by_cases o3 : o = 3
  · subst o3; exact .inr (.inr (.inl rfl))
  by_cases o4 : o ≤ 6
  · have ha : arity o = 1 := by unfold arity; rw [if_neg (by omega), if_pos (by omega)]
    have hi0 := hi (by omega)
    have h1 := Int.emod_nonneg (low x.a 255) (b := (i : Int)) (by omega)
    have h2 := Int.emod_lt_of_pos (low x.a 255) (b := (i : Int)) (by omega)
    rw [ha]
    simp only [if_neg o2, if_pos (show (0 : Int) < 1 by decide), if_neg (show ¬ (1 : Int) < 1 by decide)]
    exact .inr (.inr (.inr (.inl ⟨by omega, by omega, h1, h2, trivial⟩)))
  · have ha : arity o = 2 := by unfold arity; rw [if_neg (by omega), if_neg (by omega), if_pos (by omega)]
    have hi0 := hi (by omega)
    have h1 := Int.emod_nonneg (low x.a 255) (b := (i : Int)) (by omega)
    have h2 := Int.emod_lt_of_pos (low x.a 255) (b := (i : Int)) (by omega)
    have h3 := Int.emod_nonneg (low x.b 255) (b := (i : Int)) (by omega)
    have h4 := Int.emod_lt_of_pos (low x.b 255) (b := (i : Int)) (by omega)
    rw [ha]
    simp only [if_neg o2, if_pos (show (0 : Int) < 2 by decide), if_pos (show (1 : Int) < 2 by decide)]
    exact .inr (.inr (.inr (.inr ⟨by omega, by omega, h1, h2, h3, h4⟩)))
structure Rt where
  n : Int
  L : List Ins
  out : List Int
def ints (l : List Int) : AV := .slice (l.map fun k : Int => .int .i64 k) false
def rtA (c : Rt) : AV := .agg [.int .i64 c.n, .slice (c.L.map insA) false, ints c.out]
def mkN (c : Rt) : Nat := (1 + low c.n 255 % 3).toNat
theorem mkN_b (c : Rt) : (mkN c : Int) = 1 + low c.n 255 % 3 ∧ 1 ≤ mkN c ∧ mkN c ≤ 3 := by
  have h1 := Int.emod_nonneg (low c.n 255) (b := 3) (by decide)
  have h2 := Int.emod_lt_of_pos (low c.n 255) (b := 3) (by decide)
  unfold mkN; omega
def mkL (c : Rt) (i : Nat) : List Ins := (List.range i).map fun k => mkI (mkN c) k ((c.L[k]?).getD ⟨0, 0, 0, (0, 0)⟩)
theorem mkL_succ (c : Rt) (i : Nat) : mkL c (i + 1) = mkL c i ++ [mkI (mkN c) i ((c.L[i]?).getD ⟨0, 0, 0, (0, 0)⟩)] := by simp [mkL, List.range_succ]
theorem mkL_len (c : Rt) (i : Nat) : (mkL c i).length = i := by simp [mkL]
def mkC (c : Rt) (most : Nat) : Nat := min c.L.length most
def mkLL (c : Rt) (most : Nat) : List Ins := if mkC c most = 0 then [⟨2, 0, 0, (0, 0)⟩] else mkL c (mkC c most)
def mkAt (c : Rt) (m i : Nat) : Nat := match c.out[i]? with
  | some x => (low x 65535 % m).toNat
  | none => m - 1
def mkT (c : Rt) (most : Nat) : Tp := ⟨mkN c, mkLL c most, (List.range (mkN c)).map (mkAt c (mkLL c most).length)⟩
theorem mkLL_len (c : Rt) (most : Nat) (hm : most ≤ 1000) : 1 ≤ (mkLL c most).length ∧ (mkLL c most).length ≤ 1000 := by
  unfold mkLL
  split
  · simp
  · rename_i h
    rw [mkL_len]; unfold mkC at *; omega
theorem mkAt_lt (c : Rt) {m : Nat} (hm : 0 < m) (i : Nat) : mkAt c m i < m := by
  unfold mkAt
  split
  · rename_i x _
    have h1 := Int.emod_nonneg (low x 65535) (b := (m : Int)) (by omega)
    have h2 := Int.emod_lt_of_pos (low x 65535) (b := (m : Int)) (by omega)
    omega
  · omega
theorem mkT_ok (c : Rt) (most : Nat) (hm : most ≤ 1000) : tpOk (mkT c most) := by
  have hl := mkLL_len c most hm
  have hN := mkN_b c
  refine ⟨fun i x hx => ?_, by simp [mkT], fun k hk => ?_, by show mkN c ≤ 1000; omega, by show (mkLL c most).length ≤ 100000; omega⟩
  · show insOk (mkN c) i x
    have hx' : (mkLL c most)[i]? = some x := hx
    unfold mkLL at hx'
    split at hx'
    · cases i with
      | zero => simp at hx'; subst hx'; exact .inr (.inl ⟨rfl, Int.le_refl _, by show (0 : Int) < mkN c; omega⟩)
      | succ i => simp at hx'
    · have hlt : i < mkC c most := by have := (List.getElem?_eq_some_iff.1 hx').1; rw [mkL_len] at this; exact this
      simp [mkL, hlt] at hx'
      subst hx'
      exact mkI_ok (by omega) _
  · obtain ⟨j, _, rfl⟩ := List.mem_map.1 hk
    exact mkAt_lt c (by omega) j
theorem pushIns {H J : AH} {v v0 : AV} {l : List Ins} {x : Ins} (hacc : Arm.Acc H J v 5 (l.map insA) v0) (h0 : emptyA v0 = true) (hl : l.length ≤ 1000000000) :
    ∃ v' J', appendA tab (H ++ J) 22 v (.slice [insA x] true) = some (v', H ++ J') ∧ Arm.Acc H J' v' 5 ((l ++ [x]).map insA) v0 ∧ (∀ j y, J[j]? = some y → (∀ n, v ≠ .ref (H.length + j) n) → J'[j]? = some y) ∧ J.length ≤ J'.length ∧ (∀ j n, v' = .ref (H.length + j) n → (∃ m, v = .ref (H.length + j) m) ∨ J.length ≤ j) := by
  obtain ⟨v', J', hap, hacc', hk, hle, hn⟩ := Acc.push (T := tab) (t := 22) (e := 63) (x := .slice [insA x] true) (ys := [insA x]) hacc tab22 rfl tab63 h0 rfl (by simp [insA, okc]) ⟨by decide, by simp⟩ (by simp; omega) (by simp; omega)
  exact ⟨v', J', hap, by simpa using hacc', hk, hle, hn⟩
def LMk (c : Rt) (most : Nat) (H : AH) (i : Nat) (fr : AFr) (H' : AH) : Prop :=
  fr 1 = .int .i64 most ∧ fr 2 = .ptr H.length 1 0 0 ∧ fr 4 = .ptr (H.length + 1) 1 0 0 ∧ fr 5 = .ptr (H.length + 2) 1 0 0 ∧ fr 6 = .int .i64 i ∧ i ≤ mkC c most ∧
  ∃ v J, (i = 0 → v = .nilslice) ∧ H' = H ++ (.row true 3 [rtA c] :: .row true 3 [.agg [.int .i64 0, .nilslice, .nilslice]] :: .row true 3 [.agg [.int .i64 (mkN c), v, .nilslice]] :: J) ∧ Arm.Acc (H ++ [.row true 3 [rtA c], .row true 3 [.agg [.int .i64 0, .nilslice, .nilslice]], .row true 3 [.agg [.int .i64 (mkN c), v, .nilslice]]]) J v 5 ((mkL c i).map insA) .nilslice
def LWv (c : Rt) (most : Nat) (H J : AH) (w : AV) : Prop := (w = .slice [insA ⟨2, 0, 0, (0, 0)⟩] true ∧ mkLL c most = [⟨2, 0, 0, (0, 0)⟩]) ∨ ∃ kk m, w = .ref (H.length + (kk + 3)) m ∧ m = (mkLL c most).length ∧ J[kk]? = some (.row true 5 ((mkLL c most).map insA))
def outL (c : Rt) (m i : Nat) : List AV := (List.range i).map fun k => .int .i64 (mkAt c m k : Nat)
def LOv (c : Rt) (m i : Nat) (H J : AH) (w vo : AV) : Prop := (vo = .nilslice ∧ i = 0) ∨ ∃ k2, vo = .ref (H.length + (k2 + 3)) i ∧ J[k2]? = some (.row true 1 (outL c m i)) ∧ ∀ n, w ≠ .ref (H.length + (k2 + 3)) n
def LM2 (c : Rt) (most : Nat) (H : AH) (i : Nat) (fr : AFr) (H' : AH) : Prop :=
  fr 2 = .ptr H.length 1 0 0 ∧ fr 4 = .ptr (H.length + 1) 1 0 0 ∧ fr 5 = .ptr (H.length + 2) 1 0 0 ∧ fr 9 = .int .i64 i ∧ i ≤ mkN c ∧
  ∃ w vo J, H' = H ++ (.row true 3 [rtA c] :: .row true 3 [.agg [.int .i64 0, .nilslice, .nilslice]] :: .row true 3 [.agg [.int .i64 (mkN c), w, vo]] :: J) ∧ LWv c most H J w ∧ LOv c (mkLL c most).length i H J w vo
theorem app_intN {H : AH} {k : Int} {f : Bool} : appendA tab H 23 .nilslice (.slice [.int .i64 k] f) = some (.ref H.length 1, H ++ [.row true 1 [.int .i64 k]]) := by
  have h2 : appendA tab H 23 .nilslice (.slice [.int .i64 k] f) = growA i3 H .nilslice [.int .i64 k] := by
    simp only [appendA, tab23, tab3, els]
    rfl
  rw [h2]
  rfl
theorem app_int {H : AH} {k : Int} {l : List AV} {b n : Nat} {f : Bool} (hn : l.length = n) (hnb : n ≤ 1000000000) (hH : H[b]? = some (.row true 1 l)) :
    appendA tab H 23 (.ref b n) (.slice [.int .i64 k] f) = some (.ref b (n + 1), H.set b (.row true 1 (l ++ [.int .i64 k]))) :=
  app_row tab23 rfl tab3 rfl (by decide) (by simp [okc]) (by simp) (by decide) hn hnb hH
theorem outL_succ (c : Rt) (m i : Nat) : outL c m (i + 1) = outL c m i ++ [.int .i64 (mkAt c m i : Nat)] := by simp [outL, List.range_succ]
theorem outL_len (c : Rt) (m i : Nat) : (outL c m i).length = i := by simp [outL]
set_option maxHeartbeats 4000000 in
theorem r8Made (c : Rt) (most : Nat) (hm : most ≤ 1000) (hl : c.L.length ≤ 200000000000000) (ho : c.out.length ≤ 200000000000000) (H : AH) : Sound E 50 [rtA c, .int .i64 most] H (.ret (tpA (mkT c most))) H := by
  refine sound_of_awp tabOk mixed Tryz.func50 rfl (by rfl) Tryz.ntmps50 (by kernel_rfl) (by simp) ?_
  obtain ⟨hN1, hN2⟩ := mkN_b c
  have a255 := and255
  have lb := fun x => low_bounds x (m := 255) (by decide)
  have wN : IntKind.i64.wrap (1 + IntKind.i64.wrap ((low c.n 255).tmod 3)) = (mkN c : Int) := by
    have h0 := lb c.n
    rw [Int.tmod_eq_emod_of_nonneg h0.1, wrap64 (n := low c.n 255 % 3) (by omega) (by omega), wrap64 (by omega) (by omega), hN1]
  have wN2 : IntKind.i64.wrap (1 + (low c.n 255).tmod 3) = (mkN c : Int) := by
    have h0 := lb c.n
    rw [Int.tmod_eq_emod_of_nonneg h0.1, wrap64 (by omega) (by omega), hN1]
  simp [rtA, a255, wN, wN2]
  refine loop_count (LMk c most H) (fun i => mkC c most - i) 0 ⟨by simp, by simp, by simp, by simp, by simp, by omega, .nilslice, [], fun _ => rfl, by simp [rtA], .inl ⟨by simp [mkL], rfl⟩⟩ ?_
  rintro i fr H' ⟨g1, g2, g4, g5, g6, hi, v, J, hv0, rfl, hacc⟩
  by_cases h1 : i < c.L.length
  · by_cases h2 : i < most
    · have hlt : i < mkC c most := by unfold mkC; omega
      obtain ⟨x, hx⟩ := get_lt h1
      have hxE : ∀ h, c.L[i]'h = x := fun h => (List.getElem?_eq_some_iff.1 hx).2
      have hA := fun op Hx => r8Arity op Hx
      have hmo := mkOp_b x
      have wop : IntKind.i64.wrap (1 + (low (IntKind.i64.wrap (x.op + 9)) 255).tmod 10) = mkOp x := by
        have h0 := lb (IntKind.i64.wrap (x.op + 9))
        rw [Int.tmod_eq_emod_of_nonneg h0.1, wrap64 (by omega) (by omega)]; rfl
      have w2 : IntKind.i64.wrap ((i : Int) + 1) = ((i + 1 : Nat) : Int) := by rw [wrap64 (by omega) (by omega)]; omega
      have hNne : ¬ (mkN c : Int) = 0 := by omega
      have hNn : ¬ mkN c = 0 := by omega
      have wr1 : IntKind.i64.wrap 1 = 1 := wrap64 (by decide) (by decide)
      have wan : (low x.a 255).tmod (mkN c) = low x.a 255 % mkN c := Int.tmod_eq_emod_of_nonneg (lb x.a).1
      simp [g1, g2, g5, g6, rtA, h1, h2, hx, hxE, insA, a255, wop]
      by_cases hi0 : i = 0
      · subst hi0
        simp [g6]
        refine call_ret (hA (mkOp x) _) ?_
        simp
        refine branch (fun hb => ?_) (fun hb => ?_)
        · have hb' : 0 < arity (mkOp x) := by simpa using hb
          have hO : mkO 0 x = 2 := by unfold mkO; rw [if_pos ⟨rfl, hb'⟩]
          have hine : True := trivial
          have hiN : True := trivial
          have wai : True := trivial
          have wbi : True := trivial
          simp
          have ha : arity (2) = 0 := rfl
          have e2 : ((2) == 2) = true := rfl
          have e1 : ((2) == 1) = false := rfl
          have hy : mkI (mkN c) 0 x = ⟨2, low x.a 255 % mkN c, 0, (0, 0)⟩ := by unfold mkI; rw [hO]; simp [show arity 2 = 0 from rfl]
          refine call_ret (hA (2) _) ?_
          simp [ha, g2, g5, g6, rtA, h1, hx, hxE, insA, a255, hine, hiN, wai, wbi, wan]
          refine call_ret (hA (2) _) ?_
          simp [ha, e2, e1, g2, g5, g6, rtA, h1, hx, hxE, insA, a255, hine, hiN, wai, wbi, wan, hNne, hNn]
          refine endD [] (by rfl) (by simp [okW, note, Eff.triv, Eff.wr, Eff.none, upTo, newAt]) ?_
          simp [e2, e1, g2, g5, g6, rtA, h1, hx, hxE, insA, a255, wan, hNne, hNn]
          obtain ⟨v', J', hap, hacc', _⟩ := pushIns (x := mkI (mkN c) 0 x) (hacc.len (L := [.row true 5 [insA (mkI (mkN c) 0 x)]])) rfl (by rw [mkL_len]; omega)
          obtain ⟨kk', hv', hJk'⟩ : ∃ kk', v' = .ref (H.length + (kk' + 3)) 1 ∧ J'[kk']? = some (.row true 5 ((mkL c 1).map insA)) := by
            rcases hacc' with ⟨h0', _⟩ | ⟨kk', h1', h2'⟩
            · simp at h0'
            · exact ⟨kk', by rw [h1']; simp [mkL_len]; omega, by rw [mkL_succ]; simpa [hx] using h2'⟩
          subst hv'
          rw [hy] at hap
          refine bind_some (by simpa [insA, rtA] using hap) ?_
          simp [g5, g6, w2, wr1]
          exact ⟨1, by show mkC c most - 1 < mkC c most - 0; omega, by simp [g1], by simp [g2], by simp [g4], by simp [g5], by simp, by omega, .ref (H.length + (kk' + 3)) 1, J', fun h => by omega, by simp [rtA], .inr ⟨kk', by simp [mkL_len]; omega, hJk'⟩⟩
        · have hb' : ¬ 0 < arity (mkOp x) := by simpa using hb
          have hO : mkO 0 x = mkOp x := by unfold mkO; rw [if_neg (fun h => hb' h.2)]
          have hine : True := trivial
          have hiN : True := trivial
          have wai : True := trivial
          have wbi : True := trivial
          have h3 : mkOp x ≤ 3 := by unfold arity at hb'; split at hb' <;> first | omega | (split at hb' <;> first | omega | (split at hb' <;> omega))
          rcases (show mkOp x = 1 ∨ mkOp x = 2 ∨ mkOp x = 3 by omega) with h0 | h0 | h0
          · rw [h0] at hO ⊢
            try simp
            have ha : arity (1) = 0 := rfl
            have e2 : ((1) == 2) = false := rfl
            have e1 : ((1) == 1) = true := rfl
            have hy : mkI (mkN c) 0 x = ⟨1, 0, 0, nearI x.c 4096⟩ := by unfold mkI; rw [hO]; simp [show arity 1 = 0 from rfl]
            refine call_ret (hA (1) _) ?_
            simp [ha, g2, g5, g6, rtA, h1, hx, hxE, insA, a255, hine, hiN, wai, wbi, wan]
            refine call_ret (hA (1) _) ?_
            simp [ha, e2, e1, g2, g5, g6, rtA, h1, hx, hxE, insA, a255, hine, hiN, wai, wbi, wan, hNne, hNn]
            refine call_ret (rNear x.c 4096 (by decide) _) ?_
            simp [g2, g5, g6, rtA]
            obtain ⟨v', J', hap, hacc', _⟩ := pushIns (x := mkI (mkN c) 0 x) (hacc.len (L := [.row true 5 [insA (mkI (mkN c) 0 x)]])) rfl (by rw [mkL_len]; omega)
            obtain ⟨kk', hv', hJk'⟩ : ∃ kk', v' = .ref (H.length + (kk' + 3)) 1 ∧ J'[kk']? = some (.row true 5 ((mkL c 1).map insA)) := by
              rcases hacc' with ⟨h0', _⟩ | ⟨kk', h1', h2'⟩
              · simp at h0'
              · exact ⟨kk', by rw [h1']; simp [mkL_len]; omega, by rw [mkL_succ]; simpa [hx] using h2'⟩
            subst hv'
            rw [hy] at hap
            refine bind_some (by simpa [insA, rtA] using hap) ?_
            simp [g5, g6, w2, wr1]
            exact ⟨1, by show mkC c most - 1 < mkC c most - 0; omega, by simp [g1], by simp [g2], by simp [g4], by simp [g5], by simp, by omega, .ref (H.length + (kk' + 3)) 1, J', fun h => by omega, by simp [rtA], .inr ⟨kk', by simp [mkL_len]; omega, hJk'⟩⟩
          · rw [h0] at hO ⊢
            try simp
            have ha : arity (2) = 0 := rfl
            have e2 : ((2) == 2) = true := rfl
            have e1 : ((2) == 1) = false := rfl
            have hy : mkI (mkN c) 0 x = ⟨2, low x.a 255 % mkN c, 0, (0, 0)⟩ := by unfold mkI; rw [hO]; simp [show arity 2 = 0 from rfl]
            refine call_ret (hA (2) _) ?_
            simp [ha, g2, g5, g6, rtA, h1, hx, hxE, insA, a255, hine, hiN, wai, wbi, wan]
            refine call_ret (hA (2) _) ?_
            simp [ha, e2, e1, g2, g5, g6, rtA, h1, hx, hxE, insA, a255, hine, hiN, wai, wbi, wan, hNne, hNn]
            refine endD [] (by rfl) (by simp [okW, note, Eff.triv, Eff.wr, Eff.none, upTo, newAt]) ?_
            simp [e2, e1, g2, g5, g6, rtA, h1, hx, hxE, insA, a255, wan, hNne, hNn]
            obtain ⟨v', J', hap, hacc', _⟩ := pushIns (x := mkI (mkN c) 0 x) (hacc.len (L := [.row true 5 [insA (mkI (mkN c) 0 x)]])) rfl (by rw [mkL_len]; omega)
            obtain ⟨kk', hv', hJk'⟩ : ∃ kk', v' = .ref (H.length + (kk' + 3)) 1 ∧ J'[kk']? = some (.row true 5 ((mkL c 1).map insA)) := by
              rcases hacc' with ⟨h0', _⟩ | ⟨kk', h1', h2'⟩
              · simp at h0'
              · exact ⟨kk', by rw [h1']; simp [mkL_len]; omega, by rw [mkL_succ]; simpa [hx] using h2'⟩
            subst hv'
            rw [hy] at hap
            refine bind_some (by simpa [insA, rtA] using hap) ?_
            simp [g5, g6, w2, wr1]
            exact ⟨1, by show mkC c most - 1 < mkC c most - 0; omega, by simp [g1], by simp [g2], by simp [g4], by simp [g5], by simp, by omega, .ref (H.length + (kk' + 3)) 1, J', fun h => by omega, by simp [rtA], .inr ⟨kk', by simp [mkL_len]; omega, hJk'⟩⟩
          · rw [h0] at hO ⊢
            try simp
            have ha : arity (3) = 0 := rfl
            have e2 : ((3) == 2) = false := rfl
            have e1 : ((3) == 1) = false := rfl
            have hy : mkI (mkN c) 0 x = ⟨3, 0, 0, (0, 0)⟩ := by unfold mkI; rw [hO]; simp [show arity 3 = 0 from rfl]
            refine call_ret (hA (3) _) ?_
            simp [ha, g2, g5, g6, rtA, h1, hx, hxE, insA, a255, hine, hiN, wai, wbi, wan]
            refine call_ret (hA (3) _) ?_
            simp [ha, e2, e1, g2, g5, g6, rtA, h1, hx, hxE, insA, a255, hine, hiN, wai, wbi, wan, hNne, hNn]
            obtain ⟨v', J', hap, hacc', _⟩ := pushIns (x := mkI (mkN c) 0 x) (hacc.len (L := [.row true 5 [insA (mkI (mkN c) 0 x)]])) rfl (by rw [mkL_len]; omega)
            obtain ⟨kk', hv', hJk'⟩ : ∃ kk', v' = .ref (H.length + (kk' + 3)) 1 ∧ J'[kk']? = some (.row true 5 ((mkL c 1).map insA)) := by
              rcases hacc' with ⟨h0', _⟩ | ⟨kk', h1', h2'⟩
              · simp at h0'
              · exact ⟨kk', by rw [h1']; simp [mkL_len]; omega, by rw [mkL_succ]; simpa [hx] using h2'⟩
            subst hv'
            rw [hy] at hap
            refine bind_some (by simpa [insA, rtA] using hap) ?_
            simp [g5, g6, w2, wr1]
            exact ⟨1, by show mkC c most - 1 < mkC c most - 0; omega, by simp [g1], by simp [g2], by simp [g4], by simp [g5], by simp, by omega, .ref (H.length + (kk' + 3)) 1, J', fun h => by omega, by simp [rtA], .inr ⟨kk', by simp [mkL_len]; omega, hJk'⟩⟩
      · have hO : mkO i x = mkOp x := by unfold mkO; rw [if_neg (fun h => hi0 h.1)]
        have hi0' : ((i : Int) == 0) = false := by rw [beq_eq_false_iff_ne]; omega
        have hine : ¬ (i : Int) = 0 := by omega
        have hiN : ¬ i = 0 := hi0
        have tm : ∀ y : Int, (low y 255).tmod i = low y 255 % i := fun y => Int.tmod_eq_emod_of_nonneg (lb y).1
        have wm : ∀ y : Int, IntKind.i64.wrap (low y 255 % i) = low y 255 % i := fun y => by have p1 := Int.emod_nonneg (low y 255) hine; have p2 := Int.emod_lt_of_pos (low y 255) (b := (i : Int)) (by omega); exact wrap64 (by omega) (by omega)
        have wai : (low x.a 255).tmod i = low x.a 255 % i := tm _
        have wbi : (low x.b 255).tmod i = low x.b 255 % i := tm _
        simp [hi0']
        rcases (show mkOp x = 1 ∨ mkOp x = 2 ∨ mkOp x = 3 ∨ (4 ≤ mkOp x ∧ mkOp x ≤ 6) ∨ 7 ≤ mkOp x by omega) with h0 | h0 | h0 | h0 | h0
        · rw [h0] at hO ⊢
          try simp
          have ha : arity (1) = 0 := rfl
          have e2 : ((1) == 2) = false := rfl
          have e1 : ((1) == 1) = true := rfl
          have hy : mkI (mkN c) i x = ⟨1, 0, 0, nearI x.c 4096⟩ := by unfold mkI; rw [hO]; simp [show arity 1 = 0 from rfl]
          refine call_ret (hA (1) _) ?_
          simp [ha, g2, g5, g6, rtA, h1, hx, hxE, insA, a255, hine, hiN, wai, wbi, wan]
          refine call_ret (hA (1) _) ?_
          simp [ha, e2, e1, g2, g5, g6, rtA, h1, hx, hxE, insA, a255, hine, hiN, wai, wbi, wan, hNne, hNn]
          refine call_ret (rNear x.c 4096 (by decide) _) ?_
          simp [g2, g5, g6, rtA]
          obtain ⟨v', J', hap, hacc', _⟩ := pushIns (x := mkI (mkN c) i x) (hacc.len (L := [.row true 5 [insA (mkI (mkN c) i x)]])) rfl (by rw [mkL_len]; omega)
          obtain ⟨kk', hv', hJk'⟩ : ∃ kk', v' = .ref (H.length + (kk' + 3)) (i + 1) ∧ J'[kk']? = some (.row true 5 ((mkL c (i + 1)).map insA)) := by
            rcases hacc' with ⟨h0', _⟩ | ⟨kk', h1', h2'⟩
            · simp at h0'
            · exact ⟨kk', by rw [h1']; simp [mkL_len]; omega, by rw [mkL_succ]; simpa [hx] using h2'⟩
          subst hv'
          rw [hy] at hap
          refine bind_some (by simpa [insA, rtA] using hap) ?_
          simp [g5, g6, w2, wr1]
          exact ⟨i + 1, by show mkC c most - (i + 1) < mkC c most - i; omega, by simp [g1], by simp [g2], by simp [g4], by simp [g5], by simp, by omega, .ref (H.length + (kk' + 3)) (i + 1), J', fun h => by omega, by simp [rtA], .inr ⟨kk', by simp [mkL_len]; omega, hJk'⟩⟩
        · rw [h0] at hO ⊢
          try simp
          have ha : arity (2) = 0 := rfl
          have e2 : ((2) == 2) = true := rfl
          have e1 : ((2) == 1) = false := rfl
          have hy : mkI (mkN c) i x = ⟨2, low x.a 255 % mkN c, 0, (0, 0)⟩ := by unfold mkI; rw [hO]; simp [show arity 2 = 0 from rfl]
          refine call_ret (hA (2) _) ?_
          simp [ha, g2, g5, g6, rtA, h1, hx, hxE, insA, a255, hine, hiN, wai, wbi, wan]
          refine call_ret (hA (2) _) ?_
          simp [ha, e2, e1, g2, g5, g6, rtA, h1, hx, hxE, insA, a255, hine, hiN, wai, wbi, wan, hNne, hNn]
          refine endD [] (by rfl) (by simp [okW, note, Eff.triv, Eff.wr, Eff.none, upTo, newAt]) ?_
          simp [e2, e1, g2, g5, g6, rtA, h1, hx, hxE, insA, a255, wan, hNne, hNn]
          obtain ⟨v', J', hap, hacc', _⟩ := pushIns (x := mkI (mkN c) i x) (hacc.len (L := [.row true 5 [insA (mkI (mkN c) i x)]])) rfl (by rw [mkL_len]; omega)
          obtain ⟨kk', hv', hJk'⟩ : ∃ kk', v' = .ref (H.length + (kk' + 3)) (i + 1) ∧ J'[kk']? = some (.row true 5 ((mkL c (i + 1)).map insA)) := by
            rcases hacc' with ⟨h0', _⟩ | ⟨kk', h1', h2'⟩
            · simp at h0'
            · exact ⟨kk', by rw [h1']; simp [mkL_len]; omega, by rw [mkL_succ]; simpa [hx] using h2'⟩
          subst hv'
          rw [hy] at hap
          refine bind_some (by simpa [insA, rtA] using hap) ?_
          simp [g5, g6, w2, wr1]
          exact ⟨i + 1, by show mkC c most - (i + 1) < mkC c most - i; omega, by simp [g1], by simp [g2], by simp [g4], by simp [g5], by simp, by omega, .ref (H.length + (kk' + 3)) (i + 1), J', fun h => by omega, by simp [rtA], .inr ⟨kk', by simp [mkL_len]; omega, hJk'⟩⟩
        · rw [h0] at hO ⊢
          try simp
          have ha : arity (3) = 0 := rfl
          have e2 : ((3) == 2) = false := rfl
          have e1 : ((3) == 1) = false := rfl
          have hy : mkI (mkN c) i x = ⟨3, 0, 0, (0, 0)⟩ := by unfold mkI; rw [hO]; simp [show arity 3 = 0 from rfl]
          refine call_ret (hA (3) _) ?_
          simp [ha, g2, g5, g6, rtA, h1, hx, hxE, insA, a255, hine, hiN, wai, wbi, wan]
          refine call_ret (hA (3) _) ?_
          simp [ha, e2, e1, g2, g5, g6, rtA, h1, hx, hxE, insA, a255, hine, hiN, wai, wbi, wan, hNne, hNn]
          obtain ⟨v', J', hap, hacc', _⟩ := pushIns (x := mkI (mkN c) i x) (hacc.len (L := [.row true 5 [insA (mkI (mkN c) i x)]])) rfl (by rw [mkL_len]; omega)
          obtain ⟨kk', hv', hJk'⟩ : ∃ kk', v' = .ref (H.length + (kk' + 3)) (i + 1) ∧ J'[kk']? = some (.row true 5 ((mkL c (i + 1)).map insA)) := by
            rcases hacc' with ⟨h0', _⟩ | ⟨kk', h1', h2'⟩
            · simp at h0'
            · exact ⟨kk', by rw [h1']; simp [mkL_len]; omega, by rw [mkL_succ]; simpa [hx] using h2'⟩
          subst hv'
          rw [hy] at hap
          refine bind_some (by simpa [insA, rtA] using hap) ?_
          simp [g5, g6, w2, wr1]
          exact ⟨i + 1, by show mkC c most - (i + 1) < mkC c most - i; omega, by simp [g1], by simp [g2], by simp [g4], by simp [g5], by simp, by omega, .ref (H.length + (kk' + 3)) (i + 1), J', fun h => by omega, by simp [rtA], .inr ⟨kk', by simp [mkL_len]; omega, hJk'⟩⟩
        · have h02 : ¬ mkOp x = 2 := by omega
          have h01 : ¬ mkOp x = 1 := by omega
          have ha : arity (mkOp x) = 1 := by unfold arity; rw [if_neg (by omega), if_pos (by omega)]
          have e2 : ((mkOp x) == 2) = false := by rw [beq_eq_false_iff_ne]; exact h02
          have e1 : ((mkOp x) == 1) = false := by rw [beq_eq_false_iff_ne]; exact h01
          have hy : mkI (mkN c) i x = ⟨mkOp x, low x.a 255 % i, 0, (0, 0)⟩ := by unfold mkI; rw [hO, ha, if_neg h02, if_neg h01]; rfl
          refine call_ret (hA (mkOp x) _) ?_
          simp [ha, g2, g5, g6, rtA, h1, hx, hxE, insA, a255, hine, hiN, wai, wbi, wan]
          refine call_ret (hA (mkOp x) _) ?_
          simp [ha, e2, e1, g2, g5, g6, rtA, h1, hx, hxE, insA, a255, hine, hiN, wai, wbi, wan, hNne, hNn]
          obtain ⟨v', J', hap, hacc', _⟩ := pushIns (x := mkI (mkN c) i x) (hacc.len (L := [.row true 5 [insA (mkI (mkN c) i x)]])) rfl (by rw [mkL_len]; omega)
          obtain ⟨kk', hv', hJk'⟩ : ∃ kk', v' = .ref (H.length + (kk' + 3)) (i + 1) ∧ J'[kk']? = some (.row true 5 ((mkL c (i + 1)).map insA)) := by
            rcases hacc' with ⟨h0', _⟩ | ⟨kk', h1', h2'⟩
            · simp at h0'
            · exact ⟨kk', by rw [h1']; simp [mkL_len]; omega, by rw [mkL_succ]; simpa [hx] using h2'⟩
          subst hv'
          rw [hy] at hap
          refine bind_some (by simpa [insA, rtA] using hap) ?_
          simp [g5, g6, w2, wr1]
          exact ⟨i + 1, by show mkC c most - (i + 1) < mkC c most - i; omega, by simp [g1], by simp [g2], by simp [g4], by simp [g5], by simp, by omega, .ref (H.length + (kk' + 3)) (i + 1), J', fun h => by omega, by simp [rtA], .inr ⟨kk', by simp [mkL_len]; omega, hJk'⟩⟩
        · have h02 : ¬ mkOp x = 2 := by omega
          have h01 : ¬ mkOp x = 1 := by omega
          have ha : arity (mkOp x) = 2 := by unfold arity; rw [if_neg (by omega), if_neg (by omega), if_pos (by omega)]
          have e2 : ((mkOp x) == 2) = false := by rw [beq_eq_false_iff_ne]; exact h02
          have e1 : ((mkOp x) == 1) = false := by rw [beq_eq_false_iff_ne]; exact h01
          have hy : mkI (mkN c) i x = ⟨mkOp x, low x.a 255 % i, low x.b 255 % i, (0, 0)⟩ := by unfold mkI; rw [hO, ha, if_neg h02, if_neg h01]; rfl
          refine call_ret (hA (mkOp x) _) ?_
          simp [ha, g2, g5, g6, rtA, h1, hx, hxE, insA, a255, hine, hiN, wai, wbi, wan]
          refine call_ret (hA (mkOp x) _) ?_
          simp [ha, e2, e1, g2, g5, g6, rtA, h1, hx, hxE, insA, a255, hine, hiN, wai, wbi, wan, hNne, hNn]
          obtain ⟨v', J', hap, hacc', _⟩ := pushIns (x := mkI (mkN c) i x) (hacc.len (L := [.row true 5 [insA (mkI (mkN c) i x)]])) rfl (by rw [mkL_len]; omega)
          obtain ⟨kk', hv', hJk'⟩ : ∃ kk', v' = .ref (H.length + (kk' + 3)) (i + 1) ∧ J'[kk']? = some (.row true 5 ((mkL c (i + 1)).map insA)) := by
            rcases hacc' with ⟨h0', _⟩ | ⟨kk', h1', h2'⟩
            · simp at h0'
            · exact ⟨kk', by rw [h1']; simp [mkL_len]; omega, by rw [mkL_succ]; simpa [hx] using h2'⟩
          subst hv'
          rw [hy] at hap
          refine bind_some (by simpa [insA, rtA] using hap) ?_
          simp [g5, g6, w2, wr1]
          exact ⟨i + 1, by show mkC c most - (i + 1) < mkC c most - i; omega, by simp [g1], by simp [g2], by simp [g4], by simp [g5], by simp, by omega, .ref (H.length + (kk' + 3)) (i + 1), J', fun h => by omega, by simp [rtA], .inr ⟨kk', by simp [mkL_len]; omega, hJk'⟩⟩
    · have hi' : i = mkC c most := by unfold mkC at *; omega
      simp [g1, g2, g5, g6, rtA, h1, h2]
      by_cases h0 : mkC c most = 0
      · have hv : v = .nilslice := hv0 (by omega)
        subst hv
        simp [g5]
        refine loop_count (LM2 c most H) (fun i => mkN c - i) 0 ⟨by simp [g2], by simp [g4], by simp [g5], by simp, by omega, .slice [insA ⟨2, 0, 0, (0, 0)⟩] true, .nilslice, J, by simp [insA, rtA], .inl ⟨rfl, by unfold mkLL; rw [if_pos h0]⟩, .inl ⟨rfl, rfl⟩⟩ ?_
        clear g1 g2 g4 g5 g6 hacc hv0
        rintro i fr H' ⟨g2, g4, g5, g9, hi, w, vo, J, rfl, hw, hvo⟩
        have hmb := mkLL_len c most hm
        have w2 : IntKind.i64.wrap ((i : Int) + 1) = ((i + 1 : Nat) : Int) := by rw [wrap64 (by omega) (by omega)]; omega
        have wr1 : IntKind.i64.wrap 1 = 1 := wrap64 (by decide) (by decide)
        simp [g5, g9]
        refine branch (fun hc => ?_) (fun hc => ?_)
        · have hlt : i < mkN c := by simpa using hc
          rcases hw with ⟨rfl, hML⟩ | ⟨kk, m, rfl, hmm, hJ⟩
          · rcases hvo with ⟨rfl, rfl⟩ | ⟨k2, rfl, hJo, hne⟩
            · by_cases ho1 : 0 < c.out.length
              · have hm1 : (mkLL c most).length = 1 := by rw [hML]; rfl
                have wml : IntKind.i64.wrap 0 = 0 := wrap64 (by decide) (by decide)
                obtain ⟨y, hy⟩ := get_lt ho1
                have hyE : ∀ h, c.out[0]'h = y := fun h => (List.getElem?_eq_some_iff.1 hy).2
                have hat : ((mkAt c (mkLL c most).length 0 : Nat) : Int) = (low y 65535).tmod (1 : Int) := by
                  have q0 := low_bounds y (m := 65535) (by decide)
                  have q1 := Int.emod_nonneg (low y 65535) (b := ((mkLL c most).length : Int)) (by omega)
                  rw [show (1 : Int) = ((mkLL c most).length : Int) by omega, Int.tmod_eq_emod_of_nonneg q0.1]
                  unfold mkAt; rw [hy]; exact Int.toNat_of_nonneg q1
                simp at hat
                simp [g2, g5, g9, rtA, ints, ho1, insA, wml]
                simp [g2, g5, g9, rtA, ints, hy, hyE, and64k, insA]
                refine endD [] (by rfl) (by simp [okW, note, Eff.triv, Eff.wr, Eff.none, upTo, newAt]) ?_
                simp [g2, g5, g9, rtA, ints, insA]
                refine bind_some (by simpa [rtA, ints, insA, hat] using app_intN (k := ((mkAt c (mkLL c most).length 0 : Nat) : Int))) ?_
                simp [g5, g9, wr1, rtA, ints, insA]
                exact ⟨1, by show mkN c - 1 < mkN c - 0; omega, by simp [g2], by simp [g4], by simp [g5], by simp, by omega, _, .ref (H.length + (J.length + 3)) (1), J ++ [.row true 1 (outL c (mkLL c most).length 1)], by simp [rtA, ints, insA, outL, hat], .inl ⟨rfl, hML⟩, .inr ⟨J.length, rfl, by simp, fun n h => by cases h⟩⟩
              · have hm1 : (mkLL c most).length = 1 := by rw [hML]; rfl
                have wml : IntKind.i64.wrap 0 = 0 := wrap64 (by decide) (by decide)
                have hy : c.out[0]? = none := by rw [List.getElem?_eq_none_iff]; omega
                have hat : ((mkAt c (mkLL c most).length 0 : Nat) : Int) = ((1 - 1 : Nat) : Int) := by unfold mkAt; rw [hy]; simp only; omega
                simp at hat
                simp [g2, g5, g9, rtA, ints, ho1, insA, wml]
                refine bind_some (by simpa [rtA, ints, insA, hat] using app_intN (k := ((mkAt c (mkLL c most).length 0 : Nat) : Int))) ?_
                simp [g5, g9, wr1, rtA, ints, insA]
                exact ⟨1, by show mkN c - 1 < mkN c - 0; omega, by simp [g2], by simp [g4], by simp [g5], by simp, by omega, _, .ref (H.length + (J.length + 3)) (1), J ++ [.row true 1 (outL c (mkLL c most).length 1)], by simp [rtA, ints, insA, outL, hat], .inl ⟨rfl, hML⟩, .inr ⟨J.length, rfl, by simp, fun n h => by cases h⟩⟩
            · by_cases ho1 : i < c.out.length
              · have hm1 : (mkLL c most).length = 1 := by rw [hML]; rfl
                have wml : IntKind.i64.wrap 0 = 0 := wrap64 (by decide) (by decide)
                have hJo2 := old hJo
                have hol := outL_len c (mkLL c most).length i
                obtain ⟨y, hy⟩ := get_lt ho1
                have hyE : ∀ h, c.out[i]'h = y := fun h => (List.getElem?_eq_some_iff.1 hy).2
                have hat : ((mkAt c (mkLL c most).length i : Nat) : Int) = (low y 65535).tmod (1 : Int) := by
                  have q0 := low_bounds y (m := 65535) (by decide)
                  have q1 := Int.emod_nonneg (low y 65535) (b := ((mkLL c most).length : Int)) (by omega)
                  rw [show (1 : Int) = ((mkLL c most).length : Int) by omega, Int.tmod_eq_emod_of_nonneg q0.1]
                  unfold mkAt; rw [hy]; exact Int.toNat_of_nonneg q1
                simp at hat
                simp [g2, g5, g9, rtA, ints, ho1, insA, hJo, hJo2, wml]
                simp [g2, g5, g9, rtA, ints, hy, hyE, and64k, insA, hJo, hJo2]
                refine endD [] (by rfl) (by simp [okW, note, Eff.triv, Eff.wr, Eff.none, upTo, newAt]) ?_
                simp [g2, g5, g9, rtA, ints, insA, hJo, hJo2]
                refine bind_some (by simpa [rtA, ints, insA, hat] using app_int (k := ((mkAt c (mkLL c most).length i : Nat) : Int)) (l := outL c (mkLL c most).length i) (b := H.length + (k2 + 3)) (n := i) hol (by omega) (by simpa using hJo)) ?_
                simp [g5, g9, w2, rtA, ints, insA]
                exact ⟨i + 1, by show mkN c - (i + 1) < mkN c - i; omega, by simp [g2], by simp [g4], by simp [g5], by simp, by omega, _, .ref (H.length + (k2 + 3)) (i + 1), J.set k2 (.row true 1 (outL c (mkLL c most).length (i + 1))), by simp [rtA, ints, insA, outL_succ, hat], .inl ⟨rfl, hML⟩, .inr ⟨k2, rfl, set_get hJo, hne⟩⟩
              · have hm1 : (mkLL c most).length = 1 := by rw [hML]; rfl
                have wml : IntKind.i64.wrap 0 = 0 := wrap64 (by decide) (by decide)
                have hJo2 := old hJo
                have hol := outL_len c (mkLL c most).length i
                have hy : c.out[i]? = none := by rw [List.getElem?_eq_none_iff]; omega
                have hat : ((mkAt c (mkLL c most).length i : Nat) : Int) = ((1 - 1 : Nat) : Int) := by unfold mkAt; rw [hy]; simp only; omega
                simp at hat
                simp [g2, g5, g9, rtA, ints, ho1, insA, hJo, hJo2, wml]
                refine bind_some (by simpa [rtA, ints, insA, hat] using app_int (k := ((mkAt c (mkLL c most).length i : Nat) : Int)) (l := outL c (mkLL c most).length i) (b := H.length + (k2 + 3)) (n := i) hol (by omega) (by simpa using hJo)) ?_
                simp [g5, g9, w2, rtA, ints, insA]
                exact ⟨i + 1, by show mkN c - (i + 1) < mkN c - i; omega, by simp [g2], by simp [g4], by simp [g5], by simp, by omega, _, .ref (H.length + (k2 + 3)) (i + 1), J.set k2 (.row true 1 (outL c (mkLL c most).length (i + 1))), by simp [rtA, ints, insA, outL_succ, hat], .inl ⟨rfl, hML⟩, .inr ⟨k2, rfl, set_get hJo, hne⟩⟩
          · rcases hvo with ⟨rfl, rfl⟩ | ⟨k2, rfl, hJo, hne⟩
            · by_cases ho1 : 0 < c.out.length
              · have hml : ((mkLL c most).map insA).length = m := by simp [hmm]
                have hJ2 := old hJ
                have hkl := (List.getElem?_eq_some_iff.1 hJ).1
                have hmne : ¬ m = 0 := by omega
                have wml : IntKind.i64.wrap ((m : Int) - 1) = ((m - 1 : Nat) : Int) := by rw [wrap64 (by omega) (by omega)]; omega
                obtain ⟨y, hy⟩ := get_lt ho1
                have hyE : ∀ h, c.out[0]'h = y := fun h => (List.getElem?_eq_some_iff.1 hy).2
                have hat : ((mkAt c (mkLL c most).length 0 : Nat) : Int) = (low y 65535).tmod (m : Int) := by
                  have q0 := low_bounds y (m := 65535) (by decide)
                  have q1 := Int.emod_nonneg (low y 65535) (b := ((mkLL c most).length : Int)) (by omega)
                  rw [show (m : Int) = ((mkLL c most).length : Int) by omega, Int.tmod_eq_emod_of_nonneg q0.1]
                  unfold mkAt; rw [hy]; exact Int.toNat_of_nonneg q1
                simp [g2, g5, g9, rtA, ints, ho1, hJ, hJ2, hml, wml]
                simp [g2, g5, g9, rtA, ints, hy, hyE, and64k, hJ, hJ2, hml, hmne]
                refine endD [] (by rfl) (by simp [okW, note, Eff.triv, Eff.wr, Eff.none, upTo, newAt]) ?_
                simp [g2, g5, g9, rtA, ints, hJ, hJ2, hml]
                refine bind_some (by simpa [rtA, ints, insA, hat] using app_intN (k := ((mkAt c (mkLL c most).length 0 : Nat) : Int))) ?_
                simp [g5, g9, wr1, rtA, ints, insA]
                exact ⟨1, by show mkN c - 1 < mkN c - 0; omega, by simp [g2], by simp [g4], by simp [g5], by simp, by omega, _, .ref (H.length + (J.length + 3)) (1), J ++ [.row true 1 (outL c (mkLL c most).length 1)], by simp [rtA, ints, insA, outL, hat], .inr ⟨kk, m, rfl, hmm, hJ2 _⟩, .inr ⟨J.length, rfl, by simp, fun n h => by simp at h; omega⟩⟩
              · have hml : ((mkLL c most).map insA).length = m := by simp [hmm]
                have hJ2 := old hJ
                have hkl := (List.getElem?_eq_some_iff.1 hJ).1
                have hmne : ¬ m = 0 := by omega
                have wml : IntKind.i64.wrap ((m : Int) - 1) = ((m - 1 : Nat) : Int) := by rw [wrap64 (by omega) (by omega)]; omega
                have hy : c.out[0]? = none := by rw [List.getElem?_eq_none_iff]; omega
                have hat : ((mkAt c (mkLL c most).length 0 : Nat) : Int) = ((m - 1 : Nat) : Int) := by unfold mkAt; rw [hy]; simp only; omega
                simp [g2, g5, g9, rtA, ints, ho1, hJ, hJ2, hml, wml]
                refine bind_some (by simpa [rtA, ints, insA, hat] using app_intN (k := ((mkAt c (mkLL c most).length 0 : Nat) : Int))) ?_
                simp [g5, g9, wr1, rtA, ints, insA]
                exact ⟨1, by show mkN c - 1 < mkN c - 0; omega, by simp [g2], by simp [g4], by simp [g5], by simp, by omega, _, .ref (H.length + (J.length + 3)) (1), J ++ [.row true 1 (outL c (mkLL c most).length 1)], by simp [rtA, ints, insA, outL, hat], .inr ⟨kk, m, rfl, hmm, hJ2 _⟩, .inr ⟨J.length, rfl, by simp, fun n h => by simp at h; omega⟩⟩
            · by_cases ho1 : i < c.out.length
              · have hml : ((mkLL c most).map insA).length = m := by simp [hmm]
                have hJ2 := old hJ
                have hkl := (List.getElem?_eq_some_iff.1 hJ).1
                have hmne : ¬ m = 0 := by omega
                have wml : IntKind.i64.wrap ((m : Int) - 1) = ((m - 1 : Nat) : Int) := by rw [wrap64 (by omega) (by omega)]; omega
                have hJo2 := old hJo
                have hol := outL_len c (mkLL c most).length i
                obtain ⟨y, hy⟩ := get_lt ho1
                have hyE : ∀ h, c.out[i]'h = y := fun h => (List.getElem?_eq_some_iff.1 hy).2
                have hat : ((mkAt c (mkLL c most).length i : Nat) : Int) = (low y 65535).tmod (m : Int) := by
                  have q0 := low_bounds y (m := 65535) (by decide)
                  have q1 := Int.emod_nonneg (low y 65535) (b := ((mkLL c most).length : Int)) (by omega)
                  rw [show (m : Int) = ((mkLL c most).length : Int) by omega, Int.tmod_eq_emod_of_nonneg q0.1]
                  unfold mkAt; rw [hy]; exact Int.toNat_of_nonneg q1
                simp [g2, g5, g9, rtA, ints, ho1, hJ, hJ2, hml, hJo, hJo2, wml]
                simp [g2, g5, g9, rtA, ints, hy, hyE, and64k, hJ, hJ2, hml, hJo, hJo2, hmne]
                refine endD [] (by rfl) (by simp [okW, note, Eff.triv, Eff.wr, Eff.none, upTo, newAt]) ?_
                simp [g2, g5, g9, rtA, ints, hJ, hJ2, hml, hJo, hJo2]
                refine bind_some (by simpa [rtA, ints, insA, hat] using app_int (k := ((mkAt c (mkLL c most).length i : Nat) : Int)) (l := outL c (mkLL c most).length i) (b := H.length + (k2 + 3)) (n := i) hol (by omega) (by simpa using hJo)) ?_
                simp [g5, g9, w2, rtA, ints, insA]
                exact ⟨i + 1, by show mkN c - (i + 1) < mkN c - i; omega, by simp [g2], by simp [g4], by simp [g5], by simp, by omega, _, .ref (H.length + (k2 + 3)) (i + 1), J.set k2 (.row true 1 (outL c (mkLL c most).length (i + 1))), by simp [rtA, ints, insA, outL_succ, hat], .inr ⟨kk, m, rfl, hmm, by rw [List.getElem?_set_ne (fun e => hne m (by rw [e]))]; exact hJ⟩, .inr ⟨k2, rfl, set_get hJo, hne⟩⟩
              · have hml : ((mkLL c most).map insA).length = m := by simp [hmm]
                have hJ2 := old hJ
                have hkl := (List.getElem?_eq_some_iff.1 hJ).1
                have hmne : ¬ m = 0 := by omega
                have wml : IntKind.i64.wrap ((m : Int) - 1) = ((m - 1 : Nat) : Int) := by rw [wrap64 (by omega) (by omega)]; omega
                have hJo2 := old hJo
                have hol := outL_len c (mkLL c most).length i
                have hy : c.out[i]? = none := by rw [List.getElem?_eq_none_iff]; omega
                have hat : ((mkAt c (mkLL c most).length i : Nat) : Int) = ((m - 1 : Nat) : Int) := by unfold mkAt; rw [hy]; simp only; omega
                simp [g2, g5, g9, rtA, ints, ho1, hJ, hJ2, hml, hJo, hJo2, wml]
                refine bind_some (by simpa [rtA, ints, insA, hat] using app_int (k := ((mkAt c (mkLL c most).length i : Nat) : Int)) (l := outL c (mkLL c most).length i) (b := H.length + (k2 + 3)) (n := i) hol (by omega) (by simpa using hJo)) ?_
                simp [g5, g9, w2, rtA, ints, insA]
                exact ⟨i + 1, by show mkN c - (i + 1) < mkN c - i; omega, by simp [g2], by simp [g4], by simp [g5], by simp, by omega, _, .ref (H.length + (k2 + 3)) (i + 1), J.set k2 (.row true 1 (outL c (mkLL c most).length (i + 1))), by simp [rtA, ints, insA, outL_succ, hat], .inr ⟨kk, m, rfl, hmm, by rw [List.getElem?_set_ne (fun e => hne m (by rw [e]))]; exact hJ⟩, .inr ⟨k2, rfl, set_get hJo, hne⟩⟩
        · have hi' : i = mkN c := by
            have : ¬ i < mkN c := by simpa using hc
            omega
          subst hi'
          rcases hvo with ⟨_, h⟩ | ⟨k2, rfl, hJo, hne⟩
          · omega
          have hJo2 := old hJo
          have hol := outL_len c (mkLL c most).length (mkN c)
          have hO : (outL c (mkLL c most).length (mkN c)) = (mkT c most).out.map fun k : Nat => .int .i64 k := by simp [outL, mkT]
          have hT : tpA (mkT c most) = .agg [.int .i64 (mkN c), .slice ((mkLL c most).map insA) false, .slice (outL c (mkLL c most).length (mkN c)) false] := by rw [hO]; rfl
          have hnO : ∀ n, noFs n (outL c (mkLL c most).length (mkN c)) = true := fun n => noFs_iff.2 fun x hx => by obtain ⟨y, _, rfl⟩ := List.mem_map.1 hx; simp [noF]
          rw [hT]
          generalize hoo : outL c (mkLL c most).length (mkN c) = oo at *
          rcases hw with ⟨rfl, hML⟩ | ⟨kk, m, rfl, hmm, hJ⟩
          · rw [hML]
            simp [g4, g5, rtA]
            exact finC (rs := [.cell 4 25]) (vs := [.agg [.int .i64 (mkN c), .slice [insA ⟨2, 0, 0, (0, 0)⟩] true, .ref (H.length + (k2 + 3)) (mkN c)]]) (vs' := [.agg [.int .i64 (mkN c), .slice [insA ⟨2, 0, 0, (0, 0)⟩] false, .slice oo false]]) (J' := .row true 3 [rtA c] :: .row true 3 [.agg [.int .i64 (mkN c), .slice [insA ⟨2, 0, 0, (0, 0)⟩] true, .ref (H.length + (k2 + 3)) (mkN c)]] :: .row true 3 [.agg [.int .i64 (mkN c), .slice [insA ⟨2, 0, 0, (0, 0)⟩] true, .ref (H.length + (k2 + 3)) (mkN c)]] :: J.set k2 (.row false 1 oo)) (by rfl) (by simp [resA, g4]) (by simp [hJo, hol, rtA]) (by simp [noFs, noF, insA, hnO]) rfl
          · have hne2 : kk ≠ k2 := fun e => hne m (by rw [e])
            have hml : ((mkLL c most).map insA).length = m := by simp [hmm]
            have hJo3 : ∀ x, (J.set kk x)[k2]? = some (.row true 1 oo) := fun x => by rw [List.getElem?_set_ne hne2]; exact hJo
            have hnL : ∀ n, noFs n ((mkLL c most).map insA) = true := fun n => noFs_iff.2 fun x hx => by obtain ⟨y, _, rfl⟩ := List.mem_map.1 hx; simp [noF, insA, noFs]
            generalize (mkLL c most).map insA = ll at *
            simp [g4, g5, rtA]
            exact finC (rs := [.cell 4 25]) (vs := [.agg [.int .i64 (mkN c), .ref (H.length + (kk + 3)) m, .ref (H.length + (k2 + 3)) (mkN c)]]) (vs' := [.agg [.int .i64 (mkN c), .slice ll false, .slice oo false]]) (J' := .row true 3 [rtA c] :: .row true 3 [.agg [.int .i64 (mkN c), .ref (H.length + (kk + 3)) m, .ref (H.length + (k2 + 3)) (mkN c)]] :: .row true 3 [.agg [.int .i64 (mkN c), .ref (H.length + (kk + 3)) m, .ref (H.length + (k2 + 3)) (mkN c)]] :: (J.set kk (.row false 5 ll)).set k2 (.row false 1 oo)) (by rfl) (by simp [resA, g4]) (by simp [hJ, hJo3, hol, hml, rtA]) (by simp [noFs, noF, hnL, hnO]) rfl
      · rcases hacc with ⟨h0', _⟩ | ⟨kk, hv, hJk⟩
        · have := congrArg List.length h0'
          simp [mkL_len] at this
          omega
        · have hLL : mkLL c most = mkL c i := by unfold mkLL; rw [if_neg h0, hi']
          have hv2 : v = .ref (H.length + (kk + 3)) i := by rw [hv]; simp [mkL_len]; omega
          subst hv2
          have hln : (mkL c i).length = i := mkL_len c i
          have hi0 : ((i : Int) == 0) = false := by rw [beq_eq_false_iff_ne]; omega
          rw [← hLL] at hJk hln
          have hln2 : ((mkLL c most).map insA).length = i := by simp [hln]
          generalize hLM : (mkLL c most).map insA = ll at *
          simp [g5, hJk, hln2, hi0]
          refine loop_count (LM2 c most H) (fun i => mkN c - i) 0 ⟨by simp [g2], by simp [g4], by simp [g5], by simp, by omega, .ref (H.length + (kk + 3)) i, .nilslice, J, by simp [rtA], .inr ⟨kk, i, rfl, hln.symm, by rw [hLM]; exact hJk⟩, .inl ⟨rfl, rfl⟩⟩ ?_
          clear g1 g2 g4 g5 g6 hv0 hv hJk hln hln2 hLL hi0 hLM
          rintro i fr H' ⟨g2, g4, g5, g9, hi, w, vo, J, rfl, hw, hvo⟩
          have hmb := mkLL_len c most hm
          have w2 : IntKind.i64.wrap ((i : Int) + 1) = ((i + 1 : Nat) : Int) := by rw [wrap64 (by omega) (by omega)]; omega
          have wr1 : IntKind.i64.wrap 1 = 1 := wrap64 (by decide) (by decide)
          simp [g5, g9]
          refine branch (fun hc => ?_) (fun hc => ?_)
          · have hlt : i < mkN c := by simpa using hc
            rcases hw with ⟨rfl, hML⟩ | ⟨kk, m, rfl, hmm, hJ⟩
            · rcases hvo with ⟨rfl, rfl⟩ | ⟨k2, rfl, hJo, hne⟩
              · by_cases ho1 : 0 < c.out.length
                · have hm1 : (mkLL c most).length = 1 := by rw [hML]; rfl
                  have wml : IntKind.i64.wrap 0 = 0 := wrap64 (by decide) (by decide)
                  obtain ⟨y, hy⟩ := get_lt ho1
                  have hyE : ∀ h, c.out[0]'h = y := fun h => (List.getElem?_eq_some_iff.1 hy).2
                  have hat : ((mkAt c (mkLL c most).length 0 : Nat) : Int) = (low y 65535).tmod (1 : Int) := by
                    have q0 := low_bounds y (m := 65535) (by decide)
                    have q1 := Int.emod_nonneg (low y 65535) (b := ((mkLL c most).length : Int)) (by omega)
                    rw [show (1 : Int) = ((mkLL c most).length : Int) by omega, Int.tmod_eq_emod_of_nonneg q0.1]
                    unfold mkAt; rw [hy]; exact Int.toNat_of_nonneg q1
                  simp at hat
                  simp [g2, g5, g9, rtA, ints, ho1, insA, wml]
                  simp [g2, g5, g9, rtA, ints, hy, hyE, and64k, insA]
                  refine endD [] (by rfl) (by simp [okW, note, Eff.triv, Eff.wr, Eff.none, upTo, newAt]) ?_
                  simp [g2, g5, g9, rtA, ints, insA]
                  refine bind_some (by simpa [rtA, ints, insA, hat] using app_intN (k := ((mkAt c (mkLL c most).length 0 : Nat) : Int))) ?_
                  simp [g5, g9, wr1, rtA, ints, insA]
                  exact ⟨1, by show mkN c - 1 < mkN c - 0; omega, by simp [g2], by simp [g4], by simp [g5], by simp, by omega, _, .ref (H.length + (J.length + 3)) (1), J ++ [.row true 1 (outL c (mkLL c most).length 1)], by simp [rtA, ints, insA, outL, hat], .inl ⟨rfl, hML⟩, .inr ⟨J.length, rfl, by simp, fun n h => by cases h⟩⟩
                · have hm1 : (mkLL c most).length = 1 := by rw [hML]; rfl
                  have wml : IntKind.i64.wrap 0 = 0 := wrap64 (by decide) (by decide)
                  have hy : c.out[0]? = none := by rw [List.getElem?_eq_none_iff]; omega
                  have hat : ((mkAt c (mkLL c most).length 0 : Nat) : Int) = ((1 - 1 : Nat) : Int) := by unfold mkAt; rw [hy]; simp only; omega
                  simp at hat
                  simp [g2, g5, g9, rtA, ints, ho1, insA, wml]
                  refine bind_some (by simpa [rtA, ints, insA, hat] using app_intN (k := ((mkAt c (mkLL c most).length 0 : Nat) : Int))) ?_
                  simp [g5, g9, wr1, rtA, ints, insA]
                  exact ⟨1, by show mkN c - 1 < mkN c - 0; omega, by simp [g2], by simp [g4], by simp [g5], by simp, by omega, _, .ref (H.length + (J.length + 3)) (1), J ++ [.row true 1 (outL c (mkLL c most).length 1)], by simp [rtA, ints, insA, outL, hat], .inl ⟨rfl, hML⟩, .inr ⟨J.length, rfl, by simp, fun n h => by cases h⟩⟩
              · by_cases ho1 : i < c.out.length
                · have hm1 : (mkLL c most).length = 1 := by rw [hML]; rfl
                  have wml : IntKind.i64.wrap 0 = 0 := wrap64 (by decide) (by decide)
                  have hJo2 := old hJo
                  have hol := outL_len c (mkLL c most).length i
                  obtain ⟨y, hy⟩ := get_lt ho1
                  have hyE : ∀ h, c.out[i]'h = y := fun h => (List.getElem?_eq_some_iff.1 hy).2
                  have hat : ((mkAt c (mkLL c most).length i : Nat) : Int) = (low y 65535).tmod (1 : Int) := by
                    have q0 := low_bounds y (m := 65535) (by decide)
                    have q1 := Int.emod_nonneg (low y 65535) (b := ((mkLL c most).length : Int)) (by omega)
                    rw [show (1 : Int) = ((mkLL c most).length : Int) by omega, Int.tmod_eq_emod_of_nonneg q0.1]
                    unfold mkAt; rw [hy]; exact Int.toNat_of_nonneg q1
                  simp at hat
                  simp [g2, g5, g9, rtA, ints, ho1, insA, hJo, hJo2, wml]
                  simp [g2, g5, g9, rtA, ints, hy, hyE, and64k, insA, hJo, hJo2]
                  refine endD [] (by rfl) (by simp [okW, note, Eff.triv, Eff.wr, Eff.none, upTo, newAt]) ?_
                  simp [g2, g5, g9, rtA, ints, insA, hJo, hJo2]
                  refine bind_some (by simpa [rtA, ints, insA, hat] using app_int (k := ((mkAt c (mkLL c most).length i : Nat) : Int)) (l := outL c (mkLL c most).length i) (b := H.length + (k2 + 3)) (n := i) hol (by omega) (by simpa using hJo)) ?_
                  simp [g5, g9, w2, rtA, ints, insA]
                  exact ⟨i + 1, by show mkN c - (i + 1) < mkN c - i; omega, by simp [g2], by simp [g4], by simp [g5], by simp, by omega, _, .ref (H.length + (k2 + 3)) (i + 1), J.set k2 (.row true 1 (outL c (mkLL c most).length (i + 1))), by simp [rtA, ints, insA, outL_succ, hat], .inl ⟨rfl, hML⟩, .inr ⟨k2, rfl, set_get hJo, hne⟩⟩
                · have hm1 : (mkLL c most).length = 1 := by rw [hML]; rfl
                  have wml : IntKind.i64.wrap 0 = 0 := wrap64 (by decide) (by decide)
                  have hJo2 := old hJo
                  have hol := outL_len c (mkLL c most).length i
                  have hy : c.out[i]? = none := by rw [List.getElem?_eq_none_iff]; omega
                  have hat : ((mkAt c (mkLL c most).length i : Nat) : Int) = ((1 - 1 : Nat) : Int) := by unfold mkAt; rw [hy]; simp only; omega
                  simp at hat
                  simp [g2, g5, g9, rtA, ints, ho1, insA, hJo, hJo2, wml]
                  refine bind_some (by simpa [rtA, ints, insA, hat] using app_int (k := ((mkAt c (mkLL c most).length i : Nat) : Int)) (l := outL c (mkLL c most).length i) (b := H.length + (k2 + 3)) (n := i) hol (by omega) (by simpa using hJo)) ?_
                  simp [g5, g9, w2, rtA, ints, insA]
                  exact ⟨i + 1, by show mkN c - (i + 1) < mkN c - i; omega, by simp [g2], by simp [g4], by simp [g5], by simp, by omega, _, .ref (H.length + (k2 + 3)) (i + 1), J.set k2 (.row true 1 (outL c (mkLL c most).length (i + 1))), by simp [rtA, ints, insA, outL_succ, hat], .inl ⟨rfl, hML⟩, .inr ⟨k2, rfl, set_get hJo, hne⟩⟩
            · rcases hvo with ⟨rfl, rfl⟩ | ⟨k2, rfl, hJo, hne⟩
              · by_cases ho1 : 0 < c.out.length
                · have hml : ((mkLL c most).map insA).length = m := by simp [hmm]
                  have hJ2 := old hJ
                  have hkl := (List.getElem?_eq_some_iff.1 hJ).1
                  have hmne : ¬ m = 0 := by omega
                  have wml : IntKind.i64.wrap ((m : Int) - 1) = ((m - 1 : Nat) : Int) := by rw [wrap64 (by omega) (by omega)]; omega
                  obtain ⟨y, hy⟩ := get_lt ho1
                  have hyE : ∀ h, c.out[0]'h = y := fun h => (List.getElem?_eq_some_iff.1 hy).2
                  have hat : ((mkAt c (mkLL c most).length 0 : Nat) : Int) = (low y 65535).tmod (m : Int) := by
                    have q0 := low_bounds y (m := 65535) (by decide)
                    have q1 := Int.emod_nonneg (low y 65535) (b := ((mkLL c most).length : Int)) (by omega)
                    rw [show (m : Int) = ((mkLL c most).length : Int) by omega, Int.tmod_eq_emod_of_nonneg q0.1]
                    unfold mkAt; rw [hy]; exact Int.toNat_of_nonneg q1
                  simp [g2, g5, g9, rtA, ints, ho1, hJ, hJ2, hml, wml]
                  simp [g2, g5, g9, rtA, ints, hy, hyE, and64k, hJ, hJ2, hml, hmne]
                  refine endD [] (by rfl) (by simp [okW, note, Eff.triv, Eff.wr, Eff.none, upTo, newAt]) ?_
                  simp [g2, g5, g9, rtA, ints, hJ, hJ2, hml]
                  refine bind_some (by simpa [rtA, ints, insA, hat] using app_intN (k := ((mkAt c (mkLL c most).length 0 : Nat) : Int))) ?_
                  simp [g5, g9, wr1, rtA, ints, insA]
                  exact ⟨1, by show mkN c - 1 < mkN c - 0; omega, by simp [g2], by simp [g4], by simp [g5], by simp, by omega, _, .ref (H.length + (J.length + 3)) (1), J ++ [.row true 1 (outL c (mkLL c most).length 1)], by simp [rtA, ints, insA, outL, hat], .inr ⟨kk, m, rfl, hmm, hJ2 _⟩, .inr ⟨J.length, rfl, by simp, fun n h => by simp at h; omega⟩⟩
                · have hml : ((mkLL c most).map insA).length = m := by simp [hmm]
                  have hJ2 := old hJ
                  have hkl := (List.getElem?_eq_some_iff.1 hJ).1
                  have hmne : ¬ m = 0 := by omega
                  have wml : IntKind.i64.wrap ((m : Int) - 1) = ((m - 1 : Nat) : Int) := by rw [wrap64 (by omega) (by omega)]; omega
                  have hy : c.out[0]? = none := by rw [List.getElem?_eq_none_iff]; omega
                  have hat : ((mkAt c (mkLL c most).length 0 : Nat) : Int) = ((m - 1 : Nat) : Int) := by unfold mkAt; rw [hy]; simp only; omega
                  simp [g2, g5, g9, rtA, ints, ho1, hJ, hJ2, hml, wml]
                  refine bind_some (by simpa [rtA, ints, insA, hat] using app_intN (k := ((mkAt c (mkLL c most).length 0 : Nat) : Int))) ?_
                  simp [g5, g9, wr1, rtA, ints, insA]
                  exact ⟨1, by show mkN c - 1 < mkN c - 0; omega, by simp [g2], by simp [g4], by simp [g5], by simp, by omega, _, .ref (H.length + (J.length + 3)) (1), J ++ [.row true 1 (outL c (mkLL c most).length 1)], by simp [rtA, ints, insA, outL, hat], .inr ⟨kk, m, rfl, hmm, hJ2 _⟩, .inr ⟨J.length, rfl, by simp, fun n h => by simp at h; omega⟩⟩
              · by_cases ho1 : i < c.out.length
                · have hml : ((mkLL c most).map insA).length = m := by simp [hmm]
                  have hJ2 := old hJ
                  have hkl := (List.getElem?_eq_some_iff.1 hJ).1
                  have hmne : ¬ m = 0 := by omega
                  have wml : IntKind.i64.wrap ((m : Int) - 1) = ((m - 1 : Nat) : Int) := by rw [wrap64 (by omega) (by omega)]; omega
                  have hJo2 := old hJo
                  have hol := outL_len c (mkLL c most).length i
                  obtain ⟨y, hy⟩ := get_lt ho1
                  have hyE : ∀ h, c.out[i]'h = y := fun h => (List.getElem?_eq_some_iff.1 hy).2
                  have hat : ((mkAt c (mkLL c most).length i : Nat) : Int) = (low y 65535).tmod (m : Int) := by
                    have q0 := low_bounds y (m := 65535) (by decide)
                    have q1 := Int.emod_nonneg (low y 65535) (b := ((mkLL c most).length : Int)) (by omega)
                    rw [show (m : Int) = ((mkLL c most).length : Int) by omega, Int.tmod_eq_emod_of_nonneg q0.1]
                    unfold mkAt; rw [hy]; exact Int.toNat_of_nonneg q1
                  simp [g2, g5, g9, rtA, ints, ho1, hJ, hJ2, hml, hJo, hJo2, wml]
                  simp [g2, g5, g9, rtA, ints, hy, hyE, and64k, hJ, hJ2, hml, hJo, hJo2, hmne]
                  refine endD [] (by rfl) (by simp [okW, note, Eff.triv, Eff.wr, Eff.none, upTo, newAt]) ?_
                  simp [g2, g5, g9, rtA, ints, hJ, hJ2, hml, hJo, hJo2]
                  refine bind_some (by simpa [rtA, ints, insA, hat] using app_int (k := ((mkAt c (mkLL c most).length i : Nat) : Int)) (l := outL c (mkLL c most).length i) (b := H.length + (k2 + 3)) (n := i) hol (by omega) (by simpa using hJo)) ?_
                  simp [g5, g9, w2, rtA, ints, insA]
                  exact ⟨i + 1, by show mkN c - (i + 1) < mkN c - i; omega, by simp [g2], by simp [g4], by simp [g5], by simp, by omega, _, .ref (H.length + (k2 + 3)) (i + 1), J.set k2 (.row true 1 (outL c (mkLL c most).length (i + 1))), by simp [rtA, ints, insA, outL_succ, hat], .inr ⟨kk, m, rfl, hmm, by rw [List.getElem?_set_ne (fun e => hne m (by rw [e]))]; exact hJ⟩, .inr ⟨k2, rfl, set_get hJo, hne⟩⟩
                · have hml : ((mkLL c most).map insA).length = m := by simp [hmm]
                  have hJ2 := old hJ
                  have hkl := (List.getElem?_eq_some_iff.1 hJ).1
                  have hmne : ¬ m = 0 := by omega
                  have wml : IntKind.i64.wrap ((m : Int) - 1) = ((m - 1 : Nat) : Int) := by rw [wrap64 (by omega) (by omega)]; omega
                  have hJo2 := old hJo
                  have hol := outL_len c (mkLL c most).length i
                  have hy : c.out[i]? = none := by rw [List.getElem?_eq_none_iff]; omega
                  have hat : ((mkAt c (mkLL c most).length i : Nat) : Int) = ((m - 1 : Nat) : Int) := by unfold mkAt; rw [hy]; simp only; omega
                  simp [g2, g5, g9, rtA, ints, ho1, hJ, hJ2, hml, hJo, hJo2, wml]
                  refine bind_some (by simpa [rtA, ints, insA, hat] using app_int (k := ((mkAt c (mkLL c most).length i : Nat) : Int)) (l := outL c (mkLL c most).length i) (b := H.length + (k2 + 3)) (n := i) hol (by omega) (by simpa using hJo)) ?_
                  simp [g5, g9, w2, rtA, ints, insA]
                  exact ⟨i + 1, by show mkN c - (i + 1) < mkN c - i; omega, by simp [g2], by simp [g4], by simp [g5], by simp, by omega, _, .ref (H.length + (k2 + 3)) (i + 1), J.set k2 (.row true 1 (outL c (mkLL c most).length (i + 1))), by simp [rtA, ints, insA, outL_succ, hat], .inr ⟨kk, m, rfl, hmm, by rw [List.getElem?_set_ne (fun e => hne m (by rw [e]))]; exact hJ⟩, .inr ⟨k2, rfl, set_get hJo, hne⟩⟩
          · have hi' : i = mkN c := by
              have : ¬ i < mkN c := by simpa using hc
              omega
            subst hi'
            rcases hvo with ⟨_, h⟩ | ⟨k2, rfl, hJo, hne⟩
            · omega
            have hJo2 := old hJo
            have hol := outL_len c (mkLL c most).length (mkN c)
            have hO : (outL c (mkLL c most).length (mkN c)) = (mkT c most).out.map fun k : Nat => .int .i64 k := by simp [outL, mkT]
            have hT : tpA (mkT c most) = .agg [.int .i64 (mkN c), .slice ((mkLL c most).map insA) false, .slice (outL c (mkLL c most).length (mkN c)) false] := by rw [hO]; rfl
            have hnO : ∀ n, noFs n (outL c (mkLL c most).length (mkN c)) = true := fun n => noFs_iff.2 fun x hx => by obtain ⟨y, _, rfl⟩ := List.mem_map.1 hx; simp [noF]
            rw [hT]
            generalize hoo : outL c (mkLL c most).length (mkN c) = oo at *
            rcases hw with ⟨rfl, hML⟩ | ⟨kk, m, rfl, hmm, hJ⟩
            · rw [hML]
              simp [g4, g5, rtA]
              exact finC (rs := [.cell 4 25]) (vs := [.agg [.int .i64 (mkN c), .slice [insA ⟨2, 0, 0, (0, 0)⟩] true, .ref (H.length + (k2 + 3)) (mkN c)]]) (vs' := [.agg [.int .i64 (mkN c), .slice [insA ⟨2, 0, 0, (0, 0)⟩] false, .slice oo false]]) (J' := .row true 3 [rtA c] :: .row true 3 [.agg [.int .i64 (mkN c), .slice [insA ⟨2, 0, 0, (0, 0)⟩] true, .ref (H.length + (k2 + 3)) (mkN c)]] :: .row true 3 [.agg [.int .i64 (mkN c), .slice [insA ⟨2, 0, 0, (0, 0)⟩] true, .ref (H.length + (k2 + 3)) (mkN c)]] :: J.set k2 (.row false 1 oo)) (by rfl) (by simp [resA, g4]) (by simp [hJo, hol, rtA]) (by simp [noFs, noF, insA, hnO]) rfl
            · have hne2 : kk ≠ k2 := fun e => hne m (by rw [e])
              have hml : ((mkLL c most).map insA).length = m := by simp [hmm]
              have hJo3 : ∀ x, (J.set kk x)[k2]? = some (.row true 1 oo) := fun x => by rw [List.getElem?_set_ne hne2]; exact hJo
              have hnL : ∀ n, noFs n ((mkLL c most).map insA) = true := fun n => noFs_iff.2 fun x hx => by obtain ⟨y, _, rfl⟩ := List.mem_map.1 hx; simp [noF, insA, noFs]
              generalize (mkLL c most).map insA = ll at *
              simp [g4, g5, rtA]
              exact finC (rs := [.cell 4 25]) (vs := [.agg [.int .i64 (mkN c), .ref (H.length + (kk + 3)) m, .ref (H.length + (k2 + 3)) (mkN c)]]) (vs' := [.agg [.int .i64 (mkN c), .slice ll false, .slice oo false]]) (J' := .row true 3 [rtA c] :: .row true 3 [.agg [.int .i64 (mkN c), .ref (H.length + (kk + 3)) m, .ref (H.length + (k2 + 3)) (mkN c)]] :: .row true 3 [.agg [.int .i64 (mkN c), .ref (H.length + (kk + 3)) m, .ref (H.length + (k2 + 3)) (mkN c)]] :: (J.set kk (.row false 5 ll)).set k2 (.row false 1 oo)) (by rfl) (by simp [resA, g4]) (by simp [hJ, hJo3, hol, hml, rtA]) (by simp [noFs, noF, hnL, hnO]) rfl
  · have hi' : i = mkC c most := by unfold mkC at *; omega
    simp [g1, g2, g5, g6, rtA, h1]
    by_cases h0 : mkC c most = 0
    · have hv : v = .nilslice := hv0 (by omega)
      subst hv
      simp [g5]
      refine loop_count (LM2 c most H) (fun i => mkN c - i) 0 ⟨by simp [g2], by simp [g4], by simp [g5], by simp, by omega, .slice [insA ⟨2, 0, 0, (0, 0)⟩] true, .nilslice, J, by simp [insA, rtA], .inl ⟨rfl, by unfold mkLL; rw [if_pos h0]⟩, .inl ⟨rfl, rfl⟩⟩ ?_
      clear g1 g2 g4 g5 g6 hacc hv0
      rintro i fr H' ⟨g2, g4, g5, g9, hi, w, vo, J, rfl, hw, hvo⟩
      have hmb := mkLL_len c most hm
      have w2 : IntKind.i64.wrap ((i : Int) + 1) = ((i + 1 : Nat) : Int) := by rw [wrap64 (by omega) (by omega)]; omega
      have wr1 : IntKind.i64.wrap 1 = 1 := wrap64 (by decide) (by decide)
      simp [g5, g9]
      refine branch (fun hc => ?_) (fun hc => ?_)
      · have hlt : i < mkN c := by simpa using hc
        rcases hw with ⟨rfl, hML⟩ | ⟨kk, m, rfl, hmm, hJ⟩
        · rcases hvo with ⟨rfl, rfl⟩ | ⟨k2, rfl, hJo, hne⟩
          · by_cases ho1 : 0 < c.out.length
            · have hm1 : (mkLL c most).length = 1 := by rw [hML]; rfl
              have wml : IntKind.i64.wrap 0 = 0 := wrap64 (by decide) (by decide)
              obtain ⟨y, hy⟩ := get_lt ho1
              have hyE : ∀ h, c.out[0]'h = y := fun h => (List.getElem?_eq_some_iff.1 hy).2
              have hat : ((mkAt c (mkLL c most).length 0 : Nat) : Int) = (low y 65535).tmod (1 : Int) := by
                have q0 := low_bounds y (m := 65535) (by decide)
                have q1 := Int.emod_nonneg (low y 65535) (b := ((mkLL c most).length : Int)) (by omega)
                rw [show (1 : Int) = ((mkLL c most).length : Int) by omega, Int.tmod_eq_emod_of_nonneg q0.1]
                unfold mkAt; rw [hy]; exact Int.toNat_of_nonneg q1
              simp at hat
              simp [g2, g5, g9, rtA, ints, ho1, insA, wml]
              simp [g2, g5, g9, rtA, ints, hy, hyE, and64k, insA]
              refine endD [] (by rfl) (by simp [okW, note, Eff.triv, Eff.wr, Eff.none, upTo, newAt]) ?_
              simp [g2, g5, g9, rtA, ints, insA]
              refine bind_some (by simpa [rtA, ints, insA, hat] using app_intN (k := ((mkAt c (mkLL c most).length 0 : Nat) : Int))) ?_
              simp [g5, g9, wr1, rtA, ints, insA]
              exact ⟨1, by show mkN c - 1 < mkN c - 0; omega, by simp [g2], by simp [g4], by simp [g5], by simp, by omega, _, .ref (H.length + (J.length + 3)) (1), J ++ [.row true 1 (outL c (mkLL c most).length 1)], by simp [rtA, ints, insA, outL, hat], .inl ⟨rfl, hML⟩, .inr ⟨J.length, rfl, by simp, fun n h => by cases h⟩⟩
            · have hm1 : (mkLL c most).length = 1 := by rw [hML]; rfl
              have wml : IntKind.i64.wrap 0 = 0 := wrap64 (by decide) (by decide)
              have hy : c.out[0]? = none := by rw [List.getElem?_eq_none_iff]; omega
              have hat : ((mkAt c (mkLL c most).length 0 : Nat) : Int) = ((1 - 1 : Nat) : Int) := by unfold mkAt; rw [hy]; simp only; omega
              simp at hat
              simp [g2, g5, g9, rtA, ints, ho1, insA, wml]
              refine bind_some (by simpa [rtA, ints, insA, hat] using app_intN (k := ((mkAt c (mkLL c most).length 0 : Nat) : Int))) ?_
              simp [g5, g9, wr1, rtA, ints, insA]
              exact ⟨1, by show mkN c - 1 < mkN c - 0; omega, by simp [g2], by simp [g4], by simp [g5], by simp, by omega, _, .ref (H.length + (J.length + 3)) (1), J ++ [.row true 1 (outL c (mkLL c most).length 1)], by simp [rtA, ints, insA, outL, hat], .inl ⟨rfl, hML⟩, .inr ⟨J.length, rfl, by simp, fun n h => by cases h⟩⟩
          · by_cases ho1 : i < c.out.length
            · have hm1 : (mkLL c most).length = 1 := by rw [hML]; rfl
              have wml : IntKind.i64.wrap 0 = 0 := wrap64 (by decide) (by decide)
              have hJo2 := old hJo
              have hol := outL_len c (mkLL c most).length i
              obtain ⟨y, hy⟩ := get_lt ho1
              have hyE : ∀ h, c.out[i]'h = y := fun h => (List.getElem?_eq_some_iff.1 hy).2
              have hat : ((mkAt c (mkLL c most).length i : Nat) : Int) = (low y 65535).tmod (1 : Int) := by
                have q0 := low_bounds y (m := 65535) (by decide)
                have q1 := Int.emod_nonneg (low y 65535) (b := ((mkLL c most).length : Int)) (by omega)
                rw [show (1 : Int) = ((mkLL c most).length : Int) by omega, Int.tmod_eq_emod_of_nonneg q0.1]
                unfold mkAt; rw [hy]; exact Int.toNat_of_nonneg q1
              simp at hat
              simp [g2, g5, g9, rtA, ints, ho1, insA, hJo, hJo2, wml]
              simp [g2, g5, g9, rtA, ints, hy, hyE, and64k, insA, hJo, hJo2]
              refine endD [] (by rfl) (by simp [okW, note, Eff.triv, Eff.wr, Eff.none, upTo, newAt]) ?_
              simp [g2, g5, g9, rtA, ints, insA, hJo, hJo2]
              refine bind_some (by simpa [rtA, ints, insA, hat] using app_int (k := ((mkAt c (mkLL c most).length i : Nat) : Int)) (l := outL c (mkLL c most).length i) (b := H.length + (k2 + 3)) (n := i) hol (by omega) (by simpa using hJo)) ?_
              simp [g5, g9, w2, rtA, ints, insA]
              exact ⟨i + 1, by show mkN c - (i + 1) < mkN c - i; omega, by simp [g2], by simp [g4], by simp [g5], by simp, by omega, _, .ref (H.length + (k2 + 3)) (i + 1), J.set k2 (.row true 1 (outL c (mkLL c most).length (i + 1))), by simp [rtA, ints, insA, outL_succ, hat], .inl ⟨rfl, hML⟩, .inr ⟨k2, rfl, set_get hJo, hne⟩⟩
            · have hm1 : (mkLL c most).length = 1 := by rw [hML]; rfl
              have wml : IntKind.i64.wrap 0 = 0 := wrap64 (by decide) (by decide)
              have hJo2 := old hJo
              have hol := outL_len c (mkLL c most).length i
              have hy : c.out[i]? = none := by rw [List.getElem?_eq_none_iff]; omega
              have hat : ((mkAt c (mkLL c most).length i : Nat) : Int) = ((1 - 1 : Nat) : Int) := by unfold mkAt; rw [hy]; simp only; omega
              simp at hat
              simp [g2, g5, g9, rtA, ints, ho1, insA, hJo, hJo2, wml]
              refine bind_some (by simpa [rtA, ints, insA, hat] using app_int (k := ((mkAt c (mkLL c most).length i : Nat) : Int)) (l := outL c (mkLL c most).length i) (b := H.length + (k2 + 3)) (n := i) hol (by omega) (by simpa using hJo)) ?_
              simp [g5, g9, w2, rtA, ints, insA]
              exact ⟨i + 1, by show mkN c - (i + 1) < mkN c - i; omega, by simp [g2], by simp [g4], by simp [g5], by simp, by omega, _, .ref (H.length + (k2 + 3)) (i + 1), J.set k2 (.row true 1 (outL c (mkLL c most).length (i + 1))), by simp [rtA, ints, insA, outL_succ, hat], .inl ⟨rfl, hML⟩, .inr ⟨k2, rfl, set_get hJo, hne⟩⟩
        · rcases hvo with ⟨rfl, rfl⟩ | ⟨k2, rfl, hJo, hne⟩
          · by_cases ho1 : 0 < c.out.length
            · have hml : ((mkLL c most).map insA).length = m := by simp [hmm]
              have hJ2 := old hJ
              have hkl := (List.getElem?_eq_some_iff.1 hJ).1
              have hmne : ¬ m = 0 := by omega
              have wml : IntKind.i64.wrap ((m : Int) - 1) = ((m - 1 : Nat) : Int) := by rw [wrap64 (by omega) (by omega)]; omega
              obtain ⟨y, hy⟩ := get_lt ho1
              have hyE : ∀ h, c.out[0]'h = y := fun h => (List.getElem?_eq_some_iff.1 hy).2
              have hat : ((mkAt c (mkLL c most).length 0 : Nat) : Int) = (low y 65535).tmod (m : Int) := by
                have q0 := low_bounds y (m := 65535) (by decide)
                have q1 := Int.emod_nonneg (low y 65535) (b := ((mkLL c most).length : Int)) (by omega)
                rw [show (m : Int) = ((mkLL c most).length : Int) by omega, Int.tmod_eq_emod_of_nonneg q0.1]
                unfold mkAt; rw [hy]; exact Int.toNat_of_nonneg q1
              simp [g2, g5, g9, rtA, ints, ho1, hJ, hJ2, hml, wml]
              simp [g2, g5, g9, rtA, ints, hy, hyE, and64k, hJ, hJ2, hml, hmne]
              refine endD [] (by rfl) (by simp [okW, note, Eff.triv, Eff.wr, Eff.none, upTo, newAt]) ?_
              simp [g2, g5, g9, rtA, ints, hJ, hJ2, hml]
              refine bind_some (by simpa [rtA, ints, insA, hat] using app_intN (k := ((mkAt c (mkLL c most).length 0 : Nat) : Int))) ?_
              simp [g5, g9, wr1, rtA, ints, insA]
              exact ⟨1, by show mkN c - 1 < mkN c - 0; omega, by simp [g2], by simp [g4], by simp [g5], by simp, by omega, _, .ref (H.length + (J.length + 3)) (1), J ++ [.row true 1 (outL c (mkLL c most).length 1)], by simp [rtA, ints, insA, outL, hat], .inr ⟨kk, m, rfl, hmm, hJ2 _⟩, .inr ⟨J.length, rfl, by simp, fun n h => by simp at h; omega⟩⟩
            · have hml : ((mkLL c most).map insA).length = m := by simp [hmm]
              have hJ2 := old hJ
              have hkl := (List.getElem?_eq_some_iff.1 hJ).1
              have hmne : ¬ m = 0 := by omega
              have wml : IntKind.i64.wrap ((m : Int) - 1) = ((m - 1 : Nat) : Int) := by rw [wrap64 (by omega) (by omega)]; omega
              have hy : c.out[0]? = none := by rw [List.getElem?_eq_none_iff]; omega
              have hat : ((mkAt c (mkLL c most).length 0 : Nat) : Int) = ((m - 1 : Nat) : Int) := by unfold mkAt; rw [hy]; simp only; omega
              simp [g2, g5, g9, rtA, ints, ho1, hJ, hJ2, hml, wml]
              refine bind_some (by simpa [rtA, ints, insA, hat] using app_intN (k := ((mkAt c (mkLL c most).length 0 : Nat) : Int))) ?_
              simp [g5, g9, wr1, rtA, ints, insA]
              exact ⟨1, by show mkN c - 1 < mkN c - 0; omega, by simp [g2], by simp [g4], by simp [g5], by simp, by omega, _, .ref (H.length + (J.length + 3)) (1), J ++ [.row true 1 (outL c (mkLL c most).length 1)], by simp [rtA, ints, insA, outL, hat], .inr ⟨kk, m, rfl, hmm, hJ2 _⟩, .inr ⟨J.length, rfl, by simp, fun n h => by simp at h; omega⟩⟩
          · by_cases ho1 : i < c.out.length
            · have hml : ((mkLL c most).map insA).length = m := by simp [hmm]
              have hJ2 := old hJ
              have hkl := (List.getElem?_eq_some_iff.1 hJ).1
              have hmne : ¬ m = 0 := by omega
              have wml : IntKind.i64.wrap ((m : Int) - 1) = ((m - 1 : Nat) : Int) := by rw [wrap64 (by omega) (by omega)]; omega
              have hJo2 := old hJo
              have hol := outL_len c (mkLL c most).length i
              obtain ⟨y, hy⟩ := get_lt ho1
              have hyE : ∀ h, c.out[i]'h = y := fun h => (List.getElem?_eq_some_iff.1 hy).2
              have hat : ((mkAt c (mkLL c most).length i : Nat) : Int) = (low y 65535).tmod (m : Int) := by
                have q0 := low_bounds y (m := 65535) (by decide)
                have q1 := Int.emod_nonneg (low y 65535) (b := ((mkLL c most).length : Int)) (by omega)
                rw [show (m : Int) = ((mkLL c most).length : Int) by omega, Int.tmod_eq_emod_of_nonneg q0.1]
                unfold mkAt; rw [hy]; exact Int.toNat_of_nonneg q1
              simp [g2, g5, g9, rtA, ints, ho1, hJ, hJ2, hml, hJo, hJo2, wml]
              simp [g2, g5, g9, rtA, ints, hy, hyE, and64k, hJ, hJ2, hml, hJo, hJo2, hmne]
              refine endD [] (by rfl) (by simp [okW, note, Eff.triv, Eff.wr, Eff.none, upTo, newAt]) ?_
              simp [g2, g5, g9, rtA, ints, hJ, hJ2, hml, hJo, hJo2]
              refine bind_some (by simpa [rtA, ints, insA, hat] using app_int (k := ((mkAt c (mkLL c most).length i : Nat) : Int)) (l := outL c (mkLL c most).length i) (b := H.length + (k2 + 3)) (n := i) hol (by omega) (by simpa using hJo)) ?_
              simp [g5, g9, w2, rtA, ints, insA]
              exact ⟨i + 1, by show mkN c - (i + 1) < mkN c - i; omega, by simp [g2], by simp [g4], by simp [g5], by simp, by omega, _, .ref (H.length + (k2 + 3)) (i + 1), J.set k2 (.row true 1 (outL c (mkLL c most).length (i + 1))), by simp [rtA, ints, insA, outL_succ, hat], .inr ⟨kk, m, rfl, hmm, by rw [List.getElem?_set_ne (fun e => hne m (by rw [e]))]; exact hJ⟩, .inr ⟨k2, rfl, set_get hJo, hne⟩⟩
            · have hml : ((mkLL c most).map insA).length = m := by simp [hmm]
              have hJ2 := old hJ
              have hkl := (List.getElem?_eq_some_iff.1 hJ).1
              have hmne : ¬ m = 0 := by omega
              have wml : IntKind.i64.wrap ((m : Int) - 1) = ((m - 1 : Nat) : Int) := by rw [wrap64 (by omega) (by omega)]; omega
              have hJo2 := old hJo
              have hol := outL_len c (mkLL c most).length i
              have hy : c.out[i]? = none := by rw [List.getElem?_eq_none_iff]; omega
              have hat : ((mkAt c (mkLL c most).length i : Nat) : Int) = ((m - 1 : Nat) : Int) := by unfold mkAt; rw [hy]; simp only; omega
              simp [g2, g5, g9, rtA, ints, ho1, hJ, hJ2, hml, hJo, hJo2, wml]
              refine bind_some (by simpa [rtA, ints, insA, hat] using app_int (k := ((mkAt c (mkLL c most).length i : Nat) : Int)) (l := outL c (mkLL c most).length i) (b := H.length + (k2 + 3)) (n := i) hol (by omega) (by simpa using hJo)) ?_
              simp [g5, g9, w2, rtA, ints, insA]
              exact ⟨i + 1, by show mkN c - (i + 1) < mkN c - i; omega, by simp [g2], by simp [g4], by simp [g5], by simp, by omega, _, .ref (H.length + (k2 + 3)) (i + 1), J.set k2 (.row true 1 (outL c (mkLL c most).length (i + 1))), by simp [rtA, ints, insA, outL_succ, hat], .inr ⟨kk, m, rfl, hmm, by rw [List.getElem?_set_ne (fun e => hne m (by rw [e]))]; exact hJ⟩, .inr ⟨k2, rfl, set_get hJo, hne⟩⟩
      · have hi' : i = mkN c := by
          have : ¬ i < mkN c := by simpa using hc
          omega
        subst hi'
        rcases hvo with ⟨_, h⟩ | ⟨k2, rfl, hJo, hne⟩
        · omega
        have hJo2 := old hJo
        have hol := outL_len c (mkLL c most).length (mkN c)
        have hO : (outL c (mkLL c most).length (mkN c)) = (mkT c most).out.map fun k : Nat => .int .i64 k := by simp [outL, mkT]
        have hT : tpA (mkT c most) = .agg [.int .i64 (mkN c), .slice ((mkLL c most).map insA) false, .slice (outL c (mkLL c most).length (mkN c)) false] := by rw [hO]; rfl
        have hnO : ∀ n, noFs n (outL c (mkLL c most).length (mkN c)) = true := fun n => noFs_iff.2 fun x hx => by obtain ⟨y, _, rfl⟩ := List.mem_map.1 hx; simp [noF]
        rw [hT]
        generalize hoo : outL c (mkLL c most).length (mkN c) = oo at *
        rcases hw with ⟨rfl, hML⟩ | ⟨kk, m, rfl, hmm, hJ⟩
        · rw [hML]
          simp [g4, g5, rtA]
          exact finC (rs := [.cell 4 25]) (vs := [.agg [.int .i64 (mkN c), .slice [insA ⟨2, 0, 0, (0, 0)⟩] true, .ref (H.length + (k2 + 3)) (mkN c)]]) (vs' := [.agg [.int .i64 (mkN c), .slice [insA ⟨2, 0, 0, (0, 0)⟩] false, .slice oo false]]) (J' := .row true 3 [rtA c] :: .row true 3 [.agg [.int .i64 (mkN c), .slice [insA ⟨2, 0, 0, (0, 0)⟩] true, .ref (H.length + (k2 + 3)) (mkN c)]] :: .row true 3 [.agg [.int .i64 (mkN c), .slice [insA ⟨2, 0, 0, (0, 0)⟩] true, .ref (H.length + (k2 + 3)) (mkN c)]] :: J.set k2 (.row false 1 oo)) (by rfl) (by simp [resA, g4]) (by simp [hJo, hol, rtA]) (by simp [noFs, noF, insA, hnO]) rfl
        · have hne2 : kk ≠ k2 := fun e => hne m (by rw [e])
          have hml : ((mkLL c most).map insA).length = m := by simp [hmm]
          have hJo3 : ∀ x, (J.set kk x)[k2]? = some (.row true 1 oo) := fun x => by rw [List.getElem?_set_ne hne2]; exact hJo
          have hnL : ∀ n, noFs n ((mkLL c most).map insA) = true := fun n => noFs_iff.2 fun x hx => by obtain ⟨y, _, rfl⟩ := List.mem_map.1 hx; simp [noF, insA, noFs]
          generalize (mkLL c most).map insA = ll at *
          simp [g4, g5, rtA]
          exact finC (rs := [.cell 4 25]) (vs := [.agg [.int .i64 (mkN c), .ref (H.length + (kk + 3)) m, .ref (H.length + (k2 + 3)) (mkN c)]]) (vs' := [.agg [.int .i64 (mkN c), .slice ll false, .slice oo false]]) (J' := .row true 3 [rtA c] :: .row true 3 [.agg [.int .i64 (mkN c), .ref (H.length + (kk + 3)) m, .ref (H.length + (k2 + 3)) (mkN c)]] :: .row true 3 [.agg [.int .i64 (mkN c), .ref (H.length + (kk + 3)) m, .ref (H.length + (k2 + 3)) (mkN c)]] :: (J.set kk (.row false 5 ll)).set k2 (.row false 1 oo)) (by rfl) (by simp [resA, g4]) (by simp [hJ, hJo3, hol, hml, rtA]) (by simp [noFs, noF, hnL, hnO]) rfl
    · rcases hacc with ⟨h0', _⟩ | ⟨kk, hv, hJk⟩
      · have := congrArg List.length h0'
        simp [mkL_len] at this
        omega
      · have hLL : mkLL c most = mkL c i := by unfold mkLL; rw [if_neg h0, hi']
        have hv2 : v = .ref (H.length + (kk + 3)) i := by rw [hv]; simp [mkL_len]; omega
        subst hv2
        have hln : (mkL c i).length = i := mkL_len c i
        have hi0 : ((i : Int) == 0) = false := by rw [beq_eq_false_iff_ne]; omega
        rw [← hLL] at hJk hln
        have hln2 : ((mkLL c most).map insA).length = i := by simp [hln]
        generalize hLM : (mkLL c most).map insA = ll at *
        simp [g5, hJk, hln2, hi0]
        refine loop_count (LM2 c most H) (fun i => mkN c - i) 0 ⟨by simp [g2], by simp [g4], by simp [g5], by simp, by omega, .ref (H.length + (kk + 3)) i, .nilslice, J, by simp [rtA], .inr ⟨kk, i, rfl, hln.symm, by rw [hLM]; exact hJk⟩, .inl ⟨rfl, rfl⟩⟩ ?_
        clear g1 g2 g4 g5 g6 hv0 hv hJk hln hln2 hLL hi0 hLM
        rintro i fr H' ⟨g2, g4, g5, g9, hi, w, vo, J, rfl, hw, hvo⟩
        have hmb := mkLL_len c most hm
        have w2 : IntKind.i64.wrap ((i : Int) + 1) = ((i + 1 : Nat) : Int) := by rw [wrap64 (by omega) (by omega)]; omega
        have wr1 : IntKind.i64.wrap 1 = 1 := wrap64 (by decide) (by decide)
        simp [g5, g9]
        refine branch (fun hc => ?_) (fun hc => ?_)
        · have hlt : i < mkN c := by simpa using hc
          rcases hw with ⟨rfl, hML⟩ | ⟨kk, m, rfl, hmm, hJ⟩
          · rcases hvo with ⟨rfl, rfl⟩ | ⟨k2, rfl, hJo, hne⟩
            · by_cases ho1 : 0 < c.out.length
              · have hm1 : (mkLL c most).length = 1 := by rw [hML]; rfl
                have wml : IntKind.i64.wrap 0 = 0 := wrap64 (by decide) (by decide)
                obtain ⟨y, hy⟩ := get_lt ho1
                have hyE : ∀ h, c.out[0]'h = y := fun h => (List.getElem?_eq_some_iff.1 hy).2
                have hat : ((mkAt c (mkLL c most).length 0 : Nat) : Int) = (low y 65535).tmod (1 : Int) := by
                  have q0 := low_bounds y (m := 65535) (by decide)
                  have q1 := Int.emod_nonneg (low y 65535) (b := ((mkLL c most).length : Int)) (by omega)
                  rw [show (1 : Int) = ((mkLL c most).length : Int) by omega, Int.tmod_eq_emod_of_nonneg q0.1]
                  unfold mkAt; rw [hy]; exact Int.toNat_of_nonneg q1
                simp at hat
                simp [g2, g5, g9, rtA, ints, ho1, insA, wml]
                simp [g2, g5, g9, rtA, ints, hy, hyE, and64k, insA]
                refine endD [] (by rfl) (by simp [okW, note, Eff.triv, Eff.wr, Eff.none, upTo, newAt]) ?_
                simp [g2, g5, g9, rtA, ints, insA]
                refine bind_some (by simpa [rtA, ints, insA, hat] using app_intN (k := ((mkAt c (mkLL c most).length 0 : Nat) : Int))) ?_
                simp [g5, g9, wr1, rtA, ints, insA]
                exact ⟨1, by show mkN c - 1 < mkN c - 0; omega, by simp [g2], by simp [g4], by simp [g5], by simp, by omega, _, .ref (H.length + (J.length + 3)) (1), J ++ [.row true 1 (outL c (mkLL c most).length 1)], by simp [rtA, ints, insA, outL, hat], .inl ⟨rfl, hML⟩, .inr ⟨J.length, rfl, by simp, fun n h => by cases h⟩⟩
              · have hm1 : (mkLL c most).length = 1 := by rw [hML]; rfl
                have wml : IntKind.i64.wrap 0 = 0 := wrap64 (by decide) (by decide)
                have hy : c.out[0]? = none := by rw [List.getElem?_eq_none_iff]; omega
                have hat : ((mkAt c (mkLL c most).length 0 : Nat) : Int) = ((1 - 1 : Nat) : Int) := by unfold mkAt; rw [hy]; simp only; omega
                simp at hat
                simp [g2, g5, g9, rtA, ints, ho1, insA, wml]
                refine bind_some (by simpa [rtA, ints, insA, hat] using app_intN (k := ((mkAt c (mkLL c most).length 0 : Nat) : Int))) ?_
                simp [g5, g9, wr1, rtA, ints, insA]
                exact ⟨1, by show mkN c - 1 < mkN c - 0; omega, by simp [g2], by simp [g4], by simp [g5], by simp, by omega, _, .ref (H.length + (J.length + 3)) (1), J ++ [.row true 1 (outL c (mkLL c most).length 1)], by simp [rtA, ints, insA, outL, hat], .inl ⟨rfl, hML⟩, .inr ⟨J.length, rfl, by simp, fun n h => by cases h⟩⟩
            · by_cases ho1 : i < c.out.length
              · have hm1 : (mkLL c most).length = 1 := by rw [hML]; rfl
                have wml : IntKind.i64.wrap 0 = 0 := wrap64 (by decide) (by decide)
                have hJo2 := old hJo
                have hol := outL_len c (mkLL c most).length i
                obtain ⟨y, hy⟩ := get_lt ho1
                have hyE : ∀ h, c.out[i]'h = y := fun h => (List.getElem?_eq_some_iff.1 hy).2
                have hat : ((mkAt c (mkLL c most).length i : Nat) : Int) = (low y 65535).tmod (1 : Int) := by
                  have q0 := low_bounds y (m := 65535) (by decide)
                  have q1 := Int.emod_nonneg (low y 65535) (b := ((mkLL c most).length : Int)) (by omega)
                  rw [show (1 : Int) = ((mkLL c most).length : Int) by omega, Int.tmod_eq_emod_of_nonneg q0.1]
                  unfold mkAt; rw [hy]; exact Int.toNat_of_nonneg q1
                simp at hat
                simp [g2, g5, g9, rtA, ints, ho1, insA, hJo, hJo2, wml]
                simp [g2, g5, g9, rtA, ints, hy, hyE, and64k, insA, hJo, hJo2]
                refine endD [] (by rfl) (by simp [okW, note, Eff.triv, Eff.wr, Eff.none, upTo, newAt]) ?_
                simp [g2, g5, g9, rtA, ints, insA, hJo, hJo2]
                refine bind_some (by simpa [rtA, ints, insA, hat] using app_int (k := ((mkAt c (mkLL c most).length i : Nat) : Int)) (l := outL c (mkLL c most).length i) (b := H.length + (k2 + 3)) (n := i) hol (by omega) (by simpa using hJo)) ?_
                simp [g5, g9, w2, rtA, ints, insA]
                exact ⟨i + 1, by show mkN c - (i + 1) < mkN c - i; omega, by simp [g2], by simp [g4], by simp [g5], by simp, by omega, _, .ref (H.length + (k2 + 3)) (i + 1), J.set k2 (.row true 1 (outL c (mkLL c most).length (i + 1))), by simp [rtA, ints, insA, outL_succ, hat], .inl ⟨rfl, hML⟩, .inr ⟨k2, rfl, set_get hJo, hne⟩⟩
              · have hm1 : (mkLL c most).length = 1 := by rw [hML]; rfl
                have wml : IntKind.i64.wrap 0 = 0 := wrap64 (by decide) (by decide)
                have hJo2 := old hJo
                have hol := outL_len c (mkLL c most).length i
                have hy : c.out[i]? = none := by rw [List.getElem?_eq_none_iff]; omega
                have hat : ((mkAt c (mkLL c most).length i : Nat) : Int) = ((1 - 1 : Nat) : Int) := by unfold mkAt; rw [hy]; simp only; omega
                simp at hat
                simp [g2, g5, g9, rtA, ints, ho1, insA, hJo, hJo2, wml]
                refine bind_some (by simpa [rtA, ints, insA, hat] using app_int (k := ((mkAt c (mkLL c most).length i : Nat) : Int)) (l := outL c (mkLL c most).length i) (b := H.length + (k2 + 3)) (n := i) hol (by omega) (by simpa using hJo)) ?_
                simp [g5, g9, w2, rtA, ints, insA]
                exact ⟨i + 1, by show mkN c - (i + 1) < mkN c - i; omega, by simp [g2], by simp [g4], by simp [g5], by simp, by omega, _, .ref (H.length + (k2 + 3)) (i + 1), J.set k2 (.row true 1 (outL c (mkLL c most).length (i + 1))), by simp [rtA, ints, insA, outL_succ, hat], .inl ⟨rfl, hML⟩, .inr ⟨k2, rfl, set_get hJo, hne⟩⟩
          · rcases hvo with ⟨rfl, rfl⟩ | ⟨k2, rfl, hJo, hne⟩
            · by_cases ho1 : 0 < c.out.length
              · have hml : ((mkLL c most).map insA).length = m := by simp [hmm]
                have hJ2 := old hJ
                have hkl := (List.getElem?_eq_some_iff.1 hJ).1
                have hmne : ¬ m = 0 := by omega
                have wml : IntKind.i64.wrap ((m : Int) - 1) = ((m - 1 : Nat) : Int) := by rw [wrap64 (by omega) (by omega)]; omega
                obtain ⟨y, hy⟩ := get_lt ho1
                have hyE : ∀ h, c.out[0]'h = y := fun h => (List.getElem?_eq_some_iff.1 hy).2
                have hat : ((mkAt c (mkLL c most).length 0 : Nat) : Int) = (low y 65535).tmod (m : Int) := by
                  have q0 := low_bounds y (m := 65535) (by decide)
                  have q1 := Int.emod_nonneg (low y 65535) (b := ((mkLL c most).length : Int)) (by omega)
                  rw [show (m : Int) = ((mkLL c most).length : Int) by omega, Int.tmod_eq_emod_of_nonneg q0.1]
                  unfold mkAt; rw [hy]; exact Int.toNat_of_nonneg q1
                simp [g2, g5, g9, rtA, ints, ho1, hJ, hJ2, hml, wml]
                simp [g2, g5, g9, rtA, ints, hy, hyE, and64k, hJ, hJ2, hml, hmne]
                refine endD [] (by rfl) (by simp [okW, note, Eff.triv, Eff.wr, Eff.none, upTo, newAt]) ?_
                simp [g2, g5, g9, rtA, ints, hJ, hJ2, hml]
                refine bind_some (by simpa [rtA, ints, insA, hat] using app_intN (k := ((mkAt c (mkLL c most).length 0 : Nat) : Int))) ?_
                simp [g5, g9, wr1, rtA, ints, insA]
                exact ⟨1, by show mkN c - 1 < mkN c - 0; omega, by simp [g2], by simp [g4], by simp [g5], by simp, by omega, _, .ref (H.length + (J.length + 3)) (1), J ++ [.row true 1 (outL c (mkLL c most).length 1)], by simp [rtA, ints, insA, outL, hat], .inr ⟨kk, m, rfl, hmm, hJ2 _⟩, .inr ⟨J.length, rfl, by simp, fun n h => by simp at h; omega⟩⟩
              · have hml : ((mkLL c most).map insA).length = m := by simp [hmm]
                have hJ2 := old hJ
                have hkl := (List.getElem?_eq_some_iff.1 hJ).1
                have hmne : ¬ m = 0 := by omega
                have wml : IntKind.i64.wrap ((m : Int) - 1) = ((m - 1 : Nat) : Int) := by rw [wrap64 (by omega) (by omega)]; omega
                have hy : c.out[0]? = none := by rw [List.getElem?_eq_none_iff]; omega
                have hat : ((mkAt c (mkLL c most).length 0 : Nat) : Int) = ((m - 1 : Nat) : Int) := by unfold mkAt; rw [hy]; simp only; omega
                simp [g2, g5, g9, rtA, ints, ho1, hJ, hJ2, hml, wml]
                refine bind_some (by simpa [rtA, ints, insA, hat] using app_intN (k := ((mkAt c (mkLL c most).length 0 : Nat) : Int))) ?_
                simp [g5, g9, wr1, rtA, ints, insA]
                exact ⟨1, by show mkN c - 1 < mkN c - 0; omega, by simp [g2], by simp [g4], by simp [g5], by simp, by omega, _, .ref (H.length + (J.length + 3)) (1), J ++ [.row true 1 (outL c (mkLL c most).length 1)], by simp [rtA, ints, insA, outL, hat], .inr ⟨kk, m, rfl, hmm, hJ2 _⟩, .inr ⟨J.length, rfl, by simp, fun n h => by simp at h; omega⟩⟩
            · by_cases ho1 : i < c.out.length
              · have hml : ((mkLL c most).map insA).length = m := by simp [hmm]
                have hJ2 := old hJ
                have hkl := (List.getElem?_eq_some_iff.1 hJ).1
                have hmne : ¬ m = 0 := by omega
                have wml : IntKind.i64.wrap ((m : Int) - 1) = ((m - 1 : Nat) : Int) := by rw [wrap64 (by omega) (by omega)]; omega
                have hJo2 := old hJo
                have hol := outL_len c (mkLL c most).length i
                obtain ⟨y, hy⟩ := get_lt ho1
                have hyE : ∀ h, c.out[i]'h = y := fun h => (List.getElem?_eq_some_iff.1 hy).2
                have hat : ((mkAt c (mkLL c most).length i : Nat) : Int) = (low y 65535).tmod (m : Int) := by
                  have q0 := low_bounds y (m := 65535) (by decide)
                  have q1 := Int.emod_nonneg (low y 65535) (b := ((mkLL c most).length : Int)) (by omega)
                  rw [show (m : Int) = ((mkLL c most).length : Int) by omega, Int.tmod_eq_emod_of_nonneg q0.1]
                  unfold mkAt; rw [hy]; exact Int.toNat_of_nonneg q1
                simp [g2, g5, g9, rtA, ints, ho1, hJ, hJ2, hml, hJo, hJo2, wml]
                simp [g2, g5, g9, rtA, ints, hy, hyE, and64k, hJ, hJ2, hml, hJo, hJo2, hmne]
                refine endD [] (by rfl) (by simp [okW, note, Eff.triv, Eff.wr, Eff.none, upTo, newAt]) ?_
                simp [g2, g5, g9, rtA, ints, hJ, hJ2, hml, hJo, hJo2]
                refine bind_some (by simpa [rtA, ints, insA, hat] using app_int (k := ((mkAt c (mkLL c most).length i : Nat) : Int)) (l := outL c (mkLL c most).length i) (b := H.length + (k2 + 3)) (n := i) hol (by omega) (by simpa using hJo)) ?_
                simp [g5, g9, w2, rtA, ints, insA]
                exact ⟨i + 1, by show mkN c - (i + 1) < mkN c - i; omega, by simp [g2], by simp [g4], by simp [g5], by simp, by omega, _, .ref (H.length + (k2 + 3)) (i + 1), J.set k2 (.row true 1 (outL c (mkLL c most).length (i + 1))), by simp [rtA, ints, insA, outL_succ, hat], .inr ⟨kk, m, rfl, hmm, by rw [List.getElem?_set_ne (fun e => hne m (by rw [e]))]; exact hJ⟩, .inr ⟨k2, rfl, set_get hJo, hne⟩⟩
              · have hml : ((mkLL c most).map insA).length = m := by simp [hmm]
                have hJ2 := old hJ
                have hkl := (List.getElem?_eq_some_iff.1 hJ).1
                have hmne : ¬ m = 0 := by omega
                have wml : IntKind.i64.wrap ((m : Int) - 1) = ((m - 1 : Nat) : Int) := by rw [wrap64 (by omega) (by omega)]; omega
                have hJo2 := old hJo
                have hol := outL_len c (mkLL c most).length i
                have hy : c.out[i]? = none := by rw [List.getElem?_eq_none_iff]; omega
                have hat : ((mkAt c (mkLL c most).length i : Nat) : Int) = ((m - 1 : Nat) : Int) := by unfold mkAt; rw [hy]; simp only; omega
                simp [g2, g5, g9, rtA, ints, ho1, hJ, hJ2, hml, hJo, hJo2, wml]
                refine bind_some (by simpa [rtA, ints, insA, hat] using app_int (k := ((mkAt c (mkLL c most).length i : Nat) : Int)) (l := outL c (mkLL c most).length i) (b := H.length + (k2 + 3)) (n := i) hol (by omega) (by simpa using hJo)) ?_
                simp [g5, g9, w2, rtA, ints, insA]
                exact ⟨i + 1, by show mkN c - (i + 1) < mkN c - i; omega, by simp [g2], by simp [g4], by simp [g5], by simp, by omega, _, .ref (H.length + (k2 + 3)) (i + 1), J.set k2 (.row true 1 (outL c (mkLL c most).length (i + 1))), by simp [rtA, ints, insA, outL_succ, hat], .inr ⟨kk, m, rfl, hmm, by rw [List.getElem?_set_ne (fun e => hne m (by rw [e]))]; exact hJ⟩, .inr ⟨k2, rfl, set_get hJo, hne⟩⟩
        · have hi' : i = mkN c := by
            have : ¬ i < mkN c := by simpa using hc
            omega
          subst hi'
          rcases hvo with ⟨_, h⟩ | ⟨k2, rfl, hJo, hne⟩
          · omega
          have hJo2 := old hJo
          have hol := outL_len c (mkLL c most).length (mkN c)
          have hO : (outL c (mkLL c most).length (mkN c)) = (mkT c most).out.map fun k : Nat => .int .i64 k := by simp [outL, mkT]
          have hT : tpA (mkT c most) = .agg [.int .i64 (mkN c), .slice ((mkLL c most).map insA) false, .slice (outL c (mkLL c most).length (mkN c)) false] := by rw [hO]; rfl
          have hnO : ∀ n, noFs n (outL c (mkLL c most).length (mkN c)) = true := fun n => noFs_iff.2 fun x hx => by obtain ⟨y, _, rfl⟩ := List.mem_map.1 hx; simp [noF]
          rw [hT]
          generalize hoo : outL c (mkLL c most).length (mkN c) = oo at *
          rcases hw with ⟨rfl, hML⟩ | ⟨kk, m, rfl, hmm, hJ⟩
          · rw [hML]
            simp [g4, g5, rtA]
            exact finC (rs := [.cell 4 25]) (vs := [.agg [.int .i64 (mkN c), .slice [insA ⟨2, 0, 0, (0, 0)⟩] true, .ref (H.length + (k2 + 3)) (mkN c)]]) (vs' := [.agg [.int .i64 (mkN c), .slice [insA ⟨2, 0, 0, (0, 0)⟩] false, .slice oo false]]) (J' := .row true 3 [rtA c] :: .row true 3 [.agg [.int .i64 (mkN c), .slice [insA ⟨2, 0, 0, (0, 0)⟩] true, .ref (H.length + (k2 + 3)) (mkN c)]] :: .row true 3 [.agg [.int .i64 (mkN c), .slice [insA ⟨2, 0, 0, (0, 0)⟩] true, .ref (H.length + (k2 + 3)) (mkN c)]] :: J.set k2 (.row false 1 oo)) (by rfl) (by simp [resA, g4]) (by simp [hJo, hol, rtA]) (by simp [noFs, noF, insA, hnO]) rfl
          · have hne2 : kk ≠ k2 := fun e => hne m (by rw [e])
            have hml : ((mkLL c most).map insA).length = m := by simp [hmm]
            have hJo3 : ∀ x, (J.set kk x)[k2]? = some (.row true 1 oo) := fun x => by rw [List.getElem?_set_ne hne2]; exact hJo
            have hnL : ∀ n, noFs n ((mkLL c most).map insA) = true := fun n => noFs_iff.2 fun x hx => by obtain ⟨y, _, rfl⟩ := List.mem_map.1 hx; simp [noF, insA, noFs]
            generalize (mkLL c most).map insA = ll at *
            simp [g4, g5, rtA]
            exact finC (rs := [.cell 4 25]) (vs := [.agg [.int .i64 (mkN c), .ref (H.length + (kk + 3)) m, .ref (H.length + (k2 + 3)) (mkN c)]]) (vs' := [.agg [.int .i64 (mkN c), .slice ll false, .slice oo false]]) (J' := .row true 3 [rtA c] :: .row true 3 [.agg [.int .i64 (mkN c), .ref (H.length + (kk + 3)) m, .ref (H.length + (k2 + 3)) (mkN c)]] :: .row true 3 [.agg [.int .i64 (mkN c), .ref (H.length + (kk + 3)) m, .ref (H.length + (k2 + 3)) (mkN c)]] :: (J.set kk (.row false 5 ll)).set k2 (.row false 1 oo)) (by rfl) (by simp [resA, g4]) (by simp [hJ, hJo3, hol, hml, rtA]) (by simp [noFs, noF, hnL, hnO]) rfl
end Go.Proofs.YtfjjckepnkkgjaaGreatDoor.Arm

namespace Go.Pl
theorem sg_ext {a b : Sg} (h1 : a.t = b.t) (h2 : a.h = b.h) (h3 : a.frm = b.frm) (h4 : a.pre = b.pre) (h5 : a.tube = b.tube) (h6 : a.to = b.to) : a = b := by
  cases a; cases b; simp only at h1 h2 h3 h4 h5 h6; subst h1 h2 h3 h4 h5 h6; rfl
instance : DecidableEq Sg := fun a b => decidable_of_decidable_of_iff (p := a.t = b.t ∧ a.h = b.h ∧ a.frm = b.frm ∧ a.pre = b.pre ∧ a.tube = b.tube ∧ a.to = b.to) ⟨fun ⟨h1, h2, h3, h4, h5, h6⟩ => sg_ext h1 h2 h3 h4 h5 h6, fun h => by subst h; exact ⟨rfl, rfl, rfl, rfl, rfl, rfl⟩⟩
def consS (s : Sg) : Except Int (List Sg) → Except Int (List Sg)
  | .ok l => .ok (s :: l)
  | .error e => .error e
def intS (T : Tp) (c : Ct) (last : Int) : Nat → List I → Int → Int → Except Int (List Sg)
  | 0, x, t, h => if t < last then (match advS T x ⟨c, t, last, h⟩ with
      | none => .error 130
      | some _ => .error 140) else .ok []
  | n + 1, x, t, h => if t < last then (match advS T x ⟨c, t, last, h⟩ with
      | none => .error 130
      | some s => consS s (intS T c last n s.to (s.t + s.h) (nxS ⟨c, t, last, h⟩ s))) else .ok []
theorem intS_end {T : Tp} {c : Ct} {last : Int} {n : Nat} {x : List I} {t h : Int} (ht : ¬ t < last) : intS T c last n x t h = .ok [] := by
  cases n <;> simp [intS, ht]
theorem intS_none {T : Tp} {c : Ct} {last : Int} {n : Nat} {x : List I} {t h : Int} (ht : t < last) (ha : advS T x ⟨c, t, last, h⟩ = none) : intS T c last n x t h = .error 130 := by
  cases n <;> simp [intS, ht, ha]
theorem intS_full {T : Tp} {c : Ct} {last : Int} {x : List I} {t h : Int} {s : Sg} (ht : t < last) (ha : advS T x ⟨c, t, last, h⟩ = some s) : intS T c last 0 x t h = .error 140 := by
  simp [intS, ht, ha]
theorem intS_some {T : Tp} {c : Ct} {last : Int} {n : Nat} {x : List I} {t h : Int} {s : Sg} (ht : t < last) (ha : advS T x ⟨c, t, last, h⟩ = some s) :
    intS T c last (n + 1) x t h = consS s (intS T c last n s.to (s.t + s.h) (nxS ⟨c, t, last, h⟩ s)) := by
  simp [intS, ht, ha]
def appS (l : List Sg) : Except Int (List Sg) → Except Int (List Sg)
  | .ok r => .ok (l ++ r)
  | .error e => .error e
theorem appS_cons (l : List Sg) (s : Sg) (r : Except Int (List Sg)) : appS l (consS s r) = appS (l ++ [s]) r := by
  cases r <;> simp [appS, consS]
theorem appS_nil (r : Except Int (List Sg)) : appS [] r = r := by cases r <;> simp [appS]
def Chn (Q : List I → Int → Sg → Prop) : List I → Int → List Sg → Prop
  | _, _, [] => True
  | x, t, s :: l => Q x t s ∧ Chn Q s.to (s.t + s.h) l
def endT : Int → List Sg → Int
  | t, [] => t
  | _, s :: l => endT (s.t + s.h) l
def endX : List I → List Sg → List I
  | x, [] => x
  | _, s :: l => endX s.to l
theorem Chn.mono {Q R : List I → Int → Sg → Prop} (h : ∀ x t s, Q x t s → R x t s) : ∀ {x : List I} {t : Int} {l : List Sg}, Chn Q x t l → Chn R x t l
  | _, _, [], _ => trivial
  | _, _, _ :: _, hc => ⟨h _ _ _ hc.1, hc.2.mono h⟩
theorem Chn.get {Q : List I → Int → Sg → Prop} : ∀ {x : List I} {t : Int} {l : List Sg}, Chn Q x t l → ∀ (i : Nat) s, l[i]? = some s → ∃ x' t', Q x' t' s
  | _, _, [], _, i, s, h => by simp at h
  | x, t, a :: l, hc, 0, s, h => by simp at h; subst h; exact ⟨x, t, hc.1⟩
  | x, t, a :: l, hc, i + 1, s, h => hc.2.get i s (by simpa using h)
theorem Chn.next {Q : List I → Int → Sg → Prop} : ∀ {x : List I} {t : Int} {l : List Sg}, Chn Q x t l → ∀ (i : Nat) s s', l[i]? = some s → l[i + 1]? = some s' → Q s.to (s.t + s.h) s'
  | _, _, [], _, i, s, s', h, _ => by simp at h
  | x, t, a :: [], hc, i, s, s', h, h' => by simp at h'
  | x, t, a :: b :: l, hc, 0, s, s', h, h' => by simp at h h'; subst h; subst h'; exact hc.2.1
  | x, t, a :: b :: l, hc, i + 1, s, s', h, h' => hc.2.next i s s' (by simpa using h) (by simpa using h')
theorem endT_get : ∀ {t : Int} {l : List Sg} {s : Sg}, l[l.length - 1]? = some s → endT t l = s.t + s.h ∧ ∀ x, endX x l = s.to
  | t, [], s, h => by simp at h
  | t, [a], s, h => by simp at h; subst h; exact ⟨rfl, fun _ => rfl⟩
  | t, a :: b :: l, s, h => by
    have := endT_get (t := a.t + a.h) (l := b :: l) (s := s) (by simpa using h)
    exact ⟨this.1, fun x => this.2 a.to⟩
structure StOk (T : Tp) (c : Ct) (last : Int) (x : List I) (t : Int) (s : Sg) : Prop where
  vx : allV x
  nx : x.length = T.n
  bt : -1000000000 ≤ t ∧ t < last ∧ last ≤ 1000000000
  bh : 1 ≤ s.h ∧ t + s.h ≤ last
  acc : accS T x c t s.h = some s
  ok : SgOk T x t s.h s
structure hzOk (c : Ct) (t last : Int) : Prop where
  order : 1 ≤ c.order ∧ c.order ≤ 900
  least : 1 ≤ c.least
  most : 1 ≤ c.most ∧ c.most ≤ 1000000000
  t : -1000000000 ≤ t ∧ t ≤ 1000000000
  last : last ≤ 1000000000
theorem hzOk.rq {c : Ct} {t last h : Int} (k : hzOk c t last) (ht : t < last) (hh : 1 ≤ h ∧ h ≤ 1000000000) : rqOk ⟨c, t, last, h⟩ := ⟨k.order, k.least, k.t, ⟨ht, k.last⟩, hh⟩
theorem hzOk.step {c : Ct} {t last t' : Int} (k : hzOk c t last) (h1 : t ≤ t') (h2 : t' ≤ last) : hzOk c t' last := ⟨k.order, k.least, k.most, ⟨by have := k.t; omega, by have := k.last; omega⟩, k.last⟩
theorem nxS_b {c : Ct} {t last h : Int} (k : hzOk c t last) (hh : 1 ≤ h ∧ h ≤ 1000000000) {s : Sg} (hs : 1 ≤ s.h) : 1 ≤ nxS ⟨c, t, last, h⟩ s ∧ nxS ⟨c, t, last, h⟩ s ≤ 1000000000 := by
  have := k.most
  unfold nxS growS
  simp only
  split <;> omega
theorem intS_chn {T : Tp} {c : Ct} {last : Int} (hT : tpOk T) : ∀ {n : Nat} {x : List I} {t h : Int} {l : List Sg}, hzOk c t last → t ≤ last → 1 ≤ h ∧ h ≤ 1000000000 → allV x → x.length = T.n → intS T c last n x t h = .ok l →
    l.length ≤ n ∧ Chn (StOk T c last) x t l ∧ endT t l = last ∧ (t < last → 1 ≤ l.length) := by
  intro n
  induction n with
  | zero =>
    intro x t h l k htl hh hx hxn hi
    by_cases ht : t < last
    · cases ha : advS T x ⟨c, t, last, h⟩ with
      | none => rw [intS_none ht ha] at hi; cases hi
      | some s => rw [intS_full ht ha] at hi; cases hi
    · rw [intS_end ht] at hi
      cases hi
      exact ⟨by simp, trivial, by simp only [endT]; omega, fun h => absurd h ht⟩
  | succ n ih =>
    intro x t h l k htl hh hx hxn hi
    by_cases ht : t < last
    · cases ha : advS T x ⟨c, t, last, h⟩ with
      | none => rw [intS_none ht ha] at hi; cases hi
      | some s =>
        rw [intS_some ht ha] at hi
        obtain ⟨a1, a2, a3, a4, a5⟩ := advS_ok hT hx hxn (k.rq ht hh) ha
        have hst := a5.ht
        have hf : firstH ⟨c, t, last, h⟩ ≤ last - t := by unfold firstH; simp only; omega
        cases hr : intS T c last n s.to (s.t + s.h) (nxS ⟨c, t, last, h⟩ s) with
        | error e => rw [hr] at hi; cases hi
        | ok r =>
          rw [hr] at hi
          cases hi
          have hst2 : s.t = t := hst
          obtain ⟨b1, b2, b3, b4⟩ := ih (k.step (by omega) (by omega)) (by omega) (nxS_b k hh a2) a5.vto a5.nto hr
          exact ⟨by simp; omega, ⟨⟨hx, hxn, ⟨k.t.1, ht, k.last⟩, ⟨a2, by omega⟩, a4, a5⟩, b2⟩, b3, fun _ => by simp⟩
    · rw [intS_end ht] at hi
      cases hi
      exact ⟨by simp, trivial, by simp only [endT]; omega, fun h => absurd h ht⟩
def Ctg : Int → List Sg → Prop
  | _, [] => True
  | t, s :: l => s.t = t ∧ 1 ≤ s.h ∧ Ctg (s.t + s.h) l
theorem Chn.ctg {Q : List I → Int → Sg → Prop} (h : ∀ x t s, Q x t s → s.t = t ∧ 1 ≤ s.h) : ∀ {x : List I} {t : Int} {l : List Sg}, Chn Q x t l → Ctg t l
  | _, _, [], _ => trivial
  | x, t, s :: l, hc => ⟨(h _ _ _ hc.1).1, (h _ _ _ hc.1).2, hc.2.ctg h⟩
theorem Ctg.ge : ∀ {l : List Sg} {t : Int}, Ctg t l → ∀ s ∈ l, t ≤ s.t ∧ 1 ≤ s.h ∧ s.t + s.h ≤ endT t l
  | [], t, _, s, h => by cases h
  | a :: l, t, hc, s, h => by
    have hend : ∀ {l : List Sg} {t : Int}, Ctg t l → t ≤ endT t l := by
      intro l
      induction l with
      | nil => intro t _; exact Int.le_refl _
      | cons b l ih => intro t hc; have := ih hc.2.2; have := hc.2.1; have := hc.1; simp only [endT]; omega
    obtain ⟨h1, h2, h3⟩ := hc
    rcases List.mem_cons.1 h with rfl | h
    · exact ⟨by omega, h2, hend h3⟩
    · have := Ctg.ge h3 s h
      exact ⟨by omega, this.2.1, this.2.2⟩
theorem Ctg.pair : ∀ {l : List Sg} {t : Int}, Ctg t l → l.Pairwise fun a b => a.t + a.h ≤ b.t ∧ 1 ≤ a.h ∧ 1 ≤ b.h
  | [], t, _ => .nil
  | a :: l, t, hc => .cons (fun b hb => by
      have := hc.2.2.ge b hb
      exact ⟨this.1, hc.2.1, this.2.1⟩) hc.2.2.pair
theorem idx_iff {α : Type} {p : α → Bool} : ∀ {l : List α}, (l.Pairwise fun a b => p a = true → p b = true) → ∀ (k : Nat) s, l[k]? = some s → (p s = true ↔ l.findIdx p ≤ k)
  | [], _, k, s, h => by simp at h
  | a :: l, hp, k, s, h => by
    rw [List.findIdx_cons]
    cases hpa : p a with
    | true =>
      simp
      cases k with
      | zero => simp at h; subst h; exact hpa
      | succ k =>
        have hm : s ∈ l := List.mem_of_getElem? (by simpa using h)
        exact (List.pairwise_cons.1 hp).1 s hm hpa
    | false =>
      simp
      cases k with
      | zero => simp at h; subst h; simp [hpa]
      | succ k =>
        have := idx_iff (List.pairwise_cons.1 hp).2 k s (by simpa using h)
        rw [this]; omega
theorem Ctg.idxT {l : List Sg} {t : Int} (h : Ctg t l) (τ : Int) (k : Nat) (s : Sg) (hs : l[k]? = some s) : decide (τ < s.t) = decide (l.findIdx (fun s => decide (τ < s.t)) ≤ k) := by
  have := idx_iff (p := fun s : Sg => decide (τ < s.t)) (l := l) (h.pair.imp fun {a b} hab hp => by simp at hp ⊢; omega) k s hs
  rw [Bool.eq_iff_iff]
  simpa using this
theorem Ctg.idxE {l : List Sg} {t : Int} (h : Ctg t l) (τ : Int) (k : Nat) (s : Sg) (hs : l[k]? = some s) : decide (τ ≤ s.t + s.h) = decide (l.findIdx (fun s => decide (τ ≤ s.t + s.h)) ≤ k) := by
  have := idx_iff (p := fun s : Sg => decide (τ ≤ s.t + s.h)) (l := l) (h.pair.imp fun {a b} hab hp => by simp at hp ⊢; omega) k s hs
  rw [Bool.eq_iff_iff]
  simpa using this
def boxs (s : Sg) : List (List I) := [s.frm, s.pre, s.tube, s.to]
def boxN (n : Nat) (b : List I) : Bool := b.length == n && validB b
def segB (n : Nat) (t : Int) (s : Sg) : Bool := decide (1 ≤ s.h) && s.t == t && numB s.t && numB s.h && numB (s.t + s.h) && (boxs s).all (boxN n)
def flowsB (n : Nat) : Int → List Sg → Bool
  | _, [] => true
  | t, s :: r => segB n t s && flowsB n (s.t + s.h) r
def flowB (l : List Sg) : Bool := match l with
  | [] => false
  | s :: _ => decide (l.length ≤ 256) && flowsB s.frm.length s.t l
theorem boxs_len (s : Sg) : (boxs s).length = 4 := rfl
end Go.Pl

namespace Go.Proofs.YtfjjckepnkkgjaaGreatDoor.Arm
open Go.Arm Go.Pl
theorem fValid (a : Int) (H : AH) : Sound E 52 [.int .i64 a] H (.ret (.bool (numB a))) H := by
  refine sound_of_awp tabOk mixed Tryz.func52 rfl (by rfl) Tryz.ntmps52 (by kernel_rfl) (by simp) ?_
  simp
  refine gateT (fun h => ?_) (fun h => ?_)
  all_goals
    simp [h]
    exact fin0 (rs := [.tmp 2]) (by rfl) (by simp [resA, numB, h])
theorem iValid (p : I) (H : AH) : Sound E 103 [iv p] H (.ret (.bool (vB p))) H := by
  refine sound_of_awp tabOk mixed Tryz.func103 rfl (by rfl) Tryz.ntmps103 (by kernel_rfl) (by simp) ?_
  simp
  refine call_ret (iIsEntire p _) ?_
  simp
  refine gateF (fun h => ?_) (fun h => ?_)
  · simp [h]
    refine call_ret (fValid _ _) ?_
    simp [h]
    refine gateT (fun h2 => ?_) (fun h2 => ?_)
    · simp [h, h2]
      refine call_ret (fValid _ _) ?_
      simp [h, h2]
      refine gateT (fun h3 => ?_) (fun h3 => ?_)
      all_goals
        simp [h, h2, h3]
        exact fin1 (rs := [.tmp 2]) (by rfl) (by simp [resA, vB, h, h2, h3]) (by simp [noF])
    · simp [h, h2]
      exact fin1 (rs := [.tmp 2]) (by rfl) (by simp [resA, vB, h, h2]) (by simp [noF])
  · simp [h]
    exact fin1 (rs := [.tmp 2]) (by rfl) (by simp [resA, vB, h]) (by simp [noF])
theorem bValid1 (p : I) (H : AH) : Sound E 102 [iv p] H (.ret (.bool (!vB p))) H := by
  refine sound_of_awp tabOk mixed Tryz.func102 rfl (by rfl) Tryz.ntmps102 (by kernel_rfl) (by simp) ?_
  simp
  refine call_ret (iValid p _) ?_
  simp
  exact fin1 (rs := [.tmp 2]) (by rfl) (by simp [resA]) (by simp [noF])
theorem bValid (b : List I) (hb : b.length ≤ 1000000) (H : AH) : Sound E 60 [bx b] H (.ret (.bool (validB b))) H := by
  refine sound_of_awp tabOk mixed Tryz.func60 rfl (by rfl) Tryz.ntmps60 (by kernel_rfl) (by simp) ?_
  have hS := fun Hx => sContainsFunc b 102 [] (fun p => !vB p) Hx hb (fun p _ => by simpa using bValid1 p Hx)
  simp only [bx] at hS
  simp [bx]
  refine gateT (fun h => ?_) (fun h => ?_)
  · simp [h]
    refine gateT (fun h2 => ?_) (fun h2 => ?_)
    · simp [h, h2]
      refine call_ret (by simpa using hS _) ?_
      simp [h, h2]
      refine fin0 (rs := [.tmp 2]) (by rfl) ?_
      simp at h h2
      have h3 : 1 ≤ b.length := by omega
      have h4 : b.length ≤ 6 := by omega
      simp [resA, validB, h3, h4]
      exact List.not_all_eq_any_not.symm
    · simp [h, h2]
      refine fin0 (rs := [.tmp 2]) (by rfl) ?_
      simp at h h2
      have h3 : ¬ b.length ≤ 6 := by omega
      simp [resA, validB, h3]
  · simp [h]
    refine fin0 (rs := [.tmp 2]) (by rfl) ?_
    have h3 : ¬ 1 ≤ b.length := by simp at h; omega
    simp [resA, validB, h3]
end Go.Proofs.YtfjjckepnkkgjaaGreatDoor.Arm

namespace Go.Proofs.YtfjjckepnkkgjaaGreatDoor.Arm
open Go.Arm Go.Pl
theorem allT {α : Type} {p : α → Bool} {l : List α} {i : Nat} {x : α} (h : (l.take i).all p = true) (hx : l[i]? = some x) (hp : p x = true) : (l.take (i + 1)).all p = true := by
  rw [List.take_add_one, hx]; simp only [List.all_append, h]; simpa using hp
theorem allE {α : Type} {p : α → Bool} {l : List α} {i : Nat} (h : (l.take i).all p = true) (hi : ¬ i < l.length) : l.all p = true := by
  rwa [List.take_of_length_le (by omega)] at h
theorem allN {α : Type} {p : α → Bool} {l : List α} {i : Nat} {x : α} (hx : l[i]? = some x) (hp : p x = false) : l.all p = false := by
  rw [List.all_eq_false]; exact ⟨x, List.mem_of_getElem? hx, by simp [hp]⟩
theorem dropA {α : Type} {l : List α} {i : Nat} {p : α} (h : l[i]? = some p) : l.drop i = p :: l.drop (i + 1) := by
  obtain ⟨hi, rfl⟩ := List.getElem?_eq_some_iff.1 h
  exact List.drop_eq_getElem_cons hi
def sgL (l : List Sg) : AV := .slice (l.map sgA) false
theorem sgA_noF (s : Sg) (m : Nat) : noF m (sgA s) = true := by simp only [sgA, bx, noF, noFs, iv_noFs, Bool.and_self]
theorem sgs_noFs (l : List Sg) (n : Nat) : noFs n (l.map sgA) = true := noFs_iff.2 fun x hx => by obtain ⟨y, _, rfl⟩ := List.mem_map.1 hx; exact sgA_noF y n
def LVa (l : List Sg) (n : Nat) (t0 : Int) (H : AH) (i : Nat) (fr : AFr) (H' : AH) : Prop :=
  fr 0 = sgL l ∧ fr 20 = sgL l ∧ fr 21 = .int .i64 l.length ∧ fr 22 = .int .i64 i ∧ i ≤ l.length ∧ (∃ t, fr 3 = .int .i64 t ∧ flowsB n t0 l = flowsB n t (l.drop i)) ∧ ∃ J, H' = H ++ J
def MVa (l : List Sg) (n : Nat) (t : Int) (p : Sg) (H : AH) (i : Nat) (j : Nat) (fr : AFr) (H' : AH) : Prop :=
  fr 0 = sgL l ∧ fr 20 = sgL l ∧ fr 21 = .int .i64 l.length ∧ fr 22 = .int .i64 i ∧ fr 3 = .int .i64 t ∧ fr 69 = .agg ((boxs p).map bx) ∧ fr 70 = .int .i64 j ∧ j ≤ 4 ∧ ((boxs p).take j).all (boxN n) = true ∧ ∃ J, H' = H ++ J
set_option maxRecDepth 10000 in
theorem wValid (l : List Sg) (hl1 : l.length ≤ 1000000) (hs : ∀ s ∈ l, ∀ b ∈ boxs s, b.length ≤ 1000000) (H : AH) : Sound E 18 [sgL l] H (.ret (.bool (flowB l))) H := by
  refine sound_of_awp tabOk mixed Tryz.func18 rfl (by rfl) Tryz.ntmps18 (by kernel_rfl) (by simp) ?_
  simp [sgL]
  refine gateF (fun g1 => ?_) (fun g1 => ?_)
  rotate_left
  · simp [g1]
    exact fin0 (rs := [.tmp 2]) (by rfl) (by
      have : l = [] := by simp at g1; exact List.length_eq_zero_iff.1 (by omega)
      subst this; simp [resA, flowB])
  simp [g1]
  obtain ⟨s0, r0, rfl⟩ : ∃ s0 r0, l = s0 :: r0 := by cases l with
    | nil => simp at g1
    | cons a b => exact ⟨a, b, rfl⟩
  generalize hl : s0 :: r0 = l at *
  have h0 : l[0]? = some s0 := by rw [← hl]; rfl
  have hfl : flowB l = (decide (l.length ≤ 256) && flowsB s0.frm.length s0.t l) := by rw [← hl]; rfl
  refine branch (fun g2 => ?_) (fun g2 => ?_)
  · simp
    exact fin0 (rs := [.tmp 2]) (by rfl) (by
      have : ¬ l.length ≤ 256 := by simp at g2; omega
      rw [hfl]; simp [resA, this])
  have f2 : l.length ≤ 256 := by simp at g2; omega
  have cert : flowB l = flowsB s0.frm.length s0.t l := by rw [hfl]; simp [f2]
  have h0E : ∀ h, l[0]'h = s0 := fun h => (List.getElem?_eq_some_iff.1 h0).2
  have hpos : 0 < l.length := by rw [← hl]; simp
  simp [h0, h0E, hpos, sgA, bx]
  refine loop_count (LVa l s0.frm.length s0.t H) (fun i => l.length - i) 0 ⟨by simp [sgL], by simp [sgL], by simp, by simp, by omega, ⟨s0.t, by simp, by simp⟩, [], by simp⟩ ?_
  rintro i fr H' ⟨k0, k20, k21, k22, hi, ⟨t, k3, hfs⟩, J, rfl⟩
  simp [k21, k22]
  refine branch (fun hc => ?_) (fun hc => ?_)
  rotate_left
  · simp at hc
    simp
    have : l.drop i = [] := List.drop_of_length_le (by omega)
    exact fin1 (rs := [.tmp 2]) (by rfl) (by rw [cert, hfs, this]; simp [resA, flowsB]) (by simp [noF])
  have hc : i < l.length := by simpa using hc
  obtain ⟨p, hp⟩ := get_lt hc
  have hpE : ∀ h, l[i]'h = p := fun h => (List.getElem?_eq_some_iff.1 hp).2
  have hpb := hs p (List.mem_of_getElem? hp)
  have bad : segB s0.frm.length t p = false → flowB l = false := by
    intro h; rw [cert, hfs, dropA hp]; simp [flowsB, h]
  simp [k20, k22, hp, hpE, sgL, sgA, bx]
  refine gateF (fun e1 => ?_) (fun e1 => ?_)
  rotate_left
  · simp [e1, k3]
    exact fin1 (rs := [.tmp 2]) (by rfl) (by rw [bad (by simp at e1; simp [segB]; (try intros); first | omega | simp_all | (simp_all; omega))]; simp [resA]) (by simp [noF])
  simp [e1, k3]
  refine gateF (fun e2 => ?_) (fun e2 => ?_)
  rotate_left
  · simp [e2, e1, k3]
    exact fin1 (rs := [.tmp 2]) (by rfl) (by rw [bad (by simp at e2; simp [segB]; (try intros); first | omega | simp_all | (simp_all; omega))]; simp [resA]) (by simp [noF])
  simp [e1, e2, k3]
  refine call_ret (fValid p.t _) ?_
  simp [e1, e2, k3]
  refine gateF (fun e3 => ?_) (fun e3 => ?_)
  rotate_left
  · simp [e3, e1, e2, k3]
    exact fin1 (rs := [.tmp 2]) (by rfl) (by rw [bad (by simp at e3; simp [segB]; (try intros); first | omega | simp_all | (simp_all; omega))]; simp [resA]) (by simp [noF])
  simp [e1, e2, e3, k3]
  refine call_ret (fValid p.h _) ?_
  simp [e1, e2, e3, k3]
  refine gateF (fun e4 => ?_) (fun e4 => ?_)
  rotate_left
  · simp [e4, e1, e2, e3, k3]
    exact fin1 (rs := [.tmp 2]) (by rfl) (by rw [bad (by simp at e4; simp [segB]; (try intros); first | omega | simp_all | (simp_all; omega))]; simp [resA]) (by simp [noF])
  have v1 := numB_iff.1 (show numB p.t = true by simpa using e3)
  have v2 := numB_iff.1 (show numB p.h = true by simpa using e4)
  have w1 : IntKind.i64.wrap (p.t + p.h) = p.t + p.h := wrap64 (by omega) (by omega)
  simp [e1, e2, e3, e4, k3, w1]
  refine call_ret (fValid _ _) ?_
  simp [e1, e2, e3, e4, k3, w1]
  refine branch (fun e5 => ?_) (fun e5 => ?_)
  · simp
    exact fin1 (rs := [.tmp 2]) (by rfl) (by rw [bad (by simp at e5; simp [segB]; (try intros); first | omega | simp_all | (simp_all; omega))]; simp [resA]) (by simp [noF])
  simp [w1]
  refine loop_count (MVa l s0.frm.length (p.t + p.h) p H i) (fun j => 4 - j) 0 ⟨by simp [k0], by simp [k20], by simp [k21], by simp [k22], by simp, by simp [boxs, bx], by simp, by omega, by simp, _, rfl⟩ ?_
  rintro j fr H' ⟨k0, k20, k21, k22, k3, k69, k70, hj, hall, J, rfl⟩
  simp [k70]
  refine branch (fun hjc => ?_) (fun hjc => ?_)
  · simp at hjc
    obtain ⟨b, hb⟩ := get_lt (l := boxs p) (i := j) (by rw [boxs_len]; omega)
    have hbE : ∀ h, (boxs p)[j]'h = b := fun h => (List.getElem?_eq_some_iff.1 hb).2
    have hbl := hpb b (List.mem_of_getElem? hb)
    have badb : boxN s0.frm.length b = false → flowB l = false := fun h => bad (by simp [segB, allN hb h])
    have hj4 : ((j : Int) < 4) := by omega
    have hj5 : j < (boxs p).length := by rw [boxs_len]; omega
    have hV := fun Hx => bValid b hbl Hx
    simp only [bx] at hV
    simp [k69, k70, hb, hbE, k0, h0, h0E, hpos, hj4, hj5, sgL, sgA, bx]
    refine gateF (fun e6 => ?_) (fun e6 => ?_)
    rotate_left
    · simp [e6]
      exact fin1 (rs := [.tmp 2]) (by rfl) (by rw [badb (by simp at e6; simp [boxN]; intro h; omega)]; simp [resA]) (by simp [noF])
    simp [e6]
    refine call_ret (by simpa using hV _) ?_
    simp [e6]
    refine branch (fun e7 => ?_) (fun e7 => ?_)
    · simp
      exact fin1 (rs := [.tmp 2]) (by rfl) (by rw [badb (by simp at e7; simp [boxN, e7])]; simp [resA]) (by simp [noF])
    simp (disch := omega) [k70, wrap64]
    have hbn : boxN s0.frm.length b = true := by simp at e6 e7; simp [boxN, e7]; omega
    exact ⟨j + 1, by dsimp only; omega, by simp [k0], by simp [k20], by simp [k21], by simp [k22], by simp [k3], by simp [k69], by simp, by omega, allT hall hb hbn, J, rfl⟩
  · simp at hjc
    have hall' := allE hall (by rw [boxs_len]; omega)
    simp (disch := omega) [k22, wrap64]
    have good : segB s0.frm.length t p = true := by
      simp at e1 e2 e3 e4 e5
      simp only [segB, Bool.and_eq_true, decide_eq_true_eq, beq_iff_eq]
      exact ⟨⟨⟨⟨⟨by omega, e2⟩, e3⟩, e4⟩, e5⟩, hall'⟩
    exact ⟨i + 1, by dsimp only; omega, by simp [k0], by simp [k20], by simp [k21], by simp, by omega, ⟨p.t + p.h, by simp [k3], by rw [hfs, dropA hp]; simp [flowsB, good]⟩, _, rfl⟩
end Go.Proofs.YtfjjckepnkkgjaaGreatDoor.Arm

namespace Go.Arm
open Go.RowKit
section
variable {G : Gh} {w : World} {m : Nat} {σ : Nat → Option Nat}
theorem BlkOk.moveRow0 (hd : ∀ c k, σ c = some k → ownr G c = none) {c : Nat} (hc : c < m) (hs : σ c = none) {wr : Bool} {sz : Nat} {xs xs' : List AV} (h : BlkOk G w c (.row wr sz xs)) (hl : xs'.length = xs.length)
    (hx : ∀ (i : Nat) x x', xs[i]? = some x → xs'[i]? = some x' → RenX m σ x x') : BlkOk (mvG G m σ) w c (.row wr sz xs') := by
  have ho : ownr (mvG G m σ) c = ownr G c := by rw [mv_own, if_pos hc, hs]
  obtain ⟨L, h1, h2, h3, h4, h5, h6, h7, c', e, h8, h9, hv⟩ := h
  have hget : ∀ (i : Nat) x', xs'[i]? = some x' → ∃ x, xs[i]? = some x ∧ RenX m σ x x' := fun i x' hi => by
    have hlt := (List.getElem?_eq_some_iff.1 hi).1
    exact ⟨xs[i], by simp, hx i _ x' (by simp) hi⟩
  refine ⟨L, ho.trans h1, by rw [h2, hl], h3, fun x' hx' => ?_, by rw [hl]; exact h5, h6, by rw [hl]; exact h7, c', e, h8, h9, fun i x' j a' hi hj => ?_⟩
  · obtain ⟨i, hi⟩ := List.mem_iff_getElem?.1 hx'
    obtain ⟨x, hx1, hx2⟩ := hget i x' hi
    rw [← hx2.1]; exact h4 x (List.mem_of_getElem? hx1)
  · obtain ⟨x, hx1, hx2⟩ := hget i x' hi
    have hjl : j < x.cells.length := by rw [hx2.1]; exact (List.getElem?_eq_some_iff.1 hj).1
    obtain ⟨v, g1, g2⟩ := hv i x j x.cells[j] hx1 (by simp)
    exact ⟨v, g1, (hx2.2 j _ a' (by simp) hj).vr hd g2⟩
end
structure FillW (H HJ H' : AH) (r r' : AV) (σ : Nat → Option Nat) : Prop where
  dead : ∀ c k, σ c = some k → c < H.length ∧ H[c]? = some .dead ∧ HJ[c]? = some .dead ∧ H.length ≤ k
  inj : ∀ c c' k, σ c = some k → σ c' = some k → c = c'
  len : H'.length = H.length
  keep : ∀ c, c < H.length → σ c = none → (HJ[c]? = H[c]? ∧ H'[c]? = H[c]?) ∨ (∃ k, HJ[c]? = some k ∧ H'[c]? = some k ∧ noFB H.length k = true) ∨
    (∃ k st st' frs, H[c]? = some (.loop k st frs) ∧ HJ[c]? = some (.loop k st' frs) ∧ H'[c]? = some (.loop k st' frs)) ∨
    ∃ wr sz xs xs', HJ[c]? = some (.row wr sz xs) ∧ H'[c]? = some (.row wr sz xs') ∧ xs'.length = xs.length ∧ ∀ (i : Nat) x x', xs[i]? = some x → xs'[i]? = some x' → RenX H.length σ x x'
  fill : ∀ c k, σ c = some k → ∃ wr sz xs xs', HJ[k]? = some (.row wr sz xs) ∧ H'[c]? = some (.row wr sz xs') ∧ xs'.length = xs.length ∧ ∀ (i : Nat) x x', xs[i]? = some x → xs'[i]? = some x' → RenX H.length σ x x'
  res : RenV H.length σ r r'
theorem FillW.ok {Γ : Nat → Option (List AV)} {G G' : Gh} {w w' : World} {H HJ H' : AH} {r r' : AV} {σ : Nat → Option Nat} (h : FillW H HJ H' r r' σ) (hI : Inv Γ G w H) (e : Ext G w G' w') (i : Inv Γ G' w' HJ) {u : Value} (hu : VR G' w' r u) :
    ∃ G'', Ext G w G'' w' ∧ Inv Γ G'' w' H' ∧ VR G'' w' r' u := by
  obtain ⟨hd, hi, hl, hk, hf, hr⟩ := h
  have hd' : ∀ c k, σ c = some k → ownr G' c = none := fun c k hs => i.blk c _ (hd c k hs).2.2.1
  have e1 : Ext G w (mvG G' H.length σ) w' := by
    refine ⟨e.os, e.tape, e.output, e.size, e.keep, fun c L hc => ?_, fun c L' hc hlt => ?_⟩
    · obtain ⟨L', h1, h2⟩ := e.own c L hc
      have hc0 := own_lt hc
      rw [hI.len] at hc0
      cases hs : σ c with
      | some k => have := hI.blk c _ (hd c k hs).2.1; rw [show ownr G c = none from this] at hc; cases hc
      | none => exact ⟨L', by rw [mv_own, if_pos hc0, hs]; exact h1, h2⟩
    · rcases (mv_some hc).2 with ⟨k, hs, h1⟩ | ⟨_, h1⟩
      · obtain ⟨L, h2, _⟩ := e.back k L' h1 hlt
        have := own_lt h2
        rw [hI.len] at this
        have := (hd c k hs).2.2.2
        omega
      · exact e.back c L' h1 hlt
  refine ⟨_, e1, ⟨by simp [mvG, hl], fun c x hx => ?_, ?_, fun g cs hg => (hI.glob g cs hg).mono e1⟩, hr.vr hd' hu⟩
  · have hc : c < H.length := by rw [← hl]; exact (List.getElem?_eq_some_iff.1 hx).1
    cases hs : σ c with
    | none =>
      rcases hk c hc hs with ⟨h1, h2⟩ | ⟨k, h1, h2, hn⟩ | ⟨k, st, st', frs, h0, h1, h2⟩ | ⟨wr, sz, xs, xs', h1, h2, h3, h4⟩
      · rw [h2] at hx
        have hn := (hI.blk c x hx).noF
        rw [hI.len] at hn
        exact (i.blk c x (h1.trans hx)).move hd' hc hs hn
      · rw [h2] at hx; cases hx
        exact (i.blk c _ h1).move hd' hc hs hn
      · rw [h2] at hx; cases hx
        have hn := (hI.blk c _ h0).noF
        rw [hI.len] at hn
        exact (i.blk c _ h1).move hd' hc hs hn
      · rw [h2] at hx; cases hx
        exact (i.blk c _ h1).moveRow0 hd' hc hs h3 h4
    | some k =>
      obtain ⟨wr, sz, xs, xs', h1, h2, h3, h4⟩ := hf c k hs
      rw [h2] at hx; cases hx
      exact (i.blk k _ h1).moveRow hd' hc hs h3 h4
  · intro c c' L L' h1 h2 h3
    obtain ⟨g0, g1⟩ := mv_some h1
    obtain ⟨q0, q1⟩ := mv_some h2
    rcases g1 with ⟨k, s1, g1⟩ | ⟨s1, g1⟩ <;> rcases q1 with ⟨k', s2, q1⟩ | ⟨s2, q1⟩
    · have := i.inj k k' L L' g1 q1 h3; subst this; exact hi c c' k s1 s2
    · have := i.inj k c' L L' g1 q1 h3; have := (hd c k s1).2.2.2; omega
    · have := i.inj c k' L L' g1 q1 h3; have := (hd c' k' s2).2.2.2; omega
    · exact i.inj c c' L L' g1 q1 h3
theorem YSound.fillw {E : Env} {b : Nat} {args : List AV} {H HJ H' : AH} {v v' : AV} {σ : Nat → Option Nat} (h : YSound E b args H v HJ) (hs : FillW H HJ H' v v' σ) : YSound E b args H v' H' := by
  intro F n hF G w vs L hI hv hL hfx
  obtain ⟨fn, tmps, assign, body, h1, h2⟩ := h F n hF G w vs L hI hv hL hfx
  refine ⟨fn, tmps, assign, body, h1, h2.mono ?_⟩
  rintro r w1 ⟨u, rfl, G', e, i, hu⟩
  obtain ⟨G'', e2, i2, r2⟩ := hs.ok hI e i hu
  exact ⟨u, rfl, G'', e2, i2, r2⟩
theorem FillW.one {H0 H HJ H' : AH} {v : AV} {pl k oc sz n : Nat} {xs : List AV} (hp : H[pl]? = some .dead) (hpJ : HJ[pl]? = some .dead) (hkl : H.length ≤ k) (hk : HJ[k]? = some (.row true sz xs)) (hl : H'.length = H.length)
    (ho : HJ[oc]? = some (.row true 1 [.ref k n])) (ho' : H'[oc]? = some (.row true 1 [.ref pl n])) (hp' : H'[pl]? = some (.row true sz xs)) (hne : oc ≠ pl) (hn : noFs H.length xs = true) (hv : noF H.length v = true)
    (hc : ∀ c, c < H.length → c ≠ pl → c ≠ oc → (HJ[c]? = H[c]? ∧ H'[c]? = H[c]?) ∨ (∃ k, HJ[c]? = some k ∧ H'[c]? = some k ∧ noFB H.length k = true) ∨ (∃ k st st' frs, H[c]? = some (.loop k st frs) ∧ HJ[c]? = some (.loop k st' frs) ∧ H'[c]? = some (.loop k st' frs))) :
    FillW H HJ H' v v (fun c => if c = pl then some k else none) := by
  have hpl := (List.getElem?_eq_some_iff.1 hp).1
  have σp : ∀ c j, (fun c => if c = pl then some k else none) c = some j → c = pl ∧ j = k := fun c j h => by
    simp only at h
    split at h
    · rename_i e; cases h; exact ⟨e, rfl⟩
    · cases h
  have hrow : ∀ (i : Nat) x x', xs[i]? = some x → xs[i]? = some x' → RenX H.length (fun c => if c = pl then some k else none) x x' := fun i x x' h1 h2 => by
    rw [h1] at h2; cases h2
    refine ⟨rfl, fun j a a' ha ha' => ?_⟩
    rw [ha] at ha'; cases ha'
    exact .old (noFs_get (noF_cells.2 (noFs_get hn h1)) ha)
  refine ⟨fun c j h => ?_, fun c c' j h h' => ?_, hl, fun c hcl hs => ?_, fun c j h => ?_, .old hv⟩
  · obtain ⟨rfl, rfl⟩ := σp c j h
    exact ⟨hpl, hp, hpJ, hkl⟩
  · rw [(σp c j h).1, (σp c' j h').1]
  · have hcp : c ≠ pl := by intro e; subst e; simp at hs
    by_cases hco : c = oc
    · subst hco
      refine .inr (.inr (.inr ⟨true, 1, _, _, ho, ho', rfl, fun i x x' h1 h2 => ?_⟩))
      cases i with
      | zero =>
        simp at h1 h2; subst h1; subst h2
        refine ⟨rfl, fun j a a' ha ha' => ?_⟩
        cases j with
        | zero => simp [AV.cells] at ha ha'; subst ha; subst ha'; exact .ref (by simp) hpl
        | succ j => simp [AV.cells] at ha
      | succ i => simp at h1
    · rcases hc c hcl hcp hco with h | h | h
      · exact .inl h
      · exact .inr (.inl h)
      · exact .inr (.inr (.inl h))
  · obtain ⟨rfl, rfl⟩ := σp c j h
    exact ⟨true, sz, xs, xs, hk, hp', rfl, hrow⟩
end Go.Arm

namespace Go.Proofs.YtfjjckepnkkgjaaGreatDoor.Arm
open Go.Arm Go.Pl
theorem app_ivN {H : AH} {p : I} {f : Bool} : appendA tab H 26 .nilslice (.slice [iv p] f) = some (.ref H.length 1, H ++ [.row true 2 [iv p]]) := by
  have h2 : appendA tab H 26 .nilslice (.slice [iv p] f) = growA i54 H .nilslice [iv p] := by
    simp only [appendA, tab26, tab54, els]
    rfl
  rw [h2]
  rfl
def hullK (a b : List I) (i : Nat) : List I := (List.range i).map fun j => hull (atN a j) (atN b j)
theorem hullK_succ (a b : List I) (i : Nat) : hullK a b (i + 1) = hullK a b i ++ [hull (atN a i) (atN b i)] := by simp [hullK, List.range_succ]
theorem hullK_len (a b : List I) (i : Nat) : (hullK a b i).length = i := by simp [hullK]
def HuP (a b : List I) (i : Nat) : ABlk := if i = 0 then .dead else .row true 2 ((hullK a b i).map iv)
def HuC (B i : Nat) : AV := if i = 0 then .nilslice else .ref B i
theorem bHull (a b : List I) (hab : a.length ≤ b.length) (hl : a.length ≤ 1000000) (ha : 1 ≤ a.length) (H : AH) : Sound E 106 [bx a, bx b] H (.ret (bx (hullB a b))) H := by
  refine sound_of_awp_pad (1) tabOk mixed Tryz.func106 rfl (by rfl) Tryz.ntmps106 (by kernel_rfl) (by simp) ?_
  rw [show List.replicate 1 ABlk.dead = [.dead] from rfl]
  simp
  refine call_ret (by simpa using bPairs a b _) ?_
  simp
  refine range_it 6 (by rfl) (fun N hN => ?_)
  generalize hk : (LK.mk N _ _ _) = k at hN ⊢
  generalize hf : List.map _ (List.range 6) = frs
  have h5 : frs[5]? = some (.ptr (H.length + 1) 1 0 0) := by rw [← hf]; simp
  let MM : Nat → AH := fun i => H ++ [HuP a b i, .row true 1 [HuC H.length i], .row true 1 [bx a], .row true 1 [bx b], .loop k .ready frs]
  have hP : ∀ i, PairM a b (H.length + 2) (H.length + 3) (MM i) := fun i => ⟨⟨true, by simp [MM]⟩, ⟨true, by simp [MM]⟩⟩
  have nC : ∀ i, noF (H.length + 5) (HuC H.length i) = true := fun i => by unfold HuC; split <;> simp [noF]
  have nP : ∀ i, noFB (H.length + 5) (HuP a b i) = true := fun i => by unfold HuP; split <;> simp only [noFB, iv_noFs]
  have halt : ∀ i j, alters (MM i) (MM j) := fun i j => alters_of ⟨.inr (.inl (by simpa using nP j)), .inr (.inl (by simp [noFB, noFs, nC])), .same _, .same _, .same _, trivial⟩
  have hround : ∀ (i : Nat) (p q : I), i < a.length → atN a i = p → atN b i = q → ∀ (J : AH), YSound E (H.length + 4) [iv p, iv q] (MM i ++ J) (.bool true) (MM (i + 1) ++ J) := by
    intro i p q hi hp hq J
    have hs : hullK a b (i + 1) = hullK a b i ++ [hull p q] := by rw [hullK_succ, hp, hq]
    have hln := hullK_len a b i
    rcases Nat.eq_zero_or_pos i with h0 | h0
    · subst h0
      rw [show MM 0 = H ++ [.dead, .row true 1 [.nilslice], .row true 1 [bx a], .row true 1 [bx b], .loop k .ready frs] from rfl]
      have hs1 : hullK a b 1 = [hull p q] := by rw [hs]; simp [hullK]
      have eP : HuP a b 1 = .row true 2 [iv (hull p q)] := by unfold HuP; rw [hs1]; rfl
      refine YSound.fillw (HJ := H ++ [.dead, .row true 1 [.ref (H.length + 5 + J.length + 2) 1], .row true 1 [bx a], .row true 1 [bx b], .loop k .ready frs] ++ J ++ [.row true 2 [iv p], .row true 2 [iv q], .row true 2 [iv (hull p q)]]) (v := .bool true) ?_
        (FillW.one (H0 := H) (pl := H.length) (k := H.length + 5 + J.length + 2) (oc := H.length + 1) (sz := 2) (n := 1) (xs := [iv (hull p q)]) ?_ ?_ ?_ ?_ ?_ ?_ ?_ ?_ ?_ ?_ ?_ ?_)
      · refine yield_sound tabOk mixed (k := k) (frs := frs) (by simp) (by rw [← hk]; rfl) hN ?_
        have ka := congrArg LK.assign hk
        have kb := congrArg LK.body hk
        have kp := congrArg LK.ps hk
        dsimp only at ka kb kp
        rw [← ka, ← kb, ← kp]
        clear ka kb kp hk hf hN
        simp [roundFr]
        rw [assignK_normal]
        refine ⟨by simp, ?_⟩
        simp [h5]
        refine callD_ret0 (fun Hx => iHull p q Hx) ?_
        simp
        refine bind_some (app_ivN (p := hull p q)) ?_
        simp [h5]
        refine endD [(0, 6)] (by rfl) (by simp [okW, note, Eff.triv, Eff.wr, Eff.none, upTo, newAt]) ?_
        simp
        rw [roundK_normal]
        refine ⟨by simp, rfl, ?_⟩
        have e : H.length + 5 + J.length + 2 = H.length + (J.length + 2 + 5) := by omega
        rw [e]
        simp
        exact .keep _ _
      · simp
      · simp
      · simp; omega
      · rw [List.getElem?_append_right (by simp; omega)]
        rw [show H.length + 5 + J.length + 2 - (H ++ [ABlk.dead, .row true 1 [.ref (H.length + 5 + J.length + 2) 1], .row true 1 [bx a], .row true 1 [bx b], .loop k .ready frs] ++ J).length = 2 by simp; omega]
        rfl
      · simp [MM]
      · simp
      · simp [MM, HuC]
      · simp [MM, eP]
      · omega
      · simp [noFs, noF]
      · simp [noF]
      · intro c hc h1 h2
        left
        have eJ : (H ++ [ABlk.dead, .row true 1 [.ref (H.length + 5 + J.length + 2) 1], .row true 1 [bx a], .row true 1 [bx b], .loop k .ready frs] ++ J ++ [.row true 2 [iv p], .row true 2 [iv q], .row true 2 [iv (hull p q)]]) = ((H ++ [ABlk.dead, .row true 1 [.nilslice], .row true 1 [bx a], .row true 1 [bx b], .loop k .ready frs] ++ J).set (H.length + 1) (.row true 1 [.ref (H.length + 5 + J.length + 2) 1])) ++ [.row true 2 [iv p], .row true 2 [iv q], .row true 2 [iv (hull p q)]] := by simp
        have eH : MM (0 + 1) ++ J = ((H ++ [ABlk.dead, .row true 1 [.nilslice], .row true 1 [bx a], .row true 1 [bx b], .loop k .ready frs] ++ J).set H.length (HuP a b 1)).set (H.length + 1) (.row true 1 [.ref H.length 1]) := by simp [MM, HuC]
        rw [eJ, eH]
        generalize hM : H ++ [ABlk.dead, .row true 1 [.nilslice], .row true 1 [bx a], .row true 1 [bx b], .loop k .ready frs] ++ J = M0 at hc ⊢
        refine ⟨?_, ?_⟩
        · rw [List.getElem?_append_left (by simpa using hc), List.getElem?_set_ne (Ne.symm h2)]
        · rw [List.getElem?_set_ne (Ne.symm h2), List.getElem?_set_ne (Ne.symm h1)]
    · have eM : MM i = H ++ [.row true 2 ((hullK a b i).map iv), .row true 1 [.ref H.length i], .row true 1 [bx a], .row true 1 [bx b], .loop k .ready frs] := by
        simp only [MM, HuP, HuC, if_neg (show ¬ i = 0 by omega)]
      have eM2 : MM (i + 1) = H ++ [.row true 2 ((hullK a b i ++ [hull p q]).map iv), .row true 1 [.ref H.length (i + 1)], .row true 1 [bx a], .row true 1 [bx b], .loop k .ready frs] := by
        simp only [MM, HuP, HuC, if_neg (show ¬ i + 1 = 0 by omega), hs]
      have ha2 := halt i (i + 1)
      rw [eM, eM2] at *
      refine yield_sound tabOk mixed (k := k) (frs := frs) (by simp) (by rw [← hk]; rfl) hN ?_
      have ka := congrArg LK.assign hk
      have kb := congrArg LK.body hk
      have kp := congrArg LK.ps hk
      dsimp only at ka kb kp
      rw [← ka, ← kb, ← kp]
      clear ka kb kp hk hf hN
      generalize hullK a b i = W at *
      simp [roundFr]
      rw [assignK_normal]
      refine ⟨by simp, ?_⟩
      simp [h5]
      refine callD_ret0 (fun Hx => iHull p q Hx) ?_
      simp
      refine bind_some (app_iv (p := hull p q) (l := W.map iv) (by simp [hln]) (by omega) (by simp)) ?_
      simp [h5]
      refine endD [(0, 6)] (by rfl) (by simp [okW, note, Eff.triv, Eff.wr, Eff.none, upTo, newAt]) ?_
      simp
      rw [roundK_normal]
      refine ⟨by simp, rfl, ?_⟩
      have := Leaves.alters (J := J) (X := [.row true 2 [iv p], .row true 2 [iv q]]) ha2
      simpa using this
  have hrun : ∀ n i, a.length - i = n → i ≤ a.length → YRuns E (H.length + 4) (PairM a b (H.length + 2) (H.length + 3)) (pairsA a b i) (MM i) (MM a.length) := by
    intro n
    induction n with
    | zero => intro i hi hle; rw [pairsA_nil (by omega), show i = a.length by omega]; exact .nil _
    | succ n ih =>
      intro i hi hle
      rw [pairsA_cons (by omega)]
      exact .go (halt _ _) (hP _) (hround i _ _ (by omega) rfl rfl) (ih (i + 1) (by omega) (by omega))
  have hS := bPairs1 a b _ _ (H.length + 4) _ _ hab hl (hP 0) (hrun a.length 0 rfl (by omega))
  have e0 : MM 0 = H ++ [.dead, .row true 1 [.nilslice], .row true 1 [bx a], .row true 1 [bx b], .loop k .ready frs] := rfl
  have e1 : MM a.length = H ++ [.row true 2 ((hullK a b a.length).map iv), .row true 1 [.ref H.length a.length], .row true 1 [bx a], .row true 1 [bx b], .loop k .ready frs] := by
    simp only [MM, HuP, HuC, if_neg (show ¬ a.length = 0 by omega)]
  rw [e0, e1] at hS
  refine ⟨_, _, k, .ready, frs, by simpa using hS, by simp, ?_⟩
  simp [jumpA]
  exact finS (t := 4) (v := .ref (H.length + 0) a.length) (v0 := .nilslice) (sz := 2) (xs := (hullB a b).map iv) (by rfl) (by simp) (.inr ⟨0, by simp [hullB], by simp [hullB, hullK]⟩) rfl (iv_noFs _ _)
end Go.Proofs.YtfjjckepnkkgjaaGreatDoor.Arm

namespace Go.Pl
def hullL : List (List I) → Option (List I)
  | [] => none
  | b :: r => some (r.foldl hullB b)
theorem hullL_snoc {L : List (List I)} {b : List I} : hullL (L ++ [b]) = some (match hullL L with | none => b | some c => hullB c b) := by
  cases L with
  | nil => rfl
  | cons a r => simp [hullL, List.foldl_append]
structure HullOf (n : Nat) (L : List (List I)) (B : List I) : Prop where
  len : B.length = n
  sub : ∀ b ∈ L, ∀ i, i < n → (atN B i).1 ≤ (atN b i).1 ∧ (atN b i).2 ≤ (atN B i).2
  lo : ∀ i, i < n → ∃ b ∈ L, (atN b i).1 = (atN B i).1
  hi : ∀ i, i < n → ∃ b ∈ L, (atN b i).2 = (atN B i).2
theorem hullB_at {a b : List I} {i : Nat} (h : i < a.length) : atN (hullB a b) i = hull (atN a i) (atN b i) := by
  simp [hullB, atN, h]
theorem hullOf_foldl {n : Nat} : ∀ (r : List (List I)) (L : List (List I)) (b : List I), HullOf n L b → HullOf n (L ++ r) (r.foldl hullB b)
  | [], L, b, h => by simpa using h
  | c :: r, L, b, h => by
    have : HullOf n (L ++ [c]) (hullB b c) := by
      have e : ∀ i, i < n → atN (hullB b c) i = hull (atN b i) (atN c i) := fun i hi => hullB_at (by rw [h.len]; exact hi)
      refine ⟨by rw [hullB_len, h.len], fun d hd i hi => ?_, fun i hi => ?_, fun i hi => ?_⟩
      · rw [e i hi]
        rcases List.mem_append.1 hd with hd | hd
        · have := h.sub d hd i hi
          exact ⟨by show min _ _ ≤ _; omega, by show _ ≤ max _ _; omega⟩
        · simp at hd; subst hd
          exact ⟨by show min _ _ ≤ _; omega, by show _ ≤ max _ _; omega⟩
      · rw [e i hi]
        obtain ⟨d, hd, h1⟩ := h.lo i hi
        show ∃ b' ∈ _, _ = min _ _
        rcases Int.le_total (atN b i).1 (atN c i).1 with k | k
        · exact ⟨d, by simp [hd], by omega⟩
        · exact ⟨c, by simp, by omega⟩
      · rw [e i hi]
        obtain ⟨d, hd, h1⟩ := h.hi i hi
        show ∃ b' ∈ _, _ = max _ _
        rcases Int.le_total (atN b i).2 (atN c i).2 with k | k
        · exact ⟨c, by simp, by omega⟩
        · exact ⟨d, by simp [hd], by omega⟩
    have := hullOf_foldl r (L ++ [c]) (hullB b c) this
    simpa using this
theorem hullL_of {n : Nat} {L : List (List I)} {B : List I} (hn : ∀ b ∈ L, b.length = n) (h : hullL L = some B) : HullOf n L B := by
  cases L with
  | nil => cases h
  | cons b r =>
    simp only [hullL, Option.some.injEq] at h
    subst h
    have h0 : HullOf n [b] b := ⟨hn b (by simp), fun c hc i _ => by simp at hc; subst hc; exact ⟨Int.le_refl _, Int.le_refl _⟩, fun i _ => ⟨b, by simp, rfl⟩, fun i _ => ⟨b, by simp, rfl⟩⟩
    exact hullOf_foldl r [b] b h0
theorem HullOf.subI {n : Nat} {L M : List (List I)} {B C : List I} (h : HullOf n L B) (k : HullOf n M C) (hs : ∀ b ∈ L, b ∈ M) : subI B C = true := by
  unfold Pl.subI
  rw [List.all_eq_true]
  intro i hi
  have hi' : i < n := by rw [← h.len]; exact List.mem_range.1 hi
  obtain ⟨b, hb, e⟩ := h.lo i hi'
  obtain ⟨c, hc, f⟩ := h.hi i hi'
  have := k.sub b (hs b hb) i hi'
  have := k.sub c (hs c hc) i hi'
  simp only [subB, Bool.and_eq_true, decide_eq_true_eq]
  omega
def durP (u : I) (s : Sg) : Bool := decide (u.1 ≤ s.t + s.h) && decide (s.t ≤ u.2)
def durL (l : List Sg) (u : I) : List Sg := l.filter (durP u)
def durS (l : List Sg) (u : I) : Option (List I) := hullL ((durL l u).map (·.tube))
theorem filter_mono {α : Type} {p : α → Bool} : ∀ {l : List α}, (l.Pairwise fun a b => p a = true → p b = true) → l.filter p = l.drop (l.findIdx p)
  | [], _ => rfl
  | a :: l, h => by
    rw [List.findIdx_cons]
    cases hp : p a with
    | true =>
      have : ∀ b ∈ l, p b = true := fun b hb => (List.pairwise_cons.1 h).1 b hb hp
      simp [hp, List.filter_eq_self.2 this]
    | false => simp [hp, filter_mono (List.pairwise_cons.1 h).2]
theorem filter_anti {α : Type} {p : α → Bool} : ∀ {l : List α}, (l.Pairwise fun a b => p b = true → p a = true) → l.filter p = l.takeWhile p
  | [], _ => rfl
  | a :: l, h => by
    cases hp : p a with
    | true => simp [hp, filter_anti (List.pairwise_cons.1 h).2]
    | false =>
      have : ∀ b ∈ l, ¬ p b = true := fun b hb hb2 => by have := (List.pairwise_cons.1 h).1 b hb hb2; rw [hp] at this; cases this
      simp [hp]
      intro b hb; simpa using this b hb
theorem durL_eq {l : List Sg} {t : Int} (h : Ctg t l) (u : I) : durL l u = (l.drop (l.findIdx fun s => decide (u.1 ≤ s.t + s.h))).takeWhile fun s => decide (s.t ≤ u.2) := by
  have e1 := filter_mono (p := fun s : Sg => decide (u.1 ≤ s.t + s.h)) (l := l) (h.pair.imp fun {a b} hab hp => by simp at hp ⊢; omega)
  have e2 := filter_anti (p := fun s : Sg => decide (s.t ≤ u.2)) (l := l.filter fun s => decide (u.1 ≤ s.t + s.h)) ((h.pair.sublist List.filter_sublist).imp fun {a b} hab hp => by simp at hp ⊢; omega)
  rw [e1] at e2
  rw [← e2, ← e1, List.filter_filter]
  unfold durL
  congr 1
  funext s
  rw [Bool.and_comm]; rfl
def atS (l : List Sg) (τ : Int) : Option (List I) :=
  match l[0]?, l[l.length - 1]? with
  | some a, some z => if τ < a.t ∨ z.t + z.h < τ then none else match l[l.findIdx (fun s => decide (τ < s.t)) - 1]? with
    | some s => some (if s.t = τ then s.frm else if τ = z.t + z.h then z.to else s.tube)
    | none => none
  | _, _ => none
theorem atS_cases {l : List Sg} {t τ : Int} {b : List I} (h : Ctg t l) (ha : atS l τ = some b) : ∃ s ∈ l, s.t ≤ τ ∧ τ ≤ s.t + s.h ∧ ((s.t = τ ∧ b = s.frm) ∨ (τ = s.t + s.h ∧ b = s.to) ∨ b = s.tube) := by
  unfold atS at ha
  cases h0 : l[0]? with
  | none => rw [h0] at ha; cases ha
  | some a =>
    cases hz : l[l.length - 1]? with
    | none => rw [h0, hz] at ha; cases ha
    | some z =>
      rw [h0, hz] at ha
      simp only at ha
      split at ha
      · cases ha
      · rename_i hb
        have hzm := List.mem_of_getElem? hz
        generalize hr : l.findIdx (fun s => decide (τ < s.t)) = r at ha
        cases hs : l[r - 1]? with
        | none => rw [hs] at ha; cases ha
        | some s =>
          rw [hs] at ha
          cases ha
          have hsm := List.mem_of_getElem? hs
          have hr1 : 1 ≤ r := by
            have := h.idxT τ 0 a h0
            rw [hr] at this
            rcases Nat.eq_zero_or_pos r with e | e
            · subst e; simp at this; omega
            · exact e
          have hle : s.t ≤ τ := by
            have := h.idxT τ (r - 1) s hs
            rw [hr] at this
            have e : ¬ r ≤ r - 1 := by omega
            simp [e] at this; omega
          have hge : τ ≤ s.t + s.h := by
            rcases Nat.lt_or_ge r l.length with k | k
            · have hn : l[r]? = some l[r] := by simp [k]
              have := h.idxT τ r l[r] hn
              rw [hr] at this
              simp at this
              have nx : l[r].t = s.t + s.h := by
                have : ∀ {l : List Sg} {t : Int}, Ctg t l → ∀ (i : Nat) s s', l[i]? = some s → l[i + 1]? = some s' → s'.t = s.t + s.h := by
                  intro l
                  induction l with
                  | nil => intro t _ i s s' h; simp at h
                  | cons a l ih =>
                    intro t hc i s s' h1 h2
                    cases i with
                    | zero =>
                      simp at h1; subst h1
                      cases l with
                      | nil => simp at h2
                      | cons b l => simp at h2; subst h2; exact hc.2.2.1
                    | succ i => exact ih hc.2.2 i s s' (by simpa using h1) (by simpa using h2)
                exact this h (r - 1) s l[r] hs (by rw [show r - 1 + 1 = r by omega]; exact hn)
              omega
            · have hlt := (List.getElem?_eq_some_iff.1 hs).1
              have e : r - 1 = l.length - 1 := by omega
              rw [e, hz] at hs
              cases hs
              omega
          split
          · rename_i he
            exact ⟨s, hsm, hle, hge, .inl ⟨he, rfl⟩⟩
          · split
            · rename_i he
              have := h.ge z hzm
              exact ⟨z, hzm, by omega, by omega, .inr (.inl ⟨he, rfl⟩)⟩
            · exact ⟨s, hsm, hle, hge, .inr (.inr rfl)⟩
theorem atS_some {l : List Sg} {t τ : Int} (h : Ctg t l) (h1 : t ≤ τ) (h2 : τ ≤ endT t l) (hl : 1 ≤ l.length) : ∃ b, atS l τ = some b := by
  unfold atS
  obtain ⟨a, h0⟩ : ∃ a, l[0]? = some a := ⟨l[0], by simp⟩
  obtain ⟨z, hz⟩ : ∃ z, l[l.length - 1]? = some z := ⟨l[l.length - 1], by rw [List.getElem?_eq_getElem]⟩
  rw [h0, hz]
  have e1 := (endT_get (t := t) hz).1
  have e0 : a.t = t := by cases l with
    | nil => simp at h0
    | cons b l => simp at h0; subst h0; exact h.1
  simp only
  rw [if_neg (by omega)]
  have hle : l.findIdx (fun s => decide (τ < s.t)) ≤ l.length := List.findIdx_le_length
  obtain ⟨s, hs⟩ : ∃ s, l[l.findIdx (fun s => decide (τ < s.t)) - 1]? = some s := ⟨l[l.findIdx (fun s => decide (τ < s.t)) - 1]'(by omega), by rw [List.getElem?_eq_getElem]⟩
  rw [hs]
  exact ⟨_, rfl⟩
end Go.Pl

namespace Go.Proofs.YtfjjckepnkkgjaaGreatDoor.Arm
open Go.Arm Go.Pl
theorem sSearch (n r : Nat) (g : FuncId) (caps : List AV) (H : AH) (hn : n ≤ 1000000) (hr : r ≤ n) (hf : ∀ k : Nat, k < n → Sound E g ([.int .i64 (k : Int)] ++ caps) H (.ret (.bool (decide (r ≤ k)))) H) :
    Sound E 62 [.int .i64 (n : Int), .func (.func g) [] caps] H (.ret (.int .i64 (r : Int))) H := by
  refine sound_of_awp tabOk mixed Tryz.func62 rfl (by rfl) Tryz.ntmps62 (by kernel_rfl) (by simp) ?_
  simp
  refine loop_count (fun (s : Nat × Nat) fr H' => fr 1 = .func (.func g) [] caps ∧ fr 5 = .int .i64 (s.1 : Int) ∧ fr 6 = .int .i64 (s.2 : Int) ∧ s.1 ≤ r ∧ r ≤ s.2 ∧ s.2 ≤ n ∧ H' = H) (fun s => s.2 - s.1) (0, n) ⟨by simp, by simp, by simp, by omega, hr, Nat.le_refl _, rfl⟩ ?_
  rintro ⟨i, j⟩ fr H' ⟨g1, g5, g6, hi, hj, hjn, rfl⟩
  simp only at g5 g6 hi hj hjn
  simp [g5, g6]
  refine branch (fun hc => ?_) (fun hc => ?_)
  · have hlt : i < j := by simpa using hc
    obtain ⟨m, hm⟩ : ∃ m : Nat, m = (i + j) / 2 := ⟨_, rfl⟩
    have w1 : IntKind.i64.wrap ((i : Int) + (j : Int)) = ((i + j : Nat) : Int) := by rw [wrap64 (by omega) (by omega)]; omega
    have w2 : IntKind.u64.wrap ((i + j : Nat) : Int) = ((i + j : Nat) : Int) := wrapu64 (by omega) (by omega)
    have w3 : ((i + j : Nat) : Int).fdiv 2 = (m : Int) := by rw [Int.fdiv_eq_ediv_of_nonneg _ (by omega)]; omega
    have w4 : IntKind.u64.wrap (m : Int) = (m : Int) := wrapu64 (by omega) (by omega)
    have w5 : IntKind.i64.wrap (m : Int) = (m : Int) := wrap64 (by omega) (by omega)
    have w6 : IntKind.i64.wrap ((m : Int) + 1) = ((m + 1 : Nat) : Int) := by rw [wrap64 (by omega) (by omega)]; omega
    have hS := hf m (by omega)
    have wA : IntKind.i64.wrap ((IntKind.u64.wrap ((i : Int) + (j : Int))).fdiv (2 ^ min 1 IntKind.u64.bits)) = (m : Int) := by
      have e1 : IntKind.u64.wrap ((i : Int) + (j : Int)) = ((i + j : Nat) : Int) := by rw [wrapu64 (by omega) (by omega)]; omega
      have e2 : (2 : Int) ^ min 1 IntKind.u64.bits = 2 := by decide
      rw [e1, e2, w3, w5]
    simp [g5, g6, w1, wA, g1]
    refine call_ret (by simpa using hS) ?_
    simp
    refine branch (fun hq => ?_) (fun hq => ?_)
    · have hq' : m < r := by simp at hq; omega
      simp [w6]
      exact ⟨(m + 1, j), by show j - (m + 1) < j - i; omega, by simp [g1], by simp, by simp [g6], by show m + 1 ≤ r; omega, hj, hjn, rfl⟩
    · have hq' : r ≤ m := by simp at hq; omega
      simp
      exact ⟨(i, m), by show m - i < j - i; omega, by simp [g1], by simp [g5], by simp, hi, hq', by show m ≤ n; omega, rfl⟩
  · have hlt : ¬ i < j := by simpa using hc
    have : i = r := by omega
    subst this
    simp [g5]
    exact fin0 (rs := [.tmp 4]) (by rfl) (by simp [resA, g5])
theorem wEnd (l : List Sg) (z : Sg) (hz : l[l.length - 1]? = some z) (hl : l.length ≤ 1000000) (hb : -2147483648 ≤ z.t ∧ z.t ≤ 2147483648 ∧ 0 ≤ z.h ∧ z.h ≤ 2147483648) (H : AH) :
    Sound E 17 [sgL l] H (.ret (.tuple [bx z.to, .int .i64 (z.t + z.h), .bool true])) H := by
  refine sound_of_awp tabOk mixed Tryz.func17 rfl (by rfl) Tryz.ntmps17 (by kernel_rfl) (by simp) ?_
  have hlt := (List.getElem?_eq_some_iff.1 hz).1
  have hzE : ∀ h, l[l.length - 1]'h = z := fun h => (List.getElem?_eq_some_iff.1 hz).2
  have w1 : IntKind.i64.wrap ((l.length : Int) - 1) = ((l.length - 1 : Nat) : Int) := by rw [wrap64 (by omega) (by omega)]; omega
  have w2 : IntKind.i64.wrap (z.t + z.h) = z.t + z.h := wrap64 (by omega) (by omega)
  have hne : ((l.length : Int) == 0) = false := by rw [beq_eq_false_iff_ne]; omega
  simp [sgL, hne, w1, hz, hzE, hlt, sgA, bx, w2]
  refine endD [] (by rfl) (by simp [okW, note, Eff.triv, Eff.wr, Eff.none, upTo, newAt]) ?_
  simp
  exact ⟨[bx z.to, .int .i64 (z.t + z.h), .bool true], [bx z.to, .int .i64 (z.t + z.h), .bool true], by simp [show (Tryz.f17).results.toList = [.tmp 2, .tmp 3, .tmp 4] from rfl, resA, bx], .drop (by simp only [noFs, noF, bx, iv_noFs, Bool.and_self]), rfl⟩
theorem wAt1 (l : List Sg) (τ : Int) (k : Nat) (s : Sg) (hk : l[k]? = some s) (b c : Nat) (w1 w2 : Bool) (H : AH) (hb : H[b]? = some (.row w1 1 [sgL l])) (hc : H[c]? = some (.row w2 1 [.int .i64 τ])) :
    Sound E 63 [.int .i64 k, .ptr b 1 0 0, .ptr c 1 0 0] H (.ret (.bool (decide (τ < s.t)))) H := by
  refine sound_of_awp tabOk mixed Tryz.func63 rfl (by rfl) Tryz.ntmps63 (by kernel_rfl) (by simp) ?_
  have hlt := (List.getElem?_eq_some_iff.1 hk).1
  have hkE : ∀ h, l[k]'h = s := fun h => (List.getElem?_eq_some_iff.1 hk).2
  simp only [sgL] at hb
  simp [hb, hc, hk, hkE, hlt, sgA]
  refine endD [] (by rfl) (by simp [okW, note, Eff.triv, Eff.wr, Eff.none, upTo, newAt]) ?_
  simp
  exact fin0 (rs := [.tmp 4]) (by rfl) (by simp [resA])
theorem wDuring1 (l : List Sg) (u : I) (k : Nat) (s : Sg) (hk : l[k]? = some s) (hs : -2147483648 ≤ s.t ∧ s.t ≤ 2147483648 ∧ 0 ≤ s.h ∧ s.h ≤ 2147483648) (b c : Nat) (w1 w2 : Bool) (H : AH) (hb : H[b]? = some (.row w1 1 [sgL l])) (hc : H[c]? = some (.row w2 2 [iv u])) :
    Sound E 64 [.int .i64 k, .ptr b 1 0 0, .ptr c 1 0 0] H (.ret (.bool (decide (u.1 ≤ s.t + s.h)))) H := by
  refine sound_of_awp tabOk mixed Tryz.func64 rfl (by rfl) Tryz.ntmps64 (by kernel_rfl) (by simp) ?_
  have hlt := (List.getElem?_eq_some_iff.1 hk).1
  have hkE : ∀ h, l[k]'h = s := fun h => (List.getElem?_eq_some_iff.1 hk).2
  have w2 : IntKind.i64.wrap (s.t + s.h) = s.t + s.h := wrap64 (by omega) (by omega)
  simp only [sgL] at hb
  simp only [iv] at hc
  simp [hb, hc, hk, hkE, hlt, sgA, w2]
  refine endD [] (by rfl) (by simp [okW, note, Eff.triv, Eff.wr, Eff.none, upTo, newAt]) ?_
  simp
  exact fin0 (rs := [.tmp 4]) (by rfl) (by simp [resA])
def tmS (s : Sg) : Prop := -2147483648 ≤ s.t ∧ s.t ≤ 2147483648 ∧ 0 ≤ s.h ∧ s.h ≤ 2147483648
def atR : Option (List I) → AV
  | none => .tuple [.nilslice, .bool false]
  | some b => .tuple [bx b, .bool true]
theorem wAt (l : List Sg) (t0 τ : Int) (hc : Ctg t0 l) (hl : 1 ≤ l.length ∧ l.length ≤ 1000000) (hb : ∀ s ∈ l, tmS s) (H : AH) : Sound E 23 [sgL l, .int .i64 τ] H (.ret (atR (atS l τ))) H := by
  refine sound_of_awp tabOk mixed Tryz.func23 rfl (by rfl) Tryz.ntmps23 (by kernel_rfl) (by simp) ?_
  obtain ⟨a, h0⟩ : ∃ a, l[0]? = some a := ⟨l[0], by simp⟩
  obtain ⟨z, hz⟩ : ∃ z, l[l.length - 1]? = some z := ⟨l[l.length - 1], by rw [List.getElem?_eq_getElem]⟩
  have hzb := hb z (List.mem_of_getElem? hz)
  have hE := fun Hx => wEnd l z hz hl.2 hzb Hx
  have h0E : ∀ h, l[0]'h = a := fun h => (List.getElem?_eq_some_iff.1 h0).2
  have hpos : 0 < l.length := by omega
  generalize hr : l.findIdx (fun s => decide (τ < s.t)) = r
  have hS := fun (Hx : AH) (b c : Nat) (hb2 : Hx[b]? = some (.row true 1 [sgL l])) (hc2 : Hx[c]? = some (.row true 1 [.int .i64 τ])) =>
    sSearch l.length r 63 [.ptr b 1 0 0, .ptr c 1 0 0] Hx hl.2 (by rw [← hr]; exact List.findIdx_le_length) (fun k hk => by
      have hk2 : l[k]? = some l[k] := by simp [hk]
      have := hc.idxT τ k l[k] hk2
      rw [hr] at this
      rw [← this]
      exact wAt1 l τ k l[k] hk2 b c true true Hx hb2 hc2)
  simp only [sgL] at hS hE
  simp [sgL]
  refine call_ret (by simpa using hE _) ?_
  have hat : ∀ s, l[r - 1]? = some s → atS l τ = if τ < a.t ∨ z.t + z.h < τ then none else some (if s.t = τ then s.frm else if τ = z.t + z.h then z.to else s.tube) := fun s hs => by
    unfold atS
    simp only [h0, hz, hr, hs]
  have hres : (Tryz.f23).results.toList = [.tmp 4, .tmp 5] := rfl
  by_cases e1 : τ < a.t
  · have hv : atS l τ = none := by unfold atS; simp only [h0, hz]; rw [if_pos (.inl e1)]
    simp [h0, h0E, hpos, sgA, bx, e1]
    refine endD [] (by rfl) (by simp [okW, note, Eff.triv, Eff.wr, Eff.none, upTo, newAt]) ?_
    simp
    rw [hv]
    exact ⟨[.nilslice, .bool false], [.nilslice, .bool false], by simp [hres, resA], .drop (by simp [noFs, noF]), rfl⟩
  by_cases e2 : z.t + z.h < τ
  · have hv : atS l τ = none := by unfold atS; simp only [h0, hz]; rw [if_pos (.inr e2)]
    simp [h0, h0E, hpos, sgA, bx, e1, e2]
    refine endD [] (by rfl) (by simp [okW, note, Eff.triv, Eff.wr, Eff.none, upTo, newAt]) ?_
    simp
    rw [hv]
    exact ⟨[.nilslice, .bool false], [.nilslice, .bool false], by simp [hres, resA], .drop (by simp [noFs, noF]), rfl⟩
  have hrl : r ≤ l.length := by rw [← hr]; exact List.findIdx_le_length
  have hr1 : 1 ≤ r := by
    have := hc.idxT τ 0 a h0
    rw [hr] at this
    rcases Nat.eq_zero_or_pos r with e | e
    · subst e; simp at this; omega
    · exact e
  obtain ⟨s, hs⟩ : ∃ s, l[r - 1]? = some s := ⟨l[r - 1]'(by omega), by rw [List.getElem?_eq_getElem]⟩
  have hsE : ∀ h, l[r - 1]'h = s := fun h => (List.getElem?_eq_some_iff.1 hs).2
  have hv : atS l τ = some (if s.t = τ then s.frm else if τ = z.t + z.h then z.to else s.tube) := by rw [hat s hs, if_neg (by omega)]
  have w1 : IntKind.i64.wrap ((r : Int) - 1) = ((r - 1 : Nat) : Int) := by rw [wrap64 (by omega) (by omega)]; omega
  have hlt : r - 1 < l.length := by omega
  rw [hv]
  simp [h0, h0E, hpos, sgA, bx, e1, e2]
  refine endD [] (by rfl) (by simp [okW, note, Eff.triv, Eff.wr, Eff.none, upTo, newAt]) ?_
  simp
  refine call_ret (by simpa using hS _ H.length (H.length + 1) (by simp) (by simp)) ?_
  by_cases e3 : s.t = τ
  · simp [w1, hs, hsE, hlt, sgA, bx, e3]
    refine endD [] (by rfl) (by simp [okW, note, Eff.triv, Eff.wr, Eff.none, upTo, newAt]) ?_
    simp [w1, hs, hsE, hlt, sgA, bx]
    exact ⟨[bx s.frm, .bool true], [bx s.frm, .bool true], by simp [hres, resA, bx], .drop (by simp only [noFs, noF, bx, iv_noFs, Bool.and_self]), rfl⟩
  · have e3' : (s.t == τ) = false := by simpa using e3
    by_cases e4 : τ = z.t + z.h
    · have e4' : (τ == z.t + z.h) = true := by simpa using e4
      simp [w1, hs, hsE, hlt, sgA, bx, e3']
      refine endD [] (by rfl) (by simp [okW, note, Eff.triv, Eff.wr, Eff.none, upTo, newAt]) ?_
      simp [e4']
      rw [if_neg e3, if_pos e4]
      exact ⟨[bx z.to, .bool true], [bx z.to, .bool true], by simp [hres, resA, bx], .drop (by simp only [noFs, noF, bx, iv_noFs, Bool.and_self]), rfl⟩
    · have e4' : (τ == z.t + z.h) = false := by simpa using e4
      simp [w1, hs, hsE, hlt, sgA, bx, e3']
      refine endD [] (by rfl) (by simp [okW, note, Eff.triv, Eff.wr, Eff.none, upTo, newAt]) ?_
      simp [w1, hs, hsE, hlt, sgA, bx, e4']
      rw [if_neg e3, if_neg e4]
      exact ⟨[bx s.tube, .bool true], [bx s.tube, .bool true], by simp [hres, resA, bx], .drop (by simp only [noFs, noF, bx, iv_noFs, Bool.and_self]), rfl⟩
end Go.Proofs.YtfjjckepnkkgjaaGreatDoor.Arm

namespace Go.Proofs.YtfjjckepnkkgjaaGreatDoor.Arm
open Go.Arm Go.Pl
@[simp] theorem bin_ns {H : AH} (z : Bool) : binOpA tab H .eql 26 .nilslice .nilslice z = some (.bool true, H) := by simp [binOpA, binA, eqA, nilI]
@[simp] theorem bin_nc {H : AH} {x : AV} {l : List AV} {f : Bool} (z : Bool) : binOpA tab H .eql 26 (.slice (x :: l) f) .nilslice z = some (.bool false, H) := by simp [binOpA, binA, eqA, nilI]
@[simp] theorem bin_ns' {H : AH} (z : Bool) : binOpA tab H .neq 26 .nilslice .nilslice z = some (.bool false, H) := by simp [binOpA, binA, eqA, nilI]
@[simp] theorem bin_nc' {H : AH} {x : AV} {l : List AV} {f : Bool} (z : Bool) : binOpA tab H .neq 26 (.slice (x :: l) f) .nilslice z = some (.bool true, H) := by simp [binOpA, binA, eqA, nilI]
theorem finU0 {E : Env} {fr : AFr} {fn : Func} {rs : List ResultVar} {H0 H1 : AH} {v : AV} {e : AExit} (hr : fn.results.toList = rs) (h : resA E fr H1 rs = some [v]) (hl : H1.length = H0.length)
    (hb : ∀ b : Nat, H1[b]? = H0[b]? ∨ ∃ k, H1[b]? = some k ∧ noFB H0.length k = true) (hv : noF H0.length v = true) (hx : e = .ret ∨ e = .normal := by simp) : bodyK E fn H0 (.ret v) H1 e fr H1 := by
  have := finU (J := []) hr (by rw [List.append_nil]; exact h) hl hb hv hx
  rwa [List.append_nil] at this
def hullC : Option (List I) → AV
  | none => .nilslice
  | some b => bx b
def hullO : Option (List I) → List I → List I
  | none, b => b
  | some d, b => hullB d b
theorem wHull (H : AH) : Sound E 65 [] H (.ret (.func (.func 105) [] [.ptr H.length 1 0 0])) (H ++ [.row true 1 [.nilslice]]) := by
  refine sound_of_awp tabOk mixed Tryz.func65 rfl (by rfl) Tryz.ntmps65 (by kernel_rfl) (by simp) ?_
  simp
  exact finK (rs := [.tmp 0]) (vs := [.func (.func 105) [] [.ptr H.length 1 0 0]]) (by rfl) (by simp [resA]) rfl
theorem wHull1 (o : Option (List I)) (b : List I) (c : Nat) (H : AH) (hc : H[c]? = some (.row true 1 [hullC o])) (hd : ∀ d, o = some d → 1 ≤ d.length ∧ d.length ≤ b.length) (hl : b.length ≤ 1000000) :
    Sound E 105 [bx b, .ptr c 1 0 0] H (.ret (bx (hullO o b))) (H.set c (.row true 1 [hullC (some (hullO o b))])) := by
  refine sound_of_awp tabOk mixed Tryz.func105 rfl (by rfl) Tryz.ntmps105 (by kernel_rfl) (by simp) ?_
  have hcl := (List.getElem?_eq_some_iff.1 hc).1
  cases o with
  | none =>
    simp only [hullC] at hc
    have hg := fun x => set_get (x := x) hc
    simp [hc, hg, hullO, hullC, bx]
    exact finU0 (rs := [.tmp 3]) (by rfl) (by simp [resA]) (by simp) (set_blocks (by simp only [noFB, noFs, noF, iv_noFs, Bool.and_self])) (by simp only [noF, iv_noFs])
  | some d =>
    obtain ⟨h1, h2⟩ := hd d rfl
    obtain ⟨p, d', rfl⟩ : ∃ p d', d = p :: d' := by cases d with
      | nil => simp at h1
      | cons p d' => exact ⟨p, d', rfl⟩
    have hS := fun Hx => bHull (p :: d') b h2 (by omega) h1 Hx
    generalize hr : hullB (p :: d') b = r at *
    simp only [hullC, bx, List.map_cons] at hc hS
    have hg := fun x => set_get (x := x) hc
    simp [hc, hullO, hullC, hr, bx]
    refine call_ret (by simpa using hS _) ?_
    simp [hc, hg]
    exact finU0 (rs := [.tmp 3]) (by rfl) (by simp [resA]) (by simp) (set_blocks (by simp only [noFB, noFs, noF, iv_noFs, Bool.and_self])) (by simp only [noF, iv_noFs])
theorem hullL_len {n : Nat} {L : List (List I)} {B : List I} (hn : ∀ b ∈ L, b.length = n) (h : hullL L = some B) : B.length = n := (hullL_of hn h).len
def accL (L : List Sg) (i : Nat) : Option (List I) := hullL ((L.take i).map (·.tube))
theorem accL_eq (L : List Sg) (i : Nat) : hullL ((L.take i).map (·.tube)) = accL L i := rfl
def LDu (l : List Sg) (u : I) (L : List Sg) (H : AH) (i : Nat) (fr : AFr) (H' : AH) : Prop :=
  fr 3 = .ptr (H.length + 1) 1 0 0 ∧ fr 7 = hullC (accL L i) ∧ fr 8 = .func (.func 105) [] [.ptr (H.length + 2) 1 0 0] ∧ fr 18 = sgL L ∧ fr 19 = .int .i64 L.length ∧ fr 20 = .int .i64 i ∧ i ≤ L.length ∧
  L.takeWhile (fun s => decide (s.t ≤ u.2)) = L.take i ++ (L.drop i).takeWhile (fun s => decide (s.t ≤ u.2)) ∧
  ∃ J, H' = H ++ (.row true 1 [sgL l] :: .row true 2 [iv u] :: .row true 1 [hullC (accL L i)] :: J)
theorem wDuring (l : List Sg) (t0 : Int) (u : I) (n : Nat) (hn1 : 1 ≤ n ∧ n ≤ 1000000) (hc : Ctg t0 l) (hl : l.length ≤ 1000000) (hb : ∀ s ∈ l, tmS s) (hn : ∀ s ∈ l, s.tube.length = n) (H : AH) :
    Sound E 24 [sgL l, iv u] H (.ret (atR (durS l u))) H := by
  refine sound_of_awp tabOk mixed Tryz.func24 rfl (by rfl) Tryz.ntmps24 (by kernel_rfl) (by simp) ?_
  generalize hr : l.findIdx (fun s => decide (u.1 ≤ s.t + s.h)) = r
  have hrl : r ≤ l.length := by rw [← hr]; exact List.findIdx_le_length
  have hS := fun (Hx : AH) (b c : Nat) (hb2 : Hx[b]? = some (.row true 1 [sgL l])) (hc2 : Hx[c]? = some (.row true 2 [iv u])) =>
    sSearch l.length r 64 [.ptr b 1 0 0, .ptr c 1 0 0] Hx hl hrl (fun k hk => by
      have hk2 : l[k]? = some l[k] := by simp [hk]
      have := hc.idxE u.1 k l[k] hk2
      rw [hr] at this
      rw [← this]
      exact wDuring1 l u k l[k] hk2 (hb _ (List.getElem_mem hk)) b c true true Hx hb2 hc2)
  have hdur := durL_eq hc u
  rw [hr] at hdur
  have hd : durS l u = hullL ((((l.drop r).takeWhile fun s => decide (s.t ≤ u.2))).map (·.tube)) := by rw [← hdur]; rfl
  have hLn : ∀ s ∈ l.drop r, s.tube.length = n := fun s hs => hn s (List.mem_of_mem_drop hs)
  have hLl : (l.drop r).length = l.length - r := List.length_drop
  rw [hd]
  simp only [sgL] at hS
  simp [sgL]
  refine call_ret (by simpa using hS _ H.length (H.length + 1) (by simp) (by simp)) ?_
  simp
  refine call_ret (by simpa using wHull _) ?_
  have hcut : List.drop r (List.take l.length (l.map sgA)) = (l.drop r).map sgA := by rw [List.take_of_length_le (by simp), List.map_drop]
  simp [hrl]
  refine bind_if (szOk_map fun x => by simp [sgA]) ?_
  rw [hcut]
  generalize hL : l.drop r = L at *
  have hres : (Tryz.f24).results.toList = [.tmp 4, .tmp 5] := rfl
  simp
  refine loop_count (LDu l u L H) (fun i => L.length - i) 0 ⟨by simp, by simp [accL, hullL, hullC], by simp, by simp [sgL], by simp, by simp, by omega, by simp, [], by simp [sgL, accL, hullL, hullC]⟩ ?_
  rintro i fr H' ⟨g3, g7, g8, g18, g19, g20, hi, htw, J, rfl⟩
  have hall : ∀ b, accL L i = some b → b.length = n := fun b hb => hullL_len (fun c hc => by
    obtain ⟨s, hs, rfl⟩ := List.mem_map.1 hc
    exact hLn s (List.mem_of_mem_take hs)) hb
  simp [g19, g20]
  refine branch (fun hcb => ?_) (fun hcb => ?_)
  · have hlt : i < L.length := by simpa using hcb
    obtain ⟨p, hp⟩ := get_lt hlt
    have hpE : ∀ h, L[i]'h = p := fun h => (List.getElem?_eq_some_iff.1 hp).2
    have w2 : IntKind.i64.wrap ((i : Int) + 1) = ((i + 1 : Nat) : Int) := by rw [wrap64 (by omega) (by omega)]; omega
    have hdr : L.drop i = p :: L.drop (i + 1) := dropA hp
    have htk : L.take (i + 1) = L.take i ++ [p] := by rw [List.take_add_one, hp]; rfl
    simp [g3, g18, g20, sgL, hp, hpE, sgA, bx]
    refine branch (fun hq => ?_) (fun hq => ?_)
    · have hq' : ¬ p.t ≤ u.2 := by simp at hq; omega
      have he : L.takeWhile (fun s => decide (s.t ≤ u.2)) = L.take i := by rw [htw, hdr, List.takeWhile_cons, if_neg (by simpa using hq')]; simp
      rw [he, accL_eq]
      simp
      cases ho : accL L i with
      | none =>
        rw [ho] at g7
        simp [g7, hullC]
        exact ⟨[.nilslice, .bool false], [.nilslice, .bool false], by simp [hres, resA, g7, hullC], .drop (by simp [noFs, noF]), rfl⟩
      | some b =>
        have hbl := hall b ho
        obtain ⟨q, b', rfl⟩ : ∃ q b', b = q :: b' := by cases b with
          | nil => simp at hbl; omega
          | cons q b' => exact ⟨q, b', rfl⟩
        rw [ho] at g7
        simp [g7, hullC, bx]
        exact ⟨[bx (q :: b'), .bool true], [bx (q :: b'), .bool true], by simp [hres, resA, g7, hullC, bx], .drop (by simp only [noFs, noF, bx, iv_noFs, Bool.and_self]), rfl⟩
    · have hq' : p.t ≤ u.2 := by simp at hq; omega
      have hpl := hLn p (List.mem_of_getElem? hp)
      have hS1 := fun (Hx : AH) hc2 => wHull1 (accL L i) p.tube (H.length + 2) Hx hc2 (fun d hd => by have := hall d hd; omega) (by omega)
      have hnew : accL L (i + 1) = some (hullO (accL L i) p.tube) := by
        unfold accL
        rw [htk, List.map_append, List.map_cons, List.map_nil, hullL_snoc]
        cases hullL ((L.take i).map (·.tube)) <;> rfl
      generalize accL L i = o at *
      simp only [bx] at hS1
      simp [g8]
      refine call_ret (by simpa using hS1 _ (by simp)) ?_
      simp [g20, w2]
      exact ⟨i + 1, by show L.length - (i + 1) < L.length - i; omega, by simp [g3], by simp [hnew, hullC, bx], by simp [g8], by simp [g18, sgL], by simp [g19], by simp, by omega,
        by rw [htw, hdr, htk, List.takeWhile_cons, if_pos (by simpa using hq')]; simp, J ++ [.row true 6 [sgA p]], by simp [hnew, sgL, sgA, bx]⟩
  · have hi' : i = L.length := by have : ¬ i < L.length := by simpa using hcb
                                  omega
    have he : L.takeWhile (fun s => decide (s.t ≤ u.2)) = L.take i := by rw [htw, hi']; simp
    rw [he, accL_eq]
    simp
    cases ho : accL L i with
    | none =>
      rw [ho] at g7
      simp [g7, hullC]
      exact ⟨[.nilslice, .bool false], [.nilslice, .bool false], by simp [hres, resA, g7, hullC], .drop (by simp [noFs, noF]), rfl⟩
    | some b =>
      have hbl := hall b ho
      obtain ⟨q, b', rfl⟩ : ∃ q b', b = q :: b' := by cases b with
        | nil => simp at hbl; omega
        | cons q b' => exact ⟨q, b', rfl⟩
      rw [ho] at g7
      simp [g7, hullC, bx]
      exact ⟨[bx (q :: b'), .bool true], [bx (q :: b'), .bool true], by simp [hres, resA, g7, hullC, bx], .drop (by simp only [noFs, noF, bx, iv_noFs, Bool.and_self]), rfl⟩
end Go.Proofs.YtfjjckepnkkgjaaGreatDoor.Arm

namespace Go.Arm
open Go.RowKit
theorem fenced_wd {F : Fence} (hF : Wd F) (P : Program) : Machine.fenced P F = Machine.fenced P Fence.wide := by
  funext m
  apply propext
  exact ⟨fun _ => fenced_wide P m, fun _ => by
    intro g _
    exact ⟨fun h => (by rw [hF.1.2] at h; cases h), .inl (hF.2 _), fun f _ => hF.2 f, fun d hd => (by rw [hF.1.1] at hd; cases hd)⟩⟩
theorem callsIn_wd {F : Fence} (hF : Wd F) {n : Nat} {P : Program} {f : FuncId} {args : Array Value} {w : World} {R : Ending → World → Prop} (h : Calls P f args w R) : CallsIn F n P f args w R := by
  have h' := (callsIn_wide (n := n)).2 h
  refine ⟨hF.2 f, fun cs _ => ?_⟩
  rw [fenced_wd hF]
  exact h'.2 cs (room_wide _)
theorem sound_of_calls {E : Env} {f : FuncId} {args : List AV} {H H' : AH} {e : AEnd} (hb : HasBody E.P f)
    (h : ∀ (G : Gh) (w : World) (vs : Array Value), Inv E.Γ G w H → VL G w args vs.toList → Calls E.P f vs w fun r w' => ∃ G', Ext G w G' w' ∧ Inv E.Γ G' w' H' ∧ EndRel G' w' e r) : Sound E f args H e H' :=
  ⟨hb, fun _ _ hF G w vs hI hv => callsIn_wd hF (h G w vs hI hv)⟩
end Go.Arm

namespace Go.Proofs.YtfjjckepnkkgjaaGreatDoor.Arm
open Go.Arm Go.Pl
open Go.RowKit Go.Extern.Stop Go.Stop Go.Extern
def typeOfE : Array Value → Sem Value := Extern.ReflectliteType.typeOf
def compE : Array Value → Sem Value := Extern.ReflectliteType.method fun t => do Extern.Rtype.noPackHeld "Comparable" t; pure (.bool (← typeInfo t).comparable)
theorem eTypeOf (v : Value) (w : World) : (typeOfE #[.iface 38 v]).run Tryz.prog w = .ok (.iface 185 (.agg #[typeHandle Tryz.prog 38])) w := by kernel_rfl
theorem eComp (w : World) : (compE #[.agg #[typeHandle Tryz.prog 38]]).run Tryz.prog w = .ok (.bool true) w := by kernel_rfl
theorem eMethod (k : Nat) (v : Value) (w : World) : (Go.method (k + 1) 185 v "Comparable").run Tryz.prog w = .ok (244, v) w := by kernel_rfl
theorem eComparable : (Tryz.prog.info? 38).map (·.comparable) = some true := by kernel_rfl
theorem eNoIs (v : Value) (xT : TypeId) (w : World) : (Instr.typeAssert (.iface 38 v) xT 187 true).run Tryz.prog w = .ok (.tuple #[.nilIface, .bool false]) w := run_typeAssert_lacksB Tryz.underlying187 (by kernel_rfl) (by kernel_rfl) v xT w
theorem eNoUnwrap (v : Value) (xT : TypeId) (w : World) : (Instr.typeAssert (.iface 38 v) xT 190 true).run Tryz.prog w = .ok (.tuple #[.nilIface, .bool false]) w := run_typeAssert_lacksB Tryz.underlying190 (by kernel_rfl) (by kernel_rfl) v xT w
theorem eNoUnwraps (v : Value) (xT : TypeId) (w : World) : (Instr.typeAssert (.iface 38 v) xT 192 true).run Tryz.prog w = .ok (.tuple #[.nilIface, .bool false]) w := run_typeAssert_lacksB Tryz.underlying192 (by kernel_rfl) (by kernel_rfl) v xT w
theorem eEql (a b : Int) (w : World) : (binOp .eql 156 (.iface 38 (.int .i64 a)) (.iface 38 (.int .i64 b))).run Tryz.prog w = .ok (.bool (a == b)) w := Go.Lib.run_eql_iface_int w a b Tryz.underlying156 eComparable Tryz.underlying38
set_option maxRecDepth 100000 in
set_option maxHeartbeats 4000000 in
theorem callsIs (a b : Int) (w : World) :
    Calls Tryz.prog 55 #[.iface 38 (.int .i64 a), .iface 38 (.int .i64 b)] w fun e w' => e = .returned (.bool (a == b)) ∧ w' = w := by
  have h8 := @run_callFunc_extern Tryz.prog 95 _ typeOfE Tryz.func95 (by kernel_rfl) (by kernel_rfl) (by kernel_rfl) (by kernel_rfl)
  have h32 := @run_callFunc_extern Tryz.prog 244 _ compE Tryz.func244 (by kernel_rfl) (by kernel_rfl) (by kernel_rfl) (by kernel_rfl)
  have tT := eTypeOf
  have cT := eComp
  have mR := eMethod
  have nE := eNoIs
  have uE := eNoUnwrap
  have vE := eNoUnwraps
  have heq := eEql a b w
  cases hab : (a == b) with
  | true =>
    rw [hab] at heq
    go_enter Tryz.func55, Tryz.ntmps55
    go_wp2
    refine wp_loop_rounds 1 ?_
    rw [rounds_succ]
    go_wp2
    go_ret
    exact ⟨rfl, rfl⟩
  | false =>
    rw [hab] at heq
    go_enter Tryz.func55, Tryz.ntmps55
    go_wp2
    refine wp_loop_rounds 1 ?_
    rw [rounds_succ]
    go_wp2
    go_ret
    exact ⟨rfl, rfl⟩
def erA (e : Int) : AV := .iface 38 (.int .i64 e)
theorem eIs (a b : Int) (H : AH) : Sound E 55 [erA a, erA b] H (.ret (.bool (a == b))) H := by
  refine sound_of_calls ⟨_, Tryz.func55, rfl, by rfl⟩ (fun G w vs hI hv => ?_)
  obtain ⟨u1, u2, rfl, h1, h2⟩ : ∃ u1 u2, vs = #[u1, u2] ∧ VR G w (erA a) u1 ∧ VR G w (erA b) u2 := by
    obtain ⟨l⟩ := vs
    have hl := hv.1
    simp at hl
    match l, hl with
    | [u1, u2], _ => exact ⟨u1, u2, rfl, hv.2 0 _ _ rfl rfl, hv.2 1 _ _ rfl rfl⟩
  cases h1 with
  | iface h1 =>
    cases h1
    cases h2 with
    | iface h2 =>
      cases h2
      refine (callsIs a b w).mono ?_
      rintro e w' ⟨rfl, rfl⟩
      exact ⟨G, .refl _ _, hI, .bool _⟩
end Go.Proofs.YtfjjckepnkkgjaaGreatDoor.Arm

namespace Go.Proofs.YtfjjckepnkkgjaaGreatDoor.Arm
open Go.Arm Go.Pl
def hzA (c : Ct) (t last : Int) : AV := .agg [.int .i64 c.order, .int .i64 c.first, .int .i64 c.least, .int .i64 c.most, .int .i64 c.wide, .int .i64 t, .int .i64 last]
def intR : Except Int (List Sg) → AV
  | .ok l => .tuple [sgL l, .int .i64 0]
  | .error e => .tuple [.nilslice, .int .i64 e]
def badH (c : Ct) (t last : Int) : Prop := validC c = false ∨ numB t = false ∨ numB last = false ∨ last ≤ t
theorem wIntegrateBad (T : Tp) (x : List I) (c : Ct) (t last : Int) (hb : badH c t last) (H : AH) : Sound E 14 [tpA T, bx x, hzA c t last] H (.ret (intR (.error 1))) H := by
  refine sound_of_awp tabOk mixed Tryz.func14 rfl (by rfl) Tryz.ntmps14 (by kernel_rfl) (by simp) ?_
  have hV := cValid c
  have hres : (Tryz.f14).results.toList = [.tmp 6, .tmp 7] := rfl
  simp [tpA, hzA]
  refine call_ret (by simpa [ctA] using hV _) ?_
  cases h1 : validC c with
  | false =>
    simp
    exact ⟨[.nilslice, .int .i64 1], [.nilslice, .int .i64 1], by simp [hres, resA], .drop (by simp [noFs, noF]), rfl⟩
  | true =>
    simp
    refine call_ret (fValid t _) ?_
    cases h2 : numB t with
    | false =>
      simp
      exact ⟨[.nilslice, .int .i64 1], [.nilslice, .int .i64 1], by simp [hres, resA], .drop (by simp [noFs, noF]), rfl⟩
    | true =>
      simp
      refine call_ret (fValid last _) ?_
      cases h3 : numB last with
      | false =>
        simp
        exact ⟨[.nilslice, .int .i64 1], [.nilslice, .int .i64 1], by simp [hres, resA], .drop (by simp [noFs, noF]), rfl⟩
      | true =>
        have h4 : last ≤ t := by rcases hb with h | h | h | h <;> simp_all
        simp [h4]
        exact ⟨[.nilslice, .int .i64 1], [.nilslice, .int .i64 1], by simp [hres, resA], .drop (by simp [noFs, noF]), rfl⟩
theorem pushSg {H J : AH} {v v0 : AV} {l : List Sg} {s : Sg} (hacc : Acc H J v 6 (l.map sgA) v0) (h0 : emptyA v0 = true) (hl : l.length ≤ 1000000000) :
    ∃ v' J', appendA tab (H ++ J) 37 v (.slice [sgA s] true) = some (v', H ++ J') ∧ Acc H J' v' 6 ((l ++ [s]).map sgA) v0 ∧ (∀ j y, J[j]? = some y → (∀ n, v ≠ .ref (H.length + j) n) → J'[j]? = some y) ∧ J.length ≤ J'.length ∧ (∀ j n, v' = .ref (H.length + j) n → (∃ m, v = .ref (H.length + j) m) ∨ J.length ≤ j) := by
  obtain ⟨v', J', hap, hacc', hk, hle, hn⟩ := Acc.push (T := tab) (t := 37) (e := 47) (x := .slice [sgA s] true) (ys := [sgA s]) hacc tab37 rfl tab47 h0 rfl (by simp [sgA, bx, okc]) ⟨by decide, by simp⟩ (by simp; omega) (by simp; omega)
  exact ⟨v', J', hap, by simpa using hacc', hk, hle, hn⟩
def LInt (T : Tp) (c : Ct) (t last : Int) (R : Except Int (List Sg)) (H : AH) (n : Nat) (fr : AFr) (H' : AH) : Prop :=
  ∃ l x t' h, fr 3 = .ptr H.length 1 0 0 ∧ fr 5 = .ptr (H.length + 1) 1 0 0 ∧ fr 9 = .ptr (H.length + 2) 1 0 0 ∧ fr 1 = bx x ∧ allV x ∧ x.length = T.n ∧ hzOk c t' last ∧ t' ≤ last ∧ (1 ≤ h ∧ h ≤ 1000000000) ∧
  l.length + n = 256 ∧ R = appS l (intS T c last n x t' h) ∧ ∃ J, H' = H ++ (.row true 3 [tpA T] :: .row true 7 [hzA c t last] :: .row true 8 [rqA ⟨c, t', last, h⟩] :: J) ∧ Acc (H ++ [.row true 3 [tpA T], .row true 7 [hzA c t last], .row true 8 [rqA ⟨c, t', last, h⟩]]) J (fr 8) 6 (l.map sgA) .nilslice
theorem accRebase {H H2 J : AH} {v v0 : AV} {sz : Nat} {l : List AV} (h : Arm.Acc H J v sz l v0) (hl : H2.length = H.length) : Arm.Acc H2 J v sz l v0 := by
  rcases h with h | ⟨k, h1, h2⟩
  · exact .inl h
  · exact .inr ⟨k, by rw [h1, hl], h2⟩
theorem finS2 {E : Env} {fr : AFr} {fn : Func} {t u : Tmp} {H0 J : AH} {v v0 w : AV} {sz : Nat} {xs : List AV} {e : AExit} (hr : fn.results.toList = [.tmp t, .tmp u]) (h : fr t = v) (h2 : fr u = w) (hw : ∀ H, conv H w = (w, H)) (hwn : noF H0.length w = true) (hacc : Arm.Acc H0 J v sz xs v0) (h0 : emptyA v0 = true) (hv : noFs H0.length xs = true)
    (hx : e = .ret ∨ e = .normal := by simp) : bodyK E fn H0 (.ret (.tuple [.slice xs false, w])) H0 e fr (H0 ++ J) := by
  obtain ⟨J', hc, _⟩ := hacc.conv h0
  have hnot : ∀ cs, v ≠ .agg cs := by
    rintro cs rfl
    rcases hacc with ⟨_, h2⟩ | ⟨k, h2, _⟩
    · rw [← h2] at h0; cases h0
    · cases h2
  have hcv : conv (H0 ++ J) v = conv1 (H0 ++ J) v := by cases v <;> first | rfl | exact absurd rfl (hnot _)
  exact finC (rs := [.tmp t, .tmp u]) (vs := [v, w]) (vs' := [.slice xs false, w]) (J' := J') hr (by simp [resA, h, h2]) (by simp only [convL, hcv, hc, hw]) (by simp [noFs, noF, hv, hwn]) rfl hx
set_option maxHeartbeats 1000000 in
theorem wIntegrate (T : Tp) (x : List I) (c : Ct) (t last : Int) (hT : tpOk T) (hx : allV x) (hxn : x.length = T.n) (hn : 1 ≤ T.n) (hk : hzOk c t last) (hv : validC c = true) (htl : t < last) (hi : 1 ≤ initS c (last - t) ∧ initS c (last - t) ≤ 1000000000) (H : AH) :
    Sound E 14 [tpA T, bx x, hzA c t last] H (.ret (intR (intS T c last 256 x t (initS c (last - t))))) H := by
  refine sound_of_awp tabOk mixed Tryz.func14 rfl (by rfl) Tryz.ntmps14 (by kernel_rfl) (by simp) ?_
  have hV := cValid c
  rw [hv] at hV
  have hres : (Tryz.f14).results.toList = [.tmp 6, .tmp 7] := rfl
  have kt := hk.t
  have kl := hk.last
  have n1 : numB t = true := numB_iff.2 (by omega)
  have n2 : numB last = true := numB_iff.2 (by omega)
  have hF1 := fValid t
  have hF2 := fValid last
  rw [n1] at hF1
  rw [n2] at hF2
  have h4 : ¬ last ≤ t := by omega
  have wsub : IntKind.i64.wrap (last - t) = last - t := wrap64 (by omega) (by omega)
  have hI := fun Hx => cInitial c (last - t) Hx
  have hor : ((c.order.toNat : Nat) : Int) = c.order := by have := hk.order; omega
  simp [tpA, hzA]
  refine call_ret (by simpa [ctA] using hV _) ?_
  simp
  refine call_ret (hF1 _) ?_
  simp
  refine call_ret (hF2 _) ?_
  simp [h4, wsub]
  refine callD_ret0 (fun Hx => by simpa [ctA] using hI Hx) ?_
  simp
  refine endD [(15, 16)] (by rfl) (by simp [okW, note, Eff.triv, Eff.wr, Eff.none, upTo, newAt]) ?_
  simp
  generalize hh0 : initS c (last - t) = h0 at *
  generalize hR : intS T c last 256 x t h0 = R
  refine loop_count (LInt T c t last R H) (fun n => n + 1) 256 ⟨[], x, t, h0, by simp, by simp, by simp, by simp [bx], hx, hxn, hk, by omega, hi, by simp, by rw [appS_nil, hR], [], by simp [tpA, hzA, rqA], .inl ⟨by simp, by simp⟩⟩ ?_
  clear hR hh0 hi hx hxn hI wsub h4 hF1 hF2 n1 n2 kt
  clear h0 x
  rintro n fr H' ⟨l, x, t', h, g3, g5, g9, g1, hx, hxn, hk', htl', hh, hln, hR, J, rfl, hacc⟩
  have kt := hk'.t
  simp [g3, g5, g9, hzA, rqA]
  refine branch (fun hc => ?_) (fun hc => ?_)
  · have hlt : t' < last := by simpa using hc
    have hw := hk'.rq hlt hh
    have hA := cAdvance T x ⟨c, t', last, h⟩ hT hx hxn hn hw
    rw [advO_eq] at hA
    cases hr : advS T x ⟨c, t', last, h⟩ with
    | none =>
      rw [hr] at hA
      rw [intS_none hlt hr] at hR
      simp [g1, g3, g9, tpA, rqA]
      refine call_ret (by simpa [tpA, rqA] using hA _) ?_
      simp [segC, zsA, erO, nxC]
      refine call_ret (by simpa [erA] using eIs 130 0 _) ?_
      simp
      rw [hR]
      exact ⟨[.nilslice, .int .i64 130], [.nilslice, .int .i64 130], by simp [hres, resA], .drop (by simp [noFs, noF]), rfl⟩
    | some s =>
      obtain ⟨a1, a2, a3, a4, a5⟩ := advS_ok hT hx hxn hw hr
      have hst : s.t = t' := a5.ht
      have hf : firstH ⟨c, t', last, h⟩ ≤ last - t' := by unfold firstH; simp only; omega
      rw [hr] at hA
      have w1 : IntKind.i64.wrap (s.t + s.h) = s.t + s.h := wrap64 (by omega) (by omega)
      simp [g1, g3, g9, tpA, rqA]
      refine call_ret (by simpa [tpA, rqA] using hA _) ?_
      simp [segC, sgA, bx, erO]
      refine call_ret (by simpa [erA] using eIs 0 0 _) ?_
      simp
      have hl3 : l.length ≤ 256 := by omega
      have hnx := nxS_b hk' hh (s := s) a2
      have hstep := hk'.step (t' := s.t + s.h) (by omega) (by omega)
      obtain ⟨v', J', hap, hacc', hold, _, _⟩ := pushSg (s := s) (hacc.len (L := [.row true 6 [sgA s]])) rfl (by omega)
      rcases hacc with ⟨h0, hv8⟩ | ⟨kk, hv8, hJk⟩
      · have hl0 : l = [] := by simpa using h0
        subst hl0
        obtain ⟨m, rfl⟩ : ∃ m, n = m + 1 := ⟨n - 1, by simp at hln; omega⟩
        rw [intS_some hlt hr, appS_cons] at hR
        have hs6 := hold J.length (.row true 6 [sgA s]) (by simp) (by rw [hv8]; intro n hh; cases hh)
        clear hold
        simp only [sgA, bx] at hs6
        simp [hv8]
        refine bind_some (by simpa [sgA, bx, tpA, hzA, rqA, hv8] using hap) ?_
        simp [g9, w1, hs6]
        refine endD [(9, 11)] (by rfl) (by simp [okW, note, Eff.triv, Eff.wr, Eff.none, upTo, newAt]) ?_
        simp
        exact ⟨m, by show m + 1 < m + 1 + 1; omega, [s], s.to, s.t + s.h, nxS ⟨c, t', last, h⟩ s, by simp [g3], by simp [g5], by simp [g9], by simp [bx], a5.vto, a5.nto, hstep, by omega, hnx, by simp at hln ⊢; omega, hR, J', by simp [tpA, hzA, rqA, nxC, nxS], by simpa using accRebase hacc' (by simp)⟩
      · have hkl := (List.getElem?_eq_some_iff.1 hJk).1
        have hJ2 := old hJk
        have hv9 : fr 8 = .ref (H.length + (kk + 3)) l.length := by rw [hv8]; simp; omega
        by_cases hn0 : n = 0
        · subst hn0
          rw [intS_full hlt hr] at hR
          have h256 : l.length = 256 := by omega
          simp [hv9, hJ2, h256]
          rw [hR]
          exact ⟨[.nilslice, .int .i64 140], [.nilslice, .int .i64 140], by simp [hres, resA], .drop (by simp [noFs, noF]), rfl⟩
        · obtain ⟨m, rfl⟩ : ∃ m, n = m + 1 := ⟨n - 1, by omega⟩
          rw [intS_some hlt hr, appS_cons] at hR
          have h256 : ((l.length : Int) == 256) = false := by rw [beq_eq_false_iff_ne]; omega
          have hs6 := hold J.length (.row true 6 [sgA s]) (by simp) (by rw [hv8]; intro n hh; simp at hh; omega)
          clear hold
          simp only [sgA, bx] at hs6
          simp [hv9, hJ2, h256]
          refine bind_some (by simpa [sgA, bx, tpA, hzA, rqA, hv9] using hap) ?_
          simp [g9, w1, hs6]
          refine endD [(9, 11)] (by rfl) (by simp [okW, note, Eff.triv, Eff.wr, Eff.none, upTo, newAt]) ?_
          simp
          exact ⟨m, by show m + 1 < m + 1 + 1; omega, l ++ [s], s.to, s.t + s.h, nxS ⟨c, t', last, h⟩ s, by simp [g3], by simp [g5], by simp [g9], by simp [bx], a5.vto, a5.nto, hstep, by omega, hnx, by simp; omega, hR, J', by simp [tpA, hzA, rqA, nxC, nxS], by simpa using accRebase hacc' (by simp)⟩
  · have hlt : ¬ t' < last := by simpa using hc
    rw [intS_end hlt] at hR
    have hR2 : R = .ok l := by rw [hR]; simp [appS]
    rw [hR2]
    simp
    exact finS2 (t := 6) (u := 7) hres (by simp) (by simp) (fun H => rfl) (by simp [noF]) (accBase hacc) rfl (sgs_noFs _ _)
end Go.Proofs.YtfjjckepnkkgjaaGreatDoor.Arm

namespace Go.Pl
def pickI (p : I) (k : Int) : Int := p.1 + k.tmod (p.2 - p.1 + 1)
def u32 (x : Int) : Int := x % 4294967296
theorem pickI_in {p : I} {k : Int} (hp : p.1 ≤ p.2) (hk : 0 ≤ k) : p.1 ≤ pickI p k ∧ pickI p k ≤ p.2 := by
  have h1 := Int.tmod_nonneg (p.2 - p.1 + 1) hk
  have h2 := Int.tmod_lt_of_pos k (b := p.2 - p.1 + 1) (by omega)
  unfold pickI
  omega
end Go.Pl

namespace Go.Proofs.YtfjjckepnkkgjaaGreatDoor.Arm
open Go.Arm Go.Pl
theorem rPick (p : I) (k : Int) (hp : -2147483648 ≤ p.1 ∧ p.1 ≤ p.2 ∧ p.2 ≤ 2147483648) (hk : 0 ≤ k ∧ k ≤ 4294967295) (H : AH) : Sound E 22 [iv p, .int .u32 k] H (.ret (.int .i64 (pickI p k))) H := by
  refine sound_of_awp tabOk mixed Tryz.func22 rfl (by rfl) Tryz.ntmps22 (by kernel_rfl) (by simp) ?_
  have hin := pickI_in hp.2.1 hk.1
  have w1 : IntKind.i64.wrap k = k := wrap64 (by omega) (by omega)
  have w2 : IntKind.i64.wrap (p.2 - p.1) = p.2 - p.1 := wrap64 (by omega) (by omega)
  have w3 : IntKind.i64.wrap (p.2 - p.1 + 1) = p.2 - p.1 + 1 := wrap64 (by omega) (by omega)
  have h1 := Int.tmod_nonneg (p.2 - p.1 + 1) hk.1
  have h2 := Int.tmod_lt_of_pos k (b := p.2 - p.1 + 1) (by omega)
  have w4 : IntKind.i64.wrap (k.tmod (p.2 - p.1 + 1)) = k.tmod (p.2 - p.1 + 1) := wrap64 (by omega) (by omega)
  have w5 : IntKind.i64.wrap (p.1 + k.tmod (p.2 - p.1 + 1)) = pickI p k := by rw [wrap64 (by omega) (by omega)]; rfl
  have hne : ¬ p.2 - p.1 + 1 = 0 := by omega
  simp [w1, w2, w3, hne, w4, w5]
  refine endD [] (by rfl) (by simp [okW, note, Eff.triv, Eff.wr, Eff.none, upTo, newAt]) ?_
  simp
  exact fin1 (rs := [.tmp 4]) (by rfl) (by simp [resA]) (by simp [noF])
theorem rMag (p : I) (hp : -2147483648 ≤ p.1 ∧ p.1 ≤ p.2 ∧ p.2 ≤ 2147483648) (H : AH) : Sound E 67 [iv p] H (.ret (.int .i64 (max (max p.1 (-p.1)) (max p.2 (-p.2))))) H := by
  refine sound_of_awp tabOk mixed Tryz.func67 rfl (by rfl) Tryz.ntmps67 (by kernel_rfl) (by simp) ?_
  have w1 : IntKind.i64.wrap (-p.1) = -p.1 := wrap64 (by omega) (by omega)
  have w2 : IntKind.i64.wrap (-p.2) = -p.2 := wrap64 (by omega) (by omega)
  simp [w1, w2]
  refine fin1 (rs := [.tmp 2]) (by rfl) ?_ (by simp [noF])
  simp only [resA, Option.map_some, Option.some.injEq, List.cons.injEq, and_true]
  simp [Int.max_def]
  (repeat' split) <;> omega
theorem r14Control (o : Int) (ho : 0 ≤ o ∧ o ≤ 255) (H : AH) : Sound E 48 [.int .u8 o] H (.ret (ctA ⟨1 + o.tmod 3, 4096, 1024, 16384, 16777216⟩)) H := by
  refine sound_of_awp tabOk mixed Tryz.func48 rfl (by rfl) Tryz.ntmps48 (by kernel_rfl) (by simp) ?_
  have h1 := Int.tmod_nonneg 3 ho.1
  have h2 := Int.tmod_lt_of_pos o (b := 3) (by decide)
  have w0 : IntKind.u8.wrap (o.tmod 3) = o.tmod 3 := wrap8 (by omega) (by omega)
  have w1 : IntKind.i64.wrap (o.tmod 3) = o.tmod 3 := wrap64 (by omega) (by omega)
  have w2 : IntKind.i64.wrap (1 + o.tmod 3) = 1 + o.tmod 3 := wrap64 (by omega) (by omega)
  simp [w0, w1, w2]
  exact fin1 (rs := [.cell 2 32]) (by rfl) (by simp [resA, ctA]) (by simp [noF, noFs, ctA])
def ctS (o : Int) : Ct := ⟨1 + o.tmod 3, 4096, 1024, 16384, 16777216⟩
def hzT (t : Int) : Int := t.tmod 1048576
theorem r14Horizon (o t l : Int) (ho : 0 ≤ o ∧ o ≤ 255) (ht : -2147483648 ≤ t ∧ t ≤ 2147483647) (hl : 0 ≤ l ∧ l ≤ 65535) (H : AH) : Sound E 40 [.int .u8 o, .int .i32 t, .int .u16 l] H (.ret (hzA (ctS o) (hzT t) (hzT t + 1 + l))) H := by
  refine sound_of_awp tabOk mixed Tryz.func40 rfl (by rfl) Tryz.ntmps40 (by kernel_rfl) (by simp) ?_
  have hC := r14Control o ho
  obtain ⟨a, b⟩ := tmod_bounds t (b := 1048576) (by decide)
  have hb : -1048576 < t.tmod 1048576 ∧ t.tmod 1048576 < 1048576 := by
    by_cases hh : 0 ≤ t
    · have := a hh; omega
    · have := b (by omega); omega
  have w0 : IntKind.i64.wrap t = t := wrap64 (by omega) (by omega)
  have w1 : IntKind.i64.wrap (t.tmod 1048576) = t.tmod 1048576 := wrap64 (by omega) (by omega)
  have w2 : IntKind.i64.wrap (t.tmod 1048576 + 1) = t.tmod 1048576 + 1 := wrap64 (by omega) (by omega)
  have w3 : IntKind.i64.wrap l = l := wrap64 (by omega) (by omega)
  have w4 : IntKind.i64.wrap (t.tmod 1048576 + 1 + l) = t.tmod 1048576 + 1 + l := wrap64 (by omega) (by omega)
  simp [w0, w1]
  refine call_ret (hC _) ?_
  simp [w2, w3, w4, ctA]
  exact fin1 (rs := [.cell 6 34]) (by rfl) (by simp [resA, hzA, ctS, hzT]) (by simp [noF, noFs, hzA])
end Go.Proofs.YtfjjckepnkkgjaaGreatDoor.Arm

namespace Go.Proofs.YtfjjckepnkkgjaaGreatDoor.Arm
open Go.Arm Go.Pl
end Go.Proofs.YtfjjckepnkkgjaaGreatDoor.Arm

namespace Go.Proofs.YtfjjckepnkkgjaaGreatDoor.Arm
open Go.Arm Go.Pl
theorem finC0 {E : Env} {fr : AFr} {fn : Func} {rs : List ResultVar} {H0 : AH} {vs vs' : List AV} {v : AV} {e : AExit} (hr : fn.results.toList = rs) (h : resA E fr H0 rs = some vs) (hc : convL H0 vs = (vs', H0)) (hv : noFs H0.length vs' = true) (ho : one vs' = v)
    (hx : e = .ret ∨ e = .normal := by simp) : bodyK E fn H0 (.ret v) H0 e fr H0 := by
  have := finC (J := []) (J' := []) hr (by rw [List.append_nil]; exact h) (by rw [List.append_nil]; exact hc) hv ho hx
  rwa [List.append_nil] at this
theorem lPoint (n : Int) (hn : -1000 ≤ n ∧ n ≤ 1000) (H : AH) : Sound E 46 [.int .i64 n] H (.ret (bx [(n * 65536, n * 65536)])) H := by
  refine sound_of_awp tabOk mixed Tryz.func46 rfl (by rfl) Tryz.ntmps46 (by kernel_rfl) (by simp) ?_
  have w1 : IntKind.i64.wrap (n * 65536) = n * 65536 := wrap64 (by omega) (by omega)
  have e : pt (n * 65536) = (n * 65536, n * 65536) := pt_num (by omega)
  have hP := rPoint (n * 65536)
  rw [e] at hP
  simp [w1]
  refine call_ret (hP _) ?_
  simp
  exact finC0 (rs := [.tmp 2]) (vs := [.slice [iv (n * 65536, n * 65536)] true]) (vs' := [bx [(n * 65536, n * 65536)]]) (by rfl) (by simp [resA]) (by simp [bx]) (by simp [noFs, noF, bx]) rfl
theorem lSpan (m n : Int) (hm : -1000 ≤ m ∧ m ≤ 1000) (hn : -1000 ≤ n ∧ n ≤ 1000) (H : AH) : Sound E 47 [.int .i64 m, .int .i64 n] H (.ret (bx [(m * 65536, n * 65536)])) H := by
  refine sound_of_awp tabOk mixed Tryz.func47 rfl (by rfl) Tryz.ntmps47 (by kernel_rfl) (by simp) ?_
  have w1 : IntKind.i64.wrap (n * 65536) = n * 65536 := wrap64 (by omega) (by omega)
  have w2 : IntKind.i64.wrap (m * 65536) = m * 65536 := wrap64 (by omega) (by omega)
  simp [w1, w2]
  exact finC0 (rs := [.tmp 4]) (vs := [.slice [iv (m * 65536, n * 65536)] true]) (vs' := [bx [(m * 65536, n * 65536)]]) (by rfl) (by simp [resA]) (by simp [bx]) (by simp [noFs, noF, bx]) rfl
theorem lNum (x : Int) (hx : -2147483648 < x ∧ x < 2147483648) (H : AH) : Sound E 27 [.int .i64 x] H (.ret (insA ⟨1, 0, 0, (x, x)⟩)) H := by
  refine sound_of_awp tabOk mixed Tryz.func27 rfl (by rfl) Tryz.ntmps27 (by kernel_rfl) (by simp) ?_
  have hP := rPoint x
  rw [pt_num hx] at hP
  simp
  refine call_ret (hP _) ?_
  simp
  exact fin1 (rs := [.cell 2 63]) (by rfl) (by simp [resA, insA]) (by simp [noF, noFs, insA])
theorem lSteady (x : Int) (hx : -2147483648 < x ∧ x < 2147483648) (H : AH) : Sound E 21 [.int .i64 x] H (.ret (tpA ⟨1, [⟨1, 0, 0, (x, x)⟩], [0]⟩)) H := by
  refine sound_of_awp tabOk mixed Tryz.func21 rfl (by rfl) Tryz.ntmps21 (by kernel_rfl) (by simp) ?_
  simp
  refine call_ret (lNum x hx _) ?_
  simp [insA]
  exact finC (rs := [.cell 2 25]) (vs := [.agg [.int .i64 1, .slice [insA ⟨1, 0, 0, (x, x)⟩] true, .slice [.int .i64 0] true]]) (vs' := [tpA ⟨1, [⟨1, 0, 0, (x, x)⟩], [0]⟩]) (J' := _) (by rfl) (by simp [resA, insA]) (by simp [tpA, insA, outA]; rfl) (by simp [noFs, noF, tpA, insA, outA]) rfl
def insideB (p : I) (n d : Int) : Bool := decide (268435456 ≤ max (max p.1 (-p.1)) (max p.2 (-p.2))) || (decide (p.1 * d ≤ n) && decide (n ≤ p.2 * d))
theorem lInside (p : I) (n d : Int) (hp : -2147483648 ≤ p.1 ∧ p.1 ≤ p.2 ∧ p.2 ≤ 2147483648) (hd : 0 ≤ d ∧ d ≤ 8589934592) (H : AH) : Sound E 26 [iv p, .int .i64 n, .int .i64 d] H (.ret (.bool (insideB p n d))) H := by
  refine sound_of_awp tabOk mixed Tryz.func26 rfl (by rfl) Tryz.ntmps26 (by kernel_rfl) (by simp) ?_
  have hM := rMag p hp
  unfold insideB
  generalize hm : max (max p.1 (-p.1)) (max p.2 (-p.2)) = m at *
  simp
  refine call_ret (hM _) ?_
  by_cases h1 : 268435456 ≤ m
  · simp [h1]
    exact fin1 (rs := [.tmp 6]) (by rfl) (by simp [resA]) (by simp [noF])
  · have b1 : -268435456 < p.1 ∧ p.1 < 268435456 ∧ -268435456 < p.2 ∧ p.2 < 268435456 := by omega
    have c1 := Int.mul_le_mul_of_nonneg_right (a := p.1) (b := 268435456) (c := d) (by omega) hd.1
    have c2 := Int.mul_le_mul_of_nonneg_right (a := -268435456) (b := p.1) (c := d) (by omega) hd.1
    have c3 := Int.mul_le_mul_of_nonneg_right (a := p.2) (b := 268435456) (c := d) (by omega) hd.1
    have c4 := Int.mul_le_mul_of_nonneg_right (a := -268435456) (b := p.2) (c := d) (by omega) hd.1
    have w1 : IntKind.i64.wrap (p.1 * d) = p.1 * d := wrap64 (by omega) (by omega)
    have w2 : IntKind.i64.wrap (p.2 * d) = p.2 * d := wrap64 (by omega) (by omega)
    by_cases h2 : p.1 * d ≤ n
    · simp [h1, w1, w2, h2]
      exact fin1 (rs := [.tmp 6]) (by rfl) (by simp [resA]) (by simp [noF])
    · simp [h1, w1, w2, h2]
      exact fin1 (rs := [.tmp 6]) (by rfl) (by simp [resA]) (by simp [noF])
def itA (id : Int) (s : Sg) : AV := .agg [.int .i64 id, .int .i64 s.t, .int .i64 (s.t + s.h), bx s.tube]
def itZ : AV := .agg [.int .i64 0, .int .i64 0, .int .i64 0, .nilslice]
def padT (id : Int) (l : List Sg) (i : Nat) : List AV := (l.take i).map (itA id) ++ List.replicate (l.length - i) itZ
theorem padT_len (id : Int) (l : List Sg) (i : Nat) (h : i ≤ l.length) : (padT id l i).length = l.length := by simp [padT]; omega
theorem padT_set {id : Int} {l : List Sg} {i : Nat} {s : Sg} (h : l[i]? = some s) : (padT id l i).set i (itA id s) = padT id l (i + 1) := by
  have hlt := (List.getElem?_eq_some_iff.1 h).1
  unfold padT
  have e : List.replicate (l.length - i) itZ = itZ :: List.replicate (l.length - (i + 1)) itZ := by
    rw [show l.length - i = (l.length - (i + 1)) + 1 by omega, List.replicate_succ]
  rw [e, List.take_add_one, h, List.set_append_right _ _ (by simp; omega)]
  simp [Nat.min_eq_left (Nat.le_of_lt hlt)]
theorem padT_get {id : Int} {l : List Sg} {i : Nat} (h : i < l.length) : (padT id l i)[i]? = some itZ := by
  unfold padT
  rw [List.getElem?_append_right (by simp; omega), List.getElem?_replicate, if_pos (by simp; omega)]
def LIt (id : Int) (l : List Sg) (H : AH) (i : Nat) (fr : AFr) (H' : AH) : Prop :=
  fr 0 = .int .i64 id ∧ fr 5 = .ref H.length l.length ∧ fr 11 = sgL l ∧ fr 12 = .int .i64 l.length ∧ fr 13 = .int .i64 i ∧ i ≤ l.length ∧ ∃ J, H' = H ++ (.row true 4 (padT id l i) :: J)
theorem wItems (id : Int) (l : List Sg) (hl : l.length ≤ 1000000) (hb : ∀ s ∈ l, -1000000000 ≤ s.t ∧ s.t ≤ 1000000000 ∧ 0 ≤ s.h ∧ s.h ≤ 1000000000) (H : AH) : Sound E 35 [.int .i64 id, sgL l] H (.ret (.slice (l.map (itA id)) false)) H := by
  refine sound_of_awp tabOk mixed Tryz.func35 rfl (by rfl) Tryz.ntmps35 (by kernel_rfl) (by simp) ?_
  simp [sgL]
  refine bind_if (by omega) ?_
  simp
  refine loop_count (LIt id l H) (fun i => l.length - i) 0 ⟨by simp, by simp, by simp [sgL], by simp, by simp, by omega, [], by simp [padT, itZ]⟩ ?_
  rintro i fr H' ⟨g0, g5, g11, g12, g13, hi, J, rfl⟩
  simp [g12, g13]
  refine branch (fun hc => ?_) (fun hc => ?_)
  · have hlt : i < l.length := by simpa using hc
    obtain ⟨s, hs⟩ := get_lt hlt
    have hsE : ∀ h, l[i]'h = s := fun h => (List.getElem?_eq_some_iff.1 hs).2
    have hsb := hb s (List.mem_of_getElem? hs)
    have w2 : IntKind.i64.wrap ((i : Int) + 1) = ((i + 1 : Nat) : Int) := by rw [wrap64 (by omega) (by omega)]; omega
    have w3 : IntKind.i64.wrap (s.t + s.h) = s.t + s.h := wrap64 (by omega) (by omega)
    have emk : mk s.t (s.t + s.h) = (s.t, s.t + s.h) := by unfold mk numB; rw [if_pos (by simp; omega)]
    have hN := fun Hx => iNew s.t (s.t + s.h) Hx
    rw [emk] at hN
    have hset := padT_set (id := id) hs
    have hget := padT_get (id := id) hlt
    have hWl := padT_len id l i hi
    generalize padT id l i = W at *
    have hgE : ∀ h, W[i]'h = itZ := fun h => (List.getElem?_eq_some_iff.1 hget).2
    simp [g0, g5, g11, g13, sgL, hs, hsE, sgA, bx, w3]
    refine callD_ret0 (fun Hx => hN Hx) ?_
    simp [g5, hWl, hlt, hget, hgE, itZ]
    refine endD [(14, 15)] (by rfl) (by simp [okW, note, Eff.triv, Eff.wr, Eff.none, upTo, newAt]) ?_
    simp [g13, w2]
    exact ⟨i + 1, by show l.length - (i + 1) < l.length - i; omega, by simp [g0], by simp [g5], by simp [g11, sgL], by simp [g12], by simp, by omega, _, by rw [← hset]; simp [itA, bx]; rfl⟩
  · have hi' : i = l.length := by
      have : ¬ i < l.length := by simpa using hc
      omega
    subst hi'
    have e : padT id l l.length = l.map (itA id) := by simp [padT]
    rw [e]
    simp
    exact finS (t := 4) (v := .ref (H.length + 0) l.length) (v0 := .nilslice) (sz := 4) (xs := l.map (itA id)) (by rfl) (by simp [g5]) (.inr ⟨0, by simp, by simp⟩) rfl (noFs_iff.2 fun x hx => by obtain ⟨y, _, rfl⟩ := List.mem_map.1 hx; simp only [itA, bx, noF, noFs, iv_noFs, Bool.and_self])
end Go.Proofs.YtfjjckepnkkgjaaGreatDoor.Arm

namespace Go.Proofs.YtfjjckepnkkgjaaGreatDoor.Arm
open Go.Arm Go.Pl
structure Fq where
  C : Rt
  X : List I
  order : Int
  t : Int
  last : Int
structure FqOk (q : Fq) : Prop where
  hL : q.C.L.length ≤ 200000000000000
  hO : q.C.out.length ≤ 200000000000000
  hX : q.X.length ≤ 200000000000000
  ho : 0 ≤ q.order ∧ q.order ≤ 255
  ht : -2147483648 ≤ q.t ∧ q.t ≤ 2147483647
  hl : 0 ≤ q.last ∧ q.last ≤ 65535
def fqA (q : Fq) : AV := .agg [.int .i64 q.C.n, .slice (q.C.L.map insA) false, ints q.C.out, bx q.X, .int .u8 q.order, .int .i32 q.t, .int .u16 q.last]
def fqT (q : Fq) : Tp := mkT q.C 10
def fqX (q : Fq) : List I := nrb q.X 4096 (fqT q).n
def fqF (q : Fq) : Int := hzT q.t
def fqE (q : Fq) : Int := hzT q.t + 1 + q.last
theorem fqT_ok (q : Fq) : tpOk (fqT q) ∧ 1 ≤ (fqT q).n ∧ (fqT q).n ≤ 3 := ⟨mkT_ok q.C 10 (by decide), (mkN_b q.C).2⟩
theorem hzT_b (t : Int) : -1048576 < hzT t ∧ hzT t < 1048576 := by
  obtain ⟨a, b⟩ := tmod_bounds t (b := 1048576) (by decide)
  unfold hzT
  by_cases hh : 0 ≤ t
  · have := a hh; omega
  · have := b (by omega); omega
theorem ctS_ok {o : Int} (ho : 0 ≤ o ∧ o ≤ 255) : validC (ctS o) = true ∧ 1 ≤ (ctS o).order ∧ (ctS o).order ≤ 3 := by
  have h1 := Int.tmod_nonneg 3 ho.1
  have h2 := Int.tmod_lt_of_pos o (b := 3) (by decide)
  refine ⟨?_, by show 1 ≤ 1 + o.tmod 3; omega, by show 1 + o.tmod 3 ≤ 3; omega⟩
  unfold validC ctS
  simp only [decide_eq_true_eq]
  omega
theorem fq_hz {q : Fq} (h : FqOk q) : hzOk (ctS q.order) (fqF q) (fqE q) ∧ fqF q < fqE q ∧ fqE q ≤ fqF q + 65536 ∧ (1 ≤ initS (ctS q.order) (fqE q - fqF q) ∧ initS (ctS q.order) (fqE q - fqF q) ≤ 4096) := by
  have hc := ctS_ok h.ho
  have ht := hzT_b q.t
  have hl := h.hl
  have e : initS (ctS q.order) (fqE q - fqF q) = min 4096 (fqE q - fqF q) := rfl
  have m : (ctS q.order).most = 16384 := rfl
  have l : (ctS q.order).least = 1024 := rfl
  unfold fqE fqF at *
  exact ⟨⟨by omega, by omega, by omega, by omega, by omega⟩, by omega, by omega, by omega⟩
set_option maxHeartbeats 2000000 in
theorem lMade (q : Fq) (hq : FqOk q) (H : AH) : Sound E 13 [fqA q] H (.ret (.tuple [tpA (fqT q), bx (fqX q), hzA (ctS q.order) (fqF q) (fqE q)])) H := by
  refine sound_of_awp tabOk mixed Tryz.func13 rfl (by rfl) Tryz.ntmps13 (by kernel_rfl) (by simp) ?_
  have hM := r8Made q.C 10 (by decide) hq.hL hq.hO
  have hB := fun Hx => r8Boxes q.X (fqT q).n 4096 (by have := (fqT_ok q).2; omega) (by omega) hq.hX Hx
  have hZ := fun Hx => r14Horizon q.order q.t q.last hq.ho hq.ht hq.hl Hx
  have eX : nrb q.X 4096 (fqT q).n = fqX q := rfl
  rw [eX] at hB
  have eT : mkT q.C 10 = fqT q := rfl
  rw [eT] at hM
  have eZ : hzA (ctS q.order) (hzT q.t) (hzT q.t + 1 + q.last) = hzA (ctS q.order) (fqF q) (fqE q) := rfl
  rw [eZ] at hZ
  generalize fqT q = T at *
  generalize fqX q = X at *
  generalize ctS q.order = c at *
  generalize fqF q = t0 at *
  generalize fqE q = t1 at *
  simp [fqA, ints]
  refine call_ret (by simpa [rtA, ints, tpA, outA] using hM _) ?_
  simp [tpA, outA, bx]
  refine callD_ret0 (fun Hx => by simpa [bx] using hB Hx) ?_
  simp
  refine callD_ret0 (fun Hx => hZ Hx) ?_
  simp [hzA]
  refine endD [] (by rfl) (by simp [okW, note, Eff.triv, Eff.wr, Eff.none, upTo, newAt]) ?_
  simp
  exact ⟨[tpA T, bx X, hzA c t0 t1], [tpA T, bx X, hzA c t0 t1], by simp [show (Tryz.f13).results.toList = [.cell 2 25, .tmp 3, .cell 4 34] from rfl, resA, tpA, outA, bx, hzA], .drop (by simp [noFs, noF, tpA, bx, hzA, ins_noFs, iv_noFs, outA, noFs_iff]), rfl⟩
def exL : List Sg := [⟨0, 65536, [(0, 0)], [(0, 65536)], [(0, 65536)], [(65536, 65536)]⟩, ⟨65536, 65536, [(65536, 65536)], [(65536, 131072)], [(65536, 131072)], [(131072, 131072)]⟩, ⟨131072, 65536, [(131072, 131072)], [(131072, 196608)], [(131072, 196608)], [(196608, 196608)]⟩]
def exT : Tp := ⟨1, [⟨1, 0, 0, (65536, 65536)⟩], [0]⟩
def exS : Sg := ⟨0, 3000, [(0, 0)], [(0, 3000)], [(0, 3000)], [(3000, 3000)]⟩
theorem exInt : intS exT (ctS 0) 3000 256 [(0, 0)] 0 3000 = .ok [exS] := by
  have ha : advS exT [(0, 0)] ⟨ctS 0, 0, 3000, 3000⟩ = some exS := by kernel_rfl
  rw [intS_some (n := 255) (by decide) ha, intS_end (by decide)]
  rfl
theorem exT_ok : tpOk exT := by
  refine ⟨fun i x hx => ?_, rfl, fun k hk => ?_, by simp [exT]⟩
  · cases i with
    | zero => simp [exT] at hx; subst hx; exact .inl ⟨rfl, vB_pair (by omega) (by omega) (by omega)⟩
    | succ i => simp [exT] at hx
  · simp [exT] at hk; subst hk; simp [exT]
theorem exCtg : Ctg 0 exL := ⟨rfl, by decide, rfl, by decide, rfl, by decide, trivial⟩
theorem exTm : ∀ s ∈ exL, tmS s := fun s hs => by
  simp [exL] at hs
  rcases hs with rfl | rfl | rfl <;> exact ⟨by decide, by decide, by decide, by decide⟩
theorem exN : ∀ s ∈ exL, s.tube.length = 1 := fun s hs => by
  simp [exL] at hs
  rcases hs with rfl | rfl | rfl <;> rfl
end Go.Proofs.YtfjjckepnkkgjaaGreatDoor.Arm

namespace Go.Arm
theorem list_of {α : Type} {f : α → AV} {p : α → Prop} : ∀ {xs : List AV}, (∀ x ∈ xs, ∃ a, x = f a ∧ p a) → ∃ l : List α, xs = l.map f ∧ ∀ a ∈ l, p a
  | [], h => ⟨[], rfl, fun a ha => by cases ha⟩
  | x :: r, h => by
    obtain ⟨a, rfl, ha⟩ := h x (by simp)
    obtain ⟨l, rfl, hl⟩ := list_of (xs := r) (fun y hy => h y (by simp [hy]))
    exact ⟨a :: l, rfl, fun b hb => by
      rcases List.mem_cons.1 hb with rfl | hb
      · exact ha
      · exact hl b hb⟩
theorem okL_cons {ok : TypeId → AV → Prop} {f : TypeId × Nat} {fs : List (TypeId × Nat)} {vs : List AV} (h : OkL ok (f :: fs) vs) : ∃ v vs', vs = v :: vs' ∧ ok f.1 v ∧ OkL ok fs vs' := by
  cases vs with
  | nil => exact h.elim
  | cons v vs' => exact ⟨v, vs', rfl, h.1, h.2⟩
theorem okL_nil {ok : TypeId → AV → Prop} {vs : List AV} (h : OkL ok [] vs) : vs = [] := by
  cases vs with
  | nil => rfl
  | cons v vs' => exact h.elim
section
variable {tab : Tab}
theorem okInt {n : Nat} {t : TypeId} {i : TI} {k : IntKind} {v : AV} (hi : tab t = some i) (hd : i.d = .int k) (h : OkA tab (n + 1) t v) : ∃ x, v = .int k x ∧ (Lit.int k x).wf = true := by
  unfold OkA at h
  rw [hi] at h
  simp only [hd] at h
  exact h
theorem okSlice {n : Nat} {t e : TypeId} {i ie : TI} {v : AV} (hi : tab t = some i) (hd : i.d = .slice e) (he : tab e = some ie) (h : OkA tab (n + 1) t v) : ∃ xs, v = .slice xs false ∧ (∀ x ∈ xs, OkA tab n e x) ∧ xs.length * ie.bytes ≤ reachBytes ∧ xs.length ≤ maxLen := by
  unfold OkA at h
  rw [hi] at h
  simp only [hd] at h
  obtain ⟨xs, h1, h2, h3, h4⟩ := h
  exact ⟨xs, h1, h2, h3 ie he, h4⟩
theorem okStruct {n : Nat} {t : TypeId} {i : TI} {fs : List (TypeId × Nat)} {v : AV} (hi : tab t = some i) (hd : i.d = .struct fs) (h : OkA tab (n + 1) t v) : ∃ vs : List AV, v = .agg (vs.flatMap AV.cells) ∧ OkL (OkA tab n) fs vs := by
  unfold OkA at h
  rw [hi] at h
  simp only [hd] at h
  exact h
theorem okArr {n m : Nat} {t e : TypeId} {i : TI} {v : AV} (hi : tab t = some i) (hd : i.d = .arr m e) (h : OkA tab (n + 1) t v) : ∃ vs : List AV, vs.length = m ∧ v = .agg (vs.flatMap AV.cells) ∧ ∀ x ∈ vs, OkA tab n e x := by
  unfold OkA at h
  rw [hi] at h
  simp only [hd] at h
  exact h
theorem okRow {α : Type} {f : α → AV} {p : α → Prop} {n : Nat} {t e : TypeId} {i ie : TI} {v : AV} (hi : tab t = some i) (hd : i.d = .slice e) (he : tab e = some ie) (hb : 0 < ie.bytes) (hf : ∀ x, OkA tab n e x → ∃ a, x = f a ∧ p a) (h : OkA tab (n + 1) t v) :
    ∃ l : List α, v = .slice (l.map f) false ∧ (∀ a ∈ l, p a) ∧ l.length ≤ 140737488351232 := by
  obtain ⟨xs, rfl, h1, h2, h3⟩ := okSlice hi hd he h
  obtain ⟨l, rfl, hl⟩ := list_of (f := f) (p := p) (fun x hx => hf x (h1 x hx))
  refine ⟨l, rfl, hl, ?_⟩
  have e : reachBytes = 140737488351232 := rfl
  rw [e, List.length_map] at h2
  exact Nat.le_trans (Nat.le_mul_of_pos_right _ hb) h2
end
theorem okArgs3 {T : Tab} {m : Nat} {a b c : TypeId} {av : List AV} (h : OkArgs T m [a, b, c] av) : ∃ x y z, av = [x, y, z] ∧ OkA T m a x ∧ OkA T m b y ∧ OkA T m c z := by
  match av, h with
  | [x, y, z], h => exact ⟨x, y, z, rfl, h.1, h.2.1, h.2.2.1⟩
theorem wfI {k : IntKind} {x : Int} (h : (Lit.int k x).wf = true) : k.min ≤ x ∧ x ≤ k.max := by
  simp [Lit.wf] at h
  exact h
theorem wfU8 {x : Int} (h : (Lit.int .u8 x).wf = true) : 0 ≤ x ∧ x ≤ 255 := by have := wfI h; simp [IntKind.min, IntKind.max, IntKind.signed, IntKind.bits] at this; exact this
theorem wfU16 {x : Int} (h : (Lit.int .u16 x).wf = true) : 0 ≤ x ∧ x ≤ 65535 := by have := wfI h; simp [IntKind.min, IntKind.max, IntKind.signed, IntKind.bits] at this; exact this
theorem wfI32 {x : Int} (h : (Lit.int .i32 x).wf = true) : -2147483648 ≤ x ∧ x ≤ 2147483647 := by have := wfI h; simp [IntKind.min, IntKind.max, IntKind.signed, IntKind.bits] at this; exact this
end Go.Arm

namespace Go.Proofs.YtfjjckepnkkgjaaGreatDoor.Arm
open Go.Arm Go.Pl
theorem okIv {n : Nat} {v : AV} (h : OkA tab (n + 2) 54 v) : ∃ p : I, v = iv p ∧ True := by
  obtain ⟨vs, rfl, hv⟩ := okStruct tab54 rfl h
  obtain ⟨a, vs, rfl, ha, hv⟩ := okL_cons hv
  obtain ⟨b, vs, rfl, hb, hv⟩ := okL_cons hv
  cases okL_nil hv
  obtain ⟨x, rfl, hx⟩ := okInt tab2 rfl ha
  obtain ⟨y, rfl, hy⟩ := okInt tab2 rfl hb
  exact ⟨(x, y), rfl, trivial⟩
theorem okBx {n : Nat} {v : AV} (h : OkA tab (n + 3) 26 v) : ∃ l : List I, v = bx l ∧ l.length ≤ 140737488351232 := by
  obtain ⟨l, rfl, _, hl⟩ := okRow (f := iv) tab26 rfl tab54 (by decide) (fun x hx => okIv hx) h
  exact ⟨l, rfl, hl⟩
theorem okIns {n : Nat} {v : AV} (h : OkA tab (n + 3) 63 v) : ∃ p : Ins, v = insA p ∧ True := by
  obtain ⟨vs, rfl, hv⟩ := okStruct tab63 rfl h
  obtain ⟨a, vs, rfl, ha, hv⟩ := okL_cons hv
  obtain ⟨b, vs, rfl, hb, hv⟩ := okL_cons hv
  obtain ⟨c, vs, rfl, hc, hv⟩ := okL_cons hv
  obtain ⟨d, vs, rfl, hd, hv⟩ := okL_cons hv
  cases okL_nil hv
  obtain ⟨x, rfl, -⟩ := okInt tab3 rfl ha
  obtain ⟨y, rfl, -⟩ := okInt tab3 rfl hb
  obtain ⟨z, rfl, -⟩ := okInt tab3 rfl hc
  obtain ⟨p, rfl, -⟩ := okIv hd
  exact ⟨⟨x, y, z, p⟩, rfl, trivial⟩
theorem okIL {n : Nat} {v : AV} (h : OkA tab (n + 4) 22 v) : ∃ l : List Ins, v = .slice (l.map insA) false ∧ l.length ≤ 140737488351232 := by
  obtain ⟨l, rfl, _, hl⟩ := okRow (f := insA) tab22 rfl tab63 (by decide) (fun x hx => okIns hx) h
  exact ⟨l, rfl, hl⟩
theorem okInts {n : Nat} {v : AV} (h : OkA tab (n + 2) 23 v) : ∃ l : List Int, v = ints l ∧ l.length ≤ 140737488351232 := by
  obtain ⟨l, rfl, _, hl⟩ := okRow (f := fun k : Int => .int .i64 k) (p := fun _ => True) tab23 rfl tab3 (by decide) (fun x hx => by obtain ⟨y, rfl, -⟩ := okInt tab3 rfl hx; exact ⟨y, rfl, trivial⟩) h
  exact ⟨l, rfl, hl⟩
theorem okTp {n : Nat} {v : AV} (h : OkA tab (n + 5) 25 v) : ∃ c : Rt, v = rtA c ∧ c.L.length ≤ 140737488351232 ∧ c.out.length ≤ 140737488351232 := by
  obtain ⟨vs, rfl, hv⟩ := okStruct tab25 rfl h
  obtain ⟨a, vs, rfl, ha, hv⟩ := okL_cons hv
  obtain ⟨b, vs, rfl, hb, hv⟩ := okL_cons hv
  obtain ⟨c, vs, rfl, hc, hv⟩ := okL_cons hv
  cases okL_nil hv
  obtain ⟨x, rfl, -⟩ := okInt tab3 rfl ha
  obtain ⟨l, rfl, hl⟩ := okIL hb
  obtain ⟨o, rfl, ho⟩ := okInts hc
  exact ⟨⟨x, l, o⟩, rfl, hl, ho⟩
theorem okFq {n : Nat} {v : AV} (h : OkA tab (n + 7) 29 v) : ∃ q, v = fqA q ∧ FqOk q := by
  obtain ⟨vs, rfl, hv⟩ := okStruct tab29 rfl h
  obtain ⟨a, vs, rfl, ha, hv⟩ := okL_cons hv
  obtain ⟨b, vs, rfl, hb, hv⟩ := okL_cons hv
  obtain ⟨c, vs, rfl, hc, hv⟩ := okL_cons hv
  obtain ⟨d, vs, rfl, hd, hv⟩ := okL_cons hv
  obtain ⟨e, vs, rfl, he, hv⟩ := okL_cons hv
  cases okL_nil hv
  obtain ⟨C, rfl, h1, h2⟩ := okTp ha
  obtain ⟨x, rfl, h4⟩ := okBx hb
  obtain ⟨o, rfl, ho⟩ := okInt tab5 rfl hc
  obtain ⟨t, rfl, ht⟩ := okInt tab21 rfl hd
  obtain ⟨l, rfl, hl⟩ := okInt tab27 rfl he
  exact ⟨⟨C, x, o, t, l⟩, rfl, ⟨by show C.L.length ≤ _; omega, by show C.out.length ≤ _; omega, by show x.length ≤ _; omega, wfU8 ho, wfI32 ht, wfU16 hl⟩⟩
end Go.Proofs.YtfjjckepnkkgjaaGreatDoor.Arm

namespace Go.Proofs.YtfjjckepnkkgjaaGreatDoor.Arm
open Go.Arm Go.Pl Go.ChangeShapes Go.WideShapes Go.ChangeAt Go.RowKit
theorem own : ownKnob Tryz.prog.godebug = none := by kernel_rfl
theorem laidOut : laidOutB Tryz.prog = true := by kernel_rfl
def laidL : List (String × DataW Unit) := [("armillary/interval.products", Rows.laid_armillary_interval_products), ("armillary/interval.quotients", Rows.laid_armillary_interval_quotients), ("armillary/tape.ops", Rows.laid_armillary_tape_ops)]
theorem door_met (os : Os) (args : Array Value) : laidMetH Tryz.prog laidL ((World.doorLaid Tryz.prog 600 os).forCall (fun _ _ => 0) ⟨#[], args, []⟩).memory :=
  laidMetH_of_parts3 (fuel := 12) (laidMet_of_run' 8 (by kernel_rfl) (by kernel_rfl)) (by kernel_rfl) (by kernel_rfl)
def fnames : List (List UInt8 × FuncId) := [([97, 114, 109, 105, 108, 108, 97, 114, 121, 47, 105, 110, 116, 101, 114, 118, 97, 108, 46, 104, 104], 255), ([97, 114, 109, 105, 108, 108, 97, 114, 121, 47, 105, 110, 116, 101, 114, 118, 97, 108, 46, 108, 108], 256), ([97, 114, 109, 105, 108, 108, 97, 114, 121, 47, 105, 110, 116, 101, 114, 118, 97, 108, 46, 108, 104], 257), ([97, 114, 109, 105, 108, 108, 97, 114, 121, 47, 105, 110, 116, 101, 114, 118, 97, 108, 46, 104, 108], 258), ([97, 114, 109, 105, 108, 108, 97, 114, 121, 47, 105, 110, 116, 101, 114, 118, 97, 108, 46, 78, 101, 103], 184), ([97, 114, 109, 105, 108, 108, 97, 114, 121, 47, 105, 110, 116, 101, 114, 118, 97, 108, 46, 83, 113, 117, 97, 114, 101], 186), ([97, 114, 109, 105, 108, 108, 97, 114, 121, 47, 116, 97, 112, 101, 46, 114, 111, 111, 116], 259), ([97, 114, 109, 105, 108, 108, 97, 114, 121, 47, 105, 110, 116, 101, 114, 118, 97, 108, 46, 65, 100, 100], 175), ([97, 114, 109, 105, 108, 108, 97, 114, 121, 47, 105, 110, 116, 101, 114, 118, 97, 108, 46, 83, 117, 98], 185), ([97, 114, 109, 105, 108, 108, 97, 114, 121, 47, 105, 110, 116, 101, 114, 118, 97, 108, 46, 77, 117, 108], 174), ([97, 114, 109, 105, 108, 108, 97, 114, 121, 47, 105, 110, 116, 101, 114, 118, 97, 108, 46, 68, 105, 118], 207)]
theorem fnames_ok : ∀ p ∈ fnames, ((List.range Tryz.prog.funcs.size).filter fun f => (Tryz.prog.funcs[f]?).any (·.name.toUTF8.data.toList == p.1)) = [p.2] := by
  intro p hp
  simp only [fnames, List.mem_cons, List.not_mem_nil, or_false] at hp
  rcases hp with rfl | rfl | rfl | rfl | rfl | rfl | rfl | rfl | rfl | rfl | rfl <;> kernel_rfl
theorem fnames_ne : ∀ p ∈ fnames, p.1 ≠ [] := by
  intro p hp
  simp only [fnames, List.mem_cons, List.not_mem_nil, or_false] at hp
  rcases hp with rfl | rfl | rfl | rfl | rfl | rfl | rfl | rfl | rfl | rfl | rfl <;> exact List.cons_ne_nil _ _
theorem gProd : Tryz.prog.globalNamed "armillary/interval.products" = some 0 := by kernel_rfl
theorem gQuot : Tryz.prog.globalNamed "armillary/interval.quotients" = some 2 := by kernel_rfl
theorem gOps : Tryz.prog.globalNamed "armillary/tape.ops" = some 1 := by kernel_rfl
theorem glob_met {W : World} (h : laidMetH Tryz.prog laidL W) : ∀ g cs, E.Γ g = some cs → VR [] W (.eptr cs 0) (.pointer (some ⟨g, 0, none⟩)) := by
  intro g cs hg
  have hg' : glob g = some cs := hg
  unfold glob at hg'
  split at hg'
  · cases hg'
    exact glob_of (P := Tryz.prog) (T := tab) (L := fnames) tab_ok h (name := "armillary/interval.products") (List.mem_cons_self ..) gProd (t := 238) (by kernel_rfl) (m := 8) (by kernel_rfl) fnames_ok fnames_ne (by kernel_rfl) (by decide)
  · cases hg'
    exact glob_of (P := Tryz.prog) (T := tab) (L := fnames) tab_ok h (name := "armillary/interval.quotients") (List.mem_cons_of_mem _ (List.mem_cons_self ..)) gQuot (t := 252) (by kernel_rfl) (m := 8) (by kernel_rfl) fnames_ok fnames_ne (by kernel_rfl) (by decide)
  · cases hg'
    exact glob_of (P := Tryz.prog) (T := tab) (L := fnames) tab_ok h (name := "armillary/tape.ops") (List.mem_cons_of_mem _ (List.mem_cons_of_mem _ (List.mem_cons_self ..))) gOps (t := 245) (by kernel_rfl) (m := 8) (by kernel_rfl) fnames_ok fnames_ne (by kernel_rfl) (by decide)
  · cases hg'
end Go.Proofs.YtfjjckepnkkgjaaGreatDoor.Arm

namespace Go.Proofs.YtfjjckepnkkgjaaGreatDoor.Arm
open Go.Arm Go.Pl
theorem wfU32 {x : Int} (h : (Lit.int IntKind.u32 x).wf = true) : 0 ≤ x ∧ x ≤ 4294967295 := by
  have := wfI h
  simp [IntKind.min, IntKind.max, IntKind.signed, IntKind.bits] at this
  exact this
theorem okU3 {n : Nat} {v : AV} (h : OkA tab (n + 2) 61 v) : ∃ a b c : Int, v = .agg [.int .u32 a, .int .u32 b, .int .u32 c] ∧ (0 ≤ a ∧ a ≤ 4294967295) ∧ (0 ≤ b ∧ b ≤ 4294967295) ∧ (0 ≤ c ∧ c ≤ 4294967295) := by
  obtain ⟨vs, hl, rfl, hv⟩ := okArr tab61 rfl h
  match vs, hl with
  | [x, y, z], _ =>
    obtain ⟨a, rfl, ha⟩ := okInt tab49 rfl (hv x (by simp))
    obtain ⟨b, rfl, hb⟩ := okInt tab49 rfl (hv y (by simp))
    obtain ⟨c, rfl, hc⟩ := okInt tab49 rfl (hv z (by simp))
    exact ⟨a, b, c, rfl, wfU32 ha, wfU32 hb, wfU32 hc⟩
end Go.Proofs.YtfjjckepnkkgjaaGreatDoor.Arm

namespace Go.Proofs.YtfjjckepnkkgjaaGreatDoor.Arm
open Go.Arm Go.Pl
def ex2 : List Sg := [⟨0, 65536, [(0, 0)], [(0, 65536)], [(0, 65536)], [(65536, 65536)]⟩, ⟨131072, 65536, [(131072, 131072)], [(131072, 196608)], [(131072, 196608)], [(196608, 196608)]⟩]
theorem zero14 : allV [(0, 0)] := fun p hp => by simp at hp; subst hp; exact vB_pair (by omega) (by omega) (by omega)
theorem hz14 : hzOk (ctS 0) 0 3000 := ⟨by decide, by decide, by decide, by decide, by decide⟩
set_option maxHeartbeats 8000000 in
set_option maxRecDepth 100000 in
theorem lSanity14 (H : AH) : Sound E 12 [] H (.ret (.bool true)) H := by
  refine sound_of_awp tabOk mixed Tryz.func12 rfl (by rfl) Tryz.ntmps12 (by kernel_rfl) (by simp) ?_
  have p0 := lPoint 0 (by decide)
  have p1 := lPoint 1 (by decide)
  have p2 := lPoint 2 (by decide)
  have p3 := lPoint 3 (by decide)
  have s01 := lSpan 0 1 (by decide) (by decide)
  have s12 := lSpan 1 2 (by decide) (by decide)
  have s23 := lSpan 2 3 (by decide) (by decide)
  have s02 := lSpan 0 2 (by decide) (by decide)
  have hlen : exL.length = 3 := rfl
  have hAt := fun τ Hx => wAt exL 0 τ exCtg (by rw [hlen]; decide) exTm Hx
  have a1 := hAt 65536
  rw [show atS exL 65536 = some [(65536, 65536)] by kernel_rfl] at a1
  have a2 := hAt 196608
  rw [show atS exL 196608 = some [(196608, 196608)] by kernel_rfl] at a2
  have a3 := hAt 65537
  rw [show atS exL 65537 = some [(65536, 131072)] by kernel_rfl] at a3
  have a4 := hAt (-1)
  rw [show atS exL (-1) = none by kernel_rfl] at a4
  have hDu := fun u Hx => wDuring exL 0 u 1 (by decide) exCtg (by rw [hlen]; decide) exTm exN Hx
  have d1 := hDu (32768, 65536)
  rw [show durS exL (32768, 65536) = some [(0, 131072)] by kernel_rfl] at d1
  have d2 := hDu (196609, 196609)
  rw [show durS exL (196609, 196609) = none by kernel_rfl] at d2
  have hE := fun Hx => wEnd exL ⟨131072, 65536, [(131072, 131072)], [(131072, 196608)], [(131072, 196608)], [(196608, 196608)]⟩ rfl (by rw [hlen]; decide) (by decide) Hx
  have hI := fun Hx => wItems 7 exL (by rw [hlen]; decide) (fun s hs => by simp [exL] at hs; rcases hs with rfl | rfl | rfl <;> decide) Hx
  have hSt := lSteady 65536 (by decide)
  have hCt := r14Control 0 (by decide)
  have hG := fun Hx => wIntegrate exT [(0, 0)] (ctS 0) 0 3000 exT_ok zero14 rfl (by decide) hz14 (by decide) (by decide) (by decide) Hx
  rw [show initS (ctS 0) (3000 - 0) = 3000 by decide, exInt] at hG
  have hB := fun Hx => wIntegrateBad exT [(0, 0)] (ctS 0) 5 5 (.inr (.inr (.inr (Int.le_refl _)))) Hx
  have hV := fun l hl hs Hx => wValid l hl hs Hx
  have v1 := hV exL (by rw [hlen]; decide) (fun s hs b hb => by simp [exL] at hs; rcases hs with rfl | rfl | rfl <;> (simp [boxs] at hb; rcases hb with rfl | rfl | rfl | rfl <;> decide))
  rw [show flowB exL = true by kernel_rfl] at v1
  have v2 := hV [] (by decide) (by simp)
  rw [show flowB [] = false from rfl] at v2
  have v2n := fun Hx => (v2 Hx).weaken (args := [.nilslice]) (by simp only [sgL, List.map_nil]; exact ⟨Wk.nil, trivial⟩)
  have v3 := hV ex2 (by decide) (fun s hs b hb => by simp [ex2] at hs; rcases hs with rfl | rfl <;> (simp [boxs] at hb; rcases hb with rfl | rfl | rfl | rfl <;> decide))
  rw [show flowB ex2 = false by kernel_rfl] at v3
  have hs1 := fun (a : List I) (ha : a.length ≤ 1000000) Hx => r3Same a a ha ha Hx
  have e1 := hs1 [(65536, 65536)] (by decide)
  have e2 := hs1 [(0, 131072)] (by decide)
  have e3 := hs1 [(196608, 196608)] (by decide)
  have e4 := hs1 [(65536, 131072)] (by decide)
  have e5 := hs1 [(3000, 3000)] (by decide)
  have e6 := hs1 [(0, 3000)] (by decide)
  simp only [decide_true] at e1 e2 e3 e4 e5 e6
  have q1 := rSame2 (65536, 131072) (65536, 131072)
  simp
  refine call_ret (p0 _) ?_
  simp [bx]
  refine call_ret (s01 _) ?_
  simp [bx]
  refine call_ret (s01 _) ?_
  simp [bx]
  refine call_ret (p1 _) ?_
  simp [bx]
  refine call_ret (p1 _) ?_
  simp [bx]
  refine call_ret (s12 _) ?_
  simp [bx]
  refine call_ret (s12 _) ?_
  simp [bx]
  refine call_ret (p2 _) ?_
  simp [bx]
  refine call_ret (p2 _) ?_
  simp [bx]
  refine call_ret (s23 _) ?_
  simp [bx]
  refine call_ret (s23 _) ?_
  simp [bx]
  refine call_ret (p3 _) ?_
  simp [bx]
  refine call_conv0 (a1 _) (by simp [sgL, exL, sgA, bx]; rfl) ?_
  simp [atR, bx]
  refine call_conv0 (d1 _) (by simp [sgL, exL, sgA, bx]; rfl) ?_
  simp [atR, bx]
  refine call_conv0 (hE _) (by simp [sgL, exL, sgA, bx]; rfl) ?_
  simp [atR, bx]
  refine call_conv0 (a2 _) (by simp [sgL, exL, sgA, bx]; rfl) ?_
  simp [atR, bx]
  refine call_conv0 (a3 _) (by simp [sgL, exL, sgA, bx]; rfl) ?_
  simp [atR, bx]
  refine call_conv0 (a4 _) (by simp [sgL, exL, sgA, bx]; rfl) ?_
  simp [atR, bx]
  refine call_ret (rPoint 196609 _) ?_
  rw [pt_num (by decide)]
  simp
  refine call_conv0 (d2 _) (by simp [sgL, exL, sgA, bx]; rfl) ?_
  simp [atR, bx]
  refine call_conv0 (hI _) (by simp [sgL, exL, sgA, bx]; rfl) ?_
  simp [exL, itA, bx]
  refine call_ret (hSt _) ?_
  simp [tpA, insA, outA]
  refine call_ret (p0 _) ?_
  simp [bx]
  refine call_ret (hCt _) ?_
  simp [ctA]
  refine call_ret (by simpa [tpA, exT, insA, outA, bx, hzA, ctS] using hG _) ?_
  simp [intR, sgL, exS, sgA, bx]
  refine call_ret (hSt _) ?_
  simp [tpA, insA, outA]
  refine call_ret (p0 _) ?_
  simp [bx]
  refine call_ret (hCt _) ?_
  simp [ctA]
  refine call_ret (by simpa [tpA, exT, insA, outA, bx, hzA, ctS] using hB _) ?_
  simp [intR, sgL, exS, sgA, bx]
  refine callD_ret0 (fun Hx => by simpa [bx] using p1 Hx) ?_
  simp [bx]
  refine callD_ret0 (fun Hx => by simpa [bx] using e1 Hx) ?_
  simp [bx]
  refine callD_ret0 (fun Hx => by simpa [bx] using s02 Hx) ?_
  simp [bx]
  refine callD_ret0 (fun Hx => by simpa [bx] using e2 Hx) ?_
  simp [bx]
  refine callD_ret0 (fun Hx => by simpa [bx] using p3 Hx) ?_
  simp [bx]
  refine callD_ret0 (fun Hx => by simpa [bx] using e3 Hx) ?_
  simp [bx]
  refine callD_ret0 (fun Hx => by simpa [bx] using p3 Hx) ?_
  simp [bx]
  refine callD_ret0 (fun Hx => by simpa [bx] using e3 Hx) ?_
  simp [bx]
  refine callD_ret0 (fun Hx => by simpa [bx] using s12 Hx) ?_
  simp [bx]
  refine callD_ret0 (fun Hx => by simpa [bx] using e4 Hx) ?_
  simp [bx]
  refine callD_ret0 (fun Hx => by simpa [bx] using q1 Hx) ?_
  simp [bx]
  refine callD_conv0 (fun Hx => v1 Hx) (fun Hx => by simp [sgL, exL, sgA, bx]) ?_
  simp
  refine callD_ret0 (fun Hx => v2n Hx) ?_
  simp
  refine callD_ret0 (fun Hx => by simpa [sgL] using v2 Hx) ?_
  simp
  refine callD_conv0 (fun Hx => v3 Hx) (fun Hx => by simp [sgL, ex2, sgA, bx]) ?_
  simp
  refine callD_conv0 (fun Hx => e5 Hx) (fun Hx => by simp [bx]) ?_
  simp
  refine callD_conv0 (fun Hx => e6 Hx) (fun Hx => by simp [bx]) ?_
  simp
  refine endD [] (by rfl) (by simp [okW, note, Eff.triv, Eff.wr, Eff.none, upTo, newAt]) ?_
  simp
  exact fin0 (rs := [.tmp 0]) (by rfl) (by simp [resA])
end Go.Proofs.YtfjjckepnkkgjaaGreatDoor.Arm

namespace Go.Proofs.YtfjjckepnkkgjaaGreatDoor.Arm
open Go.Arm Go.Pl
structure MdOk (l : List Sg) (n : Nat) (t0 : Int) : Prop where
  ctg : Ctg t0 l
  len : 1 ≤ l.length ∧ l.length ≤ 8
  tm : ∀ s ∈ l, -1048576 < s.t ∧ s.t ≤ 1572864 ∧ 1 ≤ s.h ∧ s.h ≤ 65536
  n3 : 1 ≤ n ∧ n ≤ 3
  tube : ∀ s ∈ l, s.tube.length = n ∧ s.frm.length = n ∧ s.to.length = n
  sub : ∀ s ∈ l, subI s.frm s.tube = true ∧ subI s.to s.tube = true
theorem MdOk.tmS {l : List Sg} {n : Nat} {t0 : Int} (h : MdOk l n t0) : ∀ s ∈ l, Arm.tmS s := fun s hs => by
  have := h.tm s hs
  exact ⟨by omega, by omega, by omega, by omega⟩
end Go.Proofs.YtfjjckepnkkgjaaGreatDoor.Arm

namespace Go.Pl
def Bn (K x : Rat) : Prop := -K ≤ x ∧ x ≤ K
theorem Bn.nn {K x : Rat} (h : Bn K x) : 0 ≤ K := by unfold Bn at h; grind
theorem Bn.mono {K L x : Rat} (h : Bn K x) (k : K ≤ L) : Bn L x := by unfold Bn at *; grind
theorem Bn.add {K L x y : Rat} (h : Bn K x) (k : Bn L y) : Bn (K + L) (x + y) := by unfold Bn at *; grind
theorem Bn.sub {K L x y : Rat} (h : Bn K x) (k : Bn L y) : Bn (K + L) (x - y) := by unfold Bn at *; grind
theorem Bn.neg {K x : Rat} (h : Bn K x) : Bn K (-x) := by unfold Bn at *; grind
theorem Bn.zero {K : Rat} (h : 0 ≤ K) : Bn K 0 := by unfold Bn; grind
theorem Bn.mul {K L x y : Rat} (h : Bn K x) (k : Bn L y) : Bn (K * L) (x * y) := by
  unfold Bn at *
  have h1 : 0 ≤ (K - x) * (L + y) := Rat.mul_nonneg (by grind) (by grind)
  have h2 : 0 ≤ (K + x) * (L - y) := Rat.mul_nonneg (by grind) (by grind)
  have h3 : 0 ≤ (K + x) * (L + y) := Rat.mul_nonneg (by grind) (by grind)
  have h4 : 0 ≤ (K - x) * (L - y) := Rat.mul_nonneg (by grind) (by grind)
  grind
def Far (β b : Rat) : Prop := β ≤ b ∨ b ≤ -β
theorem Bn.cancel {K β b x : Rat} (hβ : 0 < β) (hb : Far β b) (h : Bn K (b * x)) : Bn (K / β) x := by
  have key : ∀ b x : Rat, β ≤ b → Bn K (b * x) → Bn (K / β) x := by
    intro b x hb h
    have hK : 0 ≤ K := h.nn
    have e : K / β * β = K := by grind
    have hq : 0 ≤ K / β := by
      rw [Rat.div_def]; exact Rat.mul_nonneg hK (Rat.le_of_lt (Rat.inv_pos.2 hβ))
    have hm : K ≤ K / β * b := by
      have := Rat.mul_le_mul_of_nonneg_left hb hq
      grind
    unfold Bn at *
    refine ⟨Rat.not_lt.1 fun hx => ?_, Rat.not_lt.1 fun hx => ?_⟩
    · have hbp : 0 < b := by grind
      have := Rat.mul_lt_mul_of_pos_left hx hbp
      grind
    · have hbp : 0 < b := by grind
      have := Rat.mul_lt_mul_of_pos_left hx hbp
      grind
  rcases hb with hb | hb
  · exact key b x hb h
  · have := key (-b) (-x) (by grind) (by have e : -b * -x = b * x := by grind
                                         rw [e]; exact h)
    have := this.neg
    have e : - -x = x := by grind
    rwa [e] at this
theorem nn_of {K δ : Rat} (hp : 0 < δ) (h : 0 ≤ K * (δ * δ)) : 0 ≤ K := by
  have h2 : 0 < δ * δ := Rat.mul_pos hp hp
  refine Rat.not_lt.1 fun hk => ?_
  have := Rat.mul_pos (show (0 : Rat) < -K by grind) h2
  grind
section
variable {δ D W : Rat}
def Df (K δ u u' d : Rat) : Prop := Bn (K * (δ * δ)) (u' - u - δ * d)
theorem Df.add {K L u u' d v v' e : Rat} (h : Df K δ u u' d) (k : Df L δ v v' e) : Df (K + L) δ (u + v) (u' + v') (d + e) := by
  have := Bn.add h k
  unfold Df
  have e1 : K * (δ * δ) + L * (δ * δ) = (K + L) * (δ * δ) := by grind
  have e2 : u' - u - δ * d + (v' - v - δ * e) = u' + v' - (u + v) - δ * (d + e) := by grind
  rwa [e1, e2] at this
theorem Df.neg {K u u' d : Rat} (h : Df K δ u u' d) : Df K δ (-u) (-u') (-d) := by
  have := Bn.neg h
  unfold Df
  have e2 : -(u' - u - δ * d) = -u' - -u - δ * -d := by grind
  rwa [e2] at this
theorem Df.sub {K L u u' d v v' e : Rat} (h : Df K δ u u' d) (k : Df L δ v v' e) : Df (K + L) δ (u - v) (u' - v') (d - e) := by
  have := h.add k.neg
  have e1 : u + -v = u - v := by grind
  have e2 : u' + -v' = u' - v' := by grind
  have e3 : d + -e = d - e := by grind
  rwa [e1, e2, e3] at this
theorem Df.smul {K u u' d : Rat} (c : Rat) {C : Rat} (hc : Bn C c) (h : Df K δ u u' d) : Df (C * K) δ (c * u) (c * u') (c * d) := by
  have := Bn.mul hc h
  unfold Df
  have e1 : C * (K * (δ * δ)) = C * K * (δ * δ) := by grind
  have e2 : c * (u' - u - δ * d) = c * u' - c * u - δ * (c * d) := by grind
  rwa [e1, e2] at this
theorem Df.mono {K L u u' d : Rat} (h : Df K δ u u' d) (k : K ≤ L) : Df L δ u u' d := Bn.mono h (Rat.mul_le_mul_of_nonneg_right k (sq_nonneg δ))
theorem Df.const (u : Rat) : Df 0 δ u u 0 := by
  unfold Df
  have e : u - u - δ * 0 = 0 := by grind
  rw [e]; exact Bn.zero (by grind)
theorem Df.mul {K L u u' d v v' e : Rat} (hδ : 0 ≤ δ) (hD : δ ≤ D) (h : Df K δ u u' d) (k : Df L δ v v' e) (hu' : Bn W u') (hv : Bn W v) (hd : Bn W d) (he : Bn W e) :
    Df (W * W + D * W * K + W * L + W * K) δ (u * v) (u' * v') (d * v + u * e) := by
  unfold Df at *
  have hW : 0 ≤ W := hv.nn
  have b1 : Bn ((δ * δ) * (W * W)) ((δ * δ) * (e * d)) := Bn.mul (by unfold Bn; have := sq_nonneg δ; grind) (Bn.mul he hd)
  have b2 : Bn ((δ * W) * (K * (δ * δ))) ((δ * e) * (u' - u - δ * d)) := Bn.mul (Bn.mul (by unfold Bn; grind) he) h
  have b3 : Bn (W * (L * (δ * δ))) (u' * (v' - v - δ * e)) := Bn.mul hu' k
  have b4 : Bn (W * (K * (δ * δ))) (v * (u' - u - δ * d)) := Bn.mul hv h
  have hK : 0 ≤ K * (δ * δ) := h.nn
  have m2 : (δ * W) * (K * (δ * δ)) ≤ (D * W) * (K * (δ * δ)) := Rat.mul_le_mul_of_nonneg_right (Rat.mul_le_mul_of_nonneg_right hD hW) hK
  have := ((b1.add (b2.mono m2)).add b3).add b4
  have e1 : (δ * δ) * (W * W) + (D * W) * (K * (δ * δ)) + W * (L * (δ * δ)) + W * (K * (δ * δ)) = (W * W + D * W * K + W * L + W * K) * (δ * δ) := by grind
  have e2 : (δ * δ) * (e * d) + (δ * e) * (u' - u - δ * d) + u' * (v' - v - δ * e) + v * (u' - u - δ * d) = u' * v' - u * v - δ * (d * v + u * e) := by grind
  rwa [e1, e2] at this
theorem Df.cancel {K L β b b' db q q' dq : Rat} (hδ : 0 ≤ δ) (hD : δ ≤ D) (hβ : 0 < β) (hb : Far β b) (hb' : Far β b') (hP : Df K δ (b * q) (b' * q') (db * q + b * dq)) (hB : Df L δ b b' db) (wb : Bn W b) (wq : Bn W q) (wdb : Bn W db) (wdq : Bn W dq) :
    Df ((K + W * L + (W * W + D * K + D * W * L) / β * (W + D * L)) / β) δ q q' dq := by
  have hW : 0 ≤ W := wb.nn
  have hdd := sq_nonneg δ
  unfold Df at hP hB
  have hK : 0 ≤ K * (δ * δ) := hP.nn
  have hL : 0 ≤ L * (δ * δ) := hB.nn
  have a1 : Bn (δ * (W * W)) (δ * (b * dq)) := Bn.mul (by unfold Bn; grind) (Bn.mul wb wdq)
  have a2 : Bn (W * (L * (δ * δ))) (q * (b' - b - δ * db)) := Bn.mul wq hB
  have a3 := (a1.add hP).sub a2
  have e3 : δ * (b * dq) + (b' * q' - b * q - δ * (db * q + b * dq)) - q * (b' - b - δ * db) = b' * (q' - q) := by grind
  rw [e3] at a3
  by_cases h0 : δ = 0
  · subst h0
    have a4 : Bn 0 (b' * (q' - q)) := by
      have e : (0 : Rat) * (W * W) + K * (0 * 0) + W * (L * (0 * 0)) = 0 := by grind
      rwa [e] at a3
    have a5 := Bn.cancel hβ hb' a4
    have e0 : (0 : Rat) / β = 0 := by grind
    rw [e0] at a5
    unfold Df
    have e1 : ∀ X : Rat, X * (0 * 0) = 0 := by intro X; grind
    rw [e1]
    have e2 : q' - q - 0 * dq = q' - q := by grind
    rw [e2]; exact a5
  · have hp : 0 < δ := by grind
    have m1 : K * (δ * δ) ≤ D * K * δ := by
      have hK' : 0 ≤ K := nn_of hp hK
      have := Rat.mul_le_mul_of_nonneg_left (Rat.mul_le_mul_of_nonneg_right hD hδ) hK'
      grind
    have m2 : W * (L * (δ * δ)) ≤ D * W * L * δ := by
      have hL' : 0 ≤ L := nn_of hp hL
      have := Rat.mul_le_mul_of_nonneg_left (Rat.mul_le_mul_of_nonneg_right hD hδ) (Rat.mul_nonneg hW hL')
      grind
    have a4 : Bn ((W * W + D * K + D * W * L) * δ) (b' * (q' - q)) := a3.mono (by grind)
    have a5 := Bn.cancel hβ hb' a4
    have e5 : (W * W + D * K + D * W * L) * δ / β = (W * W + D * K + D * W * L) / β * δ := by grind
    rw [e5] at a5
    generalize (W * W + D * K + D * W * L) / β = C at *
    have b1 : Bn (W * δ) (db * δ) := Bn.mul wdb (by unfold Bn; grind)
    have hBL : Bn ((W + D * L) * δ) (b' - b) := by
      have := b1.add hB
      have e : db * δ + (b' - b - δ * db) = b' - b := by grind
      rw [e] at this
      refine this.mono ?_
      have hL' : 0 ≤ L := nn_of hp hL
      have := Rat.mul_le_mul_of_nonneg_left (Rat.mul_le_mul_of_nonneg_right hD hδ) hL'
      grind
    have b2 := Bn.mul a5 hBL
    have b3 := (hP.sub a2).sub b2
    have e6 : b' * q' - b * q - δ * (db * q + b * dq) - q * (b' - b - δ * db) - (q' - q) * (b' - b) = b * (q' - q - δ * dq) := by grind
    rw [e6] at b3
    have e7 : K * (δ * δ) + W * (L * (δ * δ)) + C * δ * ((W + D * L) * δ) = (K + W * L + C * (W + D * L)) * (δ * δ) := by grind
    rw [e7] at b3
    have b4 := Bn.cancel hβ hb b3
    unfold Df
    have e8 : (K + W * L + C * (W + D * L)) * (δ * δ) / β = (K + W * L + C * (W + D * L)) / β * (δ * δ) := by grind
    rwa [e8] at b4
theorem Df.root {K β q q' dq : Rat} (hδ : 0 ≤ δ) (hβ : 0 < β) (hD : δ ≤ D) (hb : β ≤ q) (hb' : β ≤ q') (hP : Df K δ (q * q) (q' * q') (2 * q * dq)) (hK : 0 ≤ K) (wq : Bn W q) (wdq : Bn W dq) :
    Df ((K + (2 * W * W + D * K) / (2 * β) * ((2 * W * W + D * K) / (2 * β))) / (2 * β)) δ q q' dq := by
  have hW : 0 ≤ W := wq.nn
  unfold Df at hP
  have h2 : Bn 2 (2 : Rat) := by unfold Bn; grind
  have a1 : Bn (δ * (2 * (W * W))) (δ * (2 * (q * dq))) := Bn.mul (by unfold Bn; grind) (Bn.mul h2 (Bn.mul wq wdq))
  have a2 := a1.add hP
  have e2 : δ * (2 * (q * dq)) + (q' * q' - q * q - δ * (2 * q * dq)) = (q' + q) * (q' - q) := by grind
  rw [e2] at a2
  have m1 : δ * (2 * (W * W)) + K * (δ * δ) ≤ (2 * W * W + D * K) * δ := by
    have := Rat.mul_le_mul_of_nonneg_left (Rat.mul_le_mul_of_nonneg_right hD hδ) hK
    grind
  have a3 := Bn.cancel (β := 2 * β) (by grind) (.inl (by grind)) (a2.mono m1)
  have e3 : (2 * W * W + D * K) * δ / (2 * β) = (2 * W * W + D * K) / (2 * β) * δ := by grind
  rw [e3] at a3
  generalize (2 * W * W + D * K) / (2 * β) = C at *
  have b1 := hP.sub (Bn.mul a3 a3)
  have e4 : q' * q' - q * q - δ * (2 * q * dq) - (q' - q) * (q' - q) = (2 * q) * (q' - q - δ * dq) := by grind
  have e5 : K * (δ * δ) + C * δ * (C * δ) = (K + C * C) * (δ * δ) := by grind
  rw [e4, e5] at b1
  have b2 := Bn.cancel (β := 2 * β) (by grind) (.inl (by grind)) b1
  unfold Df
  have e6 : (K + C * C) * (δ * δ) / (2 * β) = (K + C * C) / (2 * β) * (δ * δ) := by grind
  rwa [e6] at b2
end
end Go.Pl

namespace Go.Pl
section
variable {x : List I} {t : I}
end
end Go.Pl

namespace Go.Pl
def unR : U → Rat → Rat
  | .neg, v => -v
  | .sqr, v => v * v
  | .sqrt, v => rt 0 v
def binR : B → Rat → Rat → Rat
  | .add, v, w => v + w
  | .sub, v, w => v - w
  | .mul, v, w => v * w
  | .div, v, w => v / w
def val (x : List Rat) (t : Rat) : Ex → Rat
  | .num c => (c.1 : Rat) / 65536
  | .var i => (x[i]?).getD 0
  | .time => t
  | .un o a => unR o (val x t a)
  | .bin o a b => binR o (val x t a) (val x t b)
theorem inI_num {c : I} (h : vB c = true) : InI c ((c.1 : Rat) / 65536) := by
  have h1 := vB_bounds h
  refine .inr ⟨?_, ?_⟩
  · grind
  · have : (c.1 : Rat) ≤ (c.2 : Rat) := Rat.intCast_le_intCast.2 h1.2.1
    grind
def Like (x : List Rat) (t : Rat) (a b : Ex) : Prop := val x t a = val x t b ∧ ∀ v, val x t (dif v a) = val x t (dif v b)
section
variable {x : List Rat} {t : Rat}
theorem Like.refl (a : Ex) : Like x t a a := ⟨rfl, fun _ => rfl⟩
theorem Like.symm {a b : Ex} (h : Like x t a b) : Like x t b a := ⟨h.1.symm, fun v => (h.2 v).symm⟩
theorem Like.trans {a b c : Ex} (h : Like x t a b) (k : Like x t b c) : Like x t a c := ⟨h.1.trans k.1, fun v => (h.2 v).trans (k.2 v)⟩
theorem Like.un {a b : Ex} (o : U) (h : Like x t a b) : Like x t (.un o a) (.un o b) := by
  refine ⟨by simp only [val, h.1], fun v => ?_⟩
  have := h.2 v
  cases o <;> simp only [dif, val, this, h.1, unR, binR]
theorem Like.bin {a b c d : Ex} (o : B) (h : Like x t a b) (k : Like x t c d) : Like x t (.bin o a c) (.bin o b d) := by
  refine ⟨by simp only [val, h.1, k.1], fun v => ?_⟩
  have h2 := h.2 v
  have k2 := k.2 v
  cases o <;> simp only [dif, val, h2, k2, h.1, k.1, binR, unR]
end
end Go.Pl

namespace Go.Pl
def f0 : Nat → Nat
  | 0 => 0
  | k + 1 => 1 + 2 * f0 k
def f1 : Nat → Nat
  | 0 => 0
  | k + 1 => 5 + 2 * f1 k + 3 * f0 k
def f2 : Nat → Nat
  | 0 => 0
  | k + 1 => 21 + 2 * f2 k + 7 * f0 k + 7 * f1 k
end Go.Pl

namespace Go.Pl
def occ (v : Vr) : Ex → Bool
  | .un _ a => occ v a
  | .bin _ a b => occ v a || occ v b
  | e => isV v e
def Lv (a b : Ex) : Prop := ∀ v, occ v a = true → occ v b = true
theorem Lv.refl (a : Ex) : Lv a a := fun _ h => h
theorem Lv.trans {a b c : Ex} (h : Lv a b) (k : Lv b c) : Lv a c := fun v hv => k v (h v hv)
end Go.Pl

namespace Go.Pl
theorem inI_conv {V : I} {x y m : Rat} (h : InI V x) (k : InI V y) (h1 : x ≤ m) (h2 : m ≤ y) : InI V m := by
  rcases h with rfl | ⟨a, b⟩
  · exact .inl rfl
  · rcases k with rfl | ⟨c, d⟩
    · exact .inl rfl
    · exact .inr ⟨by grind, by grind⟩
theorem inI_00 : InI (0, 0) 0 := .inr ⟨by decide +kernel, by decide +kernel⟩
theorem inI_11 : InI (65536, 65536) 1 := .inr ⟨by decide +kernel, by decide +kernel⟩
section
variable {x : List I} {t : I}
end
theorem small (δ : Rat) (h : 0 < δ) : ∃ k, 1 / (grid k : Rat) ≤ δ := by
  refine ⟨(1 / δ).ceil.toNat, ?_⟩
  have hN := grid_posR (1 / δ).ceil.toNat
  have h1 : 1 / δ ≤ ((1 / δ).ceil : Rat) := Rat.le_ceil
  have h2 : ((1 / δ).ceil : Rat) ≤ (grid (1 / δ).ceil.toNat : Rat) := ic.2 (by unfold grid; omega)
  have h3 : 1 / δ ≤ (grid (1 / δ).ceil.toNat : Rat) := Rat.le_trans h1 h2
  generalize (grid (1 / δ).ceil.toNat : Rat) = N at *
  refine le_rdiv hN ?_
  have h4 := rmulL (Rat.le_of_lt h) h3
  have h5 : δ * (1 / δ) = 1 := by grind
  rw [h5] at h4; exact h4
end Go.Pl

namespace Go.Pl
structure Alg (α : Type) where
  zero : α
  one : α
  num : I → α
  neg : α → α
  add : α → α → α
  sub : α → α → α
  mul : α → α → α
  sq : α → α
  div : α → α → α
  root : α → α
  dbl : α → α
section
variable {α : Type} (G : Alg α)
def sumA (f : Nat → α) : Nat → α
  | 0 => G.zero
  | 1 => f 0
  | m + 2 => G.add (sumA f (m + 1)) (f (m + 1))
def convA (f g : Nat → α) (frm m k : Nat) : α := sumA G (fun i => G.mul (f (frm + i)) (g (k - (frm + i)))) m
def fA (x : Ins) (A : Nat → Nat → α) (q : Nat → α) (t : α) (m : Nat) : α :=
  if x.op = 4 then G.neg (A x.a.toNat m)
  else if x.op = 7 then G.add (A x.a.toNat m) (A x.b.toNat m)
  else if x.op = 8 then G.sub (A x.a.toNat m) (A x.b.toNat m)
  else if x.op = 9 then convA G (A x.a.toNat) (A x.b.toNat) 0 (m + 1) m
  else if x.op = 5 then (if m = 0 then G.sq (A x.a.toNat 0) else convA G (A x.a.toNat) (A x.a.toNat) 0 (m + 1) m)
  else if x.op = 10 then (if m = 0 then G.div (A x.a.toNat 0) (A x.b.toNat 0) else G.div (G.sub (A x.a.toNat m) (convA G (A x.b.toNat) q 1 m m)) (A x.b.toNat 0))
  else if x.op = 6 then (if m = 0 then G.root (A x.a.toNat 0) else G.div (G.sub (A x.a.toNat m) (convA G q q 1 (m - 1) m)) (G.dbl (q 0)))
  else if x.op = 1 then (if m = 0 then G.num x.c else G.zero)
  else if x.op = 3 then (if m = 0 then t else if m = 1 then G.one else G.zero)
  else G.zero
variable {G}
theorem sumA_congr {f g : Nat → α} : ∀ {m : Nat}, (∀ i, i < m → f i = g i) → sumA G f m = sumA G g m
  | 0, _ => rfl
  | 1, h => h 0 (by omega)
  | m + 2, h => by simp only [sumA]; rw [sumA_congr (m := m + 1) (fun i hi => h i (by omega)), h (m + 1) (by omega)]
theorem convA_congr {f g f' g' : Nat → α} {frm m k : Nat} (hf : ∀ i, frm ≤ i → i < frm + m → f i = f' i) (hg : ∀ i, frm ≤ i → i < frm + m → g (k - i) = g' (k - i)) : convA G f g frm m k = convA G f' g' frm m k :=
  sumA_congr fun i hi => by rw [hf (frm + i) (by omega) (by omega), hg (frm + i) (by omega) (by omega)]
theorem fA_congr {x : Ins} {n j : Nat} (hx : insOk n j x) {A A' : Nat → Nat → α} {q q' : Nat → α} {t : α} {m : Nat} (hA : ∀ j' i, j' < j → i ≤ m → A j' i = A' j' i) (hq : ∀ i, i < m → q i = q' i) : fA G x A q t m = fA G x A' q' t m := by
  have h2 : 4 ≤ x.op → x.a.toNat < j := fun h => by rcases hx with h1 | h1 | h1 | h1 | h1 <;> omega
  have h3 : 7 ≤ x.op → x.b.toNat < j := fun h => by rcases hx with h1 | h1 | h1 | h1 | h1 <;> omega
  unfold fA
  by_cases o4 : x.op = 4
  · rw [if_pos o4, if_pos o4, hA _ _ (h2 (by omega)) (Nat.le_refl _)]
  rw [if_neg o4, if_neg o4]
  by_cases o7 : x.op = 7
  · rw [if_pos o7, if_pos o7, hA _ _ (h2 (by omega)) (Nat.le_refl _), hA _ _ (h3 (by omega)) (Nat.le_refl _)]
  rw [if_neg o7, if_neg o7]
  by_cases o8 : x.op = 8
  · rw [if_pos o8, if_pos o8, hA _ _ (h2 (by omega)) (Nat.le_refl _), hA _ _ (h3 (by omega)) (Nat.le_refl _)]
  rw [if_neg o8, if_neg o8]
  by_cases o9 : x.op = 9
  · rw [if_pos o9, if_pos o9]
    exact convA_congr (fun i _ h => hA _ _ (h2 (by omega)) (by omega)) (fun i _ h => hA _ _ (h3 (by omega)) (by omega))
  rw [if_neg o9, if_neg o9]
  by_cases o5 : x.op = 5
  · rw [if_pos o5, if_pos o5]
    by_cases m0 : m = 0
    · rw [if_pos m0, if_pos m0, hA _ _ (h2 (by omega)) (by omega)]
    · rw [if_neg m0, if_neg m0]
      exact convA_congr (fun i _ h => hA _ _ (h2 (by omega)) (by omega)) (fun i _ h => hA _ _ (h2 (by omega)) (by omega))
  rw [if_neg o5, if_neg o5]
  by_cases o10 : x.op = 10
  · rw [if_pos o10, if_pos o10]
    by_cases m0 : m = 0
    · rw [if_pos m0, if_pos m0, hA _ _ (h2 (by omega)) (by omega), hA _ _ (h3 (by omega)) (by omega)]
    · rw [if_neg m0, if_neg m0, hA _ _ (h2 (by omega)) (Nat.le_refl _), hA _ 0 (h3 (by omega)) (by omega)]
      rw [convA_congr (f' := A' x.b.toNat) (g' := q') (fun i _ h => hA _ _ (h3 (by omega)) (by omega)) (fun i _ h => hq _ (by omega))]
  rw [if_neg o10, if_neg o10]
  by_cases o6 : x.op = 6
  · rw [if_pos o6, if_pos o6]
    by_cases m0 : m = 0
    · rw [if_pos m0, if_pos m0, hA _ _ (h2 (by omega)) (by omega)]
    · rw [if_neg m0, if_neg m0, hA _ _ (h2 (by omega)) (Nat.le_refl _), hq 0 (by omega)]
      rw [convA_congr (f' := q') (g' := q') (fun i _ h => hq _ (by omega)) (fun i _ h => hq _ (by omega))]
  rw [if_neg o6, if_neg o6]
end
def algI : Alg I := ⟨(0, 0), (65536, 65536), fun c => c, neg, add, sub, mul, sq, div, rootI, fun q => mulr q 2 1⟩
theorem sumA_I (f : Nat → I) : ∀ m, sumA algI f m = sumF f m
  | 0 => rfl
  | 1 => rfl
  | m + 2 => by simp only [sumA, sumF]; rw [sumA_I f (m + 1)]; rfl
theorem convA_I (a b : List I) (frm m k : Nat) : convA algI (atN a) (atN b) frm m k = convI a b frm m k := sumA_I _ _
theorem rowN_toNat (l : List (List I)) (k : Int) : rowN l (k.toNat : Int) = rowN l k := by unfold rowN; rw [Int.toNat_natCast]
theorem nextC_fA (x : Ins) (l : List (List I)) (own : List I) (t : I) : nextC x l own t = fA algI x (fun j i => atN (rowN l (j : Int)) i) (atN own) t own.length := by
  unfold nextC fA nextQ nextR
  simp only [rowN_toNat, convA_I]
  rfl
section
variable {T : Tp} {x : List I} {t : I} (hT : tpOk T) (hx : allV x) (ht : vB t = true)
def pre1 (a b : List I) : Prop := ∃ r, b = a ++ r
theorem pre1.refl (a : List I) : pre1 a a := ⟨[], by simp⟩
theorem pre1.trans {a b c : List I} (h : pre1 a b) (k : pre1 b c) : pre1 a c := by
  obtain ⟨r, rfl⟩ := h; obtain ⟨s, rfl⟩ := k; exact ⟨r ++ s, by simp⟩
theorem pre1.at {a b : List I} (h : pre1 a b) {i : Nat} (hi : i < a.length) : atN b i = atN a i := by
  obtain ⟨r, rfl⟩ := h
  unfold atN; rw [List.getElem?_append_left hi]
def preL (l l' : List (List I)) : Prop := ∀ j : Nat, pre1 (rowN l (j : Int)) (rowN l' (j : Int))
theorem preL.refl (l : List (List I)) : preL l l := fun _ => .refl _
theorem preL.trans {l l' l'' : List (List I)} (h : preL l l') (k : preL l' l'') : preL l l'' := fun j => (h j).trans (k j)
theorem preL.push (l : List (List I)) (i : Nat) (p : I) : preL l (l.set i (rowN l (i : Int) ++ [p])) := fun j => by
  by_cases h : i = j
  · subst h
    by_cases hi : i < l.length
    · rw [rowN_set_self hi]; exact ⟨[p], rfl⟩
    · rw [List.set_eq_of_length_le (by omega)]; exact .refl _
  · rw [rowN_set_ne h]; exact .refl _
theorem stepL_pre (L : List Ins) (out : List (List I)) (t : I) (k : Nat) (l : List (List I)) : ∀ i, preL l (stepL L out t k l i)
  | 0 => .refl _
  | i + 1 => by
    cases hy : L[i]? with
    | none => simp only [stepL, hy]; exact stepL_pre L out t k l i
    | some y => rw [stepL_succ hy]; exact (stepL_pre L out t k l i).trans (.push _ _ _)
theorem stepL_pre2 (L : List Ins) (out : List (List I)) (t : I) (k : Nat) (l : List (List I)) (i : Nat) : ∀ d, preL (stepL L out t k l i) (stepL L out t k l (i + d))
  | 0 => .refl _
  | d + 1 => by
    refine (stepL_pre2 L out t k l i d).trans ?_
    rw [show i + (d + 1) = (i + d) + 1 by omega]
    cases hy : L[i + d]? with
    | none => simp only [stepL, hy]; exact .refl _
    | some y => rw [stepL_succ hy]; exact .push _ _ _
theorem stepO_pre (T : Tp) (l out : List (List I)) (k : Nat) : ∀ i, preL out (stepO T l k out i)
  | 0 => .refl _
  | i + 1 => by
    cases hy : T.out[i]? with
    | none => simp only [stepO, hy]; exact stepO_pre T l out k i
    | some y => rw [stepO_succ hy]; exact (stepO_pre T l out k i).trans (.push _ _ _)
theorem stepO_pre2 (T : Tp) (l out : List (List I)) (k i : Nat) : ∀ d, preL (stepO T l k out i) (stepO T l k out (i + d))
  | 0 => .refl _
  | d + 1 => by
    refine (stepO_pre2 T l out k i d).trans ?_
    rw [show i + (d + 1) = (i + d) + 1 by omega]
    cases hy : T.out[i + d]? with
    | none => simp only [stepO, hy]; exact .refl _
    | some y => rw [stepO_succ hy]; exact .push _ _ _
theorem expS_pre (T : Tp) (x : List I) (t : I) (k : Nat) : ∀ d, preL (expS T x t k).1 (expS T x t (k + d)).1 ∧ preL (expS T x t k).2 (expS T x t (k + d)).2
  | 0 => ⟨.refl _, .refl _⟩
  | d + 1 => ⟨(expS_pre T x t k d).1.trans (stepL_pre _ _ _ _ _ _), (expS_pre T x t k d).2.trans (stepO_pre _ _ _ _ _)⟩
def cL (T : Tp) (x : List I) (t : I) (j m : Nat) : I := atN (rowN (expS T x t (m + 1)).1 (j : Int)) m
def cO (T : Tp) (x : List I) (t : I) (i m : Nat) : I := atN (rowN (expS T x t m).2 (i : Int)) m
include hT hx ht in
theorem cL_at {k j m : Nat} (hj : j < T.L.length) (hm : m < k) : atN (rowN (expS T x t k).1 (j : Int)) m = cL T x t j m := by
  have h := (expS_pre T x t (m + 1) (k - (m + 1))).1 j
  rw [show m + 1 + (k - (m + 1)) = k by omega] at h
  exact h.at (by rw [(expS_ok hT hx ht (m + 1)).1.row j hj, if_neg (by omega)]; omega)
include hT hx ht in
theorem cO_at {k i m : Nat} (hi : i < T.n) (hm : m ≤ k) : atN (rowN (expS T x t k).2 (i : Int)) m = cO T x t i m := by
  have h := (expS_pre T x t m (k - m)).2 i
  rw [show m + (k - m) = k by omega] at h
  exact h.at (by rw [(expS_ok hT hx ht m).2.row i hi, if_neg (by omega)]; omega)
theorem cO_zero {i : Nat} (hi : i < T.n) : cO T x t i 0 = atN x i := by
  simp [cO, expS, rowN, hi, atN]
include hT hx ht in
theorem cO_succ {i m o : Nat} (hi : i < T.n) (ho : T.out[i]? = some o) : cO T x t i (m + 1) = mulr (cL T x t o m) 1 (m + 1) := by
  obtain ⟨e1, e2⟩ := expS_ok hT hx ht m
  have hl := stepL_ok hT ht e1 e2.val T.L.length (Nat.le_refl _)
  have hs := stepO_ok hT hl.val e2 i (by omega)
  have hp := stepO_pre2 T (expS T x t (m + 1)).1 (expS T x t m).2 m (i + 1) (T.out.length - (i + 1)) i
  have hil : i < T.out.length := (List.getElem?_eq_some_iff.1 ho).1
  rw [show i + 1 + (T.out.length - (i + 1)) = T.out.length by omega] at hp
  have hrow := hs.row i hi
  rw [if_neg (by omega)] at hrow
  have hsl : i < (stepO T (expS T x t (m + 1)).1 m (expS T x t m).2 i).length := by rw [show (expS T x t (m + 1)).1 = stepL T.L (expS T x t m).2 t m (expS T x t m).1 T.L.length from rfl, hs.len]; exact hi
  have e : rowN (stepO T (expS T x t (m + 1)).1 m (expS T x t m).2 (i + 1)) (i : Int) = rowN (stepO T (expS T x t (m + 1)).1 m (expS T x t m).2 i) (i : Int) ++ [mulr (atN (rowN (expS T x t (m + 1)).1 (o : Int)) m) 1 (m + 1)] := by
    rw [stepO_succ ho, rowN_set_self hsl]
  have hrow' : (rowN (stepO T (expS T x t (m + 1)).1 m (expS T x t m).2 i) (i : Int)).length = m + 1 := hrow
  show atN (rowN (stepO T (expS T x t (m + 1)).1 m (expS T x t m).2 T.out.length) (i : Int)) (m + 1) = _
  rw [hp.at (by rw [e]; simp [hrow']), e]
  unfold atN
  rw [List.getElem?_append_right (by omega), hrow', Nat.sub_self]
  rfl
include hT hx ht in
theorem cL_eq {j m : Nat} {y : Ins} (hy : T.L[j]? = some y) : cL T x t j m = if y.op = 2 then cO T x t y.a.toNat m else fA algI y (cL T x t) (cL T x t j) t m := by
  have hj := (List.getElem?_eq_some_iff.1 hy).1
  obtain ⟨e1, e2⟩ := expS_ok hT hx ht m
  have hl := stepL_ok hT ht e1 e2.val j (by omega)
  have hp := stepL_pre2 T.L (expS T x t m).2 t m (expS T x t m).1 (j + 1) (T.L.length - (j + 1)) j
  rw [show j + 1 + (T.L.length - (j + 1)) = T.L.length by omega] at hp
  have hp0 := stepL_pre2 T.L (expS T x t m).2 t m (expS T x t m).1 j (T.L.length - j)
  rw [show j + (T.L.length - j) = T.L.length by omega] at hp0
  have hrow := hl.row j hj
  rw [if_neg (by omega)] at hrow
  have hsl : j < (stepL T.L (expS T x t m).2 t m (expS T x t m).1 j).length := by rw [hl.len]; exact hj
  have e := stepL_succ (out := (expS T x t m).2) (l := (expS T x t m).1) (t := t) (k := m) hy
  have er : rowN (stepL T.L (expS T x t m).2 t m (expS T x t m).1 (j + 1)) (j : Int) = rowN (stepL T.L (expS T x t m).2 t m (expS T x t m).1 j) (j : Int) ++ [coefV y (expS T x t m).2 (stepL T.L (expS T x t m).2 t m (expS T x t m).1 j) t m j] := by
    rw [e, rowN_set_self hsl]
  have h1 : cL T x t j m = coefV y (expS T x t m).2 (stepL T.L (expS T x t m).2 t m (expS T x t m).1 j) t m j := by
    show atN (rowN (stepL T.L (expS T x t m).2 t m (expS T x t m).1 T.L.length) (j : Int)) m = _
    rw [hp.at (by rw [er]; simp [hrow]), er]
    unfold atN
    rw [List.getElem?_append_right (by omega), hrow, Nat.sub_self]
    rfl
  rw [h1]
  have hins := hT.ins j y hy
  unfold coefV
  by_cases o2 : y.op = 2
  · rw [if_pos o2, if_pos o2]
    have hn : y.a.toNat < T.n := by rcases hins with h | h | h | h | h <;> omega
    rw [← rowN_toNat]
    exact cO_at hT hx ht hn (Nat.le_refl _)
  · rw [if_neg o2, if_neg o2, nextC_fA, hrow]
    refine fA_congr hins (fun j' i hj' hi => ?_) (fun i hi => ?_)
    · have hr := hl.row j' (by omega)
      rw [if_pos hj'] at hr
      rw [← (hp0 j').at (by omega)]
      exact cL_at (k := m + 1) hT hx ht (by omega) (by omega)
    · rw [← (hp0 j).at (by omega)]
      exact cL_at (k := m + 1) hT hx ht hj (by omega)
end
end Go.Pl

namespace Go.Pl
def algR (p : Nat) : Alg Rat := ⟨0, 1, fun c => (c.1 : Rat) / 65536, fun x => -x, fun x y => x + y, fun x y => x - y, fun x y => x * y, fun x => x * x, fun x y => x / y, rt p, fun x => 2 * x⟩
def colR (T : Tp) (p : Nat) (s : Rat) (A : Nat → Nat → Rat) (o : Nat → Rat) (m : Nat) : Nat → Nat → Rat
  | 0 => fun _ => 0
  | i + 1 => fun j => if j = i then (match T.L[i]? with
      | some x => if x.op = 2 then o x.a.toNat else fA (algR p) x (fun j' i' => if i' = m then colR T p s A o m i j' else A j' i') (A i) s m
      | none => 0) else colR T p s A o m i j
def runR (T : Tp) (p : Nat) (s : Rat) (y : Nat → Rat) : Nat → (Nat → Nat → Rat) × (Nat → Rat)
  | 0 => (fun _ _ => 0, y)
  | m + 1 => (fun j i => if i = m then colR T p s (runR T p s y m).1 (runR T p s y m).2 m T.L.length j else (runR T p s y m).1 j i,
      fun i => colR T p s (runR T p s y m).1 (runR T p s y m).2 m T.L.length ((T.out[i]?).getD 0) / ((m + 1 : Nat) : Rat))
def rL (T : Tp) (p : Nat) (s : Rat) (y : Nat → Rat) (j m : Nat) : Rat := (runR T p s y (m + 1)).1 j m
def rO (T : Tp) (p : Nat) (s : Rat) (y : Nat → Rat) (i m : Nat) : Rat := (runR T p s y m).2 i
section
variable {T : Tp} {p : Nat} {s : Rat} {y : Nat → Rat}
theorem runR_at {m : Nat} : ∀ {k : Nat}, m < k → ∀ j, (runR T p s y k).1 j m = rL T p s y j m
  | 0, h, j => by omega
  | k + 1, h, j => by
    by_cases e : m = k
    · subst e; rfl
    · show (if m = k then _ else (runR T p s y k).1 j m) = _
      rw [if_neg e]; exact runR_at (by omega) j
theorem colR_at {A : Nat → Nat → Rat} {o : Nat → Rat} {m i j : Nat} (hj : j < i) : ∀ {k : Nat}, i ≤ k → colR T p s A o m k j = colR T p s A o m i j
  | k, h => by
    induction k with
    | zero => rw [show i = 0 by omega]
    | succ k ih =>
      by_cases e : i = k + 1
      · rw [e]
      · show (if j = k then _ else colR T p s A o m k j) = _
        rw [if_neg (by omega)]; exact ih (by omega)
theorem rO_zero (i : Nat) : rO T p s y i 0 = y i := rfl
theorem rL_col (j m : Nat) : rL T p s y j m = colR T p s (runR T p s y m).1 (runR T p s y m).2 m T.L.length j := by
  show (if m = m then _ else _) = _
  rw [if_pos rfl]
theorem rO_succ {i m o : Nat} (ho : T.out[i]? = some o) : rO T p s y i (m + 1) = rL T p s y o m / ((m + 1 : Nat) : Rat) := by
  rw [rL_col]
  show colR T p s (runR T p s y m).1 (runR T p s y m).2 m T.L.length ((T.out[i]?).getD 0) / ((m + 1 : Nat) : Rat) = _
  rw [ho]; rfl
theorem rL_eq (hT : tpOk T) {j m : Nat} {x : Ins} (hx : T.L[j]? = some x) : rL T p s y j m = if x.op = 2 then rO T p s y x.a.toNat m else fA (algR p) x (rL T p s y) (rL T p s y j) s m := by
  have hj := (List.getElem?_eq_some_iff.1 hx).1
  rw [rL_col, colR_at (i := j + 1) (by omega) (by omega)]
  show (if j = j then (match T.L[j]? with
      | some x => if x.op = 2 then (runR T p s y m).2 x.a.toNat else fA (algR p) x (fun j' i' => if i' = m then colR T p s (runR T p s y m).1 (runR T p s y m).2 m j j' else (runR T p s y m).1 j' i') ((runR T p s y m).1 j) s m
      | none => 0) else _) = _
  rw [if_pos rfl, hx]
  simp only
  by_cases o2 : x.op = 2
  · rw [if_pos o2, if_pos o2]; rfl
  · rw [if_neg o2, if_neg o2]
    refine fA_congr (hT.ins j x hx) (fun j' i hj' hi => ?_) (fun i hi => runR_at hi j)
    by_cases e : i = m
    · subst e
      rw [if_pos rfl, rL_col, colR_at (i := j' + 1) (k := T.L.length) (by omega) (by omega), colR_at (i := j' + 1) (k := j) (by omega) (by omega)]
    · rw [if_neg e]; exact runR_at (by omega) j'
end
theorem in_mulr {a : I} {x : Rat} {n d : Int} (hn : 0 ≤ n) (hd : 0 < d) (h : InI a x) : InI (mulr a n d) (x * n / d) := by
  unfold mulr
  rcases h with rfl | ⟨h1, h2⟩
  · rw [if_pos (by decide)]; exact .inl rfl
  · split
    · rename_i he; rw [entB_iff] at he; exact .inl he
    · have hdR : (0 : Rat) < (d : Rat) := Rat.intCast_pos.2 hd
      have hnR : (0 : Rat) ≤ (n : Rat) := Rat.intCast_nonneg.2 hn
      have f1 := (fl_le (x := a.1 * n) (b := d) (by omega)).1
      have f2 := (le_ce (x := a.2 * n) (b := d) (by omega)).1
      have m1 := Rat.mul_le_mul_of_nonneg_right h1 hnR
      have m2 := Rat.mul_le_mul_of_nonneg_right h2 hnR
      have c1 : ((a.1 * n : Int) : Rat) = (a.1 : Rat) * (n : Rat) := Rat.intCast_mul _ _
      have c2 : ((a.2 * n : Int) : Rat) = (a.2 : Rat) * (n : Rat) := Rat.intCast_mul _ _
      rw [c1] at f1
      rw [c2] at f2
      have e : x * n / d * 65536 = (x * 65536 * n) / d := by grind
      refine in_mk ?_ ?_
      · rw [e]
        refine Rat.le_trans f1 ?_
        exact rdiv_le hdR (by have : (a.1 : Rat) * n / d * d = a.1 * n := by grind
                              rw [this]; exact m1)
      · rw [e]
        refine Rat.le_trans ?_ f2
        exact le_rdiv hdR (by have : (a.2 : Rat) * n / d * d = a.2 * n := by grind
                              rw [this]; exact m2)
theorem in_sumA {p : Nat} {f : Nat → I} {g : Nat → Rat} : ∀ {m : Nat}, (∀ i, i < m → InI (f i) (g i)) → InI (sumA algI f m) (sumA (algR p) g m)
  | 0, _ => inI_00
  | 1, h => h 0 (by omega)
  | m + 2, h => in_add (in_sumA fun i hi => h i (by omega)) (h (m + 1) (by omega))
theorem in_convA {p : Nat} {f g : Nat → I} {f' g' : Nat → Rat} {frm m k : Nat} (hf : ∀ i, frm ≤ i → i < frm + m → InI (f i) (f' i)) (hg : ∀ i, frm ≤ i → i < frm + m → InI (g (k - i)) (g' (k - i))) : InI (convA algI f g frm m k) (convA (algR p) f' g' frm m k) :=
  in_sumA fun i hi => in_mul (hf (frm + i) (by omega) (by omega)) (hg (frm + i) (by omega) (by omega))
theorem in_root {p : Nat} {a : I} {x : Rat} (h : InI a x) : InI (rootI a) (rt p x) := in_rt p h
theorem in_dbl {a : I} {x : Rat} (h : InI a x) : InI (mulr a 2 1) (2 * x) := by
  have := in_mulr (n := 2) (d := 1) (by decide) (by decide) h
  have e : x * ((2 : Int) : Rat) / ((1 : Int) : Rat) = 2 * x := by
    have e1 : ((2 : Int) : Rat) = 2 := rfl
    have e2 : ((1 : Int) : Rat) = 1 := rfl
    rw [e1, e2]; grind
  rwa [e] at this
theorem in_fA {x : Ins} {n j : Nat} (hx : insOk n j x) (o2 : x.op ≠ 2) {p : Nat} {A : Nat → Nat → I} {A' : Nat → Nat → Rat} {q : Nat → I} {q' : Nat → Rat} {t : I} {s : Rat} {m : Nat} (hA : ∀ j' i, j' < j → i ≤ m → InI (A j' i) (A' j' i)) (hq : ∀ i, i < m → InI (q i) (q' i)) (ht : InI t s) :
    InI (fA algI x A q t m) (fA (algR p) x A' q' s m) := by
  have h2 : 4 ≤ x.op → x.a.toNat < j := fun h => by rcases hx with h1 | h1 | h1 | h1 | h1 <;> omega
  have h3 : 7 ≤ x.op → x.b.toNat < j := fun h => by rcases hx with h1 | h1 | h1 | h1 | h1 <;> omega
  unfold fA
  by_cases o4 : x.op = 4
  · rw [if_pos o4, if_pos o4]; exact in_neg (hA _ _ (h2 (by omega)) (Nat.le_refl _))
  rw [if_neg o4, if_neg o4]
  by_cases o7 : x.op = 7
  · rw [if_pos o7, if_pos o7]; exact in_add (hA _ _ (h2 (by omega)) (Nat.le_refl _)) (hA _ _ (h3 (by omega)) (Nat.le_refl _))
  rw [if_neg o7, if_neg o7]
  by_cases o8 : x.op = 8
  · rw [if_pos o8, if_pos o8]; exact in_sub (hA _ _ (h2 (by omega)) (Nat.le_refl _)) (hA _ _ (h3 (by omega)) (Nat.le_refl _))
  rw [if_neg o8, if_neg o8]
  by_cases o9 : x.op = 9
  · rw [if_pos o9, if_pos o9]
    exact in_convA (fun i _ h => hA _ _ (h2 (by omega)) (by omega)) (fun i _ h => hA _ _ (h3 (by omega)) (by omega))
  rw [if_neg o9, if_neg o9]
  by_cases o5 : x.op = 5
  · rw [if_pos o5, if_pos o5]
    by_cases m0 : m = 0
    · rw [if_pos m0, if_pos m0]; exact in_sq (hA _ _ (h2 (by omega)) (by omega))
    · rw [if_neg m0, if_neg m0]
      exact in_convA (fun i _ h => hA _ _ (h2 (by omega)) (by omega)) (fun i _ h => hA _ _ (h2 (by omega)) (by omega))
  rw [if_neg o5, if_neg o5]
  by_cases o10 : x.op = 10
  · rw [if_pos o10, if_pos o10]
    by_cases m0 : m = 0
    · rw [if_pos m0, if_pos m0]; exact in_div (hA _ _ (h2 (by omega)) (by omega)) (fun _ => hA _ _ (h3 (by omega)) (by omega))
    · rw [if_neg m0, if_neg m0]
      exact in_div (in_sub (hA _ _ (h2 (by omega)) (Nat.le_refl _)) (in_convA (fun i _ h => hA _ _ (h3 (by omega)) (by omega)) (fun i _ h => hq _ (by omega)))) (fun _ => hA _ _ (h3 (by omega)) (by omega))
  rw [if_neg o10, if_neg o10]
  by_cases o6 : x.op = 6
  · rw [if_pos o6, if_pos o6]
    by_cases m0 : m = 0
    · rw [if_pos m0, if_pos m0]; exact in_root (hA _ _ (h2 (by omega)) (by omega))
    · rw [if_neg m0, if_neg m0]
      exact in_div (in_sub (hA _ _ (h2 (by omega)) (Nat.le_refl _)) (in_convA (fun i _ h => hq _ (by omega)) (fun i _ h => hq _ (by omega)))) (fun _ => in_dbl (hq 0 (by omega)))
  rw [if_neg o6, if_neg o6]
  by_cases o1 : x.op = 1
  · rw [if_pos o1, if_pos o1]
    by_cases m0 : m = 0
    · rw [if_pos m0, if_pos m0]
      have hv : vB x.c = true := by rcases hx with h1 | h1 | h1 | h1 | h1 <;> first | exact h1.2 | omega
      exact inI_num hv
    · rw [if_neg m0, if_neg m0]; exact inI_00
  rw [if_neg o1, if_neg o1]
  by_cases o3 : x.op = 3
  · rw [if_pos o3, if_pos o3]
    by_cases m0 : m = 0
    · rw [if_pos m0, if_pos m0]; exact ht
    · rw [if_neg m0, if_neg m0]
      by_cases m1 : m = 1
      · rw [if_pos m1, if_pos m1]; exact inI_11
      · rw [if_neg m1, if_neg m1]; exact inI_00
  rw [if_neg o3, if_neg o3]; exact inI_00
theorem in_coef {T : Tp} {x : List I} {t : I} (hT : tpOk T) (hx : allV x) (ht : vB t = true) (p : Nat) {s : Rat} {y : Nat → Rat} (hy : ∀ i, i < T.n → InI (atN x i) (y i)) (hs : InI t s) :
    ∀ m, (∀ i, i < T.n → InI (cO T x t i m) (rO T p s y i m)) ∧ (∀ j, j < T.L.length → InI (cL T x t j m) (rL T p s y j m)) := by
  intro m
  induction m using Nat.strongRecOn with
  | ind m ih =>
    have hO : ∀ i, i < T.n → InI (cO T x t i m) (rO T p s y i m) := by
      intro i hi
      cases m with
      | zero => rw [cO_zero hi, rO_zero]; exact hy i hi
      | succ m =>
        obtain ⟨o, ho⟩ : ∃ o, T.out[i]? = some o := ⟨T.out[i]'(by rw [hT.len]; exact hi), by simp⟩
        rw [cO_succ hT hx ht hi ho, rO_succ ho]
        have := in_mulr (n := 1) (d := (m : Int) + 1) (by decide) (by omega) ((ih m (by omega)).2 o (hT.out o (List.mem_of_getElem? ho)))
        have e : rL T p s y o m * ((1 : Int) : Rat) / (((m : Int) + 1 : Int) : Rat) = rL T p s y o m / ((m + 1 : Nat) : Rat) := by
          have e1 : ((1 : Int) : Rat) = 1 := rfl
          have e2 : (((m : Int) + 1 : Int) : Rat) = ((m + 1 : Nat) : Rat) := by
            have : ((m : Int) + 1) = ((m + 1 : Nat) : Int) := by omega
            rw [this]; exact Rat.intCast_natCast _
          rw [e1, e2]; grind
        rwa [e] at this
    refine ⟨hO, fun j => ?_⟩
    induction j using Nat.strongRecOn with
    | ind j ihj =>
      intro hj
      obtain ⟨x', hx'⟩ : ∃ x', T.L[j]? = some x' := ⟨T.L[j], by simp [hj]⟩
      rw [cL_eq hT hx ht hx', rL_eq hT hx']
      by_cases o2 : x'.op = 2
      · rw [if_pos o2, if_pos o2]
        refine hO _ ?_
        have := hT.ins j x' hx'
        rcases this with h | h | h | h | h <;> omega
      · rw [if_neg o2, if_neg o2]
        refine in_fA (hT.ins j x' hx') o2 (fun j' i hj' hi => ?_) (fun i hi => (ih i hi).2 j hj) hs
        rcases Nat.lt_or_eq_of_le hi with h | h
        · exact (ih i h).2 j' (by omega)
        · rw [h]; exact ihj j' hj' (by omega)
end Go.Pl

namespace Go.Pl
def sm (f : Nat → Rat) : Nat → Rat
  | 0 => 0
  | m + 1 => sm f m + f m
theorem sumA_sm (p : Nat) (f : Nat → Rat) : ∀ m, sumA (algR p) f m = sm f m
  | 0 => rfl
  | 1 => by show f 0 = 0 + f 0; grind
  | m + 2 => by
    show sumA (algR p) f (m + 1) + f (m + 1) = sm f (m + 1) + f (m + 1)
    rw [sumA_sm p f (m + 1)]
theorem sm_congr {f g : Nat → Rat} : ∀ {m : Nat}, (∀ i, i < m → f i = g i) → sm f m = sm g m
  | 0, _ => rfl
  | m + 1, h => by simp only [sm]; rw [sm_congr fun i hi => h i (by omega), h m (by omega)]
theorem sm_add (f g : Nat → Rat) : ∀ m, sm (fun i => f i + g i) m = sm f m + sm g m
  | 0 => by simp only [sm]; grind
  | m + 1 => by simp only [sm]; rw [sm_add f g m]; grind
theorem sm_mul (c : Rat) (f : Nat → Rat) : ∀ m, sm (fun i => c * f i) m = c * sm f m
  | 0 => by simp only [sm]; grind
  | m + 1 => by simp only [sm]; rw [sm_mul c f m]; grind
theorem sm_shift (f : Nat → Rat) : ∀ m, sm f (m + 1) = f 0 + sm (fun i => f (i + 1)) m
  | 0 => by simp only [sm]; grind
  | m + 1 => by
    have := sm_shift f m
    simp only [sm] at this ⊢
    grind
def cv (a b : Nat → Rat) (m : Nat) : Rat := sm (fun i => a i * b (m - i)) (m + 1)
theorem natCast_succ (i : Nat) : ((i + 1 : Nat) : Rat) = (i : Rat) + 1 := by
  have : ((i + 1 : Nat) : Rat) = ((((i : Int) + 1 : Int)) : Rat) := (Rat.intCast_natCast (i + 1)).symm
  rw [this, Rat.intCast_add]
  rfl
theorem conv_der (a b : Nat → Rat) (m : Nat) : sm (fun i => ((i + 1 : Nat) : Rat) * a (i + 1) * b (m - i) + a i * (((m - i + 1 : Nat) : Rat) * b (m - i + 1))) (m + 1) = ((m + 1 : Nat) : Rat) * cv a b (m + 1) := by
  rw [sm_add]
  have h1 : sm (fun i => ((i + 1 : Nat) : Rat) * a (i + 1) * b (m - i)) (m + 1) = sm (fun i => (i : Rat) * (a i * b (m + 1 - i))) (m + 2) := by
    rw [sm_shift (fun i => (i : Rat) * (a i * b (m + 1 - i))) (m + 1)]
    have e0 : ((0 : Nat) : Rat) * (a 0 * b (m + 1 - 0)) = 0 := by
      have : ((0 : Nat) : Rat) = 0 := rfl
      rw [this]; grind
    rw [e0]
    have : ∀ x : Rat, 0 + x = x := by intro x; grind
    rw [this]
    refine sm_congr fun i hi => ?_
    rw [show m + 1 - (i + 1) = m - i by omega]
    grind
  have h2 : sm (fun i => a i * (((m - i + 1 : Nat) : Rat) * b (m - i + 1))) (m + 1) = sm (fun i => ((m + 1 - i : Nat) : Rat) * (a i * b (m + 1 - i))) (m + 2) := by
    show _ = sm (fun i => ((m + 1 - i : Nat) : Rat) * (a i * b (m + 1 - i))) (m + 1) + ((m + 1 - (m + 1) : Nat) : Rat) * (a (m + 1) * b (m + 1 - (m + 1)))
    have e0 : ((m + 1 - (m + 1) : Nat) : Rat) * (a (m + 1) * b (m + 1 - (m + 1))) = 0 := by
      have : ((m + 1 - (m + 1) : Nat) : Rat) = 0 := by rw [Nat.sub_self]; rfl
      rw [this]; grind
    rw [e0]
    have : ∀ x : Rat, x + 0 = x := by intro x; grind
    rw [this]
    refine sm_congr fun i hi => ?_
    rw [show m + 1 - i = m - i + 1 by omega]
    grind
  rw [h1, h2, ← sm_add, cv, ← sm_mul]
  refine sm_congr fun i hi => ?_
  have e : ((m + 1 - i : Nat) : Rat) = ((m + 1 : Nat) : Rat) - (i : Rat) := by
    have h3 : ((m + 1 - i : Nat) : Int) = ((m + 1 : Nat) : Int) - (i : Int) := by omega
    have h4 : ((m + 1 - i : Nat) : Rat) = (((m + 1 - i : Nat) : Int) : Rat) := (Rat.intCast_natCast _).symm
    rw [h4, h3, Rat.intCast_sub, Rat.intCast_natCast, Rat.intCast_natCast]
  rw [e]; grind
structure StR (T : Tp) (X : List I) (τ : I) where
  p : Nat
  δ : Rat
  s : Rat
  y : Nat → Rat
  y' : Nat → Rat
  hy : ∀ i, i < T.n → InI (atN X i) (y i)
  hy' : ∀ i, i < T.n → InI (atN X i) (y' i)
  hs : InI τ s
  hs' : InI τ (s + δ)
  pos : 0 < δ
  small : δ ≤ 4
  fine : 1 / (grid p : Rat) ≤ δ * δ
  euler : ∀ i o, T.out[i]? = some o → y' i = y i + δ * rL T p s y o 0
section
variable {T : Tp} {X : List I} {τ : I}
def Dfx (u u' d : StR T X τ → Rat) : Prop := ∃ K, 0 ≤ K ∧ ∀ r, Df K r.δ (u r) (u' r) (d r)
def Bdx (u : StR T X τ → Rat) : Prop := ∃ W, 0 ≤ W ∧ ∀ r, Bn W (u r)
variable {u u' d v v' e : StR T X τ → Rat}
theorem Bdx.add (h : Bdx u) (k : Bdx v) : Bdx fun r => u r + v r := by
  obtain ⟨K, k0, hK⟩ := h; obtain ⟨L, l0, hL⟩ := k
  exact ⟨K + L, by grind, fun r => (hK r).add (hL r)⟩
theorem Bdx.mul (h : Bdx u) (k : Bdx v) : Bdx fun r => u r * v r := by
  obtain ⟨K, k0, hK⟩ := h; obtain ⟨L, l0, hL⟩ := k
  exact ⟨K * L, Rat.mul_nonneg k0 l0, fun r => (hK r).mul (hL r)⟩
theorem Bdx.smul (c : Rat) (h : Bdx u) : Bdx fun r => c * u r := by
  obtain ⟨K, k0, hK⟩ := h
  have hc : ∃ C, 0 ≤ C ∧ Bn C c := by
    by_cases h : 0 ≤ c
    · exact ⟨c, h, by unfold Bn; grind⟩
    · exact ⟨-c, by grind, by unfold Bn; grind⟩
  obtain ⟨C, c0, hC⟩ := hc
  exact ⟨C * K, Rat.mul_nonneg c0 k0, fun r => Bn.mul hC (hK r)⟩
theorem Dfx.add (h : Dfx u u' d) (k : Dfx v v' e) : Dfx (fun r => u r + v r) (fun r => u' r + v' r) (fun r => d r + e r) := by
  obtain ⟨K, k0, hK⟩ := h; obtain ⟨L, l0, hL⟩ := k
  exact ⟨K + L, by grind, fun r => (hK r).add (hL r)⟩
theorem Dfx.sub (h : Dfx u u' d) (k : Dfx v v' e) : Dfx (fun r => u r - v r) (fun r => u' r - v' r) (fun r => d r - e r) := by
  obtain ⟨K, k0, hK⟩ := h; obtain ⟨L, l0, hL⟩ := k
  exact ⟨K + L, by grind, fun r => (hK r).sub (hL r)⟩
theorem Dfx.neg (h : Dfx u u' d) : Dfx (fun r => - u r) (fun r => - u' r) (fun r => - d r) := by
  obtain ⟨K, k0, hK⟩ := h
  exact ⟨K, k0, fun r => (hK r).neg⟩
theorem Dfx.const (c : Rat) : Dfx (fun _ : StR T X τ => c) (fun _ => c) (fun _ => 0) := ⟨0, by grind, fun r => Df.const c⟩
theorem Dfx.congr (h : Dfx u u' d) (h1 : ∀ r, u r = v r) (h2 : ∀ r, u' r = v' r) (h3 : ∀ r, d r = e r) : Dfx v v' e := by
  obtain ⟨K, k0, hK⟩ := h
  exact ⟨K, k0, fun r => by rw [← h1, ← h2, ← h3]; exact hK r⟩
theorem Dfx.smul (c : Rat) (h : Dfx u u' d) : Dfx (fun r => c * u r) (fun r => c * u' r) (fun r => c * d r) := by
  obtain ⟨K, k0, hK⟩ := h
  have hc : ∃ C, 0 ≤ C ∧ Bn C c := by
    by_cases h : 0 ≤ c
    · exact ⟨c, h, by unfold Bn; grind⟩
    · exact ⟨-c, by grind, by unfold Bn; grind⟩
  obtain ⟨C, c0, hC⟩ := hc
  exact ⟨C * K, Rat.mul_nonneg c0 k0, fun r => (hK r).smul c hC⟩
theorem Dfx.mul (h : Dfx u u' d) (k : Dfx v v' e) (bu' : Bdx u') (bv : Bdx v) (bd : Bdx d) (be : Bdx e) : Dfx (fun r => u r * v r) (fun r => u' r * v' r) (fun r => d r * v r + u r * e r) := by
  obtain ⟨K, k0, hK⟩ := h; obtain ⟨L, l0, hL⟩ := k
  obtain ⟨W1, w1, h1⟩ := bu'; obtain ⟨W2, w2, h2⟩ := bv; obtain ⟨W3, w3, h3⟩ := bd; obtain ⟨W4, w4, h4⟩ := be
  generalize hW : W1 + W2 + W3 + W4 = W
  have w0 : 0 ≤ W := by grind
  have n1 := Rat.mul_nonneg w0 w0
  have n2 := Rat.mul_nonneg (Rat.mul_nonneg (show (0 : Rat) ≤ 4 by grind) w0) k0
  have n3 := Rat.mul_nonneg w0 l0
  have n4 := Rat.mul_nonneg w0 k0
  exact ⟨W * W + 4 * W * K + W * L + W * K, by grind, fun r => (hK r).mul (Rat.le_of_lt r.pos) r.small (hL r) ((h1 r).mono (by grind)) ((h2 r).mono (by grind)) ((h3 r).mono (by grind)) ((h4 r).mono (by grind))⟩
theorem Dfx.sum {f f' g : Nat → StR T X τ → Rat} : ∀ {m : Nat}, (∀ i, i < m → Dfx (f i) (f' i) (g i)) → Dfx (fun r => sm (fun i => f i r) m) (fun r => sm (fun i => f' i r) m) (fun r => sm (fun i => g i r) m)
  | 0, _ => Dfx.const 0
  | m + 1, h => Dfx.add (Dfx.sum fun i hi => h i (by omega)) (h m (by omega))
theorem Bdx.sum {f : Nat → StR T X τ → Rat} : ∀ {m : Nat}, (∀ i, i < m → Bdx (f i)) → Bdx (fun r => sm (fun i => f i r) m)
  | 0, _ => ⟨0, by grind, fun r => Bn.zero (by grind)⟩
  | m + 1, h => Bdx.add (Bdx.sum fun i hi => h i (by omega)) (h m (by omega))
theorem nndiv {a b : Rat} (ha : 0 ≤ a) (hb : 0 < b) : 0 ≤ a / b := by
  rw [Rat.div_def]; exact Rat.mul_nonneg ha (Rat.le_of_lt (Rat.inv_pos.2 hb))
theorem Dfx.cancel {b b' db q q' dq : StR T X τ → Rat} {β : Rat} (hβ : 0 < β) (hb : ∀ r, Far β (b r)) (hb' : ∀ r, Far β (b' r)) (hP : Dfx (fun r => b r * q r) (fun r => b' r * q' r) (fun r => db r * q r + b r * dq r)) (hB : Dfx b b' db)
    (wb : Bdx b) (wq : Bdx q) (wdb : Bdx db) (wdq : Bdx dq) : Dfx q q' dq := by
  obtain ⟨K, k0, hK⟩ := hP; obtain ⟨L, l0, hL⟩ := hB
  obtain ⟨W1, w1, h1⟩ := wb; obtain ⟨W2, w2, h2⟩ := wq; obtain ⟨W3, w3, h3⟩ := wdb; obtain ⟨W4, w4, h4⟩ := wdq
  generalize hW : W1 + W2 + W3 + W4 = W
  have w0 : 0 ≤ W := by grind
  have n1 := Rat.mul_nonneg w0 w0
  have n2 := Rat.mul_nonneg (show (0 : Rat) ≤ 4 by grind) k0
  have n3 := Rat.mul_nonneg (Rat.mul_nonneg (show (0 : Rat) ≤ 4 by grind) w0) l0
  have n4 := Rat.mul_nonneg (show (0 : Rat) ≤ 4 by grind) l0
  have n5 := Rat.mul_nonneg w0 l0
  have n6 : 0 ≤ (W * W + 4 * K + 4 * W * L) / β := nndiv (by grind) hβ
  have n7 : 0 ≤ (W * W + 4 * K + 4 * W * L) / β * (W + 4 * L) := Rat.mul_nonneg n6 (by grind)
  exact ⟨(K + W * L + (W * W + 4 * K + 4 * W * L) / β * (W + 4 * L)) / β, nndiv (by grind) hβ, fun r => Df.cancel (Rat.le_of_lt r.pos) r.small hβ (hb r) (hb' r) (hK r) (hL r) ((h1 r).mono (by grind)) ((h2 r).mono (by grind)) ((h3 r).mono (by grind)) ((h4 r).mono (by grind))⟩
theorem Dfx.root {q q' dq : StR T X τ → Rat} {β : Rat} (hβ : 0 < β) (hb : ∀ r, β ≤ q r) (hb' : ∀ r, β ≤ q' r) (hP : Dfx (fun r => q r * q r) (fun r => q' r * q' r) (fun r => 2 * q r * dq r)) (wq : Bdx q) (wdq : Bdx dq) : Dfx q q' dq := by
  obtain ⟨K, k0, hK⟩ := hP
  obtain ⟨W1, w1, h1⟩ := wq; obtain ⟨W2, w2, h2⟩ := wdq
  generalize hW : W1 + W2 = W
  have w0 : 0 ≤ W := by grind
  have n1 := Rat.mul_nonneg w0 w0
  have n2 : 0 ≤ (2 * W * W + 4 * K) / (2 * β) := nndiv (by grind) (by grind)
  have n3 := Rat.mul_nonneg n2 n2
  exact ⟨(K + (2 * W * W + 4 * K) / (2 * β) * ((2 * W * W + 4 * K) / (2 * β))) / (2 * β), nndiv (by grind) (by grind), fun r => Df.root (Rat.le_of_lt r.pos) hβ r.small (hb r) (hb' r) (hK r) k0 ((h1 r).mono (by grind)) ((h2 r).mono (by grind))⟩
theorem Dfx.near (h : Dfx u u' d) {C : Rat} (hC : 0 ≤ C) (h1 : ∀ r, Bn (C * (r.δ * r.δ)) (v r - u r)) (h2 : ∀ r, Bn (C * (r.δ * r.δ)) (v' r - u' r)) : Dfx v v' d := by
  obtain ⟨K, k0, hK⟩ := h
  refine ⟨K + 2 * C, by grind, fun r => ?_⟩
  have h0 : Bn (K * (r.δ * r.δ)) (u' r - u r - r.δ * d r) := hK r
  have := (Bn.add h0 (h2 r)).sub (h1 r)
  unfold Df
  have e1 : K * (r.δ * r.δ) + C * (r.δ * r.δ) + C * (r.δ * r.δ) = (K + 2 * C) * (r.δ * r.δ) := by grind
  have e2 : u' r - u r - r.δ * d r + (v' r - u' r) - (v r - u r) = v' r - v r - r.δ * d r := by grind
  rwa [e1, e2] at this
end
end Go.Pl

namespace Go.Pl
theorem add_ne {a b : I} (h : add a b ≠ ent) : a ≠ ent ∧ b ≠ ent := by
  refine ⟨fun e => h ?_, fun e => h ?_⟩ <;> subst e <;> unfold add <;> simp [show entB ent = true from rfl]
theorem neg_ne {a : I} (h : neg a ≠ ent) : a ≠ ent := fun e => h (by subst e; rfl)
theorem sub_ne {a b : I} (h : sub a b ≠ ent) : a ≠ ent ∧ b ≠ ent := by
  unfold sub at h
  exact ⟨(add_ne h).1, neg_ne (add_ne h).2⟩
theorem mul_ne {a b : I} (h : mul a b ≠ ent) : a ≠ ent ∧ b ≠ ent := by
  refine ⟨fun e => h ?_, fun e => h ?_⟩ <;> subst e <;> unfold mul <;> simp [show entB ent = true from rfl]
theorem div_ne {a b : I} (h : div a b ≠ ent) : a ≠ ent ∧ b ≠ ent ∧ (0 < b.1 ∨ b.2 < 0) := by
  refine ⟨fun e => h ?_, fun e => h ?_, ?_⟩
  · subst e; unfold div; simp [show entB ent = true from rfl]
  · subst e; unfold div; simp [show entB ent = true from rfl]
  · by_cases k : 0 < b.1 ∨ b.2 < 0
    · exact k
    · exfalso
      apply h
      unfold div
      rw [if_pos]
      simp
      omega
theorem mulr_ne {a : I} {n d : Int} (h : mulr a n d ≠ ent) : a ≠ ent := fun e => h (by subst e; rfl)
theorem sumA_ne {f : Nat → I} : ∀ {m : Nat}, sumA algI f m ≠ ent → ∀ i, i < m → f i ≠ ent
  | 0, _, i, hi => by omega
  | 1, h, i, hi => by rw [show i = 0 by omega]; exact h
  | m + 2, h, i, hi => by
    have h' : add (sumA algI f (m + 1)) (f (m + 1)) ≠ ent := h
    obtain ⟨h1, h2⟩ := add_ne h'
    by_cases e : i = m + 1
    · rw [e]; exact h2
    · exact sumA_ne h1 i (by omega)
theorem convA_ne {f g : Nat → I} {frm m k : Nat} (h : convA algI f g frm m k ≠ ent) : ∀ i, frm ≤ i → i < frm + m → f i ≠ ent ∧ g (k - i) ≠ ent := fun i h1 h2 => by
  have := sumA_ne h (i - frm) (by omega)
  rw [show frm + (i - frm) = i by omega] at this
  exact mul_ne this
theorem sqrt_ent_root : rootI ent = ent := by
  unfold rootI
  rw [if_pos (by decide)]
theorem rootI_ne {a : I} (h : rootI a ≠ ent) : a ≠ ent ∧ 0 ≤ a.1 := by
  refine ⟨fun e => h (by subst e; exact sqrt_ent_root), ?_⟩
  unfold rootI at h
  split at h
  · exact absurd rfl h
  · omega
section
variable {T : Tp} {X : List I} {τ : I}
def aL (j m : Nat) (r : StR T X τ) : Rat := rL T r.p r.s r.y j m
def aL' (j m : Nat) (r : StR T X τ) : Rat := rL T r.p (r.s + r.δ) r.y' j m
def aO (i m : Nat) (r : StR T X τ) : Rat := rO T r.p r.s r.y i m
def aO' (i m : Nat) (r : StR T X τ) : Rat := rO T r.p (r.s + r.δ) r.y' i m
variable (hT : tpOk T) (hX : allV X) (hτ : vB τ = true)
include hT hX hτ in
theorem aL_in (j m : Nat) (hj : j < T.L.length) (r : StR T X τ) : InI (cL T X τ j m) (aL j m r) ∧ InI (cL T X τ j m) (aL' j m r) :=
  ⟨(in_coef hT hX hτ r.p r.hy r.hs m).2 j hj, (in_coef hT hX hτ r.p r.hy' r.hs' m).2 j hj⟩
theorem InI_bn {c : I} (hc : c ≠ ent) : ∃ W, 0 ≤ W ∧ ∀ x, InI c x → Bn W x := by
  have w0 : (0 : Int) ≤ max (max c.1 (-c.1)) (max c.2 (-c.2)) := by omega
  have w1 : -(max (max c.1 (-c.1)) (max c.2 (-c.2))) ≤ c.1 := by omega
  have w2 : c.2 ≤ max (max c.1 (-c.1)) (max c.2 (-c.2)) := by omega
  generalize max (max c.1 (-c.1)) (max c.2 (-c.2)) = W at *
  have r0 : (0 : Rat) ≤ (W : Rat) := Rat.intCast_nonneg.2 w0
  have r1 : -(W : Rat) ≤ (c.1 : Rat) := by
    have := Rat.intCast_le_intCast.2 w1
    rwa [Rat.intCast_neg] at this
  have r2 : (c.2 : Rat) ≤ (W : Rat) := Rat.intCast_le_intCast.2 w2
  refine ⟨(W : Rat), r0, fun x hx => ?_⟩
  rcases hx with hx | ⟨h1, h2⟩
  · exact absurd hx hc
  · unfold Bn
    constructor <;> grind
include hT hX hτ in
theorem aL_bd (j m : Nat) (hj : j < T.L.length) (hc : cL T X τ j m ≠ ent) : Bdx (T := T) (X := X) (τ := τ) (aL j m) ∧ Bdx (T := T) (X := X) (τ := τ) (aL' j m) := by
  obtain ⟨W, w0, hW⟩ := InI_bn hc
  exact ⟨⟨W, w0, fun r => hW _ (aL_in hT hX hτ j m hj r).1⟩, ⟨W, w0, fun r => hW _ (aL_in hT hX hτ j m hj r).2⟩⟩
theorem dO_step {i o m : Nat} (ho : T.out[i]? = some o) (h : Dfx (T := T) (X := X) (τ := τ) (aL o m) (aL' o m) (fun r => ((m + 1 : Nat) : Rat) * aL o (m + 1) r)) :
    Dfx (T := T) (X := X) (τ := τ) (aO i (m + 1)) (aO' i (m + 1)) (fun r => ((m + 1 + 1 : Nat) : Rat) * aO i (m + 1 + 1) r) := by
  have m1 : ((m + 1 : Nat) : Rat) ≠ 0 := by
    have : (0 : Rat) < ((m + 1 : Nat) : Rat) := by rw [← Rat.intCast_natCast]; exact Rat.intCast_pos.2 (by omega)
    grind
  have m2 : ((m + 1 + 1 : Nat) : Rat) ≠ 0 := by
    have : (0 : Rat) < ((m + 1 + 1 : Nat) : Rat) := by rw [← Rat.intCast_natCast]; exact Rat.intCast_pos.2 (by omega)
    grind
  refine (Dfx.smul (1 / ((m + 1 : Nat) : Rat)) h).congr (fun r => ?_) (fun r => ?_) (fun r => ?_)
  · show _ = rO T r.p r.s r.y i (m + 1)
    rw [rO_succ ho]
    show 1 / ((m + 1 : Nat) : Rat) * rL T r.p r.s r.y o m = _
    grind
  · show _ = rO T r.p (r.s + r.δ) r.y' i (m + 1)
    rw [rO_succ ho]
    show 1 / ((m + 1 : Nat) : Rat) * rL T r.p (r.s + r.δ) r.y' o m = _
    grind
  · show _ = ((m + 1 + 1 : Nat) : Rat) * rO T r.p r.s r.y i (m + 1 + 1)
    rw [rO_succ ho]
    show 1 / ((m + 1 : Nat) : Rat) * (((m + 1 : Nat) : Rat) * rL T r.p r.s r.y o (m + 1)) = _
    grind
theorem dO_zero {i o : Nat} (ho : T.out[i]? = some o) : Dfx (T := T) (X := X) (τ := τ) (aO i 0) (aO' i 0) (fun r => ((0 + 1 : Nat) : Rat) * aO i (0 + 1) r) := by
  refine ⟨0, by grind, fun r => ?_⟩
  show Df 0 r.δ (r.y i) (r.y' i) (((0 + 1 : Nat) : Rat) * rO T r.p r.s r.y i (0 + 1))
  rw [rO_succ ho, r.euler i o ho]
  have e4 : ((0 + 1 : Nat) : Rat) = 1 := rfl
  rw [e4]
  unfold Df Bn
  constructor <;> grind
theorem convA_cv (p : Nat) (a b : Nat → Rat) (m : Nat) : convA (algR p) a b 0 (m + 1) m = cv a b m := by
  unfold convA
  rw [sumA_sm]
  refine sm_congr fun i hi => ?_
  rw [Nat.zero_add]
  rfl
theorem Dfx.conv {f f' g g' : Nat → StR T X τ → Rat} {m : Nat} (hf : ∀ i, i ≤ m → Dfx (f i) (f' i) (fun r => ((i + 1 : Nat) : Rat) * f (i + 1) r)) (hg : ∀ i, i ≤ m → Dfx (g i) (g' i) (fun r => ((i + 1 : Nat) : Rat) * g (i + 1) r))
    (bf : ∀ i, i ≤ m + 1 → Bdx (f i)) (bf' : ∀ i, i ≤ m → Bdx (f' i)) (bg : ∀ i, i ≤ m + 1 → Bdx (g i)) :
    Dfx (fun r => cv (fun i => f i r) (fun i => g i r) m) (fun r => cv (fun i => f' i r) (fun i => g' i r) m) (fun r => ((m + 1 : Nat) : Rat) * cv (fun i => f i r) (fun i => g i r) (m + 1)) := by
  have h := Dfx.sum (m := m + 1) (fun i (hi : i < m + 1) => Dfx.mul (hf i (by omega)) (hg (m - i) (by omega)) (bf' i (by omega)) (bg (m - i) (by omega)) (Bdx.smul _ (bf (i + 1) (by omega))) (Bdx.smul _ (bg (m - i + 1) (by omega))))
  refine h.congr (fun r => rfl) (fun r => rfl) (fun r => ?_)
  rw [← conv_der]
theorem Dfx.tail {f f' g g' : Nat → StR T X τ → Rat} {m : Nat} (hf : ∀ i, 1 ≤ i → i ≤ m → Dfx (f i) (f' i) (fun r => ((i + 1 : Nat) : Rat) * f (i + 1) r)) (hg : ∀ i, i < m → Dfx (g i) (g' i) (fun r => ((i + 1 : Nat) : Rat) * g (i + 1) r))
    (bf : ∀ i, 1 ≤ i → i ≤ m + 1 → Bdx (f i)) (bf' : ∀ i, 1 ≤ i → i ≤ m → Bdx (f' i)) (bg : ∀ i, i ≤ m → Bdx (g i)) :
    Dfx (fun r => sm (fun i => f (1 + i) r * g (m - (1 + i)) r) m) (fun r => sm (fun i => f' (1 + i) r * g' (m - (1 + i)) r) m)
      (fun r => ((m + 1 : Nat) : Rat) * cv (fun i => f i r) (fun i => g i r) (m + 1) - (((0 + 1 : Nat) : Rat) * f (0 + 1) r * g m r + f 0 r * (((m + 1 : Nat) : Rat) * g (m + 1) r))) := by
  have h := Dfx.sum (m := m) (fun i (hi : i < m) => Dfx.mul (hf (1 + i) (by omega) (by omega)) (hg (m - (1 + i)) (by omega)) (bf' (1 + i) (by omega) (by omega)) (bg (m - (1 + i)) (by omega)) (Bdx.smul _ (bf (1 + i + 1) (by omega) (by omega))) (Bdx.smul _ (bg (m - (1 + i) + 1) (by omega))))
  refine h.congr (fun r => rfl) (fun r => rfl) (fun r => ?_)
  rw [← conv_der, sm_shift]
  have e : ∀ a b c : Rat, a = b → a = c + b - c := by intro a b c h; grind
  refine e _ _ _ (sm_congr fun i hi => ?_)
  rw [show 1 + i = i + 1 by omega]
end
end Go.Pl
