/- FhistFloats: the part that this text bears of the proof that the statement answers true for every input. No condition. -/
import Derived.Test.YtfbjjbbhnmoolaaProg
import Derived.Below
import Derived.Deep.Draws
import Derived.Deep.AppendLies
import Derived.Maps.AppendAt
import Derived.OwnWalk
import Derived.Laws.BytesArg
import Derived.Laws.MakeOwn
import Derived.Laws.OwnMore
import Derived.Deep.OwnRows
import Derived.Tactics
import Derived.Lib.ConvBytes
import Derived.Laws.Slices
import Derived.WalkKit
import Derived.KernelRfl
import Derived.RowKit3
import Derived.Deep.LoopGhost
import Derived.Deep.QuietTactic
import Derived.BigQuiet
import Derived.WideLaws
import Derived.Deep.DeepCutAuto
import Derived.Deep.CutBlock
import Derived.Deep.RegionHeld3
import Derived.Laws.Rows
import Derived.Lib.AppendStr
import Derived.ArgAppend
import Derived.Laws.IdiomCopy
import Derived.OrdersHeld
import Derived.Laws.BitsLemmas
import Derived.RowKit
import Derived.Deep.Slices
import Derived.ChangeArms
import Derived.Shelf.Abstract
import Derived.WalkSpells
import Derived.RangeFuncNested
import Derived.RangeFuncBound
import Derived.RangeFuncCalls
import Derived.RangeFuncLeaves
import Derived.RangeFuncBox
import Derived.OwnWalkIn
import Derived.TacticsInMore
import Derived.LoopNIn
import Derived.LoopIn
import Derived.RegionIn
import Derived.Sort.QuietTacIn
import Derived.Deep.RegionWith
import Derived.ChangeKeysEq
import Derived.Great.Frames
import Derived.Laws.Externs
import Derived.Laws.FloatArith
import Derived.ProofKit
import Derived.JoinedOf
import Derived.OpenShut
import Derived.ShutString
import Derived.ChangeOld
import Derived.SizedLaws
import Derived.JoinedTies
import Derived.Laws.BitsAllLaws
import Derived.Laws.StructEq
import Derived.Shelf.Spec.BitsCarry
import Derived.Test.YtfbjjbbhnmoolaaChecked
import GoSem.Claim
import GoSem.ClaimJoined
import GoSem.ClaimMapViews
import Derived.Test.YtfbjjbbhnmoolaaQFhistFloatsWWords
import Derived.Test.YtfbjjbbhnmoolaaQFhistFloatsWLast
import Derived.Test.YtfbjjbbhnmoolaaQFhistFloatsWTab
import Derived.Test.YtfbjjbbhnmoolaaQFhistFloatsWFour
import Derived.Test.YtfbjjbbhnmoolaaQFhistFloatsWQPut
import Derived.Test.YtfbjjbbhnmoolaaQFhistFloatsWApart
import Derived.Test.YtfbjjbbhnmoolaaQFhistFloatsWArr
import Derived.Test.YtfbjjbbhnmoolaaQFhistFloatsWZeros
import Derived.Test.YtfbjjbbhnmoolaaQFhistFloatsWFoot
import Derived.Test.YtfbjjbbhnmoolaaQFhistFloatsWKept
import Derived.Test.YtfbjjbbhnmoolaaQFhistFloatsWShare
import Derived.Test.YtfbjjbbhnmoolaaQFhistFloatsWN
import Derived.Test.YtfbjjbbhnmoolaaQFhistFloatsWFootNe
import Derived.Test.YtfbjjbbhnmoolaaQFhistFloatsWAt
import Derived.Test.YtfbjjbbhnmoolaaQFhistFloatsWEqStruct
import Derived.Test.YtfbjjbbhnmoolaaQFhistFloatsWRepsOne
import Derived.Test.YtfbjjbbhnmoolaaQFhistFloatsWInv
import Derived.Test.YtfbjjbbhnmoolaaQFhistFloatsWInvWords
import Derived.Test.YtfbjjbbhnmoolaaQFhistFloatsWGuard
import Derived.Test.YtfbjjbbhnmoolaaQFhistFloatsWNEv
import Derived.Test.YtfbjjbbhnmoolaaQFhistFloatsWMore
import Derived.Test.YtfbjjbbhnmoolaaRows
import Derived.Test.YtfbjjbbhnmoolaaQFhistFloats0
import Derived.Test.YtfbjjbbhnmoolaaQFhistFloats1
import Derived.Test.YtfbjjbbhnmoolaaQFhistFloats2
set_option linter.unusedVariables false
set_option linter.unusedSimpArgs false
namespace Go.Proofs.Ytfbjjbbhnmoolaa.P
open Go.RowKit Go.Shelf Go.Proofs.YtfbjjbbhnmoolaaW.PrintWords Go.Proofs.YtfbjjbbhnmoolaaW.PrintLast Go.Proofs.YtfbjjbbhnmoolaaW.PrintMore
theorem uwrap {x : Int} (h0 : 0 ≤ x) (h1 : x < 18446744073709551616) : IntKind.u64.wrap x = x := by
  show x % 18446744073709551616 = x
  omega
theorem shl_nat (m : Nat) (h : m ≤ 63) : shl .u64 1 (m : Int) = ((2 ^ m : Nat) : Int) := by
  show IntKind.u64.wrap (1 * 2 ^ min (m : Int).toNat 64) = _
  rw [Int.toNat_natCast, Nat.min_eq_left (by omega), Int.one_mul]
  have h1 : 2 ^ m ≤ 9223372036854775808 := Nat.pow_le_pow_right (n := 2) (by decide) h
  have e : (2 : Int) ^ m = ((2 ^ m : Nat) : Int) := by simp
  rw [e]
  clear e
  generalize 2 ^ m = q at *
  exact uwrap (by omega) (by omega)
theorem shr_nat (n m : Nat) (h : m ≤ 64) : shr .u64 (n : Int) (m : Int) = ((n / 2 ^ m : Nat) : Int) := by
  show (n : Int) / 2 ^ min (m : Int).toNat 64 = _
  rw [Int.toNat_natCast, Nat.min_eq_left h]
  simp
theorem tdiv_nat (a b : Nat) : Int.tdiv (a : Int) (b : Int) = ((a / b : Nat) : Int) := by
  rw [Int.tdiv_eq_ediv_of_nonneg (by omega)]; simp
theorem tmod_nat (a b : Nat) : Int.tmod (a : Int) (b : Int) = ((a % b : Nat) : Int) := by
  rw [Int.tmod_eq_emod_of_nonneg (by omega)]; simp
theorem refFloat_loop {n : Nat} (h0 : n ≠ 0) (hn : n < 18446744073709551616) : ∀ (d k j : Nat), n.log2 - j = d → d < k → j ≤ n.log2 → tidepoleref10_Float.l0 k (n : Int) (j : Int) = some ((fltR n : Nat) : Int) := by
  obtain ⟨b1, b2⟩ := log2_bounds h0
  have b3 := log2_lt64 h0 hn
  intro d
  induction d with
  | zero =>
    intro k j hd hk hj
    obtain ⟨k, rfl⟩ : ∃ m, k = m + 1 := ⟨k - 1, by omega⟩
    have ej : j = n.log2 := by omega
    have hf := frac_bounds h0
    have hfl : fltR n = if n.log2 ≤ 52 then (1022 + n.log2) * 4503599627370496 + n * 2 ^ (52 - n.log2) else (1022 + n.log2) * 4503599627370496 + rnd n (n.log2 - 52) := by unfold fltR; rw [if_neg h0]
    rw [← ej] at b1 b2 b3 hf hfl
    have hq : n / 2 ^ j = 1 := by
      have hp := Nat.two_pow_pos j
      have c1 : 1 ≤ n / 2 ^ j := (Nat.le_div_iff_mul_le hp).2 (by omega)
      have c2 : n / 2 ^ j < 2 := (Nat.div_lt_iff_lt_mul hp).2 (by rw [Nat.pow_succ] at b2; omega)
      omega
    rw [tidepoleref10_Float.l0, if_pos (by omega), shr_nat n j (by omega), hq, if_neg (by decide)]
    by_cases c : j ≤ 52
    · rw [if_pos c] at hf hfl
      rw [if_pos (by omega), uwrap (x := 52 - (j : Int)) (by omega) (by omega), if_pos (by omega), show (52 - (j : Int)) = ((52 - j : Nat) : Int) by omega, shl_nat _ (by omega)]
      rw [show (n : Int) * ((2 ^ (52 - j) : Nat) : Int) = ((n * 2 ^ (52 - j) : Nat) : Int) by simp]
      generalize n * 2 ^ (52 - j) = g at *
      rw [uwrap (x := 1023 + (j : Int)) (by omega) (by omega), uwrap (x := (1023 + (j : Int)) * 4503599627370496) (by omega) (by omega), uwrap (x := (g : Int)) (by omega) (by omega), uwrap (x := (g : Int) - 4503599627370496) (by omega) (by omega), uwrap (by omega) (by omega), hfl]
      congr 1
      omega
    · rw [if_neg c] at hf hfl
      rw [if_neg (by omega), uwrap (x := (j : Int) - 52) (by omega) (by omega), if_pos (by omega), show ((j : Int) - 52) = ((j - 52 : Nat) : Int) by omega, shl_nat _ (by omega)]
      have hp := Nat.two_pow_pos (j - 52)
      obtain ⟨d, hd⟩ : ∃ d, j - 52 = d + 1 := ⟨j - 53, by omega⟩
      have hhalf : 2 ^ (j - 52) = 2 * 2 ^ d := by rw [hd, Nat.pow_succ]; omega
      have hlow : 2 ^ (j - 52) ≤ 2 ^ 11 := Nat.pow_le_pow_right (by decide) (by omega)
      unfold rnd at hf hfl
      generalize 2 ^ (j - 52) = g at *
      generalize 2 ^ d = hh at *
      have hr := Nat.mod_lt n hp
      have hqe := Nat.div_add_mod n g
      have hqle : n / g ≤ n := Nat.div_le_self _ _
      rw [if_neg (by omega), tmod_nat, tdiv_nat, show Int.tdiv (g : Int) 2 = ((g / 2 : Nat) : Int) from tdiv_nat g 2]
      generalize n % g = r at *
      generalize n / g = q at *
      have hg2 : g / 2 = hh := by omega
      rw [hg2, uwrap (x := (hh : Int)) (by omega) (by omega), uwrap (x := (q : Int)) (by omega) (by omega), uwrap (x := 1023 + (j : Int)) (by omega) (by omega), uwrap (x := (1023 + (j : Int)) * 4503599627370496) (by omega) (by omega)]
      rw [show Int.tmod (q : Int) 2 = ((q % 2 : Nat) : Int) from tmod_nat q 2]
      by_cases c1 : hh < r
      · rw [if_pos (by omega)] at hf hfl
        rw [if_pos (by omega), uwrap (x := (q : Int) + 1) (by omega) (by omega), uwrap (x := (q : Int) + 1 - 4503599627370496) (by omega) (by omega), uwrap (by omega) (by omega), hfl]
        congr 1; omega
      · rw [if_neg (by omega)]
        by_cases c2 : r = hh
        · rw [if_pos (by omega)]
          by_cases c3 : q % 2 = 1
          · rw [if_pos (by omega)] at hf hfl
            rw [if_pos (by omega), uwrap (x := (q : Int) + 1) (by omega) (by omega), uwrap (x := (q : Int) + 1 - 4503599627370496) (by omega) (by omega), uwrap (by omega) (by omega), hfl]
            congr 1; omega
          · rw [if_neg (by omega)] at hf hfl
            rw [if_neg (by omega), uwrap (x := (q : Int) - 4503599627370496) (by omega) (by omega), uwrap (by omega) (by omega), hfl]
            congr 1; omega
        · rw [if_neg (by omega)] at hf hfl
          rw [if_neg (by omega), uwrap (x := (q : Int) - 4503599627370496) (by omega) (by omega), uwrap (by omega) (by omega), hfl]
          congr 1; omega
  | succ d ih =>
    intro k j hd hk hj
    obtain ⟨k, rfl⟩ : ∃ m, k = m + 1 := ⟨k - 1, by omega⟩
    have hlt : j < n.log2 := by omega
    have hq : 2 ≤ n / 2 ^ j := by
      refine (Nat.le_div_iff_mul_le (Nat.two_pow_pos j)).2 ?_
      have : 2 ^ (j + 1) ≤ 2 ^ n.log2 := Nat.pow_le_pow_right (by decide) hlt
      rw [Nat.pow_succ] at this
      omega
    rw [tidepoleref10_Float.l0, if_pos (by omega), shr_nat n j (by omega), if_pos (by omega), uwrap (x := (j : Int) + 1) (by omega) (by omega)]
    exact ih k (j + 1) (by omega) (by omega) (by omega)
theorem refFloat_eq (v : Int) (h : u64 v) (k : Nat) (hk : 70 ≤ k) : tidepoleref10_Float.f k v = some ((fltR v.toNat : Nat) : Int) := by
  obtain ⟨n, rfl⟩ : ∃ n : Nat, v = n := ⟨v.toNat, by have := h.1; omega⟩
  have hn : n < 18446744073709551616 := by have := h.2; omega
  rw [Int.toNat_natCast]
  unfold tidepoleref10_Float.f
  by_cases c : n = 0
  · subst c; rfl
  · have := log2_lt64 c hn
    rw [if_neg (by omega)]
    exact refFloat_loop c hn n.log2 k 0 (by omega) (by omega) (by omega)
theorem refWhole_l1 (e : Nat) (he : e ≤ 1086) : ∀ (d k m : Nat), d ≤ e → m * 2 ^ d < 18446744073709551616 → d < k → tidepoleref10_Whole.l1 k (e : Int) (m : Int) ((e - d : Nat) : Int) = some (((m * 2 ^ d : Nat) : Int), 1) := by
  intro d
  induction d with
  | zero =>
    intro k m hd hm hk
    obtain ⟨k, rfl⟩ : ∃ m, k = m + 1 := ⟨k - 1, by omega⟩
    rw [tidepoleref10_Whole.l1, if_neg (by omega)]
    simp
  | succ d ih =>
    intro k m hd hm hk
    obtain ⟨k, rfl⟩ : ∃ m, k = m + 1 := ⟨k - 1, by omega⟩
    have e1 : m * 2 ^ (d + 1) = m * 2 * 2 ^ d := by rw [Nat.pow_succ, Nat.mul_assoc, Nat.mul_comm 2]
    have hp := Nat.two_pow_pos d
    have hm2 : m * 2 ≤ m * 2 * 2 ^ d := Nat.le_mul_of_pos_right _ hp
    rw [tidepoleref10_Whole.l1, if_pos (by omega), uwrap (x := (m : Int) * 2) (by omega) (by omega), uwrap (x := ((e - (d + 1) : Nat) : Int) + 1) (by omega) (by omega)]
    rw [show (m : Int) * 2 = ((m * 2 : Nat) : Int) by simp, show ((e - (d + 1) : Nat) : Int) + 1 = ((e - d : Nat) : Int) by omega, e1]
    exact ih k (m * 2) (by omega) (by omega) (by omega)
theorem refWhole_l0 (e : Nat) (he : e ≤ 1075) : ∀ (d k m : Nat), e + d ≤ 1075 → m < 18446744073709551616 → d + 1 < k → tidepoleref10_Whole.l0 k (e : Int) (m : Int) ((e + d : Nat) : Int) = if m % 2 ^ d = 0 then some (((m / 2 ^ d : Nat) : Int), 1) else some (0, 0) := by
  intro d
  induction d with
  | zero =>
    intro k m hed hm hk
    obtain ⟨k, rfl⟩ : ∃ m, k = m + 1 + 1 := ⟨k - 2, by omega⟩
    rw [tidepoleref10_Whole.l0, if_neg (by omega), tidepoleref10_Whole.l1, if_neg (by omega), if_pos (by simp [Nat.mod_one])]
    simp
  | succ d ih =>
    intro k m hed hm hk
    obtain ⟨k, rfl⟩ : ∃ m, k = m + 1 := ⟨k - 1, by omega⟩
    rw [tidepoleref10_Whole.l0, if_pos (by omega), show Int.tmod (m : Int) 2 = ((m % 2 : Nat) : Int) from tmod_nat m 2, show Int.tdiv (m : Int) 2 = ((m / 2 : Nat) : Int) from tdiv_nat m 2]
    have e1 : m / 2 ^ (d + 1) = m / 2 / 2 ^ d := by rw [Nat.div_div_eq_div_mul, Nat.pow_succ, Nat.mul_comm]
    have e2 : m % 2 ^ (d + 1) = m % 2 + 2 * (m / 2 % 2 ^ d) := by rw [Nat.pow_succ, Nat.mul_comm, Nat.mod_mul]
    by_cases c : m % 2 = 1
    · rw [if_pos (by omega), if_neg (by omega)]
    · rw [if_neg (by omega), uwrap (x := ((m / 2 : Nat) : Int)) (by omega) (by omega), uwrap (x := ((e + (d + 1) : Nat) : Int) - 1) (by omega) (by omega), show ((e + (d + 1) : Nat) : Int) - 1 = ((e + d : Nat) : Int) by omega, ih k (m / 2) (by omega) (by omega) (by omega), e1, e2]
      by_cases c3 : m / 2 % 2 ^ d = 0
      · rw [if_pos c3, if_pos (by omega)]
      · rw [if_neg c3, if_neg (by omega)]
theorem refWhole_eq (v : Int) (h : u64 v) (k : Nat) (hk : 1200 ≤ k) : tidepoleref10_Whole.f k v = some ((wholeI v).1, if (wholeI v).2 = true then 1 else 0) := by
  obtain ⟨n, rfl⟩ : ∃ n : Nat, v = n := ⟨v.toNat, by have := h.1; omega⟩
  have hn : n < 18446744073709551616 := by have := h.2; omega
  unfold tidepoleref10_Whole.f wholeI
  rw [Int.toNat_natCast]
  unfold wholeN
  by_cases c0 : n = 0
  · subst c0
    rw [if_pos (show ((0 : Nat) : Int) = 0 from rfl), if_pos rfl]
    rfl
  obtain ⟨k, rfl⟩ : ∃ m, k = m + 1 := ⟨k - 1, by omega⟩
  rw [if_neg (by omega), if_neg c0, show Int.tdiv (n : Int) 4503599627370496 = ((n / 4503599627370496 : Nat) : Int) from tdiv_nat n 4503599627370496, show Int.tmod (n : Int) 4503599627370496 = ((n % 4503599627370496 : Nat) : Int) from tmod_nat n 4503599627370496]
  have hm := Nat.mod_lt n (show 0 < 4503599627370496 by decide)
  have hle : n / 4503599627370496 ≤ n := Nat.div_le_self _ _
  generalize n / 4503599627370496 = e at *
  generalize n % 4503599627370496 = r at *
  rw [uwrap (x := (e : Int)) (by omega) (by omega), uwrap (x := (r : Int) + 4503599627370496) (by omega) (by omega)]
  rw [show (r : Int) + 4503599627370496 = ((r + 4503599627370496 : Nat) : Int) by omega]
  by_cases c1 : e < 1023
  · rw [if_pos (by omega), tidepoleref10_Whole.j0, if_pos rfl, if_pos (Or.inl c1)]; rfl
  rw [if_neg (by omega), tidepoleref10_Whole.j0]
  by_cases c2 : 1086 < e
  · rw [if_pos (by simp; omega), if_pos (Or.inr c2)]; rfl
  rw [if_neg (by simp; omega), if_neg (by omega)]
  by_cases c3 : e ≤ 1075
  · rw [if_pos c3]
    have := refWhole_l0 e c3 (1075 - e) k (r + 4503599627370496) (by omega) (by omega) (by omega)
    rw [show ((e + (1075 - e) : Nat) : Int) = 1075 by omega] at this
    rw [this]
    by_cases c4 : (r + 4503599627370496) % 2 ^ (1075 - e) = 0
    · rw [if_pos c4, if_pos c4]; rfl
    · rw [if_neg c4, if_neg c4]; rfl
  · rw [if_neg c3]
    obtain ⟨k, rfl⟩ : ∃ m, k = m + 1 := ⟨k - 1, by omega⟩
    rw [tidepoleref10_Whole.l0, if_neg (by omega)]
    have hb : (r + 4503599627370496) * 2 ^ (e - 1075) < 18446744073709551616 := by
      have h1 : 2 ^ (e - 1075) ≤ 2 ^ 11 := Nat.pow_le_pow_right (by decide) (by omega)
      have h2 := Nat.mul_le_mul_left (r + 4503599627370496) h1
      omega
    have := refWhole_l1 e (by omega) (e - 1075) k (r + 4503599627370496) (by omega) hb (by omega)
    rw [show ((e - (e - 1075) : Nat) : Int) = 1075 by omega] at this
    rw [this]; rfl
theorem float_near (v : Int) (h : u64 v) : ((FloatKind.f64.nearest v : Nat) : Int) = ((fltR v.toNat : Nat) : Int) := by
  obtain ⟨n, rfl⟩ : ∃ n : Nat, v = n := ⟨v.toNat, by have := h.1; omega⟩
  rw [Int.toNat_natCast, nearest_eq (by have := h.2; omega)]
theorem fhistFloats_f (a b v : Int) (ha : u64 a) (hb : u64 b) (hv : u64 v) : ∃ k, tidepolelaw10_FhistFloats.f k a b v = some true := by
  refine ⟨1300, ?_⟩
  have hwu : u64 (wholeI v).1 ∧ ((wholeI v).2 = true → ((fltR (wholeI v).1.toNat : Nat) : Int) = v) := by
    obtain ⟨n, rfl⟩ : ∃ n : Nat, v = n := ⟨v.toNat, by have := hv.1; omega⟩
    unfold wholeI
    rw [Int.toNat_natCast]
    by_cases c : (wholeN n).2 = true
    · obtain ⟨e1, e2⟩ := wholeN_flt c
      refine ⟨⟨by simp only; omega, by simp only; omega⟩, fun _ => ?_⟩
      simp only [Int.toNat_natCast]
      rw [e1]
    · refine ⟨?_, fun h => absurd h c⟩
      have : (wholeN n).1 = 0 := by
        unfold wholeN at c ⊢
        split at c
        · exact absurd rfl c
        · rename_i c0
          rw [if_neg c0]
          split at c
          · rename_i c1; rw [if_pos c1]
          · rename_i c1
            rw [if_neg c1]
            split at c
            · rename_i c2
              rw [if_pos c2]
              split at c
              · exact absurd rfl c
              · rename_i c3; rw [if_neg c3]
            · exact absurd rfl c
      simp only [this]
      exact ⟨by decide, by decide⟩
  have hj : tidepolelaw10_FhistFloats.j0 1300 a b false = some true := by
    unfold tidepolelaw10_FhistFloats.j0
    have hmn : u64 (mn a b) := by unfold mn; split <;> assumption
    have hmx : u64 (mx a b) := by unfold mx; split <;> assumption
    have hle : (mn a b).toNat ≤ (mx a b).toNat := by unfold mn mx; have := ha.1; have := hb.1; split <;> split <;> omega
    have hfm := fltR_mono hle
    simp only [fhist_Float.f, refFloat_eq a ha _ (show 70 ≤ 1299 by decide), Option.bind_some, float_near a ha, float_near _ hmn, float_near _ hmx]
    rw [if_neg (by decide), if_pos trivial, if_pos (by omega)]
    rfl
  unfold tidepolelaw10_FhistFloats.f
  rw [show fhist_Whole.f v = some (wholeI v) from if_pos hv.1, refWhole_eq v hv _ (by decide)]
  simp only [Option.bind_some, fhist_Float.f]
  cases h2 : (wholeI v).2 with
  | false => simp [h2, hj]
  | true =>
    have := hwu.2 h2
    rw [float_near _ hwu.1, this]
    simp [h2, hj]
end Go.Proofs.Ytfbjjbbhnmoolaa.P
namespace Go.Proofs.Ytfbjjbbhnmoolaa.Pure
open Go.RowKit Go.Proofs.Ytfbjjbbhnmoolaa.P Go.Proofs.YtfbjjbbhnmoolaaW.PrintWords
theorem FhistFloats : ∀ (x0 x1 x2 : Int), (inI .u64) x0 → (inI .u64) x1 → (inI .u64) x2 → ∃ k, tidepolelaw10_FhistFloats.f k x0 x1 x2 = some true := fun _ _ _ h0 h1 h2 => fhistFloats_f _ _ _ (u64_of h0) (u64_of h1) (u64_of h2)
end Go.Proofs.Ytfbjjbbhnmoolaa.Pure
namespace Go.Proofs.Ytfbjjbbhnmoolaa.fhistFloats
open Go.ChangeShapes Go.WideShapes Go.ChangeAt Go.RowKit Go.Proofs.Ytfbjjbbhnmoolaa.P Go.Proofs.YtfbjjbbhnmoolaaW.PrintWords
theorem own : ownKnob Try.prog.godebug = none := by kernel_rfl
theorem laidOut : laidOutB Try.prog = true := by kernel_rfl
set_option maxRecDepth 100000 in
set_option maxHeartbeats 4000000 in
theorem lifted (os : Os) (started : os.Started) (H : Type) (enc : TypeId × Value → H) :
    ReturnsInHanded {} Try.checked os 6 .any (Rows.fhistFloatsSpec.pre6 enc Try.prog Try.f6 Rows.fhistFloatsRow.domain false) (Rows.fhistFloatsSpec.post enc Try.prog Try.f6 false true false false) := by
  refine returnsInHanded_of_change_sized (C := Try.checked) own started (by kernel_rfl) Try.func6
    (ChangeSpec.witness6 (enc := enc) (C := Try.checked) false ⟨#[], #[.int .u64 0, .int .u64 0, .int .u64 0], []⟩ 8 (by kernel_rfl) (by kernel_rfl) (by kernel_rfl) (by kernel_rfl)) ?_
  intro W base args ds gs before hval0 hW hcnd hsz0 _
  have hval : ∀ (j : Nat) t v, Try.f6.params[j]? = some t → args[j]? = some v → Value.okWide Try.prog W .any base t v := hval0
  have hW' := hW
  obtain ⟨p, q, hA0, hV, rfl, hfz, hnd⟩ := hW
  have hA : DataW.TrodAll enc Try.prog W 0 (fun _ => true) true Try.f6.params.toList args.toList ds p := hA0
  rw [Try.params6] at hA hval
  obtain ⟨v0, vs0, d0, ds0, p0, q0, hargs, rfl, rfl, h0, r0⟩ := trodAll_cons hA
  obtain ⟨v1, vs1, d1, ds1, p1, q1, rfl, rfl, rfl, h1, r1⟩ := trodAll_cons r0
  obtain ⟨v2, vs2, d2, ds2, p2, q2, rfl, rfl, rfl, h2, r2⟩ := trodAll_cons r1
  obtain ⟨rfl, rfl, rfl⟩ := trodAll_nil r2
  obtain rfl : args = #[v0, v1, v2] := by cases args; simp_all
  obtain ⟨rfl, rfl⟩ := trodVars_none hV
  obtain ⟨a0, rfl, rfl, rfl, w0⟩ := open_int Try.underlying22 (hval 0 22 v0 rfl rfl) h0
  obtain ⟨a1, rfl, rfl, rfl, w1⟩ := open_int Try.underlying22 (hval 1 22 v1 rfl rfl) h1
  obtain ⟨a2, rfl, rfl, rfl, w2⟩ := open_int Try.underlying22 (hval 2 22 v2 rfl rfl) h2
  clear hA0 hval0 hsz0
  obtain ⟨k, hk⟩ := Pure.FhistFloats a0 a1 a2 w0 w1 w2
  refine (P.tidepolelaw10_FhistFloats.calls k a0 a1 a2 true W  hk).mono fun e W' ⟨he, bel⟩ => ?_
  subst he
  exact ⟨_, rfl, _, _, _, [], _, [], hW', trodAll_mk1 (shut_bool Try.underlying4 _), (trodAll_cons_mk (shut_int Try.underlying22 w0) (trodAll_cons_mk (shut_int Try.underlying22 w1) (trodAll_cons_mk (shut_int Try.underlying22 w2) trodAll_mk0))), rfl, bel.frame _, fun h => by cases h⟩
theorem cf0 : (Rows.fhistFloatsRow.wf (OpenSpec.ofChange Rows.fhistFloatsSpec)) = true := by kernel_rfl
theorem cf1 : (laidOutB Try.prog) = true := P.head_laidOut
theorem cf2 : (mapsRowed Try.prog) = true := P.head_mapsRowed
theorem cf3 : (Try.f6.params.all (Try.prog.readableRec ·)) = true := by kernel_rfl
theorem cf4 : (namedTie Try.prog Rows.fhistFloatsRow.named Rows.fhistFloatsSpec.vars) = true := by kernel_rfl
theorem cf5 : ((Rows.fhistFloatsRow.stops == [])) = true := by kernel_rfl
theorem cf6 : ((Try.prog.stops == [])) = true := P.head_stops
theorem cf7 : ((Rows.fhistFloatsRow.knobs == [])) = true := by kernel_rfl
theorem cf8 : ((Try.prog.stopKnobs == [])) = true := P.head_stopKnobs
theorem cf9 : ((Rows.fhistFloatsRow.inPlace == Try.prog.inPlace 6)) = true := by kernel_rfl
theorem cf10 : ((Rows.fhistFloatsRow.unfollowed == Try.prog.unfollowed 6)) = true := by kernel_rfl
theorem cf11 : ((Rows.fhistFloatsRow.recurses == Try.prog.recurses 6)) = true := by kernel_rfl
theorem cf12 : ((Rows.fhistFloatsRow.named == Try.prog.varsNamed 6)) = true := by kernel_rfl
theorem cf13 : ((Rows.fhistFloatsRow.maps == (Try.f6.params.toList ++ Rows.fhistFloatsSpec.plain.varTypes Try.prog).any (Try.prog.mapsRec ·))) = true := by kernel_rfl
theorem cf14 : ((Rows.fhistFloatsRow.ifaces == (Try.f6.params.toList ++ Rows.fhistFloatsSpec.plain.varTypes Try.prog).any (Try.prog.ifacesRec ·))) = true := by kernel_rfl
theorem cf15 : ((Rows.fhistFloatsRow.mapsOut == Try.prog.mapsAmong Try.f6.resultTypes.toList)) = true := by kernel_rfl
theorem cf16 : ((Rows.fhistFloatsRow.loops == (Try.f6.params.toList ++ Rows.fhistFloatsSpec.plain.varTypes Try.prog).any (Try.prog.loopsFrom ·))) = true := by kernel_rfl
theorem cf17 : ((Rows.fhistFloatsRow.wideKeys == (Try.f6.params.toList ++ Rows.fhistFloatsSpec.plain.varTypes Try.prog ++ Try.f6.resultTypes.toList).any (Try.prog.wideKeysFrom ·))) = true := by kernel_rfl
theorem cf18 : (Rows.fhistFloatsSpec.vars.all (Try.prog.varReadable ·)) = true := by kernel_rfl
theorem cf19 : (Try.f6.resultTypes.all (fun t => Try.prog.readableRec t && decide (t < Try.prog.types.size))) = true := by kernel_rfl
theorem cf20 : ((Rows.fhistFloatsRow.ifacesOut == Try.f6.resultTypes.toList.any (Try.prog.ifacesRec ·))) = true := by kernel_rfl
theorem cf21 : ((Rows.fhistFloatsRow.loopsOut == Try.f6.resultTypes.toList.any (Try.prog.loopsFrom ·))) = true := by kernel_rfl
theorem cf22 : ((Rows.fhistFloatsRow.plainKeys == Try.prog.plainKeys)) = true := by rw [P.head_plainKeys]; kernel_rfl
theorem cf23 : (Rows.fhistFloatsRow.shortTexts.isNone) = true := by kernel_rfl
theorem cf24 : (Try.prog.stopsHeard) = true := P.head_stopsHeard
theorem cf25 : (Try.prog.mayEnter) = true := P.head_mayEnter
theorem cf26 : ((Rows.fhistFloatsRow.lifted == Try.prog.liftsFinal)) = true := by rw [P.head_liftsFinal]; kernel_rfl
theorem cf27 : ((Try.prog.make == some Rows.fhistFloatsRow.make)) = true := by rw [P.head_make]; kernel_rfl
theorem cf28 : ((Rows.fhistFloatsRow.kinds == (if Rows.fhistFloatsRow.domain.isEmpty then [] else Try.f6.params.toList.map fun t => match Try.prog.underlying t with | some (.int k) => some k | _ => none))) = true := by kernel_rfl
theorem cf29 : ((Rows.fhistFloatsRow.pinned == Rows.fhistFloatsRow.pinnedBy)) = true := by kernel_rfl
theorem cf30 : ((Rows.fhistFloatsRow.veiled == (Try.f6.params.toList ++ Rows.fhistFloatsSpec.plain.varTypes Try.prog ++ Try.f6.resultTypes.toList).any (Try.prog.veiledRec ·))) = true := by kernel_rfl
theorem cf31 : (Rows.fhistFloatsRow.veiledFits Try.prog Try.f6.params.toList (Try.f6.params.toList ++ Rows.fhistFloatsSpec.plain.varTypes Try.prog ++ Try.f6.resultTypes.toList)) = true := by kernel_rfl
theorem band_mk {a b : Bool} (h : a = true) (k : b = true) : (a && b) = true := by rw [h, k]; rfl
theorem closed : joinedFacts Try.prog 6 Try.f6 Rows.fhistFloatsSpec Rows.fhistFloatsRow = true := by unfold joinedFacts; exact (band_mk (band_mk (band_mk (band_mk (band_mk (band_mk (band_mk (band_mk (band_mk (band_mk (band_mk (band_mk (band_mk (band_mk (band_mk (band_mk (band_mk (band_mk (band_mk (band_mk (band_mk (band_mk (band_mk (band_mk (band_mk (band_mk (band_mk (band_mk (band_mk (band_mk (band_mk cf0 cf1) cf2) cf3) cf4) cf5) cf6) cf7) cf8) cf9) cf10) cf11) cf12) cf13) cf14) cf15) cf16) cf17) cf18) cf19) cf20) cf21) cf22) cf23) cf24) cf25) cf26) cf27) (by kernel_rfl)) cf29) cf30) cf31)
theorem over : Rows.fhistFloatsRow.holds Try.pinned (OpenSpec.ofChange Rows.fhistFloatsSpec) :=
  OpenClaim.holds_of_wide 6 Try.f6 rfl rfl rfl rfl rfl rfl rfl ⟨rfl, rfl, rfl, rfl, rfl⟩ rfl rfl rfl rfl rfl (by kernel_rfl) Try.func6 closed
    (of_decide_eq_true (by kernel_rfl)) (by unfold Func.isWrapper; first | (rw [if_pos (by decide +kernel)]; kernel_rfl) | (rw [if_neg (by decide +kernel)]; exact ⟨rfl, rfl⟩))
    (fun os started H enc _ => lifted os started H enc)
theorem proved : Rows.FhistFloatsSaid := over
#print axioms proved
end Go.Proofs.Ytfbjjbbhnmoolaa.fhistFloats
namespace Go.Proofs.Ytfbjjbbhnmoolaa
theorem fhistFloats_holds : Rows.FhistFloatsSaid := fhistFloats.proved
end Go.Proofs.Ytfbjjbbhnmoolaa
