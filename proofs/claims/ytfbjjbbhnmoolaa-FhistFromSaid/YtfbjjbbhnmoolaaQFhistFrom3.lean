/- FhistFrom: the part that this text bears of the proof that the statement answers true for every input. No condition. -/
import Derived.Test.YtfbjjbbhnmoolaaQFhistFrom2
import Derived.Laws.FloatArith
set_option linter.unusedVariables false
set_option linter.unusedSimpArgs false
namespace Go.Proofs.Ytfbjjbbhnmoolaa.P
def wholeN (v : Nat) : Nat × Bool :=
  if v = 0 then (0, true) else if v / 4503599627370496 < 1023 ∨ 1086 < v / 4503599627370496 then (0, false)
  else if v / 4503599627370496 ≤ 1075 then (if (v % 4503599627370496 + 4503599627370496) % 2 ^ (1075 - v / 4503599627370496) = 0 then ((v % 4503599627370496 + 4503599627370496) / 2 ^ (1075 - v / 4503599627370496), true) else (0, false))
  else ((v % 4503599627370496 + 4503599627370496) * 2 ^ (v / 4503599627370496 - 1075), true)
theorem log2_of {n k : Nat} (h1 : 2 ^ k ≤ n) (h2 : n < 2 ^ (k + 1)) : n.log2 = k := by
  have hn : n ≠ 0 := by have := Nat.two_pow_pos k; omega
  obtain ⟨a, b⟩ := log2_bounds hn
  have c1 : n.log2 < k + 1 := (Nat.pow_lt_pow_iff_right (by decide : 1 < 2)).1 (Nat.lt_of_le_of_lt a h2)
  have c2 : k < n.log2 + 1 := (Nat.pow_lt_pow_iff_right (by decide : 1 < 2)).1 (Nat.lt_of_le_of_lt h1 b)
  omega
theorem flt_down {m d : Nat} (h1 : 4503599627370496 ≤ m) (h2 : m < 9007199254740992) (hd : m % 2 ^ d = 0) : d ≤ 52 ∧ fltR (m / 2 ^ d) = (1074 - d) * 4503599627370496 + m ∧ m / 2 ^ d < 9007199254740992 := by
  have hp := Nat.two_pow_pos d
  have e := Nat.div_add_mod m (2 ^ d)
  rw [hd, Nat.add_zero] at e
  have hd52 : d ≤ 52 := by
    rcases Nat.lt_or_ge 52 d with c | c
    · have h53 : 2 ^ 53 ≤ 2 ^ d := Nat.pow_le_pow_right (by decide) c
      have : m < 2 ^ d := by omega
      rw [Nat.mod_eq_of_lt this] at hd
      omega
    · exact c
  have hle : m / 2 ^ d < 9007199254740992 := Nat.lt_of_le_of_lt (Nat.div_le_self _ _) h2
  refine ⟨hd52, ?_, hle⟩
  have b1 : 2 ^ (52 - d) * 2 ^ d = 4503599627370496 := by rw [← Nat.pow_add, show 52 - d + d = 52 by omega]
  have b2 : 2 ^ (52 - d + 1) * 2 ^ d = 9007199254740992 := by rw [← Nat.pow_add, show 52 - d + 1 + d = 53 by omega]
  have l : (m / 2 ^ d).log2 = 52 - d := by
    refine log2_of ((Nat.le_div_iff_mul_le hp).2 (by omega)) ((Nat.div_lt_iff_lt_mul hp).2 (by omega))
  have hn : m / 2 ^ d ≠ 0 := by
    intro h0
    rw [h0, Nat.mul_zero] at e
    omega
  unfold fltR
  rw [if_neg hn, l, if_pos (by omega), show 52 - (52 - d) = d by omega, Nat.mul_comm (m / 2 ^ d), e]
  omega
theorem flt_up {m d : Nat} (h1 : 4503599627370496 ≤ m) (h2 : m < 9007199254740992) : fltR (m * 2 ^ d) = (1074 + d) * 4503599627370496 + m := by
  have hp := Nat.two_pow_pos d
  have b1 : 2 ^ (52 + d) = 4503599627370496 * 2 ^ d := by rw [Nat.pow_add]
  have b2 : 2 ^ (52 + d + 1) = 9007199254740992 * 2 ^ d := by rw [show 52 + d + 1 = 53 + d by omega, Nat.pow_add]
  have l : (m * 2 ^ d).log2 = 52 + d := log2_of (by rw [b1]; exact Nat.mul_le_mul_right _ h1) (by rw [b2]; exact Nat.mul_lt_mul_of_pos_right h2 hp)
  have hn : m * 2 ^ d ≠ 0 := by
    have := Nat.mul_pos (show 0 < m by omega) hp
    omega
  unfold fltR
  rw [if_neg hn, l]
  by_cases c : d = 0
  · subst c
    simp
  · rw [if_neg (by omega), show 52 + d - 52 = d by omega]
    unfold rnd
    rw [Nat.mul_div_cancel _ hp, Nat.mul_mod_left, if_neg (by omega)]
    omega
theorem wholeN_flt {v : Nat} (h : (wholeN v).2 = true) : fltR (wholeN v).1 = v ∧ (wholeN v).1 < 18446744073709551616 := by
  unfold wholeN at h ⊢
  by_cases c0 : v = 0
  · subst c0
    rw [if_pos rfl]
    exact ⟨rfl, by decide⟩
  rw [if_neg c0] at h ⊢
  have e := Nat.div_add_mod v 4503599627370496
  have hm := Nat.mod_lt v (show 0 < 4503599627370496 by decide)
  generalize v / 4503599627370496 = ex at *
  generalize v % 4503599627370496 = r at *
  by_cases c1 : ex < 1023 ∨ 1086 < ex
  · rw [if_pos c1] at h; cases h
  rw [if_neg c1] at h ⊢
  by_cases c2 : ex ≤ 1075
  · rw [if_pos c2] at h ⊢
    by_cases c3 : (r + 4503599627370496) % 2 ^ (1075 - ex) = 0
    · rw [if_pos c3]
      obtain ⟨a, b, c⟩ := flt_down (m := r + 4503599627370496) (d := 1075 - ex) (by omega) (by omega) c3
      refine ⟨?_, by show _ < _; omega⟩
      show fltR _ = v
      rw [b]; omega
    · rw [if_neg c3] at h; cases h
  · rw [if_neg c2]
    refine ⟨?_, ?_⟩
    · show fltR _ = v
      rw [flt_up (by omega) (by omega)]; omega
    · show (r + 4503599627370496) * 2 ^ (ex - 1075) < 18446744073709551616
      have h1 : 2 ^ (ex - 1075) ≤ 2 ^ 11 := Nat.pow_le_pow_right (by decide) (by omega)
      have h2 := Nat.mul_le_mul_left (r + 4503599627370496) h1
      omega
theorem wholeN_of {n : Nat} (h : n ≤ 9007199254740992) : wholeN (fltR n) = (n, true) := by
  by_cases c0 : n = 0
  · subst c0; rfl
  obtain ⟨a, b⟩ := log2_bounds c0
  rcases Nat.lt_or_ge 52 n.log2 with c | c
  · have h53 : 2 ^ 53 ≤ 2 ^ n.log2 := Nat.pow_le_pow_right (by decide) c
    have : n = 9007199254740992 := by omega
    subst this
    have e : fltR 9007199254740992 = 4845873199050653696 := by
      have := flt_up (m := 4503599627370496) (d := 1) (by decide) (by decide)
      exact this
    rw [e]
    decide
  · have hf := frac_bounds c0
    rw [if_pos c] at hf
    have e : fltR n = (1022 + n.log2) * 4503599627370496 + n * 2 ^ (52 - n.log2) := by unfold fltR; rw [if_neg c0, if_pos c]
    have hp := Nat.two_pow_pos (52 - n.log2)
    have hdiv : fltR n / 4503599627370496 = 1023 + n.log2 := by omega
    have hmod : fltR n % 4503599627370496 + 4503599627370496 = n * 2 ^ (52 - n.log2) := by omega
    unfold wholeN
    rw [if_neg (by omega), hdiv, hmod, if_neg (by omega), if_pos (by omega), show 1075 - (1023 + n.log2) = 52 - n.log2 by omega, if_pos (Nat.mul_mod_left _ _), Nat.mul_div_cancel _ hp]
def magN (v : Nat) : Nat := if v < 4503599627370496 then v else v % 4503599627370496 + 4503599627370496
def placeN (v : Nat) : Int := if v < 4503599627370496 then -1074 else (v / 4503599627370496 : Nat) - 1075
theorem read_pos {v : Nat} (h : v < 9218868437227405312) : Ieee.double.read v = .number false (magN v) (placeN v) := by
  unfold Ieee.Format.read magN placeN
  have hl : Ieee.double.leastPlace = -1074 := by decide
  have hbn : Ieee.double.binade = 4503599627370496 := by decide
  have hi : Ieee.double.infRung = 9218868437227405312 := by decide
  have hs : Ieee.double.signWeight = 9223372036854775808 := by decide
  simp only [hl, hbn, hi, hs]
  rw [Nat.mod_eq_of_lt (show v < 9223372036854775808 by omega), Nat.div_eq_of_lt (show v < 9223372036854775808 by omega)]
  by_cases c : v < 4503599627370496
  · rw [if_pos c, if_pos c, if_pos c]; rfl
  · rw [if_neg c, if_neg c, if_neg c, if_pos h]
    have : 1 ≤ v / 4503599627370496 := (Nat.le_div_iff_mul_le (by decide)).2 (by omega)
    congr 1
    · omega
    · omega
theorem compare_int (a b : Int) : compare a b = if a < b then Ordering.lt else if a = b then Ordering.eq else Ordering.gt := rfl
theorem order_pos {x y : Nat} (hx : x < 9218868437227405312) (hy : y < 9218868437227405312) : Ieee.double.order x y = some (compare ((magN x * 2 ^ (placeN x - min (placeN x) (placeN y)).toNat : Nat) : Int) ((magN y * 2 ^ (placeN y - min (placeN x) (placeN y)).toNat : Nat) : Int)) := by
  unfold Ieee.Format.order
  rw [read_pos hx, read_pos hy]
  simp only [Ieee.Datum.order, Ieee.signed, Bool.false_eq_true, if_false, Nat.shiftLeft_eq]
theorem order_self {x : Nat} (hx : x < 9218868437227405312) : Ieee.double.order x x = some .eq := by
  rw [order_pos hx hx, compare_int, if_neg (by omega), if_pos rfl]
theorem order_64 {v : Nat} (h : v < 9218868437227405312) : Ieee.double.order v 4895412794951729152 = some (if v / 4503599627370496 < 1087 then .lt else if v % 4503599627370496 = 0 ∧ v / 4503599627370496 = 1087 then .eq else .gt) := by
  rw [order_pos h (by decide)]
  have m64 : magN 4895412794951729152 = 4503599627370496 := by decide
  have p64 : placeN 4895412794951729152 = 12 := by decide
  rw [m64, p64, compare_int]
  congr 1
  have hm := Nat.mod_lt v (show 0 < 4503599627370496 by decide)
  by_cases c : v / 4503599627370496 < 1087
  · rw [if_pos c]
    have hp : placeN v ≤ 11 := by unfold placeN; split <;> omega
    rw [Int.min_eq_left (by omega)]
    have hz : (placeN v - placeN v).toNat = 0 := by omega
    have hmag : magN v < 9007199254740992 := by unfold magN; split <;> omega
    have h1 : 2 ^ 1 ≤ 2 ^ (12 - placeN v).toNat := Nat.pow_le_pow_right (by decide) (by omega)
    rw [if_pos]
    rw [hz]
    have := Nat.mul_le_mul_left 4503599627370496 h1
    omega
  · rw [if_neg c]
    have hv : ¬ v < 4503599627370496 := by
      intro hlt
      rw [Nat.div_eq_of_lt hlt] at c
      omega
    have hp : placeN v = (v / 4503599627370496 : Nat) - 1075 := by unfold placeN; rw [if_neg hv]
    have hmag : magN v = v % 4503599627370496 + 4503599627370496 := by unfold magN; rw [if_neg hv]
    rw [Int.min_eq_right (by omega), hmag]
    have hz : ((12 : Int) - 12).toNat = 0 := by decide
    rw [hz]
    have hk : (placeN v - 12).toNat = v / 4503599627370496 - 1087 := by omega
    rw [hk]
    have h1 : 1 ≤ 2 ^ (v / 4503599627370496 - 1087) := Nat.two_pow_pos _
    have h2 := Nat.mul_le_mul_left (v % 4503599627370496 + 4503599627370496) h1
    rw [if_neg (by omega)]
    by_cases c2 : v % 4503599627370496 = 0 ∧ v / 4503599627370496 = 1087
    · rw [if_pos c2, if_pos]
      rw [c2.1, c2.2]
    · rw [if_neg c2, if_neg]
      intro he
      apply c2
      have he' : (v % 4503599627370496 + 4503599627370496) * 2 ^ (v / 4503599627370496 - 1087) = 4503599627370496 * 2 ^ 0 := by omega
      refine ⟨by omega, ?_⟩
      rcases Nat.lt_or_ge 1087 (v / 4503599627370496) with c3 | c3
      · have h3 : 2 ^ 1 ≤ 2 ^ (v / 4503599627370496 - 1087) := Nat.pow_le_pow_right (by decide) (by omega)
        have h4 := Nat.mul_le_mul_left (v % 4503599627370496 + 4503599627370496) h3
        omega
      · omega
theorem cut_zero (s : Bool) (n d : Nat) : Ieee.Toward.cut .zero s n d = n / 2 ^ d := by
  unfold Ieee.Toward.cut
  simp only [Nat.one_shiftLeft, Bool.toNat_false, Nat.add_zero]
  rcases Nat.lt_or_ge (n.log2 + 2) d with c | c
  · rw [Nat.min_eq_right (by omega)]
    have hn : n < 2 ^ (n.log2 + 1) := Nat.lt_log2_self
    have h1 : 2 ^ (n.log2 + 1) ≤ 2 ^ (n.log2 + 2) := Nat.pow_le_pow_right (by decide) (by omega)
    have h2 : 2 ^ (n.log2 + 2) ≤ 2 ^ d := Nat.pow_le_pow_right (by decide) (by omega)
    rw [Nat.div_eq_of_lt (by omega), Nat.div_eq_of_lt (by omega)]
  · rw [Nat.min_eq_left (by omega)]
def truncN (v : Nat) : Nat := magN v * 2 ^ (placeN v).toNat / 2 ^ (-placeN v).toNat
theorem integral_pos {v : Nat} (h : v < 9218868437227405312) : (Ieee.double.read v).integral .zero = .number false (truncN v) 0 := by
  rw [read_pos h]
  simp only [Ieee.Datum.integral, cut_zero, Nat.shiftLeft_eq]
  rfl
theorem toInt_pos {v : Nat} (h : v < 9218868437227405312) : (Ieee.double.read v).toInt .zero = some ((truncN v : Nat) : Int) := by
  unfold Ieee.Datum.toInt
  rw [integral_pos h]
  simp [Ieee.signed]
theorem truncN_lt {v : Nat} (h : v / 4503599627370496 < 1087) : truncN v < 18446744073709551616 := by
  unfold truncN
  have hm := Nat.mod_lt v (show 0 < 4503599627370496 by decide)
  have hp : placeN v ≤ 11 := by unfold placeN; split <;> omega
  have hmag : magN v < 9007199254740992 := by unfold magN; split <;> omega
  have h1 : 2 ^ (placeN v).toNat ≤ 2 ^ 11 := Nat.pow_le_pow_right (by decide) (by omega)
  have h2 := Nat.mul_le_mul_left (magN v) h1
  have h3 : magN v * 2 ^ 11 < 18446744073709551616 := by omega
  exact Nat.lt_of_le_of_lt (Nat.div_le_self _ _) (by omega)
theorem encode_pos {n : Nat} (hn : n < 18446744073709551616) : FloatKind.f64.encode (.number false n 0) = fltR n := by
  have := nearest_eq hn
  unfold FloatKind.nearest at this
  rw [show decide ((n : Int) < 0) = false from decide_eq_false (by omega), Int.natAbs_natCast] at this
  exact this
theorem trunc_whole {v : Nat} (h : v / 4503599627370496 < 1087) : if (wholeN v).2 = true then truncN v = (wholeN v).1 ∧ fltR (truncN v) = v else Ieee.double.order (fltR (truncN v)) v ≠ some .eq := by
  have hv : v < 9218868437227405312 := by have := Nat.div_add_mod v 4503599627370496; have := Nat.mod_lt v (show 0 < 4503599627370496 by decide); omega
  by_cases cb : placeN v < 0 ∧ magN v % 2 ^ (-placeN v).toNat ≠ 0
  · obtain ⟨c1, c2⟩ := cb
    have hf : (wholeN v).2 = false := by
      unfold wholeN
      have hm := Nat.mod_lt v (show 0 < 4503599627370496 by decide)
      by_cases cz : v = 0
      · subst cz
        have hz : magN 0 = 0 := rfl
        rw [hz, Nat.zero_mod] at c2
        exact absurd rfl c2
      unfold placeN magN at c2
      unfold placeN at c1
      rw [if_neg cz]
      by_cases ce : v / 4503599627370496 < 1023 ∨ 1086 < v / 4503599627370496
      · rw [if_pos ce]
      · rw [if_neg ce]
        have hlt : ¬ v < 4503599627370496 := by
          intro hlt
          rw [Nat.div_eq_of_lt hlt] at ce
          omega
        rw [if_neg hlt] at c1 c2
        rw [if_neg hlt] at c2
        rw [if_pos (by omega), if_neg]
        rw [show (-(((v / 4503599627370496 : Nat) : Int) - 1075)).toNat = 1075 - v / 4503599627370496 by omega] at c2
        exact c2
    rw [hf, if_neg (by decide)]
    have ht : truncN v = magN v / 2 ^ (-placeN v).toNat := by
      unfold truncN
      rw [show (placeN v).toNat = 0 by omega]; simp
    generalize hd : (-placeN v).toNat = d at *
    have hd1 : 1 ≤ d := by omega
    have hmag : magN v < 9007199254740992 := by have hm := Nat.mod_lt v (show 0 < 4503599627370496 by decide); unfold magN; split <;> omega
    have htl : truncN v < 4503599627370496 := by
      rw [ht]
      have h1 : 2 ^ 1 ≤ 2 ^ d := Nat.pow_le_pow_right (by decide) hd1
      exact (Nat.div_lt_iff_lt_mul (Nat.two_pow_pos d)).2 (by have := Nat.mul_le_mul_left 4503599627370496 h1; omega)
    have hr := fltR_right (n := truncN v) (by omega)
    rw [order_pos hr hv, compare_int]
    intro he
    have he : (magN (fltR (truncN v)) * 2 ^ (placeN (fltR (truncN v)) - min (placeN (fltR (truncN v))) (placeN v)).toNat : Nat) = (magN v * 2 ^ (placeN v - min (placeN (fltR (truncN v))) (placeN v)).toNat : Nat) := by
      injection he with he
      split at he
      · cases he
      · split at he
        · rename_i h2; exact Int.ofNat.inj h2
        · cases he
    generalize truncN v = t at *
    by_cases t0 : t = 0
    · subst t0
      have e0 : magN (fltR 0) = 0 := by decide
      rw [e0, Nat.zero_mul] at he
      have hmz : magN v ≠ 0 := fun h => c2 (by rw [h]; simp)
      have := Nat.mul_pos (Nat.pos_of_ne_zero hmz) (Nat.two_pow_pos (placeN v - min (placeN (fltR 0)) (placeN v)).toNat)
      omega
    · have lt52 : t.log2 ≤ 51 := by
        rcases Nat.lt_or_ge 51 t.log2 with c | c
        · have h53 : 2 ^ 52 ≤ 2 ^ t.log2 := Nat.pow_le_pow_right (by decide) c
          have := (log2_bounds t0).1
          omega
        · exact c
      have hfb := frac_bounds t0
      rw [if_pos (by omega)] at hfb
      have e : fltR t = (1022 + t.log2) * 4503599627370496 + t * 2 ^ (52 - t.log2) := by unfold fltR; rw [if_neg t0, if_pos (by omega)]
      have hge : ¬ fltR t < 4503599627370496 := by omega
      have m1 : magN (fltR t) = t * 2 ^ (52 - t.log2) := by unfold magN; rw [if_neg hge]; omega
      have p1 : placeN (fltR t) = (t.log2 : Int) - 52 := by unfold placeN; rw [if_neg hge]; omega
      rw [m1, p1] at he
      have hbase : min ((t.log2 : Int) - 52) (placeN v) ≤ -d := by omega
      generalize hb : min ((t.log2 : Int) - 52) (placeN v) = base at *
      have k1 : (52 - t.log2) + ((t.log2 : Int) - 52 - base).toNat = d + (placeN v - base).toNat := by omega
      rw [Nat.mul_assoc, ← Nat.pow_add, k1, Nat.pow_add, ← Nat.mul_assoc] at he
      have := Nat.eq_of_mul_eq_mul_right (Nat.two_pow_pos _) he
      apply c2
      rw [← this]
      exact Nat.mul_mod_left _ _
  · have hm := Nat.mod_lt v (show 0 < 4503599627370496 by decide)
    by_cases cz : v = 0
    · subst cz
      have : wholeN 0 = (0, true) := rfl
      rw [this, if_pos rfl]
      have : truncN 0 = 0 := by
        unfold truncN
        have : magN 0 = 0 := rfl
        rw [this]; simp
      rw [this]
      exact ⟨rfl, rfl⟩
    have hge : ¬ v < 4503599627370496 := by
      intro hlt
      apply cb
      have hp : placeN v = -1074 := by unfold placeN; rw [if_pos hlt]
      have hmg : magN v = v := by unfold magN; rw [if_pos hlt]
      refine ⟨by omega, ?_⟩
      have hd : 53 ≤ (-placeN v).toNat := by omega
      generalize (-placeN v).toNat = d at *
      have h1 : 2 ^ 53 ≤ 2 ^ d := Nat.pow_le_pow_right (by decide) hd
      rw [hmg, Nat.mod_eq_of_lt (by omega)]
      exact cz
    have hp : placeN v = ((v / 4503599627370496 : Nat) : Int) - 1075 := by unfold placeN; rw [if_neg hge]
    have hmg : magN v = v % 4503599627370496 + 4503599627370496 := by unfold magN; rw [if_neg hge]
    have ev := Nat.div_add_mod v 4503599627370496
    unfold wholeN truncN
    rw [if_neg cz, hp, hmg]
    rw [hp, hmg] at cb
    generalize v / 4503599627370496 = ex at *
    generalize v % 4503599627370496 = r at *
    by_cases c5 : ex < 1023
    · exfalso
      apply cb
      refine ⟨by omega, ?_⟩
      have h1 : 2 ^ 53 ≤ 2 ^ (-((ex : Int) - 1075)).toNat := Nat.pow_le_pow_right (by decide) (by omega)
      rw [Nat.mod_eq_of_lt (by omega)]
      omega
    rw [if_neg (show ¬ (ex < 1023 ∨ 1086 < ex) by omega)]
    by_cases c6 : ex ≤ 1075
    · have hz : ((ex : Int) - 1075).toNat = 0 := by omega
      have hn : (-((ex : Int) - 1075)).toNat = 1075 - ex := by omega
      rw [if_pos c6, hz, hn, Nat.pow_zero, Nat.mul_one]
      rw [hn] at cb
      have c7 : (r + 4503599627370496) % 2 ^ (1075 - ex) = 0 := by
        by_cases c8 : ex = 1075
        · subst c8; simp [Nat.mod_one]
        · exact Classical.byContradiction fun h => cb ⟨by omega, h⟩
      rw [if_pos c7, if_pos rfl]
      obtain ⟨a, b, c⟩ := flt_down (m := r + 4503599627370496) (d := 1075 - ex) (by omega) (by omega) c7
      exact ⟨rfl, by rw [b]; omega⟩
    · have hz : ((ex : Int) - 1075).toNat = ex - 1075 := by omega
      have hn : (-((ex : Int) - 1075)).toNat = 0 := by omega
      rw [if_neg c6, if_pos rfl, hz, hn, Nat.pow_zero, Nat.div_one]
      exact ⟨rfl, by rw [flt_up (by omega) (by omega)]; omega⟩
theorem wholeN_big {v : Nat} (h : ¬ v / 4503599627370496 < 1087) : wholeN v = (0, false) := by
  have hz : v ≠ 0 := by
    intro e
    subst e
    simp at h
  unfold wholeN
  rw [if_neg hz, if_pos (by omega)]
end Go.Proofs.Ytfbjjbbhnmoolaa.P
namespace Go.Proofs.Ytfbjjbbhnmoolaa.P
open Go.RowKit Go.Proofs.YtfbjjbbhnmoolaaW.PrintWords Go.Proofs.YtfbjjbbhnmoolaaW.PrintLast Go.Proofs.YtfbjjbbhnmoolaaW.PrintMore
theorem fbits_run (v : Int) (w : World) : (callFunc 81 #[.int .u64 v]).run Try.prog w = .ok (.value (.float .f64 v.toNat)) w := by
  rw [run_callFunc_extern Try.func81 (by kernel_rfl) (by kernel_rfl) (by kernel_rfl) (e := Extern.MathFloatBits.float64frombits) (by kernel_rfl)]
  rfl
theorem tbits_run (v : Nat) (w : World) : (callFunc 84 #[.float .f64 v]).run Try.prog w = .ok (.value (.int .u64 v)) w := by
  rw [run_callFunc_extern Try.func84 (by kernel_rfl) (by kernel_rfl) (by kernel_rfl) (e := Extern.MathFloatBits.float64bits) (by kernel_rfl)]
  rfl
theorem fcv_run (n : Int) (w : World) : (convert 22 129 (.int .u64 n)).run Try.prog w = .ok (.float .f64 (FloatKind.f64.nearest n)) w := by
  kernel_rfl
def fhist_Float.f (v : Int) : Option Int := some (FloatKind.f64.nearest v : Nat)
theorem fhist_Float.calls (a0 : Int) (r : Int) (w : World) (h : fhist_Float.f a0 = some r) : Calls Try.prog 31 #[.int .u64 a0] w fun e w' => e = .returned (.int .u64 r) ∧ Drawn0 w w' := by
  unfold fhist_Float.f at h
  have hc := fcv_run a0
  generalize FloatKind.f64.nearest a0 = n at *
  cases h
  have hb := tbits_run n
  go_enter Try.func31, Try.ntmps31
  go_wp2
  go_ret
  exact ⟨rfl, Drawn0.refl _⟩
end Go.Proofs.Ytfbjjbbhnmoolaa.P
namespace Go.Proofs.Ytfbjjbbhnmoolaa.P
open Go.RowKit Go.Shelf Go.Proofs.YtfbjjbbhnmoolaaW.PrintWords Go.Proofs.YtfbjjbbhnmoolaaW.PrintLast Go.Proofs.YtfbjjbbhnmoolaaW.PrintMore
theorem decode_read (v : Nat) : FloatKind.f64.decode v = Ieee.double.read v := rfl
theorem trunc_run (v : Nat) (h : v / 4503599627370496 < 1087) (w : World) : (callFunc 112 #[.float .f64 v]).run Try.prog w = .ok (.value (.float .f64 (fltR (truncN v)))) w := by
  have hv : v < 9218868437227405312 := by have := Nat.div_add_mod v 4503599627370496; have := Nat.mod_lt v (show 0 < 4503599627370496 by decide); omega
  have hi := integral_pos hv
  have hrd := read_pos hv
  have he := encode_pos (truncN_lt h)
  have key : Extern.MathFloor.toIntegral "math.archTrunc" .zero #[.float .f64 v] = pure (.float .f64 (fltR (truncN v))) := by
    show Extern.MathFloor.toIntegral.match_1 (fun _ => Sem Value) (FloatKind.f64.decode v) _ _ = _
    rw [decode_read, hrd]
    show pure (Value.float .f64 (FloatKind.f64.encode (Ieee.Datum.integral .zero (.number false (magN v) (placeN v))))) = _
    rw [← hrd, hi, he]
  rw [run_callFunc_extern Try.func112 (by kernel_rfl) (by kernel_rfl) (by kernel_rfl) (e := Extern.MathFloor.toIntegral "math.archTrunc" .zero) (by kernel_rfl), key]
  rfl
theorem mtrunc_c (v : Nat) (h : v / 4503599627370496 < 1087) (w : World) : Calls Try.prog 83 #[.float .f64 v] w fun e w' => e = .returned (.float .f64 (fltR (truncN v))) ∧ Below w.heap.size w w' := by
  have ht := trunc_run v h
  generalize fltR (truncN v) = t at *
  clear h
  go_enter Try.func83, Try.ntmps83
  go_wp2
  go_ret
  exact ⟨rfl, Below.refl _ _⟩
theorem ge_lt {v : Nat} (h : v / 4503599627370496 < 1087) : (FloatKind.f64.format.order v 4895412794951729152 == some .gt) = false ∧ (FloatKind.f64.format.order v 4895412794951729152 == some .eq) = false := by
  have hv : v < 9218868437227405312 := by have := Nat.div_add_mod v 4503599627370496; have := Nat.mod_lt v (show 0 < 4503599627370496 by decide); omega
  have ho := order_64 hv
  rw [if_pos h] at ho
  have e : FloatKind.f64.format.order v 4895412794951729152 = some .lt := ho
  rw [e]
  exact ⟨rfl, rfl⟩
theorem ge_gt {v : Nat} (hv : v < 9218868437227405312) (h : ¬ v / 4503599627370496 < 1087) : (FloatKind.f64.format.order v 4895412794951729152 == some .gt || FloatKind.f64.format.order v 4895412794951729152 == some .eq) = true := by
  have ho := order_64 hv
  rw [if_neg h] at ho
  have e : FloatKind.f64.format.order v 4895412794951729152 = _ := ho
  rw [e]
  split <;> rfl
theorem ne_of (x v : Nat) (b : Bool) (hb : (Ieee.double.order x v != some .eq) = b) : (FloatKind.f64.format.order x v != some .eq) = b := hb
theorem cv_run (v : Nat) (h : v / 4503599627370496 < 1087) (w : World) : (convert 129 22 (.float .f64 v)).run Try.prog w = .ok (.int .u64 (truncN v : Nat)) w := by
  have hv : v < 9218868437227405312 := by have := Nat.div_add_mod v 4503599627370496; have := Nat.mod_lt v (show 0 < 4503599627370496 by decide); omega
  refine run_convert_float_int (P := Try.prog) w 129 22 .f64 .u64 v _ (by kernel_rfl) (by kernel_rfl) ?_
  have := truncN_lt h
  unfold floatToIntVal
  rw [decode_read, toInt_pos hv]
  simp only
  rw [if_pos]
  constructor
  · show (0 : Int) ≤ _; omega
  · show _ ≤ (18446744073709551615 : Int); omega
def wholeI (v : Int) : Int × Bool := (((wholeN v.toNat).1 : Nat), (wholeN v.toNat).2)
set_option maxRecDepth 100000 in
theorem whole_c (v : Int) (h0 : 0 ≤ v) (w : World) : Calls Try.prog 29 #[.int .u64 v] w fun e w' => e = .returned (.tuple #[.int .u64 (wholeI v).1, .bool (wholeI v).2]) ∧ Below w.heap.size w w' := by
  obtain ⟨n, rfl⟩ : ∃ n : Nat, v = n := ⟨v.toNat, by omega⟩
  have hf := fbits_run n
  rw [Int.toNat_natCast] at hf
  have rc := right_c n
  unfold wholeI
  rw [Int.toNat_natCast]
  by_cases hr : n < 9218868437227405312
  rotate_left
  · rw [show rightF n = false from decide_eq_false (by omega)] at rc
    have hbig : ¬ n / 4503599627370496 < 1087 := by
      intro h
      have := Nat.div_add_mod n 4503599627370496
      have := Nat.mod_lt n (show 0 < 4503599627370496 by decide)
      omega
    rw [wholeN_big hbig]
    have RC := Aside0.mk rc
    clear rc hr hbig h0
    go_enter Try.func29, Try.ntmps29
    go_wp2_with (go_at_call 82; (with_reducible refine (RC.out _).mono ?_); rintro e w1 ⟨rfl, hb⟩; have HB := Aside0.mk hb; clear hb)
    go_ret2
    exact ⟨rfl, HB.out⟩
  rw [show rightF n = true from decide_eq_true (by omega)] at rc
  have RC := Aside0.mk rc
  clear rc
  by_cases hb : n / 4503599627370496 < 1087
  rotate_left
  · have hg := ge_gt hr hb
    rw [wholeN_big hb]
    clear hr hb h0
    go_enter Try.func29, Try.ntmps29
    go_wp2_with (go_at_call 82; (with_reducible refine (RC.out _).mono ?_); rintro e w1 ⟨rfl, hb⟩; have HB := Aside0.mk hb; clear hb)
    go_ret2
    exact ⟨rfl, HB.out⟩
  obtain ⟨hg1, hg2⟩ := ge_lt hb
  have MT := Aside0.mk (mtrunc_c n hb)
  have tw := trunc_whole hb
  by_cases hw : (wholeN n).2 = true
  · rw [if_pos hw] at tw
    obtain ⟨t1, t2⟩ := tw
    have hn := ne_of (fltR (truncN n)) n false (by rw [t2, order_self hr]; rfl)
    have hc := cv_run n hb
    rw [← t1, hw]
    generalize fltR (truncN n) = fl at *
    generalize truncN n = tn at *
    clear hr hb h0 t1 t2 hw
    go_enter Try.func29, Try.ntmps29
    go_wp2_with (first | (go_at_call 82; (with_reducible refine (RC.out _).mono ?_); rintro e w1 ⟨rfl, hb⟩; have HB := Aside0.mk hb; clear hb) | (go_at_call 83; (with_reducible refine (MT.out _).mono ?_); rintro e w2 ⟨rfl, hb⟩; replace HB := Aside0.mk (below_then HB.out HB.out.size hb); clear hb))
    go_ret2
    exact ⟨rfl, HB.out⟩
  · rw [if_neg hw] at tw
    have hn := ne_of (fltR (truncN n)) n true (by simpa using tw)
    have e : wholeN n = (0, false) := by
      unfold wholeN at hw ⊢
      split at hw
      · exact absurd rfl hw
      · rename_i c0
        rw [if_neg c0]
        split at hw
        · rename_i c1; rw [if_pos c1]
        · rename_i c1
          rw [if_neg c1]
          split at hw
          · rename_i c2
            rw [if_pos c2]
            split at hw
            · exact absurd rfl hw
            · rename_i c3; rw [if_neg c3]
          · exact absurd rfl hw
    rw [e]
    generalize fltR (truncN n) = fl at *
    clear hr hb h0 tw hw e
    go_enter Try.func29, Try.ntmps29
    go_wp2_with (first | (go_at_call 82; (with_reducible refine (RC.out _).mono ?_); rintro e w1 ⟨rfl, hb⟩; have HB := Aside0.mk hb; clear hb) | (go_at_call 83; (with_reducible refine (MT.out _).mono ?_); rintro e w2 ⟨rfl, hb⟩; replace HB := Aside0.mk (below_then HB.out HB.out.size hb); clear hb))
    go_ret2
    exact ⟨rfl, HB.out⟩
end Go.Proofs.Ytfbjjbbhnmoolaa.P
namespace Go.Proofs.Ytfbjjbbhnmoolaa.P
open Go.RowKit Go.Shelf Go.Proofs.YtfbjjbbhnmoolaaW.PrintWords Go.Proofs.YtfbjjbbhnmoolaaW.PrintLast Go.Proofs.YtfbjjbbhnmoolaaW.PrintMore
theorem SI.V {w : World} {e : Nat} {A : Option Addr} {c : Nat} {l : List Int} (hc : l.length ≤ c) (hr : (Kd.int .i64).C w A l.length l) : Kd.V (Kd.int .i64) e w w.heap.size (fun k_ => (fun k => k < w.heap.size) k_) (.slice A l.length c) l := ⟨_, _, rfl, hc, Kd.C_F (Kd.heap_int .i64) hr⟩
theorem SI.of_V {e : Nat} {w : World} {base : Nat} {ok : Nat → Prop} {v : Value} {l : List Int} (h : Kd.V (Kd.int .i64) e w base ok v l) : SI (Kd.int .i64) w v l := by
  obtain ⟨A, c, rfl, hc, hf⟩ := h
  exact .of (hf w (fun _ _ _ => rfl)) hc
theorem refHead_c (s z : Int) (w : World) : Calls Try.prog 67 #[.int .i64 s, .int .u64 z] w fun e w' => e = .returned (.int .i64 (if s < -4 ∨ s > 8 then 21 else if ¬ z < 9218868437227405312 then 11 else 0)) ∧ Below w.heap.size w w' :=
  (tidepoleref09_Head.calls 1 s z _ w (refHead_eq s z 1 (by omega))).mono fun e w1 h => ⟨h.1, h.2.below⟩
theorem refSide_c (l : List Sp) (d : List Int) (hl : wfSps l) (hd : i64s d) (hm : d.length < 4398046511104) (w : World) (u v : Value) (hu : SI kRsp w u (l.map toR)) (hv : SI (Kd.int .i64) w v d) : Calls Try.prog 18 #[u, v] w fun e w' =>
    ∃ v0 v1 : Value, e = .returned (.tuple #[v0, v1, .int .i64 (sideRef l d).2.2]) ∧ SI (Kd.int .i64) w' v0 (sideRef l d).1 ∧ SI (Kd.int .i64) w' v1 (sideRef l d).2.1 ∧ Below w.heap.size w w' := by
  obtain ⟨A, c, rfl, hc, hr⟩ := hu
  obtain ⟨D, g, rfl, hg, hs⟩ := hv
  refine (tidepoleref09_Side.calls (5120001 + d.length) A c _ D g d _ _ _ w hr hc hs hg (refSide_eq l d hl hd hm _ (by omega))).mono ?_
  rintro e w1 ⟨v0, v1, rfl, h0, h1, hb⟩
  exact ⟨v0, v1, rfl, .of_R h0, .of_R h1, hb⟩
theorem refFits_c (zc ct sm : Int) (p n : List Pr) (hz : u64 zc) (hc : u64 ct) (hs : u64 sm) (hp : ∀ x ∈ p, 0 ≤ x.f1 ∧ x.f1 ≤ 9223372036854775807) (hn : ∀ x ∈ n, 0 ≤ x.f1 ∧ x.f1 ≤ 9223372036854775807) (hpm : p.length < 17592186044416) (hnm : n.length < 17592186044416) (w : World) (u v : Value) (hu : SI (Kd.int .i64) w u (p.map (·.f1))) (hv : SI (Kd.int .i64) w v (n.map (·.f1))) :
    Calls Try.prog 68 #[.int .u64 zc, .int .u64 ct, .int .u64 sm, u, v] w fun e w' => e = .returned (.int .i64 (if fits zc ct sm p n = true then 0 else 22)) ∧ Below w.heap.size w w' := by
  obtain ⟨A, c, rfl, hc1, hr⟩ := hu
  obtain ⟨D, g, rfl, hg, hs1⟩ := hv
  exact tidepoleref09_Fits.calls (p.length + n.length + 11) zc ct sm _ A c _ _ D g _ _ w (SI.V hc1 hr) (SI.V hg hs1) (refFits_eq zc ct sm p n hz hc hs hp hn hpm hnm _ (by omega))
def headE (h : Hi) : Int := if h.f0 < -4 ∨ h.f0 > 8 then 21 else if ¬ h.f1 < 9218868437227405312 then 11 else 0
theorem checkR_eq (h : Hi) : checkR h = if headE h ≠ 0 then headE h else if (sideRes h.f5 h.f7).2 ≠ 0 then (sideRes h.f5 h.f7).2 else if (sideRes h.f6 h.f8).2 ≠ 0 then (sideRes h.f6 h.f8).2 else if fits h.f2 h.f3 h.f4 (sideRes h.f5 h.f7).1 (sideRes h.f6 h.f8).1 = true then 0 else 22 := by
  unfold checkR openR openRes headE
  by_cases c1 : h.f0 < -4 ∨ h.f0 > 8
  · rw [if_pos c1, if_pos c1, if_pos (by omega)]
  rw [if_neg c1, if_neg c1]
  by_cases c2 : ¬ h.f1 < 9218868437227405312
  · rw [if_pos c2, if_pos c2, if_pos (by omega)]
  rw [if_neg c2, if_neg c2, if_neg (c := (0 : Int) ≠ 0) (by omega)]
  by_cases c3 : (sideRes h.f5 h.f7).2 ≠ 0
  · rw [if_pos c3, if_pos c3]
  rw [if_neg c3, if_neg c3]
  by_cases c4 : (sideRes h.f6 h.f8).2 ≠ 0
  · rw [if_pos c4, if_pos c4]
  rw [if_neg c4, if_neg c4]
  by_cases c5 : fits h.f2 h.f3 h.f4 (sideRes h.f5 h.f7).1 (sideRes h.f6 h.f8).1 = true
  · rw [if_pos c5, if_pos c5]
  · rw [if_neg c5, if_neg c5]
theorem openR_right {h : Hi} (hc : checkR h = 0) : openR h = ((sideRes h.f5 h.f7).1, (sideRes h.f6 h.f8).1, 0) := by
  unfold checkR openR openRes at *
  split at hc
  · cases hc
  split at hc
  · cases hc
  split at hc
  · rename_i h3; exact absurd hc h3
  split at hc
  · rename_i h3; exact absurd hc h3
  split at hc
  · rename_i h1 h2 h3 h4 h5; rw [if_neg h1, if_neg h2, if_neg h3, if_neg h4, if_pos h5]
  · cases hc
set_option maxHeartbeats 8000000 in
set_option maxRecDepth 100000 in
theorem refCheck_c (h : Hi) (hw : wfH h) (w : World) (v : Value) (hv : HR w v h) : Calls Try.prog 16 #[v] w fun e w' => e = .returned (.int .i64 (checkR h)) ∧ Below w.heap.size w w' := by
  have hu := Try.underlying45
  have ch := refHead_c h.f0 h.f1
  rw [show (if h.f0 < -4 ∨ h.f0 > 8 then (21 : Int) else if ¬ h.f1 < 9218868437227405312 then 11 else 0) = headE h from rfl] at ch
  obtain ⟨w0, w1, w2, w3, w4, w5, w6, w7, w8, w9, w10⟩ := hw
  have s5 := refSide_c h.f5 h.f7 w5 w7 w9
  have s6 := refSide_c h.f6 h.f8 w6 w8 w10
  have r5 := sideRes_row (l := h.f5) w7
  have r6 := sideRes_row (l := h.f6) w8
  have cf := refFits_c h.f2 h.f3 h.f4 (sideRes h.f5 h.f7).1 (sideRes h.f6 h.f8).1 w2 w3 w4 (fun x hx => (r5.cnt x hx).2) (fun x hx => (r6.cnt x hx).2) (by have := r5.len; omega) (by have := r6.len; omega)
  have HC := checkR_eq h
  clear w0 w1 w2 w3 w4 w5 w6 w7 w8 w9 w10 r5 r6
  unfold sideRef at s5 s6
  generalize fits h.f2 h.f3 h.f4 (sideRes h.f5 h.f7).1 (sideRes h.f6 h.f8).1 = ft at *
  generalize sideRes h.f5 h.f7 = q5 at *
  generalize sideRes h.f6 h.f8 = q6 at *
  generalize headE h = he at *
  generalize checkR h = r at *
  obtain ⟨p, e5⟩ := q5
  obtain ⟨n, e6⟩ := q6
  simp only at s5 s6 HC
  have CH := Aside0.mk ch
  have C5 := Aside0.mk s5
  have C6 := Aside0.mk s6
  have CF := Aside0.mk cf
  clear ch s5 s6 cf
  obtain ⟨A5, c5, A6, c6, A7, c7, A8, c8, e, h5, h6, h7, h8⟩ := hv.open_
  subst e
  have B := Aside0.mk (below_alloc (Below.refl w.heap.size w) (.cells #[.int .i64 h.f0, .int .u64 h.f1, .int .u64 h.f2, .int .u64 h.f3, .int .u64 h.f4, .slice A5 h.f5.length c5, .slice A6 h.f6.length c6, .slice A7 h.f7.length c7, .slice A8 h.f8.length c8] 45))
  have X := Aside0.mk (Blk.new w #[.int .i64 h.f0, .int .u64 h.f1, .int .u64 h.f2, .int .u64 h.f3, .int .u64 h.f4, .slice A5 h.f5.length c5, .slice A6 h.f6.length c6, .slice A7 h.f7.length c7, .slice A8 h.f8.length c8] 45)
  have hx := fun i => X.out.cell i
  have H5 := Aside0.mk (h5.below B.out)
  have H6 := Aside0.mk (h6.below B.out)
  have H7 := Aside0.mk (h7.below B.out)
  have H8 := Aside0.mk (h8.below B.out)
  clear hv h5 h6 h7 h8
  by_cases c1 : he = 0
  rotate_left
  · rw [if_pos c1] at HC
    subst HC
    have d1 : (r != 0) = true := bne_iff_ne.2 c1
    clear c1
    go_enter Try.func16, Try.ntmps16
    go_wp2_with (first | (go_at_call 67; (with_reducible refine (CH.out _).mono ?_); rintro e W ⟨rfl, hb⟩; replace B := Aside0.mk (below_then B.out B.out.size hb); replace H5 := Aside0.mk (H5.out.below hb); replace H6 := Aside0.mk (H6.out.below hb); replace H7 := Aside0.mk (H7.out.below hb); replace H8 := Aside0.mk (H8.out.below hb); replace X := Aside0.mk (X.out.below hb); replace hx := fun i => X.out.cell i; clear  hb))
    go_ret
    exact ⟨rfl, B.out⟩
  subst c1
  rw [if_neg (by simp)] at HC
  by_cases c2 : e5 = 0
  rotate_left
  · rw [if_pos c2] at HC
    subst HC
    have d2 : (r != 0) = true := bne_iff_ne.2 c2
    clear c2
    go_enter Try.func16, Try.ntmps16
    go_wp2_with (first | (go_at_call 67; (with_reducible refine (CH.out _).mono ?_); rintro e W ⟨rfl, hb⟩; replace B := Aside0.mk (below_then B.out B.out.size hb); replace H5 := Aside0.mk (H5.out.below hb); replace H6 := Aside0.mk (H6.out.below hb); replace H7 := Aside0.mk (H7.out.below hb); replace H8 := Aside0.mk (H8.out.below hb); replace X := Aside0.mk (X.out.below hb); replace hx := fun i => X.out.cell i; clear  hb) | (go_at_call 18; (with_reducible refine (C5.out _ _ _ H5.out H7.out).mono ?_); rintro e W ⟨v0, v1, rfl, h0, h1, hb⟩; replace B := Aside0.mk (below_then B.out B.out.size hb); replace H5 := Aside0.mk (H5.out.below hb); replace H6 := Aside0.mk (H6.out.below hb); replace H7 := Aside0.mk (H7.out.below hb); replace H8 := Aside0.mk (H8.out.below hb); replace X := Aside0.mk (X.out.below hb); replace hx := fun i => X.out.cell i; have P5 := Aside0.mk h0; have V5 := Aside0.mk h1; clear h0 h1 hb))
    go_ret
    exact ⟨rfl, B.out⟩
  subst c2
  rw [if_neg (by simp)] at HC
  by_cases c3 : e6 = 0
  rotate_left
  · rw [if_pos c3] at HC
    subst HC
    have d3 : (r != 0) = true := bne_iff_ne.2 c3
    clear c3
    go_enter Try.func16, Try.ntmps16
    go_wp2_with (first | (go_at_call 67; (with_reducible refine (CH.out _).mono ?_); rintro e W ⟨rfl, hb⟩; replace B := Aside0.mk (below_then B.out B.out.size hb); replace H5 := Aside0.mk (H5.out.below hb); replace H6 := Aside0.mk (H6.out.below hb); replace H7 := Aside0.mk (H7.out.below hb); replace H8 := Aside0.mk (H8.out.below hb); replace X := Aside0.mk (X.out.below hb); replace hx := fun i => X.out.cell i; clear  hb) | (go_at_call 18; (with_reducible refine (C5.out _ _ _ H5.out H7.out).mono ?_); rintro e W ⟨v0, v1, rfl, h0, h1, hb⟩; replace B := Aside0.mk (below_then B.out B.out.size hb); replace H5 := Aside0.mk (H5.out.below hb); replace H6 := Aside0.mk (H6.out.below hb); replace H7 := Aside0.mk (H7.out.below hb); replace H8 := Aside0.mk (H8.out.below hb); replace X := Aside0.mk (X.out.below hb); replace hx := fun i => X.out.cell i; have P5 := Aside0.mk h0; have V5 := Aside0.mk h1; clear h0 h1 hb) | (go_at_call 18; (with_reducible refine (C6.out _ _ _ H6.out H8.out).mono ?_); rintro e W ⟨v2, v3, rfl, h0, h1, hb⟩; replace B := Aside0.mk (below_then B.out B.out.size hb); replace H5 := Aside0.mk (H5.out.below hb); replace H6 := Aside0.mk (H6.out.below hb); replace H7 := Aside0.mk (H7.out.below hb); replace H8 := Aside0.mk (H8.out.below hb); replace P5 := Aside0.mk (P5.out.below hb); replace V5 := Aside0.mk (V5.out.below hb); replace X := Aside0.mk (X.out.below hb); replace hx := fun i => X.out.cell i; have P6 := Aside0.mk h0; have V6 := Aside0.mk h1; clear h0 h1 hb))
    go_ret
    exact ⟨rfl, B.out⟩
  subst c3
  rw [if_neg (by simp)] at HC
  rw [← HC] at CF
  clear HC
  go_enter Try.func16, Try.ntmps16
  go_wp2_with (first | (go_at_call 67; (with_reducible refine (CH.out _).mono ?_); rintro e W ⟨rfl, hb⟩; replace B := Aside0.mk (below_then B.out B.out.size hb); replace H5 := Aside0.mk (H5.out.below hb); replace H6 := Aside0.mk (H6.out.below hb); replace H7 := Aside0.mk (H7.out.below hb); replace H8 := Aside0.mk (H8.out.below hb); replace X := Aside0.mk (X.out.below hb); replace hx := fun i => X.out.cell i; clear  hb) | (go_at_call 18; (with_reducible refine (C5.out _ _ _ H5.out H7.out).mono ?_); rintro e W ⟨v0, v1, rfl, h0, h1, hb⟩; replace B := Aside0.mk (below_then B.out B.out.size hb); replace H5 := Aside0.mk (H5.out.below hb); replace H6 := Aside0.mk (H6.out.below hb); replace H7 := Aside0.mk (H7.out.below hb); replace H8 := Aside0.mk (H8.out.below hb); replace X := Aside0.mk (X.out.below hb); replace hx := fun i => X.out.cell i; have P5 := Aside0.mk h0; have V5 := Aside0.mk h1; clear h0 h1 hb) | (go_at_call 18; (with_reducible refine (C6.out _ _ _ H6.out H8.out).mono ?_); rintro e W ⟨v2, v3, rfl, h0, h1, hb⟩; replace B := Aside0.mk (below_then B.out B.out.size hb); replace H5 := Aside0.mk (H5.out.below hb); replace H6 := Aside0.mk (H6.out.below hb); replace H7 := Aside0.mk (H7.out.below hb); replace H8 := Aside0.mk (H8.out.below hb); replace P5 := Aside0.mk (P5.out.below hb); replace V5 := Aside0.mk (V5.out.below hb); replace X := Aside0.mk (X.out.below hb); replace hx := fun i => X.out.cell i; have P6 := Aside0.mk h0; have V6 := Aside0.mk h1; clear h0 h1 hb) | (go_at_call 68; (with_reducible refine (CF.out _ _ _ V5.out V6.out).mono ?_); rintro e W ⟨rfl, hb⟩; replace B := Aside0.mk (below_then B.out B.out.size hb); replace H5 := Aside0.mk (H5.out.below hb); replace H6 := Aside0.mk (H6.out.below hb); replace H7 := Aside0.mk (H7.out.below hb); replace H8 := Aside0.mk (H8.out.below hb); replace P5 := Aside0.mk (P5.out.below hb); replace V5 := Aside0.mk (V5.out.below hb); replace P6 := Aside0.mk (P6.out.below hb); replace V6 := Aside0.mk (V6.out.below hb); replace X := Aside0.mk (X.out.below hb); replace hx := fun i => X.out.cell i; clear  hb))
  go_ret
  exact ⟨rfl, B.out⟩
end Go.Proofs.Ytfbjjbbhnmoolaa.P
namespace Go.Proofs.Ytfbjjbbhnmoolaa.P
open Go.RowKit Go.Proofs.YtfbjjbbhnmoolaaW.PrintWords Go.Proofs.YtfbjjbbhnmoolaaW.PrintLast Go.Proofs.YtfbjjbbhnmoolaaW.PrintMore
theorem side_bounds {l : List Sp} {d : List Int} (h0 : (sideRes l d).2 = 0) : (∀ p ∈ (sideRes l d).1, -1048576 ≤ p.f0 ∧ p.f0 ≤ 1048576) ∧ (sideRes l d).1.length = d.length ∧ (sideRes l d).1.map (·.f0) = plN 0 l ∧ spCheck l = 0 := by
  unfold sideRes at h0 ⊢
  by_cases c1 : spCheck l = 0
  rotate_left
  · rw [if_neg c1] at h0; exact absurd h0 c1
  rw [if_pos c1] at h0 ⊢
  by_cases c2 : cntN l = d.length
  rotate_left
  · rw [if_neg c2] at h0; cases h0
  rw [if_pos c2] at h0 ⊢
  cases hs : sumsFrom 0 d with
  | none => rw [hs] at h0; cases h0
  | some c =>
    rw [hs] at h0
    simp only at h0 ⊢
    by_cases c3 : c.any (fun x => decide (x < 0)) = true
    · rw [if_pos c3] at h0; cases h0
    rw [if_neg c3]
    have hr := rises_of_right c1
    have hpl := plN_length l 0 (fun s hs => (spRight_pos l _ _ _ (spCheck_zero c1).2 s hs).1)
    have hc := sumsFrom_length d 0 c hs
    have hz := zipL (plN 0 l) c (by omega)
    refine ⟨fun y hy => ?_, by simp; omega, hz.1, c1⟩
    have : y.f0 ∈ plN 0 l := by
      obtain ⟨i, hi, rfl⟩ := List.mem_iff_getElem.1 hy
      simp only [List.getElem_zipWith]; exact List.getElem_mem _
    exact rises_i64 hr _ this
theorem checkR_zero {h : Hi} (hc : checkR h = 0) : headE h = 0 ∧ (sideRes h.f5 h.f7).2 = 0 ∧ (sideRes h.f6 h.f8).2 = 0 ∧ fits h.f2 h.f3 h.f4 (sideRes h.f5 h.f7).1 (sideRes h.f6 h.f8).1 = true := by
  rw [checkR_eq] at hc
  by_cases c1 : headE h = 0
  rotate_left
  · rw [if_pos c1] at hc; exact absurd hc c1
  rw [if_neg (by simp [c1])] at hc
  by_cases c2 : (sideRes h.f5 h.f7).2 = 0
  rotate_left
  · rw [if_pos c2] at hc; exact absurd hc c2
  rw [if_neg (by simp [c2])] at hc
  by_cases c3 : (sideRes h.f6 h.f8).2 = 0
  rotate_left
  · rw [if_pos c3] at hc; exact absurd hc c3
  rw [if_neg (by simp [c3])] at hc
  by_cases c4 : fits h.f2 h.f3 h.f4 (sideRes h.f5 h.f7).1 (sideRes h.f6 h.f8).1 = true
  · exact ⟨c1, c2, c3, c4⟩
  · rw [if_neg c4] at hc; cases hc
end Go.Proofs.Ytfbjjbbhnmoolaa.P
namespace Go.Proofs.Ytfbjjbbhnmoolaa.P
open Go.RowKit Go.Proofs.YtfbjjbbhnmoolaaW.PrintWords Go.Proofs.YtfbjjbbhnmoolaaW.PrintLast Go.Proofs.YtfbjjbbhnmoolaaW.PrintMore
def diffsW : Int → List Int → List Int
  | _, [] => []
  | a, n :: ns => (n - a) :: diffsW n ns
end Go.Proofs.Ytfbjjbbhnmoolaa.P
namespace Go.Proofs.Ytfbjjbbhnmoolaa.P
open Go.RowKit Go.Shelf Go.Proofs.YtfbjjbbhnmoolaaW.PrintWords Go.Proofs.YtfbjjbbhnmoolaaW.PrintLast Go.Proofs.YtfbjjbbhnmoolaaW.PrintMore
attribute [local go_sem] Oper.semAt_some
def diffsU (l : List Int) : List Int × Bool := if l.all (fun v => decide (v ≤ 9223372036854775807)) = true then (diffsW 0 l, true) else ([], false)
theorem diffsW_snoc : ∀ (l : List Int) (a x : Int), diffsW a (l ++ [x]) = diffsW a l ++ [x - l.getLastD a]
  | [], a, x => by simp [diffsW]
  | y :: t, a, x => by
    rw [List.cons_append, diffsW, diffsW, diffsW_snoc t y x, List.getLastD_cons, List.cons_append]
theorem diffsW_len : ∀ (l : List Int) (a : Int), (diffsW a l).length = l.length
  | [], _ => rfl
  | y :: t, a => by simp [diffsW, diffsW_len t y]
set_option maxRecDepth 100000 in
set_option maxHeartbeats 4000000 in
theorem wholes_r (wh : Int → Int × Bool) (l : List Int) (hm : l.length ≤ 4096) (hwh : ∀ v ∈ l, ∀ w, Calls Try.prog 29 #[.int .u64 v] w fun e w' => e = .returned (.tuple #[.int .u64 (wh v).1, .bool (wh v).2]) ∧ Below w.heap.size w w')
    (w : World) (v : Value) (hv : SI (Kd.int .u64) w v l) : Calls Try.prog 91 #[v] w fun e w' => ∃ v0 : Value, e = .returned (.tuple #[v0, .bool (wholesR wh l).2]) ∧ Kd.R (Kd.int .u64) 22 w' w.heap.size (fun _ => True) v0 (wholesR wh l).1 ∧ Below w.heap.size w w' := by
  obtain ⟨A, c, rfl, hc, hr⟩ := hv
  refine (callsIn_wide (n := 4)).1 ?_
  have hf1 : Fence.wide.fn 29 := trivial
  have HW := Aside0.mk hwh
  have HR := Aside0.mk (And.intro hr hc)
  obtain ⟨i0, hi, hz0, hz1, hz2⟩ := info_parts info22
  have hmk : ∀ W : World, (Instr.makeSlice 29 (.int .i64 0) (.int .i64 l.length)).run Try.prog W = .ok (.slice (some ⟨W.heap.size, 0, none⟩) 0 l.length) (W.alloc (.cells (madeCells #[Value.int .u64 0] (l.length * i0.size)) 22)) := fun W => by
    have := run_make (P := Try.prog) W 29 22 i0 (.int .u64 0) Try.underlying29 hi hz0 .i64 .i64 0 l.length (by omega) (by omega) (by rw [hz2]; omega) (by omega)
    simpa [Value.cells] using this
  have HM := Aside0.mk hm
  clear hr hc hwh hm
  refine callsIn_of_wp Try.func91 rfl trivial ?_ rfl
  simp only [Try.ntmps91, List.size_toArray, List.length_cons, List.length_nil, Nat.reduceAdd, Nat.reduceSub, Array.replicate_succ, Array.replicate_zero, List.push_toArray, List.append_toArray, List.nil_append, List.cons_append]
  gi_wp2
  clear hmk
  gi_loopw [4, 14] (fun s4 s14 wx => ∃ i : Nat, i ≤ l.length ∧ s14 = .int .i64 i ∧ Aside0 (wx.ownsRow w.heap.size 22 1 s4 i (((l.take i).map (fun v => (wh v).1)).map (Value.int .u64))) ∧ Aside0 (Below w.heap.size w wx) ∧ Aside0 ((l.take i).all (fun v => (wh v).2) = true)) (fun _ s14 _ => l.length - (intOf s14).toNat)
  case atStart =>
    refine ⟨0, Nat.zero_le _, rfl, ⟨?_⟩, ⟨below_alloc (Below.refl _ _) _⟩, ⟨by simp⟩⟩
    have := World.ownsRow_made (base := w.heap.size) (e := 22) (size := 1) w (madeCells #[Value.int .u64 0] (l.length * i0.size)) l.length (Nat.le_refl _) (by have := HM.out; unfold maxLen; omega) (by rw [size_madeCells, hz1])
    simpa [hz1] using this
  case round =>
    obtain ⟨i, hil, rfl, HO, HB, HA⟩ := hrel
    by_cases hlt : i < l.length
    · have hlti : (i : Int) < (l.length : Int) := by omega
      have hi0 : (0 : Int) ≤ (i : Int) := by omega
      obtain ⟨ad, e1, hx0⟩ := Kd.at_int (Kd.C_below HR.out.1 HB.out) (i : Int) hi0 hlti
      rw [rd_at hlt, Int.toNat_natCast] at hx0
      subst e1
      have HC := Aside0.mk (HW.out l[i] (List.getElem_mem hlt))
      have HT := Aside0.mk (take_all (fun v => (wh v).2) l i hlt)
      have HS := Aside0.mk (List.take_succ_eq_append_getElem hlt)
      have HMN := Aside0.mk (List.getElem_mem hlt)
      have hi4 : i < 4096 := by have := HM.out; omega
      generalize l[i] = x at hx0 HC HT HS HMN
      generalize hwx : wh x = r at HC HT
      have HWX := Aside0.mk hwx
      clear hwx
      obtain ⟨nv, ok⟩ := r
      simp only at HC HT
      cases ok with
      | false =>
        clear hlt
        gi_wp2_with (gi_at_call 29; refine (callsIn_wide.2 (HC.out _)).mono ?_; rintro e w2 ⟨rfl, hb⟩; have HB2 := Aside0.mk (below_then HB.out HB.out.size hb); clear hb)
        refine bodyPost_ret (results_tmp2 rfl _ _ _) rfl ?_
        have hf : wholesR wh l = ([], false) := by
          unfold wholesR
          rw [if_neg]
          intro h
          have := List.all_eq_true.1 h x HMN.out
          rw [HWX.out] at this; cases this
        rw [hf]
        exact ⟨_, rfl, Kd.R_nil _ _ _ _ _, HB2.out⟩
      | true =>
        gi_wp2_with (first | (gi_at_call 29; refine (callsIn_wide.2 (HC.out _)).mono ?_; rintro e w2 ⟨rfl, hb⟩; have HO2 := Aside0.mk (HO.out.kept (grown_of_below hb none) (Classical.em _)); have HB2 := Aside0.mk (below_then HB.out HB.out.size hb); clear hb) | (gi_at_builtin; refine wpListIn_append_own _ rfl _ _ 29 rfl w.heap.size 22 i0 (.int .u64 0) 1 8 Try.underlying29 hi hz0 hz1 hz2 rfl (by decide) _ _ _ rfl (HO2.out.alloc _) ⟨w2.heap.size, 0, none⟩ 1 1 [.int .u64 nv] rfl rfl (cell_one_new _ _ _) (by simp [Value.oneCell']) (by unfold maxLen; omega) (by omega) (by have := HB2.out.size; simp; omega) ?_; intro v' w3 hown' hgrow _; have HO3 := Aside0.mk hown'; have HB3 := Aside0.mk (pw_below_grown (below_alloc HB2.out _) _ (by have := HB2.out.size; simp; omega) hgrow (own_base' HO2.out)); clear hown' hgrow))
        go_roundw
        case rel =>
          refine ⟨i + 1, by omega, by go_num, ⟨?_⟩, HB3, ⟨by rw [HT.out, HA.out]; rfl⟩⟩
          have := HO3.out
          rw [HS.out, List.map_append, List.map_append, List.map_cons, List.map_nil, HWX.out]
          exact this
        case measure => simp [intOf]; omega
    · obtain rfl : i = l.length := by omega
      have hlti : ¬ (l.length : Int) < (l.length : Int) := by omega
      have ht : l.take l.length = l := List.take_length
      have hf : wholesR wh l = (l.map (fun v => (wh v).1), true) := by unfold wholesR; rw [if_pos (by have := HA.out; rwa [ht] at this)]
      have HF := Aside0.mk hf
      clear hf hlt ht
      gi_wp2
      refine bodyPost_ret (results_tmp2 rfl _ _ _) rfl ?_
      rw [HF.out]
      have hl : l.length = (l.map (fun v => (wh v).1)).length := (List.length_map ..).symm
      have ho := HO.out
      rw [List.take_length] at ho
      refine ⟨_, rfl, Kd.R_of_own (enc := Value.int .u64) (h1 := fun _ => rfl) (hl ▸ ho) (fun _ _ => trivial), HB.out⟩
set_option maxRecDepth 100000 in
set_option maxHeartbeats 4000000 in
theorem diffs_r (l : List Int) (hm : l.length ≤ 4096) (hn : ∀ v ∈ l, 0 ≤ v)
    (w : World) (v : Value) (hv : SI (Kd.int .u64) w v l) : Calls Try.prog 92 #[v] w fun e w' => ∃ v0 : Value, e = .returned (.tuple #[v0, .bool (diffsU l).2]) ∧ Kd.R (Kd.int .i64) 2 w' w.heap.size (fun _ => True) v0 (diffsU l).1 ∧ Below w.heap.size w w' := by
  obtain ⟨A, c, rfl, hc, hr⟩ := hv
  refine (callsIn_wide (n := 4)).1 ?_
  have HNN := Aside0.mk hn
  have HR := Aside0.mk (And.intro hr hc)
  obtain ⟨i0, hi, hz0, hz1, hz2⟩ := info_parts info2
  have hmk : ∀ W : World, (Instr.makeSlice 24 (.int .i64 0) (.int .i64 l.length)).run Try.prog W = .ok (.slice (some ⟨W.heap.size, 0, none⟩) 0 l.length) (W.alloc (.cells (madeCells #[Value.int .i64 0] (l.length * i0.size)) 2)) := fun W => by
    have := run_make (P := Try.prog) W 24 2 i0 (.int .i64 0) Try.underlying24 hi hz0 .i64 .i64 0 l.length (by omega) (by omega) (by rw [hz2]; omega) (by omega)
    simpa [Value.cells] using this
  have HM := Aside0.mk hm
  clear hr hc hn hm
  refine callsIn_of_wp Try.func92 rfl trivial ?_ rfl
  simp only [Try.ntmps92, List.size_toArray, List.length_cons, List.length_nil, Nat.reduceAdd, Nat.reduceSub, Array.replicate_succ, Array.replicate_zero, List.push_toArray, List.append_toArray, List.nil_append, List.cons_append]
  gi_wp2
  clear hmk
  gi_loopw [4, 5, 13] (fun s4 s5 s13 wx => ∃ (i : Nat) (la : Int), i ≤ l.length ∧ s13 = .int .i64 i ∧ s5 = .int .i64 la ∧ Aside0 (la = (l.take i).getLastD 0 ∧ 0 ≤ la ∧ la ≤ 9223372036854775807) ∧ Aside0 (wx.ownsRow w.heap.size 2 1 s4 i ((diffsW 0 (l.take i)).map (Value.int .i64))) ∧ Aside0 (Below w.heap.size w wx) ∧ Aside0 ((l.take i).all (fun v => decide (v ≤ 9223372036854775807)) = true)) (fun _ _ s13 _ => l.length - (intOf s13).toNat)
  case atStart =>
    refine ⟨0, 0, Nat.zero_le _, rfl, rfl, ⟨⟨by simp, by decide, by decide⟩⟩, ⟨?_⟩, ⟨below_alloc (Below.refl _ _) _⟩, ⟨by simp⟩⟩
    have := World.ownsRow_made (base := w.heap.size) (e := 2) (size := 1) w (madeCells #[Value.int .i64 0] (l.length * i0.size)) l.length (Nat.le_refl _) (by have := HM.out; unfold maxLen; omega) (by rw [size_madeCells, hz1])
    simpa [hz1, diffsW] using this
  case round =>
    obtain ⟨i, la, hil, rfl, rfl, HL, HO, HB, HA⟩ := hrel
    by_cases hlt : i < l.length
    · have hlti : (i : Int) < (l.length : Int) := by omega
      have hi0 : (0 : Int) ≤ (i : Int) := by omega
      obtain ⟨ad, e1, hx0⟩ := Kd.at_int (Kd.C_below HR.out.1 HB.out) (i : Int) hi0 hlti
      rw [rd_at hlt, Int.toNat_natCast] at hx0
      subst e1
      have HT := Aside0.mk (take_all (fun v => decide (v ≤ 9223372036854775807)) l i hlt)
      have HS := Aside0.mk (List.take_succ_eq_append_getElem hlt)
      have HMN := Aside0.mk (List.getElem_mem hlt)
      have HP := Aside0.mk (HNN.out l[i] (List.getElem_mem hlt))
      have hi4 : i < 4096 := by have := HM.out; omega
      generalize l[i] = x at hx0 HT HS HMN HP
      by_cases hbig : x > 9223372036854775807
      · have d1 : decide (x > 9223372036854775807) = true := decide_eq_true hbig
        have d1' : decide (9223372036854775807 < x) = true := decide_eq_true hbig
        have HG := Aside0.mk hbig
        clear hlt hbig
        gi_wp2
        refine bodyPost_ret (results_tmp2 rfl _ _ _) rfl ?_
        have hf : diffsU l = ([], false) := by
          unfold diffsU
          rw [if_neg]
          intro h
          have := List.all_eq_true.1 h x HMN.out
          have h2 := HG.out
          simp only [decide_eq_true_eq] at this
          omega
        rw [hf]
        exact ⟨_, rfl, Kd.R_nil _ _ _ _ _, HB.out⟩
      · have d1 : decide (x > 9223372036854775807) = false := decide_eq_false hbig
        have d1' : decide (9223372036854775807 < x) = false := decide_eq_false hbig
        have hcv : IntKind.i64.wrap x = x := by rw [i64_w]; exact wrap_id (x := x) (by have := HP.out; omega) (by omega)
        obtain ⟨dv, hdv⟩ : ∃ dv, dv = x - la := ⟨_, rfl⟩
        have hcd : wrap64 (x - la) = dv := by rw [hdv]; exact wrap_id (x := x - la) (by have := HP.out; have := HL.out; omega) (by have := HP.out; have := HL.out; omega)
        have hcd' : IntKind.i64.wrap (x - la) = dv := by rw [i64_w]; exact hcd
        have HDV := Aside0.mk hdv
        have HXB := Aside0.mk (show x ≤ 9223372036854775807 by omega)
        clear hbig hlt hdv
        gi_wp2_with (gi_at_builtin; refine wpListIn_append_own _ rfl _ _ 24 rfl w.heap.size 2 i0 (.int .i64 0) 1 8 Try.underlying24 hi hz0 hz1 hz2 rfl (by decide) _ _ _ rfl (HO.out.alloc _) ⟨wr.heap.size, 0, none⟩ 1 1 [.int .i64 dv] rfl rfl (cell_one_new _ _ _) (by simp [Value.oneCell']) (by unfold maxLen; omega) (by omega) (by have := HB.out.size; simp; omega) ?_; intro v' w3 hown' hgrow _; have HO3 := Aside0.mk hown'; have HB3 := Aside0.mk (pw_below_grown (below_alloc HB.out _) _ (by have := HB.out.size; simp; omega) hgrow (own_base' HO.out)); clear hown' hgrow)
        go_roundw
        case rel =>
          refine ⟨i + 1, x, by omega, by go_num, (by first | rfl | rw [hcv]), ⟨⟨by rw [HS.out]; simp, HP.out, HXB.out⟩⟩, ⟨?_⟩, HB3, ⟨by rw [HT.out, HA.out]; simpa using HXB.out⟩⟩
          have := HO3.out
          rw [HS.out, diffsW_snoc, List.map_append, List.map_cons, List.map_nil, ← HL.out.1, ← HDV.out]
          exact this
        case measure => simp [intOf]; omega
    · obtain rfl : i = l.length := by omega
      have hlti : ¬ (l.length : Int) < (l.length : Int) := by omega
      have ht : l.take l.length = l := List.take_length
      have hf : diffsU l = (diffsW 0 l, true) := by unfold diffsU; rw [if_pos (by have := HA.out; rwa [ht] at this)]
      have HF := Aside0.mk hf
      clear hf hlt ht
      gi_wp2
      refine bodyPost_ret (results_tmp2 rfl _ _ _) rfl ?_
      rw [HF.out]
      have hl : l.length = (diffsW 0 l).length := (diffsW_len l 0).symm
      have ho := HO.out
      rw [List.take_length] at ho
      refine ⟨_, rfl, Kd.R_of_own (enc := Value.int .i64) (h1 := fun _ => rfl) (hl ▸ ho) (fun _ _ => trivial), HB.out⟩
def wfWh (l : List Int) : Prop := l.length ≤ 4096 ∧ ∀ v ∈ l, 0 ≤ v
instance (l : List Int) : Decidable (wfWh l) := by unfold wfWh; exact inferInstance
def fhist_wholes.f (l : List Int) : Option (List Int × Bool) := if wfWh l then some (wholesR wholeI l) else none
theorem fhist_wholes.calls (A0 : Option Addr) (c0 : Nat) (l0 : List Int) (r1 : List Int) (r2 : Bool) (w : World) (hr0 : Kd.C (Kd.int .u64) w A0 l0.length l0) (hc0 : l0.length ≤ c0) (h : fhist_wholes.f l0 = some (r1, r2)) :
    Calls Try.prog 91 #[.slice A0 l0.length c0] w fun e w' => ∃ v0_ : Value, e = .returned (.tuple #[v0_, .bool r2]) ∧ Kd.R (Kd.int .u64) 22 w' w.heap.size (fun _ => True) v0_ r1 ∧ Below w.heap.size w w' := by
  unfold fhist_wholes.f at h
  by_cases hwf : wfWh l0
  rotate_left
  · rw [if_neg hwf] at h; cases h
  rw [if_pos hwf] at h
  have e := Option.some.inj h
  have := wholes_r wholeI l0 hwf.1 (fun v hv w => whole_c v (hwf.2 v hv) w) w _ (.of hr0 hc0)
  rw [e] at this
  exact this
def fhist_differences.f (l : List Int) : Option (List Int × Bool) := if wfWh l then some (diffsU l) else none
theorem fhist_differences.calls (A0 : Option Addr) (c0 : Nat) (l0 : List Int) (r1 : List Int) (r2 : Bool) (w : World) (hr0 : Kd.C (Kd.int .u64) w A0 l0.length l0) (hc0 : l0.length ≤ c0) (h : fhist_differences.f l0 = some (r1, r2)) :
    Calls Try.prog 92 #[.slice A0 l0.length c0] w fun e w' => ∃ v0_ : Value, e = .returned (.tuple #[v0_, .bool r2]) ∧ Kd.R (Kd.int .i64) 2 w' w.heap.size (fun _ => True) v0_ r1 ∧ Below w.heap.size w w' := by
  unfold fhist_differences.f at h
  by_cases hwf : wfWh l0
  rotate_left
  · rw [if_neg hwf] at h; cases h
  rw [if_pos hwf] at h
  have e := Option.some.inj h
  have := diffs_r l0 hwf.1 hwf.2 w _ (.of hr0 hc0)
  rw [e] at this
  exact this
end Go.Proofs.Ytfbjjbbhnmoolaa.P
namespace Go.Proofs.Ytfbjjbbhnmoolaa.P
open Go.RowKit Go.Shelf Go.Proofs.YtfbjjbbhnmoolaaW.PrintWords Go.Proofs.YtfbjjbbhnmoolaaW.PrintLast Go.Proofs.YtfbjjbbhnmoolaaW.PrintMore
instance (h : Fh) : Decidable (wfF h) := by unfold wfF; exact inferInstance
def fhist_Check.f (a0 a1 a2 a3 a4 : Int) (a5 a6 : List Sp) (a7 a8 : List Int) : Option Int := if wfF ⟨a0, a1, a2, a3, a4, a5, a6, a7, a8⟩ then some (checkF ⟨a0, a1, a2, a3, a4, a5, a6, a7, a8⟩) else none
theorem fhist_Check.calls (a0 a1 a2 a3 a4 : Int) (A5 : Option Addr) (c5 : Nat) (a5 : List Sp) (A6 : Option Addr) (c6 : Nat) (a6 : List Sp) (A7 : Option Addr) (c7 : Nat) (a7 : List Int) (A8 : Option Addr) (c8 : Nat) (a8 : List Int) (r : Int) (w : World)
    (h5 : Kd.C kSp w A5 a5.length a5) (k5 : a5.length ≤ c5) (h6 : Kd.C kSp w A6 a6.length a6) (k6 : a6.length ≤ c6) (h7 : Kd.C (Kd.int .u64) w A7 a7.length a7) (k7 : a7.length ≤ c7) (h8 : Kd.C (Kd.int .u64) w A8 a8.length a8) (k8 : a8.length ≤ c8)
    (h : fhist_Check.f a0 a1 a2 a3 a4 a5 a6 a7 a8 = some r) :
    Calls Try.prog 87 #[.agg #[.int .i64 a0, .int .u64 a1, .int .u64 a2, .int .u64 a3, .int .u64 a4, .slice A5 a5.length c5, .slice A6 a6.length c6, .slice A7 a7.length c7, .slice A8 a8.length c8]] w fun e w' => e = .returned (.int .i64 r) ∧ Below w.heap.size w w' := by
  unfold fhist_Check.f at h
  by_cases hw : wfF ⟨a0, a1, a2, a3, a4, a5, a6, a7, a8⟩
  · rw [if_pos hw] at h
    have e := Option.some.inj h
    have := fcheck_c ⟨a0, a1, a2, a3, a4, a5, a6, a7, a8⟩ hw w _ (GI.mk (.of h5 k5) (.of h6 k6) (.of h7 k7) (.of h8 k8))
    rw [e] at this
    exact this
  · rw [if_neg hw] at h
    cases h
end Go.Proofs.Ytfbjjbbhnmoolaa.P
namespace Go.Proofs.Ytfbjjbbhnmoolaa.P
open Go.RowKit Go.Shelf Go.Proofs.YtfbjjbbhnmoolaaW.PrintWords Go.Proofs.YtfbjjbbhnmoolaaW.PrintLast Go.Proofs.YtfbjjbbhnmoolaaW.PrintMore
attribute [local go_sem] Oper.semAt_some
def nearI (v : Int) : Int := ((FloatKind.f64.nearest v : Nat) : Int)
theorem near_u (v : Int) (w : World) : Calls Try.prog 31 #[.int .u64 v] w fun e w' => e = .returned (.int .u64 (nearI v)) ∧ Below w.heap.size w w' := (fhist_Float.calls v _ w rfl).mono fun e w1 h => ⟨h.1, h.2.below⟩
def floatsCR (l : List Int) : List Int := ((sumsFrom 0 l).getD []).map nearI
def wfFloats (l : List Int) : Prop := (∀ x ∈ l, i64 x) ∧ l.length ≤ 65536 ∧ ∀ x ∈ (sumsFrom 0 l).getD [], 0 ≤ x ∧ x ≤ 9223372036854775807
instance (l : List Int) : Decidable (wfFloats l) := by unfold wfFloats; infer_instance
def fhist_floats.f (l : List Int) : Option (List Int) := if wfFloats l then some (floatsCR l) else none
theorem u64_id {x : Int} (h0 : 0 ≤ x) (h1 : x ≤ 9223372036854775807) : IntKind.u64.wrap x = x := by
  simp only [IntKind.wrap]
  simp [IntKind.signed, IntKind.bits]
  omega
theorem own_base_' {W : World} {base size n : Nat} {e : TypeId} {v : Value} {xs : List Value} (h : W.ownsRow base e size v n xs) : ∀ k, v.ownBlock = some k → base ≤ k := fun k hk => own_base h k hk
theorem sums_len (l : List Int) : ∀ (a : Int) (o : List Int), sumsFrom a l = some o → o.length = l.length := by
  induction l with
  | nil => intro a o h; simp [sumsFrom] at h; subst h; rfl
  | cons x t ih =>
    intro a o h
    simp only [sumsFrom] at h
    split at h
    · cases hs : sumsFrom (a + x) t with
      | none => rw [hs] at h; simp at h
      | some o' => rw [hs] at h; simp at h; subst h; simp [ih _ _ hs]
    · cases h
theorem abs_run (l : List Int) (hw : wfFloats l) : ∃ e : Int, pairs_Absolute.f (l.length + 1) l = some ((sumsFrom 0 l).getD [], e) := by
  rw [absolute_eq l hw.1 (by have := hw.2.1; omega) _ (by omega)]
  cases sumsFrom 0 l with
  | none => exact ⟨28, rfl⟩
  | some o => exact ⟨0, rfl⟩
set_option maxRecDepth 100000 in
set_option maxHeartbeats 4000000 in
theorem fhist_floats.calls (A0 : Option Addr) (c0 : Nat) (l0 : List Int) (r : List Int) (w : World) (hr0 : Kd.C (Kd.int .i64) w A0 l0.length l0) (hc0 : l0.length ≤ c0) (h : fhist_floats.f l0 = some r) :
    Calls Try.prog 52 #[.slice A0 l0.length c0] w fun e w' => ∃ v0_ : Value, e = .returned v0_ ∧ Kd.R (Kd.int .u64) 22 w' w.heap.size (fun _ => True) v0_ r ∧ Below w.heap.size w w' := by
  unfold fhist_floats.f at h
  by_cases hwf : wfFloats l0
  rotate_left
  · rw [if_neg hwf] at h; cases h
  rw [if_pos hwf] at h
  cases h
  obtain ⟨er, habs⟩ := abs_run l0 hwf
  have hlen : ((sumsFrom 0 l0).getD []).length ≤ 65536 := by
    cases hs : sumsFrom 0 l0 with
    | none => simp
    | some o => simp [sums_len _ _ _ hs]; exact hwf.2.1
  have hnum := hwf.2.2
  unfold floatsCR
  generalize (sumsFrom 0 l0).getD [] = l at *
  refine (callsIn_wide (n := 4)).1 ?_
  have hf1 : Fence.wide.fn 99 := trivial
  have hf2 : Fence.wide.fn 31 := trivial
  have HAb := Aside0.mk (fun w hr0 => pairs_Absolute.calls _ A0 c0 l0 _ _ w hr0 hc0 habs)
  have HR := Aside0.mk hr0
  obtain ⟨i0, hi, hz0, hz1, hz2⟩ := info_parts info22
  have hmk : ∀ W : World, (Instr.makeSlice 29 (.int .i64 0) (.int .i64 l.length)).run Try.prog W = .ok (.slice (some ⟨W.heap.size, 0, none⟩) 0 l.length) (W.alloc (.cells (madeCells #[Value.int .u64 0] (l.length * i0.size)) 22)) := fun W => by
    have := run_make (P := Try.prog) W 29 22 i0 (.int .u64 0) Try.underlying29 hi hz0 .i64 .i64 0 l.length (by omega) (by omega) (by rw [hz2]; omega) (by omega)
    simpa [Value.cells] using this
  have HM := Aside0.mk hlen
  have HN := Aside0.mk hnum
  clear hr0 hlen hnum habs hwf
  refine callsIn_of_wp Try.func52 rfl trivial ?_ rfl
  simp only [Try.ntmps52, List.size_toArray, List.length_cons, List.length_nil, Nat.reduceAdd, Nat.reduceSub, Array.replicate_succ, Array.replicate_zero, List.push_toArray, List.append_toArray, List.nil_append, List.cons_append]
  gi_wp2_with (gi_at_call 99; refine (callsIn_wide.2 (HAb.out _ HR.out)).mono ?_; rintro e w1 ⟨v1, rfl, hR1, hb⟩; obtain ⟨A1, c1, rfl, hc1, hC1⟩ := Kd.R_reads hR1; have HC := Aside0.mk hC1; have HB1 := Aside0.mk hb; clear hb hR1 hC1)
  clear hmk
  gi_loopw [5, 18] (fun s5 s18 wx => ∃ i : Nat, i ≤ l.length ∧ s18 = .int .i64 i ∧ Aside0 (wx.ownsRow w1.heap.size 22 1 s5 i (((l.take i).map nearI).map (Value.int .u64))) ∧ Aside0 (Below w1.heap.size w1 wx)) (fun _ s18 _ => l.length - (intOf s18).toNat)
  case atStart =>
    refine ⟨0, Nat.zero_le _, rfl, ⟨?_⟩, ⟨below_alloc (Below.refl _ _) _⟩⟩
    have := World.ownsRow_made (base := w1.heap.size) (e := 22) (size := 1) w1 (madeCells #[Value.int .u64 0] (l.length * i0.size)) l.length (Nat.le_refl _) (by have := HM.out; unfold maxLen; omega) (by rw [size_madeCells, hz1])
    simpa [hz1] using this
  case round =>
    obtain ⟨i, hil, rfl, HO, HB⟩ := hrel
    by_cases hlt : i < l.length
    · have hlti : (i : Int) < (l.length : Int) := by omega
      have hi0 : (0 : Int) ≤ (i : Int) := by omega
      obtain ⟨ad, e1, hx0⟩ := Kd.at_int (Kd.C_below HC.out HB.out) (i : Int) hi0 hlti
      rw [rd_at hlt, Int.toNat_natCast] at hx0
      subst e1
      have HS := Aside0.mk (List.take_succ_eq_append_getElem hlt)
      have hx := HN.out l[i] (List.getElem_mem hlt)
      have hcv := u64_id hx.1 hx.2
      have FL := Aside0.mk (near_u l[i])
      have hi4 : i < 65536 := by have := HM.out; omega
      clear hx
      generalize l[i] = x at hx0 HS hcv FL
      generalize hwx : nearI x = nv at FL
      have HWX := Aside0.mk hwx
      clear hwx
      gi_wp2_with (first | (gi_at_call 31; refine (callsIn_wide.2 (FL.out _)).mono ?_; rintro e w2 ⟨rfl, hb⟩; have HO2 := Aside0.mk (HO.out.kept (grown_of_below hb none) (Classical.em _)); have HB2 := Aside0.mk (below_then HB.out HB.out.size hb); clear hb) | (gi_at_builtin; refine wpListIn_append_own _ rfl _ _ 29 rfl w1.heap.size 22 i0 (.int .u64 0) 1 8 Try.underlying29 hi hz0 hz1 hz2 rfl (by decide) _ _ _ rfl (HO2.out.alloc _) ⟨w2.heap.size, 0, none⟩ 1 1 [.int .u64 nv] rfl rfl (cell_one_new _ _ _) (by simp [Value.oneCell']) (by unfold maxLen; omega) (by omega) (by have := HB2.out.size; simp; omega) ?_; intro v' w3 hown' hgrow _; have HO3 := Aside0.mk hown'; have HB3 := Aside0.mk (pw_below_grown (below_alloc HB2.out _) _ (by have := HB2.out.size; simp; omega) hgrow (own_base_' HO2.out)); clear hown' hgrow))
      go_roundw
      case rel =>
        refine ⟨i + 1, by omega, by go_num, ⟨?_⟩, HB3⟩
        have := HO3.out
        rw [HS.out, List.map_append, List.map_append, List.map_cons, List.map_nil, HWX.out]
        exact this
      case measure => simp [intOf]; omega
    · obtain rfl : i = l.length := by omega
      have hlti : ¬ (l.length : Int) < (l.length : Int) := by omega
      clear hlt
      gi_wp2
      refine bodyPost_ret (results_tmp rfl _ _ _) rfl ?_
      have hl : l.length = (l.map nearI).length := (List.length_map ..).symm
      have ho := HO.out
      rw [List.take_length] at ho
      exact ⟨_, rfl, Kd.R_lower (Kd.R_of_own (enc := Value.int .u64) (h1 := fun _ => rfl) (hl ▸ ho) (fun _ _ => trivial)) HB1.out.size, below_then HB1.out HB1.out.size HB.out⟩
end Go.Proofs.Ytfbjjbbhnmoolaa.P
namespace Go.Proofs.Ytfbjjbbhnmoolaa.P
open Go.RowKit Go.Shelf Go.Proofs.YtfbjjbbhnmoolaaW.PrintWords Go.Proofs.YtfbjjbbhnmoolaaW.PrintLast Go.Proofs.YtfbjjbbhnmoolaaW.PrintMore
theorem unzipU_c (l : List Pu) (hw : wfRowU l) (w : World) (v : Value) (hv : SI kPu w v l) : Calls Try.prog 115 #[v] w fun e w' =>
    ∃ v0 v1 : Value, e = .returned (.tuple #[v0, v1, .int .i64 (unzipResU l).2.2]) ∧ FI kSp w.heap.size w' v0 (unzipResU l).1 ∧ FI (Kd.int .u64) w.heap.size w' v1 (unzipResU l).2.1 ∧ Below w.heap.size w w' := by
  obtain ⟨A, c, rfl, hc, hr⟩ := hv
  refine (pairs_Unzip_uint64.calls (3 * l.length + 2) A c l (unzipResU l).1 (unzipResU l).2.1 (unzipResU l).2.2 w hr hc (unzipU_eq l hw.1 hw.2 _ (by omega))).mono ?_
  rintro e w1 ⟨v0, v1, rfl, h0, h1, hb⟩
  exact ⟨v0, v1, rfl, .of_R h0 (Nat.le_refl _), .of_R h1 (Nat.le_refl _), hb⟩
theorem unzipResU_wf {l : List Pu} (hw : wfRowU l) : wfSps (unzipResU l).1 ∧ u64s (unzipResU l).2.1 ∧ (unzipResU l).2.1.length < 4398046511104 := by
  unfold unzipResU
  by_cases h : (fromRes (l.map (·.f0))).2 = 0
  · rw [if_pos h]
    obtain ⟨hr, hl, hl2, he⟩ := fromRes_ok h
    refine ⟨by rw [he]; exact spansOf_wf hr hl, fun x hx => ?_, by simpa using hw.2⟩
    obtain ⟨p, hp, rfl⟩ := List.mem_map.1 hx
    exact (hw.1 p hp).2
  · rw [if_neg h]; exact ⟨fun s hs => by simp at hs, fun s hs => by simp at hs, by simp⟩
def madeF (h : Fh) (p n : List Pu) : Fh := ⟨h.f0, h.f1, h.f2, h.f3, h.f4, (unzipResU p).1, (unzipResU n).1, (unzipResU p).2.1, (unzipResU n).2.1⟩
def makeF (h : Fh) (p n : List Pu) : Fh × Int := if (unzipResU p).2.2 ≠ 0 then (emptyF, (unzipResU p).2.2) else if (unzipResU n).2.2 ≠ 0 then (emptyF, (unzipResU n).2.2) else if checkF (madeF h p n) ≠ 0 then (emptyF, checkF (madeF h p n)) else (madeF h p n, 0)
theorem madeF_wf {h : Fh} {p n : List Pu} (hw : wfF h) (hp : wfRowU p) (hn : wfRowU n) : wfF (madeF h p n) := by
  obtain ⟨a0, a1, a2, a3, a4, -⟩ := hw
  exact ⟨a0, a1, a2, a3, a4, (unzipResU_wf hp).1, (unzipResU_wf hn).1, (unzipResU_wf hp).2.1, (unzipResU_wf hn).2.1, (unzipResU_wf hp).2.2, (unzipResU_wf hn).2.2⟩
set_option maxHeartbeats 8000000 in
set_option maxRecDepth 100000 in
theorem fmake_n (h : Fh) (p n : List Pu) (hw : wfF (madeF h p n)) (hp : wfRowU p) (hn : wfRowU n) (w : World) (v vp vn : Value) (hv : GI w v h) (hvp : SI kPu w vp p) (hvn : SI kPu w vn n) : Calls Try.prog 88 #[v, vp, vn] w fun e w' =>
    ∃ v', e = .returned (.tuple #[v', .int .i64 (makeF h p n).2]) ∧ GF w.heap.size w' v' (makeF h p n).1 ∧ Below w.heap.size w w' := by
  have hu := Try.underlying31
  obtain ⟨A5, c5, A6, c6, A7, c7, A8, c8, e, -⟩ := hv.open_
  subst e
  have HP := Aside0.mk hvp
  have HN := Aside0.mk hvn
  have HW := Aside0.mk hw
  have HC1 := fun w hv => unzipU_c p hp w vp hv
  have HC2 := fun w hv => unzipU_c n hn w vn hv
  clear hv hvp hvn hw hp hn
  unfold makeF madeF at *
  generalize unzipResU p = lp at *
  generalize unzipResU n = ln at *
  obtain ⟨sp, dp, ep⟩ := lp
  obtain ⟨sn, dn, en⟩ := ln
  simp only at HW HC1 HC2 ⊢
  replace HC1 := Aside0.mk HC1
  replace HC2 := Aside0.mk HC2
  by_cases c1 : ep = 0
  rotate_left
  · rw [if_pos c1]
    have c1a : (ep != 0) = true := bne_iff_ne.2 c1
    clear c1
    go_enter Try.func88, Try.ntmps88
    go_wp2_with (first | (go_at_call 115; (with_reducible refine (HC1.out _ (HP.out.below (below_alloc (below_alloc (Below.refl _ _) _) _))).mono ?_); rintro e w1 ⟨v0, v1, rfl, h0, h1, hb⟩; obtain ⟨B0, d0, rfl⟩ := h0.slice; obtain ⟨B1, d1, rfl⟩ := h1.slice; have HF0 := Aside0.mk (show FI kSp (w.heap.size + 1 + 1) w1 (.slice B0 sp.length d0) sp by simpa using h0); have HF1 := Aside0.mk (show FI (Kd.int .u64) (w.heap.size + 1 + 1) w1 (.slice B1 dp.length d1) dp by simpa using h1); have HB1 := Aside0.mk (below_then (below_alloc (below_alloc (Below.refl w.heap.size w) (.cells #[.int .i64 h.f0, .int .u64 h.f1, .int .u64 h.f2, .int .u64 h.f3, .int .u64 h.f4, .slice A5 h.f5.length c5, .slice A6 h.f6.length c6, .slice A7 h.f7.length c7, .slice A8 h.f8.length c8] 31)) (.cells #[.int .i64 0, .int .u64 0, .int .u64 0, .int .u64 0, .int .u64 0, .slice none 0 0, .slice none 0 0, .slice none 0 0, .slice none 0 0] 31)) (by simp; omega) hb); have HX1 := Aside0.mk (blk_below (blk_alloc (blk_new w (.cells #[.int .i64 h.f0, .int .u64 h.f1, .int .u64 h.f2, .int .u64 h.f3, .int .u64 h.f4, .slice A5 h.f5.length c5, .slice A6 h.f6.length c6, .slice A7 h.f7.length c7, .slice A8 h.f8.length c8] 31)) (.cells #[.int .i64 0, .int .u64 0, .int .u64 0, .int .u64 0, .int .u64 0, .slice none 0 0, .slice none 0 0, .slice none 0 0, .slice none 0 0] 31)) hb); have HY1 := Aside0.mk (show w1.heap[w.heap.size + 1]? = some (.cells #[.int .i64 0, .int .u64 0, .int .u64 0, .int .u64 0, .int .u64 0, .slice none 0 0, .slice none 0 0, .slice none 0 0, .slice none 0 0] 31 (0, 0)) from (blk_below (show ((w.alloc (.cells #[.int .i64 h.f0, .int .u64 h.f1, .int .u64 h.f2, .int .u64 h.f3, .int .u64 h.f4, .slice A5 h.f5.length c5, .slice A6 h.f6.length c6, .slice A7 h.f7.length c7, .slice A8 h.f8.length c8] 31)).alloc (.cells #[.int .i64 0, .int .u64 0, .int .u64 0, .int .u64 0, .int .u64 0, .slice none 0 0, .slice none 0 0, .slice none 0 0, .slice none 0 0] 31)).heap[w.heap.size + 1]? = _ by simpa using blk_new (w.alloc (.cells #[.int .i64 h.f0, .int .u64 h.f1, .int .u64 h.f2, .int .u64 h.f3, .int .u64 h.f4, .slice A5 h.f5.length c5, .slice A6 h.f6.length c6, .slice A7 h.f7.length c7, .slice A8 h.f8.length c8] 31)) (.cells #[.int .i64 0, .int .u64 0, .int .u64 0, .int .u64 0, .int .u64 0, .slice none 0 0, .slice none 0 0, .slice none 0 0, .slice none 0 0] 31)) hb)); have hfx := fun i => blk_cell HX1.out i; have hzx := fun i => blk_frozen HX1.out i; have hfy := fun i => blk_cell HY1.out i; have hzy := fun i => blk_frozen HY1.out i; clear h0 h1 hb))
    refine bodyPost_ret (results_ct rfl _ _ (w.heap.size + 1) 31 #[.int .i64 0, .int .u64 0, .int .u64 0, .int .u64 0, .int .u64 0, .slice none 0 0, .slice none 0 0, .slice none 0 0, .slice none 0 0] (0, 0) _ rfl (nine (blk_far (blk_far HY1.out (by show w.heap.size + 1 ≠ w.heap.size; omega) _) (by show w.heap.size + 1 ≠ w.heap.size; omega) _) _ _ _ _ _ _ _ _ _) Try.underlying31 rfl (by kernel_rfl)) rfl ?_
    exact ⟨_, rfl, GF.empty _ _, nine_below (belowS HB1.out.size HB1.out) (by omega) _ _ _ _ _ _ _ _ _⟩
  subst c1
  rw [if_neg (by simp)]
  by_cases c2 : en = 0
  rotate_left
  · rw [if_pos c2]
    have c2a : (en != 0) = true := bne_iff_ne.2 c2
    clear c2
    go_enter Try.func88, Try.ntmps88
    go_wp2_with (first | (go_at_call 115; (with_reducible refine (HC1.out _ (HP.out.below (below_alloc (below_alloc (Below.refl _ _) _) _))).mono ?_); rintro e w1 ⟨v0, v1, rfl, h0, h1, hb⟩; obtain ⟨B0, d0, rfl⟩ := h0.slice; obtain ⟨B1, d1, rfl⟩ := h1.slice; have HF0 := Aside0.mk (show FI kSp (w.heap.size + 1 + 1) w1 (.slice B0 sp.length d0) sp by simpa using h0); have HF1 := Aside0.mk (show FI (Kd.int .u64) (w.heap.size + 1 + 1) w1 (.slice B1 dp.length d1) dp by simpa using h1); have HB1 := Aside0.mk (below_then (below_alloc (below_alloc (Below.refl w.heap.size w) (.cells #[.int .i64 h.f0, .int .u64 h.f1, .int .u64 h.f2, .int .u64 h.f3, .int .u64 h.f4, .slice A5 h.f5.length c5, .slice A6 h.f6.length c6, .slice A7 h.f7.length c7, .slice A8 h.f8.length c8] 31)) (.cells #[.int .i64 0, .int .u64 0, .int .u64 0, .int .u64 0, .int .u64 0, .slice none 0 0, .slice none 0 0, .slice none 0 0, .slice none 0 0] 31)) (by simp; omega) hb); have HX1 := Aside0.mk (blk_below (blk_alloc (blk_new w (.cells #[.int .i64 h.f0, .int .u64 h.f1, .int .u64 h.f2, .int .u64 h.f3, .int .u64 h.f4, .slice A5 h.f5.length c5, .slice A6 h.f6.length c6, .slice A7 h.f7.length c7, .slice A8 h.f8.length c8] 31)) (.cells #[.int .i64 0, .int .u64 0, .int .u64 0, .int .u64 0, .int .u64 0, .slice none 0 0, .slice none 0 0, .slice none 0 0, .slice none 0 0] 31)) hb); have HY1 := Aside0.mk (show w1.heap[w.heap.size + 1]? = some (.cells #[.int .i64 0, .int .u64 0, .int .u64 0, .int .u64 0, .int .u64 0, .slice none 0 0, .slice none 0 0, .slice none 0 0, .slice none 0 0] 31 (0, 0)) from (blk_below (show ((w.alloc (.cells #[.int .i64 h.f0, .int .u64 h.f1, .int .u64 h.f2, .int .u64 h.f3, .int .u64 h.f4, .slice A5 h.f5.length c5, .slice A6 h.f6.length c6, .slice A7 h.f7.length c7, .slice A8 h.f8.length c8] 31)).alloc (.cells #[.int .i64 0, .int .u64 0, .int .u64 0, .int .u64 0, .int .u64 0, .slice none 0 0, .slice none 0 0, .slice none 0 0, .slice none 0 0] 31)).heap[w.heap.size + 1]? = _ by simpa using blk_new (w.alloc (.cells #[.int .i64 h.f0, .int .u64 h.f1, .int .u64 h.f2, .int .u64 h.f3, .int .u64 h.f4, .slice A5 h.f5.length c5, .slice A6 h.f6.length c6, .slice A7 h.f7.length c7, .slice A8 h.f8.length c8] 31)) (.cells #[.int .i64 0, .int .u64 0, .int .u64 0, .int .u64 0, .int .u64 0, .slice none 0 0, .slice none 0 0, .slice none 0 0, .slice none 0 0] 31)) hb)); have hfx := fun i => blk_cell HX1.out i; have hzx := fun i => blk_frozen HX1.out i; have hfy := fun i => blk_cell HY1.out i; have hzy := fun i => blk_frozen HY1.out i; clear h0 h1 hb) | (go_at_call 115; (with_reducible refine (HC2.out _ (HN.out.below (belowS (HB1.out.size) HB1.out))).mono ?_); rintro e w3 ⟨v2, v3, rfl, h2, h3, hb⟩; obtain ⟨B2, d2, rfl⟩ := h2.slice; obtain ⟨B3, d3, rfl⟩ := h3.slice; have HS2 := Aside0.mk (show w.heap.size + 1 + 1 ≤ w1.heap.size from by have := blk_lt HY1.out; omega); have HF2 := Aside0.mk (show FI kSp (w.heap.size + 1 + 1) w3 (.slice B2 sn.length d2) sn from FI.lower h2 (by have := HS2.out; simpa [World.setCell] using this)); have HF3 := Aside0.mk (show FI (Kd.int .u64) (w.heap.size + 1 + 1) w3 (.slice B3 dn.length d3) dn from FI.lower h3 (by have := HS2.out; simpa [World.setCell] using this)); have HK3 := Aside0.mk (show KA (w.heap.size + 1 + 1) w1 w3 from ((KA.set _ (by omega) _).trans (KA.set _ (by omega) _)).trans (KA.below hb)); have HB3 := Aside0.mk (below_then (belowS (HB1.out.size) HB1.out) (by have := HB1.out.size; simpa [World.setCell] using this) hb); have HX3 := Aside0.mk (blk_below (show ((w1.setCell ⟨w.heap.size, 5, none⟩ (.slice B0 sp.length d0)).setCell ⟨w.heap.size, 7, none⟩ (.slice B1 dp.length d1)).heap[w.heap.size]? = some (.cells #[.int .i64 h.f0, .int .u64 h.f1, .int .u64 h.f2, .int .u64 h.f3, .int .u64 h.f4, .slice B0 sp.length d0, .slice A6 h.f6.length c6, .slice B1 dp.length d1, .slice A8 h.f8.length c8] 31 (0, 0)) from blk_put (blk_put HX1.out 5 _ rfl) 7 _ rfl) hb); have HY3 := Aside0.mk (blk_below (show ((w1.setCell ⟨w.heap.size, 5, none⟩ (.slice B0 sp.length d0)).setCell ⟨w.heap.size, 7, none⟩ (.slice B1 dp.length d1)).heap[w.heap.size + 1]? = some (.cells #[.int .i64 0, .int .u64 0, .int .u64 0, .int .u64 0, .int .u64 0, .slice none 0 0, .slice none 0 0, .slice none 0 0, .slice none 0 0] 31 (0, 0)) from blk_far (blk_far HY1.out (by show w.heap.size + 1 ≠ w.heap.size; omega) _) (by show w.heap.size + 1 ≠ w.heap.size; omega) _) hb); clear hfx hzx hfy hzy; have hfx := fun i => blk_cell HX3.out i; have hzx := fun i => blk_frozen HX3.out i; have hfy := fun i => blk_cell HY3.out i; have hzy := fun i => blk_frozen HY3.out i; clear h2 h3 hb))
    refine bodyPost_ret (results_ct rfl _ _ (w.heap.size + 1) 31 #[.int .i64 0, .int .u64 0, .int .u64 0, .int .u64 0, .int .u64 0, .slice none 0 0, .slice none 0 0, .slice none 0 0, .slice none 0 0] (0, 0) _ rfl (nine (blk_far (blk_far HY3.out (by show w.heap.size + 1 ≠ w.heap.size; omega) _) (by show w.heap.size + 1 ≠ w.heap.size; omega) _) _ _ _ _ _ _ _ _ _) Try.underlying31 rfl (by kernel_rfl)) rfl ?_
    exact ⟨_, rfl, GF.empty _ _, nine_below (belowS HB3.out.size HB3.out) (by omega) _ _ _ _ _ _ _ _ _⟩
  subst c2
  rw [if_neg (by simp)]
  have hck : ∀ w v5 v6 v7 v8, SI kSp w v5 sp → SI kSp w v6 sn → SI (Kd.int .u64) w v7 dp → SI (Kd.int .u64) w v8 dn → Calls Try.prog 87 #[.agg #[.int .i64 h.f0, .int .u64 h.f1, .int .u64 h.f2, .int .u64 h.f3, .int .u64 h.f4, v5, v6, v7, v8]] w fun e w' => e = .returned (.int .i64 (checkF ⟨h.f0, h.f1, h.f2, h.f3, h.f4, sp, sn, dp, dn⟩)) ∧ Below w.heap.size w w' :=
    fun w v5 v6 v7 v8 h5 h6 h7 h8 => fcheck_c _ HW.out w _ (GI.mk (h := ⟨h.f0, h.f1, h.f2, h.f3, h.f4, sp, sn, dp, dn⟩) h5 h6 h7 h8)
  generalize checkF ⟨h.f0, h.f1, h.f2, h.f3, h.f4, sp, sn, dp, dn⟩ = ec at hck ⊢
  have HCK := Aside0.mk hck
  clear hck
  by_cases c3 : ec = 0
  rotate_left
  · rw [if_pos c3]
    have c3a : (ec != 0) = true := bne_iff_ne.2 c3
    clear c3
    go_enter Try.func88, Try.ntmps88
    go_wp2_with (first | (go_at_call 115; (with_reducible refine (HC1.out _ (HP.out.below (below_alloc (below_alloc (Below.refl _ _) _) _))).mono ?_); rintro e w1 ⟨v0, v1, rfl, h0, h1, hb⟩; obtain ⟨B0, d0, rfl⟩ := h0.slice; obtain ⟨B1, d1, rfl⟩ := h1.slice; have HF0 := Aside0.mk (show FI kSp (w.heap.size + 1 + 1) w1 (.slice B0 sp.length d0) sp by simpa using h0); have HF1 := Aside0.mk (show FI (Kd.int .u64) (w.heap.size + 1 + 1) w1 (.slice B1 dp.length d1) dp by simpa using h1); have HB1 := Aside0.mk (below_then (below_alloc (below_alloc (Below.refl w.heap.size w) (.cells #[.int .i64 h.f0, .int .u64 h.f1, .int .u64 h.f2, .int .u64 h.f3, .int .u64 h.f4, .slice A5 h.f5.length c5, .slice A6 h.f6.length c6, .slice A7 h.f7.length c7, .slice A8 h.f8.length c8] 31)) (.cells #[.int .i64 0, .int .u64 0, .int .u64 0, .int .u64 0, .int .u64 0, .slice none 0 0, .slice none 0 0, .slice none 0 0, .slice none 0 0] 31)) (by simp; omega) hb); have HX1 := Aside0.mk (blk_below (blk_alloc (blk_new w (.cells #[.int .i64 h.f0, .int .u64 h.f1, .int .u64 h.f2, .int .u64 h.f3, .int .u64 h.f4, .slice A5 h.f5.length c5, .slice A6 h.f6.length c6, .slice A7 h.f7.length c7, .slice A8 h.f8.length c8] 31)) (.cells #[.int .i64 0, .int .u64 0, .int .u64 0, .int .u64 0, .int .u64 0, .slice none 0 0, .slice none 0 0, .slice none 0 0, .slice none 0 0] 31)) hb); have HY1 := Aside0.mk (show w1.heap[w.heap.size + 1]? = some (.cells #[.int .i64 0, .int .u64 0, .int .u64 0, .int .u64 0, .int .u64 0, .slice none 0 0, .slice none 0 0, .slice none 0 0, .slice none 0 0] 31 (0, 0)) from (blk_below (show ((w.alloc (.cells #[.int .i64 h.f0, .int .u64 h.f1, .int .u64 h.f2, .int .u64 h.f3, .int .u64 h.f4, .slice A5 h.f5.length c5, .slice A6 h.f6.length c6, .slice A7 h.f7.length c7, .slice A8 h.f8.length c8] 31)).alloc (.cells #[.int .i64 0, .int .u64 0, .int .u64 0, .int .u64 0, .int .u64 0, .slice none 0 0, .slice none 0 0, .slice none 0 0, .slice none 0 0] 31)).heap[w.heap.size + 1]? = _ by simpa using blk_new (w.alloc (.cells #[.int .i64 h.f0, .int .u64 h.f1, .int .u64 h.f2, .int .u64 h.f3, .int .u64 h.f4, .slice A5 h.f5.length c5, .slice A6 h.f6.length c6, .slice A7 h.f7.length c7, .slice A8 h.f8.length c8] 31)) (.cells #[.int .i64 0, .int .u64 0, .int .u64 0, .int .u64 0, .int .u64 0, .slice none 0 0, .slice none 0 0, .slice none 0 0, .slice none 0 0] 31)) hb)); have hfx := fun i => blk_cell HX1.out i; have hzx := fun i => blk_frozen HX1.out i; have hfy := fun i => blk_cell HY1.out i; have hzy := fun i => blk_frozen HY1.out i; clear h0 h1 hb) | (go_at_call 115; (with_reducible refine (HC2.out _ (HN.out.below (belowS (HB1.out.size) HB1.out))).mono ?_); rintro e w3 ⟨v2, v3, rfl, h2, h3, hb⟩; obtain ⟨B2, d2, rfl⟩ := h2.slice; obtain ⟨B3, d3, rfl⟩ := h3.slice; have HS2 := Aside0.mk (show w.heap.size + 1 + 1 ≤ w1.heap.size from by have := blk_lt HY1.out; omega); have HF2 := Aside0.mk (show FI kSp (w.heap.size + 1 + 1) w3 (.slice B2 sn.length d2) sn from FI.lower h2 (by have := HS2.out; simpa [World.setCell] using this)); have HF3 := Aside0.mk (show FI (Kd.int .u64) (w.heap.size + 1 + 1) w3 (.slice B3 dn.length d3) dn from FI.lower h3 (by have := HS2.out; simpa [World.setCell] using this)); have HK3 := Aside0.mk (show KA (w.heap.size + 1 + 1) w1 w3 from ((KA.set _ (by omega) _).trans (KA.set _ (by omega) _)).trans (KA.below hb)); have HB3 := Aside0.mk (below_then (belowS (HB1.out.size) HB1.out) (by have := HB1.out.size; simpa [World.setCell] using this) hb); have HX3 := Aside0.mk (blk_below (show ((w1.setCell ⟨w.heap.size, 5, none⟩ (.slice B0 sp.length d0)).setCell ⟨w.heap.size, 7, none⟩ (.slice B1 dp.length d1)).heap[w.heap.size]? = some (.cells #[.int .i64 h.f0, .int .u64 h.f1, .int .u64 h.f2, .int .u64 h.f3, .int .u64 h.f4, .slice B0 sp.length d0, .slice A6 h.f6.length c6, .slice B1 dp.length d1, .slice A8 h.f8.length c8] 31 (0, 0)) from blk_put (blk_put HX1.out 5 _ rfl) 7 _ rfl) hb); have HY3 := Aside0.mk (blk_below (show ((w1.setCell ⟨w.heap.size, 5, none⟩ (.slice B0 sp.length d0)).setCell ⟨w.heap.size, 7, none⟩ (.slice B1 dp.length d1)).heap[w.heap.size + 1]? = some (.cells #[.int .i64 0, .int .u64 0, .int .u64 0, .int .u64 0, .int .u64 0, .slice none 0 0, .slice none 0 0, .slice none 0 0, .slice none 0 0] 31 (0, 0)) from blk_far (blk_far HY1.out (by show w.heap.size + 1 ≠ w.heap.size; omega) _) (by show w.heap.size + 1 ≠ w.heap.size; omega) _) hb); clear hfx hzx hfy hzy; have hfx := fun i => blk_cell HX3.out i; have hzx := fun i => blk_frozen HX3.out i; have hfy := fun i => blk_cell HY3.out i; have hzy := fun i => blk_frozen HY3.out i; clear h2 h3 hb) | (go_at_call 87; (with_reducible refine (HCK.out _ _ _ _ _ (HF0.out.at_ (HK3.out.trans ((KA.set _ (by omega) _).trans (KA.set _ (by omega) _)))) (HF2.out.at_ ((KA.set _ (by omega) _).trans (KA.set _ (by omega) _))) (HF1.out.at_ (HK3.out.trans ((KA.set _ (by omega) _).trans (KA.set _ (by omega) _)))) (HF3.out.at_ ((KA.set _ (by omega) _).trans (KA.set _ (by omega) _)))).mono ?_); rintro e w5 ⟨rfl, hb⟩; have HK5 := Aside0.mk (show KA (w.heap.size + 1 + 1) w3 w5 from ((KA.set _ (by omega) _).trans (KA.set _ (by omega) _)).trans (KA.below hb)); have HB5 := Aside0.mk (below_then (belowS (HB3.out.size) HB3.out) (by have := HB3.out.size; simpa [World.setCell] using this) hb); have HX5 := Aside0.mk (blk_below (show ((w3.setCell ⟨w.heap.size, 6, none⟩ (.slice B2 sn.length d2)).setCell ⟨w.heap.size, 8, none⟩ (.slice B3 dn.length d3)).heap[w.heap.size]? = some (.cells #[.int .i64 h.f0, .int .u64 h.f1, .int .u64 h.f2, .int .u64 h.f3, .int .u64 h.f4, .slice B0 sp.length d0, .slice B2 sn.length d2, .slice B1 dp.length d1, .slice B3 dn.length d3] 31 (0, 0)) from blk_put (blk_put HX3.out 6 _ rfl) 8 _ rfl) hb); have HY5 := Aside0.mk (blk_below (show ((w3.setCell ⟨w.heap.size, 6, none⟩ (.slice B2 sn.length d2)).setCell ⟨w.heap.size, 8, none⟩ (.slice B3 dn.length d3)).heap[w.heap.size + 1]? = some (.cells #[.int .i64 0, .int .u64 0, .int .u64 0, .int .u64 0, .int .u64 0, .slice none 0 0, .slice none 0 0, .slice none 0 0, .slice none 0 0] 31 (0, 0)) from blk_far (blk_far HY3.out (by show w.heap.size + 1 ≠ w.heap.size; omega) _) (by show w.heap.size + 1 ≠ w.heap.size; omega) _) hb); clear hfx hzx hfy hzy; have hfx := fun i => blk_cell HX5.out i; have hzx := fun i => blk_frozen HX5.out i; have hfy := fun i => blk_cell HY5.out i; have hzy := fun i => blk_frozen HY5.out i; clear hb))
    refine bodyPost_ret (results_ct rfl _ _ (w.heap.size + 1) 31 #[.int .i64 0, .int .u64 0, .int .u64 0, .int .u64 0, .int .u64 0, .slice none 0 0, .slice none 0 0, .slice none 0 0, .slice none 0 0] (0, 0) _ rfl (nine (HY5.out) _ _ _ _ _ _ _ _ _) Try.underlying31 rfl (by kernel_rfl)) rfl ?_
    exact ⟨_, rfl, GF.empty _ _, nine_below HB5.out (by omega) _ _ _ _ _ _ _ _ _⟩
  subst c3
  rw [if_neg (by simp)]
  go_enter Try.func88, Try.ntmps88
  go_wp2_with (first | (go_at_call 115; (with_reducible refine (HC1.out _ (HP.out.below (below_alloc (below_alloc (Below.refl _ _) _) _))).mono ?_); rintro e w1 ⟨v0, v1, rfl, h0, h1, hb⟩; obtain ⟨B0, d0, rfl⟩ := h0.slice; obtain ⟨B1, d1, rfl⟩ := h1.slice; have HF0 := Aside0.mk (show FI kSp (w.heap.size + 1 + 1) w1 (.slice B0 sp.length d0) sp by simpa using h0); have HF1 := Aside0.mk (show FI (Kd.int .u64) (w.heap.size + 1 + 1) w1 (.slice B1 dp.length d1) dp by simpa using h1); have HB1 := Aside0.mk (below_then (below_alloc (below_alloc (Below.refl w.heap.size w) (.cells #[.int .i64 h.f0, .int .u64 h.f1, .int .u64 h.f2, .int .u64 h.f3, .int .u64 h.f4, .slice A5 h.f5.length c5, .slice A6 h.f6.length c6, .slice A7 h.f7.length c7, .slice A8 h.f8.length c8] 31)) (.cells #[.int .i64 0, .int .u64 0, .int .u64 0, .int .u64 0, .int .u64 0, .slice none 0 0, .slice none 0 0, .slice none 0 0, .slice none 0 0] 31)) (by simp; omega) hb); have HX1 := Aside0.mk (blk_below (blk_alloc (blk_new w (.cells #[.int .i64 h.f0, .int .u64 h.f1, .int .u64 h.f2, .int .u64 h.f3, .int .u64 h.f4, .slice A5 h.f5.length c5, .slice A6 h.f6.length c6, .slice A7 h.f7.length c7, .slice A8 h.f8.length c8] 31)) (.cells #[.int .i64 0, .int .u64 0, .int .u64 0, .int .u64 0, .int .u64 0, .slice none 0 0, .slice none 0 0, .slice none 0 0, .slice none 0 0] 31)) hb); have HY1 := Aside0.mk (show w1.heap[w.heap.size + 1]? = some (.cells #[.int .i64 0, .int .u64 0, .int .u64 0, .int .u64 0, .int .u64 0, .slice none 0 0, .slice none 0 0, .slice none 0 0, .slice none 0 0] 31 (0, 0)) from (blk_below (show ((w.alloc (.cells #[.int .i64 h.f0, .int .u64 h.f1, .int .u64 h.f2, .int .u64 h.f3, .int .u64 h.f4, .slice A5 h.f5.length c5, .slice A6 h.f6.length c6, .slice A7 h.f7.length c7, .slice A8 h.f8.length c8] 31)).alloc (.cells #[.int .i64 0, .int .u64 0, .int .u64 0, .int .u64 0, .int .u64 0, .slice none 0 0, .slice none 0 0, .slice none 0 0, .slice none 0 0] 31)).heap[w.heap.size + 1]? = _ by simpa using blk_new (w.alloc (.cells #[.int .i64 h.f0, .int .u64 h.f1, .int .u64 h.f2, .int .u64 h.f3, .int .u64 h.f4, .slice A5 h.f5.length c5, .slice A6 h.f6.length c6, .slice A7 h.f7.length c7, .slice A8 h.f8.length c8] 31)) (.cells #[.int .i64 0, .int .u64 0, .int .u64 0, .int .u64 0, .int .u64 0, .slice none 0 0, .slice none 0 0, .slice none 0 0, .slice none 0 0] 31)) hb)); have hfx := fun i => blk_cell HX1.out i; have hzx := fun i => blk_frozen HX1.out i; have hfy := fun i => blk_cell HY1.out i; have hzy := fun i => blk_frozen HY1.out i; clear h0 h1 hb) | (go_at_call 115; (with_reducible refine (HC2.out _ (HN.out.below (belowS (HB1.out.size) HB1.out))).mono ?_); rintro e w3 ⟨v2, v3, rfl, h2, h3, hb⟩; obtain ⟨B2, d2, rfl⟩ := h2.slice; obtain ⟨B3, d3, rfl⟩ := h3.slice; have HS2 := Aside0.mk (show w.heap.size + 1 + 1 ≤ w1.heap.size from by have := blk_lt HY1.out; omega); have HF2 := Aside0.mk (show FI kSp (w.heap.size + 1 + 1) w3 (.slice B2 sn.length d2) sn from FI.lower h2 (by have := HS2.out; simpa [World.setCell] using this)); have HF3 := Aside0.mk (show FI (Kd.int .u64) (w.heap.size + 1 + 1) w3 (.slice B3 dn.length d3) dn from FI.lower h3 (by have := HS2.out; simpa [World.setCell] using this)); have HK3 := Aside0.mk (show KA (w.heap.size + 1 + 1) w1 w3 from ((KA.set _ (by omega) _).trans (KA.set _ (by omega) _)).trans (KA.below hb)); have HB3 := Aside0.mk (below_then (belowS (HB1.out.size) HB1.out) (by have := HB1.out.size; simpa [World.setCell] using this) hb); have HX3 := Aside0.mk (blk_below (show ((w1.setCell ⟨w.heap.size, 5, none⟩ (.slice B0 sp.length d0)).setCell ⟨w.heap.size, 7, none⟩ (.slice B1 dp.length d1)).heap[w.heap.size]? = some (.cells #[.int .i64 h.f0, .int .u64 h.f1, .int .u64 h.f2, .int .u64 h.f3, .int .u64 h.f4, .slice B0 sp.length d0, .slice A6 h.f6.length c6, .slice B1 dp.length d1, .slice A8 h.f8.length c8] 31 (0, 0)) from blk_put (blk_put HX1.out 5 _ rfl) 7 _ rfl) hb); have HY3 := Aside0.mk (blk_below (show ((w1.setCell ⟨w.heap.size, 5, none⟩ (.slice B0 sp.length d0)).setCell ⟨w.heap.size, 7, none⟩ (.slice B1 dp.length d1)).heap[w.heap.size + 1]? = some (.cells #[.int .i64 0, .int .u64 0, .int .u64 0, .int .u64 0, .int .u64 0, .slice none 0 0, .slice none 0 0, .slice none 0 0, .slice none 0 0] 31 (0, 0)) from blk_far (blk_far HY1.out (by show w.heap.size + 1 ≠ w.heap.size; omega) _) (by show w.heap.size + 1 ≠ w.heap.size; omega) _) hb); clear hfx hzx hfy hzy; have hfx := fun i => blk_cell HX3.out i; have hzx := fun i => blk_frozen HX3.out i; have hfy := fun i => blk_cell HY3.out i; have hzy := fun i => blk_frozen HY3.out i; clear h2 h3 hb) | (go_at_call 87; (with_reducible refine (HCK.out _ _ _ _ _ (HF0.out.at_ (HK3.out.trans ((KA.set _ (by omega) _).trans (KA.set _ (by omega) _)))) (HF2.out.at_ ((KA.set _ (by omega) _).trans (KA.set _ (by omega) _))) (HF1.out.at_ (HK3.out.trans ((KA.set _ (by omega) _).trans (KA.set _ (by omega) _)))) (HF3.out.at_ ((KA.set _ (by omega) _).trans (KA.set _ (by omega) _)))).mono ?_); rintro e w5 ⟨rfl, hb⟩; have HK5 := Aside0.mk (show KA (w.heap.size + 1 + 1) w3 w5 from ((KA.set _ (by omega) _).trans (KA.set _ (by omega) _)).trans (KA.below hb)); have HB5 := Aside0.mk (below_then (belowS (HB3.out.size) HB3.out) (by have := HB3.out.size; simpa [World.setCell] using this) hb); have HX5 := Aside0.mk (blk_below (show ((w3.setCell ⟨w.heap.size, 6, none⟩ (.slice B2 sn.length d2)).setCell ⟨w.heap.size, 8, none⟩ (.slice B3 dn.length d3)).heap[w.heap.size]? = some (.cells #[.int .i64 h.f0, .int .u64 h.f1, .int .u64 h.f2, .int .u64 h.f3, .int .u64 h.f4, .slice B0 sp.length d0, .slice B2 sn.length d2, .slice B1 dp.length d1, .slice B3 dn.length d3] 31 (0, 0)) from blk_put (blk_put HX3.out 6 _ rfl) 8 _ rfl) hb); have HY5 := Aside0.mk (blk_below (show ((w3.setCell ⟨w.heap.size, 6, none⟩ (.slice B2 sn.length d2)).setCell ⟨w.heap.size, 8, none⟩ (.slice B3 dn.length d3)).heap[w.heap.size + 1]? = some (.cells #[.int .i64 0, .int .u64 0, .int .u64 0, .int .u64 0, .int .u64 0, .slice none 0 0, .slice none 0 0, .slice none 0 0, .slice none 0 0] 31 (0, 0)) from blk_far (blk_far HY3.out (by show w.heap.size + 1 ≠ w.heap.size; omega) _) (by show w.heap.size + 1 ≠ w.heap.size; omega) _) hb); clear hfx hzx hfy hzy; have hfx := fun i => blk_cell HX5.out i; have hzx := fun i => blk_frozen HX5.out i; have hfy := fun i => blk_cell HY5.out i; have hzy := fun i => blk_frozen HY5.out i; clear hb))
  refine bodyPost_ret (results_ct rfl _ _ (w.heap.size + 1) 31 #[.int .i64 h.f0, .int .u64 h.f1, .int .u64 h.f2, .int .u64 h.f3, .int .u64 h.f4, .slice B0 sp.length d0, .slice B2 sn.length d2, .slice B1 dp.length d1, .slice B3 dn.length d3] (0, 0) _ rfl (nine (HY5.out) _ _ _ _ _ _ _ _ _) Try.underlying31 rfl (by kernel_rfl)) rfl ?_
  exact ⟨_, rfl, GF.mk (h := ⟨h.f0, h.f1, h.f2, h.f3, h.f4, sp, sn, dp, dn⟩) ((HF0.out.step (HK3.out.trans (nine_ka HK5.out (by omega) _ _ _ _ _ _ _ _ _))).lower (by omega)) ((HF2.out.step (nine_ka HK5.out (by omega) _ _ _ _ _ _ _ _ _)).lower (by omega)) ((HF1.out.step (HK3.out.trans (nine_ka HK5.out (by omega) _ _ _ _ _ _ _ _ _))).lower (by omega)) ((HF3.out.step (nine_ka HK5.out (by omega) _ _ _ _ _ _ _ _ _)).lower (by omega)), nine_below HB5.out (by omega) _ _ _ _ _ _ _ _ _⟩
theorem fmake_c (h : Fh) (hw : wfF h) (p n : List Pu) (hp : wfRowU p) (hn : wfRowU n) (w : World) (v vp vn : Value) (hv : GI w v h) (hvp : SI kPu w vp p) (hvn : SI kPu w vn n) : Calls Try.prog 88 #[v, vp, vn] w fun e w' =>
    ∃ v', e = .returned (.tuple #[v', .int .i64 (makeF h p n).2]) ∧ GF w.heap.size w' v' (makeF h p n).1 ∧ Below w.heap.size w w' := fmake_n h p n (madeF_wf hw hp hn) hp hn w v vp vn hv hvp hvn
end Go.Proofs.Ytfbjjbbhnmoolaa.P
namespace Go.Proofs.Ytfbjjbbhnmoolaa.P
open Go.RowKit Go.Shelf Go.Proofs.YtfbjjbbhnmoolaaW.PrintWords Go.Proofs.YtfbjjbbhnmoolaaW.PrintLast Go.Proofs.YtfbjjbbhnmoolaaW.PrintMore
def canonF (h : Fh) : Fh × Int := if checkF h ≠ 0 then (emptyF, checkF h) else makeF h (some0U (openF h).1) (some0U (openF h).2.1)
set_option maxHeartbeats 8000000 in
set_option maxRecDepth 100000 in
theorem fcanon_c (h : Fh) (hw : wfF h) (w : World) (v : Value) (hv : GI w v h) : Calls Try.prog 86 #[v] w fun e w' =>
    ∃ v', e = .returned (.tuple #[v', .int .i64 (canonF h).2]) ∧ GF w.heap.size w' v' (canonF h).1 ∧ Below w.heap.size w w' := by
  have hu := Try.underlying31
  obtain ⟨A5, c5, A6, c6, A7, c7, A8, c8, e, -⟩ := hv.open_
  subst e
  have HV := Aside0.mk hv
  have ho := fopen_c h hw
  unfold canonF checkF
  have hwp : wfRowU (openF h).1 := (openF_row hw).1.wf
  have hwn : wfRowU (openF h).2.1 := (openF_row hw).2.wf
  have hm := fun w v vp vn => fmake_c h hw _ _ (some0U_wf hwp) (some0U_wf hwn) w v vp vn
  have h1 := withoutU_c (openF h).1 (by have := hwp.2; omega)
  have h2 := withoutU_c (openF h).2.1 (by have := hwn.2; omega)
  generalize makeF h (some0U (openF h).1) (some0U (openF h).2.1) = mr at *
  generalize openF h = o at *
  obtain ⟨p, n, ec⟩ := o
  obtain ⟨mh, me⟩ := mr
  simp only at hm h1 h2 ho ⊢
  have HO := Aside0.mk ho
  have HM := Aside0.mk hm
  have H1 := Aside0.mk h1
  have H2 := Aside0.mk h2
  clear ho hm h1 h2 hwp hwn hw hv
  by_cases c1 : ec = 0
  rotate_left
  · rw [if_pos c1]
    have c1a : (ec != 0) = true := bne_iff_ne.2 c1
    clear c1
    go_enter Try.func86, Try.ntmps86
    go_wp2_with (first | (go_at_call 101; (with_reducible refine (HO.out _ _ (HV.out.below (below_alloc (below_alloc (Below.refl _ _) _) _))).mono ?_); rintro e w1 ⟨v0, v1, rfl, h0, h1, hb⟩; have HO := Aside0.mk (And.intro h0 h1); have HB := Aside0.mk (below_then (below_alloc (below_alloc (Below.refl w.heap.size w) (.cells #[.int .i64 h.f0, .int .u64 h.f1, .int .u64 h.f2, .int .u64 h.f3, .int .u64 h.f4, .slice A5 h.f5.length c5, .slice A6 h.f6.length c6, .slice A7 h.f7.length c7, .slice A8 h.f8.length c8] 31)) (.cells #[.int .i64 0, .int .u64 0, .int .u64 0, .int .u64 0, .int .u64 0, .slice none 0 0, .slice none 0 0, .slice none 0 0, .slice none 0 0] 31)) (by simp; omega) hb); have HX1 := Aside0.mk (blk_below (blk_alloc (blk_new w (.cells #[.int .i64 h.f0, .int .u64 h.f1, .int .u64 h.f2, .int .u64 h.f3, .int .u64 h.f4, .slice A5 h.f5.length c5, .slice A6 h.f6.length c6, .slice A7 h.f7.length c7, .slice A8 h.f8.length c8] 31)) (.cells #[.int .i64 0, .int .u64 0, .int .u64 0, .int .u64 0, .int .u64 0, .slice none 0 0, .slice none 0 0, .slice none 0 0, .slice none 0 0] 31)) hb); have HY1 := Aside0.mk (show w1.heap[w.heap.size + 1]? = some (.cells #[.int .i64 0, .int .u64 0, .int .u64 0, .int .u64 0, .int .u64 0, .slice none 0 0, .slice none 0 0, .slice none 0 0, .slice none 0 0] 31 (0, 0)) from (blk_below (show ((w.alloc (.cells #[.int .i64 h.f0, .int .u64 h.f1, .int .u64 h.f2, .int .u64 h.f3, .int .u64 h.f4, .slice A5 h.f5.length c5, .slice A6 h.f6.length c6, .slice A7 h.f7.length c7, .slice A8 h.f8.length c8] 31)).alloc (.cells #[.int .i64 0, .int .u64 0, .int .u64 0, .int .u64 0, .int .u64 0, .slice none 0 0, .slice none 0 0, .slice none 0 0, .slice none 0 0] 31)).heap[w.heap.size + 1]? = _ by simpa using blk_new (w.alloc (.cells #[.int .i64 h.f0, .int .u64 h.f1, .int .u64 h.f2, .int .u64 h.f3, .int .u64 h.f4, .slice A5 h.f5.length c5, .slice A6 h.f6.length c6, .slice A7 h.f7.length c7, .slice A8 h.f8.length c8] 31)) (.cells #[.int .i64 0, .int .u64 0, .int .u64 0, .int .u64 0, .int .u64 0, .slice none 0 0, .slice none 0 0, .slice none 0 0, .slice none 0 0] 31)) hb)); have hfx := fun i => blk_cell HX1.out i; have hzx := fun i => blk_frozen HX1.out i; have hfy := fun i => blk_cell HY1.out i; have hzy := fun i => blk_frozen HY1.out i; clear h0 h1 hb))
    refine bodyPost_ret (results_ct rfl _ _ (w.heap.size + 1) 31 #[.int .i64 0, .int .u64 0, .int .u64 0, .int .u64 0, .int .u64 0, .slice none 0 0, .slice none 0 0, .slice none 0 0, .slice none 0 0] (0, 0) _ rfl (nine HY1.out _ _ _ _ _ _ _ _ _) Try.underlying31 rfl (by kernel_rfl)) rfl ?_
    exact ⟨_, rfl, GF.empty _ _, nine_below HB.out (by omega) _ _ _ _ _ _ _ _ _⟩
  subst c1
  rw [if_neg (by simp)]
  go_enter Try.func86, Try.ntmps86
  go_wp2_with (first | (go_at_call 101; (with_reducible refine (HO.out _ _ (HV.out.below (below_alloc (below_alloc (Below.refl _ _) _) _))).mono ?_); rintro e w1 ⟨v0, v1, rfl, h0, h1, hb⟩; have HO := Aside0.mk (And.intro h0 h1); have HB := Aside0.mk (below_then (below_alloc (below_alloc (Below.refl w.heap.size w) (.cells #[.int .i64 h.f0, .int .u64 h.f1, .int .u64 h.f2, .int .u64 h.f3, .int .u64 h.f4, .slice A5 h.f5.length c5, .slice A6 h.f6.length c6, .slice A7 h.f7.length c7, .slice A8 h.f8.length c8] 31)) (.cells #[.int .i64 0, .int .u64 0, .int .u64 0, .int .u64 0, .int .u64 0, .slice none 0 0, .slice none 0 0, .slice none 0 0, .slice none 0 0] 31)) (by simp; omega) hb); have HX1 := Aside0.mk (blk_below (blk_alloc (blk_new w (.cells #[.int .i64 h.f0, .int .u64 h.f1, .int .u64 h.f2, .int .u64 h.f3, .int .u64 h.f4, .slice A5 h.f5.length c5, .slice A6 h.f6.length c6, .slice A7 h.f7.length c7, .slice A8 h.f8.length c8] 31)) (.cells #[.int .i64 0, .int .u64 0, .int .u64 0, .int .u64 0, .int .u64 0, .slice none 0 0, .slice none 0 0, .slice none 0 0, .slice none 0 0] 31)) hb); have HY1 := Aside0.mk (show w1.heap[w.heap.size + 1]? = some (.cells #[.int .i64 0, .int .u64 0, .int .u64 0, .int .u64 0, .int .u64 0, .slice none 0 0, .slice none 0 0, .slice none 0 0, .slice none 0 0] 31 (0, 0)) from (blk_below (show ((w.alloc (.cells #[.int .i64 h.f0, .int .u64 h.f1, .int .u64 h.f2, .int .u64 h.f3, .int .u64 h.f4, .slice A5 h.f5.length c5, .slice A6 h.f6.length c6, .slice A7 h.f7.length c7, .slice A8 h.f8.length c8] 31)).alloc (.cells #[.int .i64 0, .int .u64 0, .int .u64 0, .int .u64 0, .int .u64 0, .slice none 0 0, .slice none 0 0, .slice none 0 0, .slice none 0 0] 31)).heap[w.heap.size + 1]? = _ by simpa using blk_new (w.alloc (.cells #[.int .i64 h.f0, .int .u64 h.f1, .int .u64 h.f2, .int .u64 h.f3, .int .u64 h.f4, .slice A5 h.f5.length c5, .slice A6 h.f6.length c6, .slice A7 h.f7.length c7, .slice A8 h.f8.length c8] 31)) (.cells #[.int .i64 0, .int .u64 0, .int .u64 0, .int .u64 0, .int .u64 0, .slice none 0 0, .slice none 0 0, .slice none 0 0, .slice none 0 0] 31)) hb)); have hfx := fun i => blk_cell HX1.out i; have hzx := fun i => blk_frozen HX1.out i; have hfy := fun i => blk_cell HY1.out i; have hzy := fun i => blk_frozen HY1.out i; clear h0 h1 hb))
  go_region_with (first | (go_at_call 114; (with_reducible refine (H1.out _ v0 (HO.out.1.below (below_drew (Below.refl _ _)))).mono ?_); rintro e w2 ⟨vp, rfl, hs, hb⟩; have HS2 := Aside0.mk hs; have HB2 := Aside0.mk (below_then (below_drew (Below.refl w1.heap.size w1)) (Nat.le_refl _) hb); have hX2 := fun i => blk_cell (blk_below HX1.out HB2.out) i; have hY2 := fun i => blk_cell (blk_below HY1.out HB2.out) i; have hZ2 := fun i => blk_frozen (blk_below HY1.out HB2.out) i; clear hs hb) | (go_at_call 114; (with_reducible refine (H2.out _ v1 (HO.out.2.below (below_drew (Below.refl _ _)))).mono ?_); rintro e w3 ⟨vn, rfl, hs, hb⟩; have HS3 := Aside0.mk hs; have HB3 := Aside0.mk (below_then (below_drew (Below.refl w1.heap.size w1)) (Nat.le_refl _) hb); have hX3 := fun i => blk_cell (blk_below HX1.out HB3.out) i; have hY3 := fun i => blk_cell (blk_below HY1.out HB3.out) i; have hZ3 := fun i => blk_frozen (blk_below HY1.out HB3.out) i; clear hs hb) | (go_at_call 114; (with_reducible refine (H2.out w2 v1 (HO.out.2.below HB2.out)).mono ?_); rintro e w4 ⟨vn, rfl, hs, hb⟩; have HS4 := Aside0.mk (And.intro (HS2.out.below hb) hs); have HB4 := Aside0.mk (below_then HB2.out HB2.out.size hb); have hX4 := fun i => blk_cell (blk_below HX1.out HB4.out) i; have hY4 := fun i => blk_cell (blk_below HY1.out HB4.out) i; have hZ4 := fun i => blk_frozen (blk_below HY1.out HB4.out) i; clear hs hb) | (go_at_call 114; (with_reducible refine (H1.out w3 v0 (HO.out.1.below HB3.out)).mono ?_); rintro e w4 ⟨vp, rfl, hs, hb⟩; have HS4 := Aside0.mk (And.intro hs (HS3.out.below hb)); have HB4 := Aside0.mk (below_then HB3.out HB3.out.size hb); have hX4 := fun i => blk_cell (blk_below HX1.out HB4.out) i; have hY4 := fun i => blk_cell (blk_below HY1.out HB4.out) i; have hZ4 := fun i => blk_frozen (blk_below HY1.out HB4.out) i; clear hs hb) | (go_at_call 88; (with_reducible refine (HM.out w4 _ vp vn (HV.out.below (below_then HB.out HB.out.size HB4.out)) HS4.out.1 HS4.out.2).mono ?_); rintro e w5 ⟨v5, rfl, hs, hb⟩; have HB5 := Aside0.mk (below_then (below_then HB.out HB.out.size HB4.out) (below_then HB.out HB.out.size HB4.out).size hb); have HI5 := Aside0.mk hs; obtain ⟨D5, g5, D6, g6, D7, g7, D8, g8, e5⟩ := hs.open_; subst e5; have hX5 := fun i => blk_cell (blk_below (blk_below HX1.out HB4.out) hb) i; have HY5 := Aside0.mk (blk_below (blk_below HY1.out HB4.out) hb); have hY5 := fun i => blk_cell HY5.out i; have hZ5 := fun i => blk_frozen HY5.out i; clear hs hb))
  all_goals (go_wp2; have hsz := blk_lt HY1.out; have hsz4 := HB4.out.size; refine bodyPost_ret (results_ct rfl _ _ (w.heap.size + 1) 31 #[.int .i64 mh.f0, .int .u64 mh.f1, .int .u64 mh.f2, .int .u64 mh.f3, .int .u64 mh.f4, .slice D5 mh.f5.length g5, .slice D6 mh.f6.length g6, .slice D7 mh.f7.length g7, .slice D8 mh.f8.length g8] (0, 0) _ rfl (nine HY5.out _ _ _ _ _ _ _ _ _) Try.underlying31 rfl (by kernel_rfl)) rfl ?_; exact ⟨_, rfl, (HI5.out.step (nine_ka (KA.refl _ _) (by omega) _ _ _ _ _ _ _ _ _)).lower (by omega), nine_below HB5.out (by omega) _ _ _ _ _ _ _ _ _⟩)
end Go.Proofs.Ytfbjjbbhnmoolaa.P
namespace Go.Proofs.Ytfbjjbbhnmoolaa.P
open Go.RowKit Go.Shelf Go.Proofs.YtfbjjbbhnmoolaaW.PrintWords Go.Proofs.YtfbjjbbhnmoolaaW.PrintLast Go.Proofs.YtfbjjbbhnmoolaaW.PrintMore
theorem zipLU : ∀ (ps v : List Int), ps.length = v.length → (List.zipWith (fun p x => (⟨p, x⟩ : Pu)) ps v).map (·.f0) = ps ∧ (List.zipWith (fun p x => (⟨p, x⟩ : Pu)) ps v).map (·.f1) = v
  | [], [], _ => ⟨rfl, rfl⟩
  | p :: ps, x :: v, h => by have := zipLU ps v (by simpa using h); exact ⟨by simp only [List.zipWith_cons_cons, List.map_cons, this.1], by simp only [List.zipWith_cons_cons, List.map_cons, this.2]⟩
  | [], _ :: _, h => by simp at h
  | _ :: _, [], h => by simp at h
theorem sideF_bounds {l : List Sp} {c : List Int} (h0 : (sideF l c).2 = 0) : (∀ p ∈ (sideF l c).1, -1048576 ≤ p.f0 ∧ p.f0 ≤ 1048576) ∧ (sideF l c).1.length = c.length ∧ (sideF l c).1.map (·.f0) = plN 0 l ∧ spCheck l = 0 ∧ (sideF l c).1.map (·.f1) = c ∧ c.any (fun v => !rightF v) = false := by
  unfold sideF at h0 ⊢
  by_cases c1 : spCheck l = 0
  rotate_left
  · rw [if_neg c1] at h0; exact absurd h0 c1
  rw [if_pos c1] at h0 ⊢
  by_cases c2 : cntN l = c.length
  rotate_left
  · rw [if_neg c2] at h0; cases h0
  rw [if_pos c2] at h0 ⊢
  by_cases c3 : c.any (fun v => !rightF v) = true
  · rw [if_pos c3] at h0; cases h0
  rw [if_neg c3]
  have hr := rises_of_right c1
  have hpl := plN_length l 0 (fun s hs => (spRight_pos l _ _ _ (spCheck_zero c1).2 s hs).1)
  have hz := zipLU (plN 0 l) c (by omega)
  refine ⟨fun y hy => ?_, by simp; omega, hz.1, c1, hz.2, by simpa using c3⟩
  have : y.f0 ∈ plN 0 l := by
    obtain ⟨i, hi, rfl⟩ := List.mem_iff_getElem.1 hy
    simp only [List.getElem_zipWith]; exact List.getElem_mem _
  exact rises_i64 hr _ this
def headF (h : Fh) : Int := if h.f0 < -4 ∨ h.f0 > 8 then 21 else if rightF h.f1 = false then 11 else if (!rightF h.f2 || !rightF h.f3) = true then 22 else 0
theorem checkF_eq (h : Fh) : checkF h = if headF h ≠ 0 then headF h else if (sideF h.f5 h.f7).2 ≠ 0 then (sideF h.f5 h.f7).2 else (sideF h.f6 h.f8).2 := by
  unfold checkF openF headF
  by_cases c1 : h.f0 < -4 ∨ h.f0 > 8
  · rw [if_pos c1, if_pos c1, if_pos (by omega)]
  rw [if_neg c1, if_neg c1]
  by_cases c2 : rightF h.f1 = false
  · rw [if_pos c2, if_pos c2, if_pos (by omega)]
  rw [if_neg c2, if_neg c2]
  by_cases c3 : (!rightF h.f2 || !rightF h.f3) = true
  · rw [if_pos c3, if_pos c3, if_pos (by omega)]
  rw [if_neg c3, if_neg c3, if_neg (c := (0 : Int) ≠ 0) (by omega)]
  by_cases c4 : (sideF h.f5 h.f7).2 ≠ 0
  · rw [if_pos c4, if_pos c4]
  rw [if_neg c4, if_neg c4]
  by_cases c5 : (sideF h.f6 h.f8).2 ≠ 0
  · rw [if_pos c5]
  · rw [if_neg c5]; exact (Decidable.not_not.1 c5).symm
theorem openF_right {h : Fh} (hc : checkF h = 0) : openF h = ((sideF h.f5 h.f7).1, (sideF h.f6 h.f8).1, 0) := by
  unfold checkF openF at *
  split at hc
  · cases hc
  split at hc
  · cases hc
  split at hc
  · cases hc
  split at hc
  · rename_i h3; exact absurd hc h3
  split at hc
  · rename_i h3; exact absurd hc h3
  rename_i h1 h2 h3 h4 h5
  rw [if_neg h1, if_neg h2, if_neg h3, if_neg h4, if_neg h5]
theorem checkF_zero {h : Fh} (hc : checkF h = 0) : headF h = 0 ∧ (sideF h.f5 h.f7).2 = 0 ∧ (sideF h.f6 h.f8).2 = 0 := by
  rw [checkF_eq] at hc
  by_cases c1 : headF h = 0
  rotate_left
  · rw [if_pos c1] at hc; exact absurd hc c1
  rw [if_neg (by simp [c1])] at hc
  by_cases c2 : (sideF h.f5 h.f7).2 = 0
  rotate_left
  · rw [if_pos c2] at hc; exact absurd hc c2
  rw [if_neg (by simp [c2])] at hc
  exact ⟨c1, c2, hc⟩
theorem checkF_right {h : Fh} (c1 : headF h = 0) (c2 : (sideF h.f5 h.f7).2 = 0) (c3 : (sideF h.f6 h.f8).2 = 0) : checkF h = 0 := by
  rw [checkF_eq, if_neg (by simp [c1]), if_neg (by simp [c2]), c3]
def sameNumsF (a b : Fh) : Prop := a.f0 = b.f0 ∧ a.f1 = b.f1 ∧ a.f2 = b.f2 ∧ a.f3 = b.f3 ∧ a.f4 = b.f4
instance (a b : Fh) : Decidable (sameNumsF a b) := by unfold sameNumsF; exact inferInstance
def equalF (a b : Fh) : Bool := decide (sameNumsF a b) && (decide (checkF a = 0) && decide (checkF b = 0) && (decide (some0U (openF a).1 = some0U (openF b).1) && decide (some0U (openF a).2.1 = some0U (openF b).2.1)))
end Go.Proofs.Ytfbjjbbhnmoolaa.P
namespace Go.Proofs.Ytfbjjbbhnmoolaa.P
open Go.RowKit Go.Shelf Go.Proofs.YtfbjjbbhnmoolaaW.PrintWords Go.Proofs.YtfbjjbbhnmoolaaW.PrintLast Go.Proofs.YtfbjjbbhnmoolaaW.PrintMore
theorem nearI_eq {x : Int} (h0 : 0 ≤ x) (h1 : x < 18446744073709551616) : nearI x = (fltR x.toNat : Int) := by
  unfold nearI
  have := nearest_eq (n := x.toNat) (by omega)
  rw [show ((x.toNat : Nat) : Int) = x by omega] at this
  rw [this]
theorem nearI_right {x : Int} (h0 : 0 ≤ x) (h1 : x < 18446744073709551616) : 0 ≤ nearI x ∧ rightF (nearI x) = true ∧ u64 (nearI x) := by
  rw [nearI_eq h0 h1]
  have := fltR_right (n := x.toNat) (by omega)
  refine ⟨by omega, ?_, by unfold u64; omega⟩
  unfold rightF
  exact decide_eq_true (by omega)
theorem sums_i64 : ∀ (l : List Int) (a : Int) (o : List Int), sumsFrom a l = some o → ∀ x ∈ o, x ≤ 9223372036854775807
  | [], a, o, h, x, hx => by
    simp only [sumsFrom, Option.some.injEq] at h
    subst h
    simp at hx
  | d :: r, a, o, h, x, hx => by
    simp only [sumsFrom] at h
    split at h
    · rename_i hi
      cases hs : sumsFrom (a + d) r with
      | none => rw [hs] at h; cases h
      | some o' =>
        rw [hs] at h
        simp only [Option.map_some, Option.some.injEq] at h
        subst h
        rcases List.mem_cons.1 hx with rfl | hx
        · unfold i64 at hi; omega
        · exact sums_i64 r _ o' hs x hx
    · cases h
def toF (p : Pr) : Pu := ⟨p.f0, nearI p.f1⟩
def fromF (a : Hi) : Fh := ⟨a.f0, a.f1, nearI a.f2, nearI a.f3, a.f4, a.f5, a.f6, floatsCR a.f7, floatsCR a.f8⟩
theorem side_from {l : List Sp} {d : List Int} (hd : i64s d) (h : (sideRes l d).2 = 0) : sideF l (floatsCR d) = ((sideRes l d).1.map toF, 0) ∧ (floatsCR d).length = d.length ∧ wfFloats d ∧ u64s (floatsCR d) := by
  have hb := side_bounds h
  have hpl := places_len hb.2.2.2
  unfold sideRes at h ⊢
  by_cases c1 : spCheck l = 0
  rotate_left
  · rw [if_neg c1] at h; exact absurd h c1
  rw [if_pos c1] at h ⊢
  by_cases c2 : cntN l = d.length
  rotate_left
  · rw [if_neg c2] at h; cases h
  rw [if_pos c2] at h ⊢
  cases c3 : sumsFrom 0 d with
  | none => rw [c3] at h; cases h
  | some c =>
    rw [c3] at h
    simp only at h ⊢
    by_cases c4 : c.any (fun x => decide (x < 0)) = true
    · rw [if_pos c4] at h; cases h
    rw [if_neg c4] at h ⊢
    have hl := sums_len d 0 c c3
    have hn : ∀ x ∈ c, 0 ≤ x := by
      intro x hx
      rcases Int.lt_or_le x 0 with k | k
      · exact absurd (List.any_eq_true.2 ⟨x, hx, decide_eq_true k⟩) c4
      · exact k
    have hm : ∀ x ∈ c, x ≤ 9223372036854775807 := sums_i64 d 0 c c3
    have hf : floatsCR d = c.map nearI := by unfold floatsCR; rw [c3]; rfl
    have hr : ∀ x ∈ c, rightF (nearI x) = true := fun x hx => (nearI_right (hn x hx) (by have := hm x hx; omega)).2.1
    refine ⟨?_, ?_, ⟨hd, ?_, ?_⟩, ?_⟩
    · unfold sideF
      rw [if_pos c1, if_pos (by rw [hf, List.length_map, hl]; exact c2), if_neg, hf]
      · congr 1
        rw [List.map_zipWith]
        exact (List.zipWith_map_right ..)
      · rw [hf]
        intro e
        obtain ⟨y, hy, h2⟩ := List.any_eq_true.1 e
        obtain ⟨x, hx, rfl⟩ := List.mem_map.1 hy
        rw [hr x hx] at h2
        cases h2
    · rw [hf, List.length_map, hl]
    · have h1 := hb.2.1
      have h2 := congrArg List.length hb.2.2.1
      rw [List.length_map] at h2
      omega
    · rw [c3]
      exact fun x hx => ⟨hn x hx, hm x hx⟩
    · rw [hf]
      intro y hy
      obtain ⟨x, hx, rfl⟩ := List.mem_map.1 hy
      exact (nearI_right (hn x hx) (by have := hm x hx; omega)).2.2
theorem from_open {a : Hi} (hw : wfH a) (hc : checkR a = 0) : checkF (fromF a) = 0 ∧ openF (fromF a) = ((openR a).1.map toF, (openR a).2.1.map toF, 0) ∧ wfF (fromF a) ∧ wfFloats a.f7 ∧ wfFloats a.f8 := by
  obtain ⟨z1, z2, z3, z4⟩ := checkR_zero hc
  obtain ⟨p1, p2, p3, p4⟩ := side_from hw.2.2.2.2.2.2.2.1 z2
  obtain ⟨n1, n2, n3, n4⟩ := side_from hw.2.2.2.2.2.2.2.2.1 z3
  obtain ⟨w0, w1, w2, w3, w4, w5, w6, w7, w8, w9, w10⟩ := hw
  have r2 := nearI_right w2.1 (by have := w2.2; omega)
  have r3 := nearI_right w3.1 (by have := w3.2; omega)
  have hh : headF (fromF a) = 0 := by
    unfold headE at z1
    unfold headF fromF
    simp only
    split at z1
    · cases z1
    rename_i k1
    rw [if_neg k1]
    split at z1
    · cases z1
    rename_i k2
    rw [if_neg, if_neg]
    · rw [r2.2.1, r3.2.1]; decide
    · unfold rightF
      simp only [Decidable.not_not] at k2
      rw [decide_eq_true k2]; decide
  have hcf : checkF (fromF a) = 0 := checkF_right hh (by show (sideF a.f5 (floatsCR a.f7)).2 = 0; rw [p1]) (by show (sideF a.f6 (floatsCR a.f8)).2 = 0; rw [n1])
  refine ⟨hcf, ?_, ⟨w0, w1, r2.2.2, r3.2.2, w4, w5, w6, p4, n4, by show (floatsCR a.f7).length < _; omega, by show (floatsCR a.f8).length < _; omega⟩, p3, n3⟩
  rw [openR_right hc, openF_right hcf]
  show ((sideF a.f5 (floatsCR a.f7)).1, (sideF a.f6 (floatsCR a.f8)).1, (0 : Int)) = _
  rw [p1, n1]
theorem bucket_le {a : Hi} (hw : wfH a) (hc : checkR a = 0) : a.f2 ≤ a.f3 ∧ (∀ p ∈ (openR a).1, p.f1 ≤ a.f3) ∧ ∀ p ∈ (openR a).2.1, p.f1 ≤ a.f3 := by
  obtain ⟨z1, z2, z3, z4⟩ := checkR_zero hc
  have ho := openR_right hc
  have hr := openR_row hw
  have e5 : (openR a).1 = (sideRes a.f5 a.f7).1 := by rw [ho]
  have e6 : (openR a).2.1 = (sideRes a.f6 a.f8).1 := by rw [ho]
  rw [← e5, ← e6] at z4
  have hp := sumV_nonneg (l := (openR a).1) (fun p hp => (hr.1.cnt p hp).2.1)
  have hn := sumV_nonneg (l := (openR a).2.1) (fun p hp => (hr.2.cnt p hp).2.1)
  have hz := hw.2.2.1.1
  have mem_le : ∀ (l : List Pr), (∀ p ∈ l, 0 ≤ p.f1) → ∀ p ∈ l, p.f1 ≤ sumV l := by
    intro l
    induction l with
    | nil => intro _ p hp; simp at hp
    | cons x t ih =>
      intro h p hp
      have e : sumV (x :: t) = x.f1 + sumV t := by unfold sumV; simp
      have h1 := sumV_nonneg (l := t) (fun q hq => h q (List.mem_cons_of_mem _ hq))
      have h2 := h x (by simp)
      rcases List.mem_cons.1 hp with rfl | hp
      · omega
      · have := ih (fun q hq => h q (List.mem_cons_of_mem _ hq)) p hp
        omega
  have tot : a.f2 + (sumV (openR a).1 + sumV (openR a).2.1) ≤ a.f3 := by
    unfold fits totalRes sumR at z4
    simp only [List.map_cons, List.map_nil, List.sum_cons, List.sum_nil, Int.add_zero] at z4
    split at z4
    · simp only [Bool.true_and, Bool.and_eq_true, decide_eq_true_eq] at z4
      exact z4.1
    · simp at z4
  refine ⟨by omega, fun p h => ?_, fun p h => ?_⟩
  · have := mem_le _ (fun q hq => (hr.1.cnt q hq).2.1) p h; omega
  · have := mem_le _ (fun q hq => (hr.2.cnt q hq).2.1) p h; omega
end Go.Proofs.Ytfbjjbbhnmoolaa.P
namespace Go.Proofs.Ytfbjjbbhnmoolaa.P
open Go.RowKit Go.Proofs.YtfbjjbbhnmoolaaW.PrintWords Go.Proofs.YtfbjjbbhnmoolaaW.PrintLast Go.Proofs.YtfbjjbbhnmoolaaW.PrintMore
attribute [local go_sem] max2_int min2_int max_two min_two max_three min_three max_four min_four
def hist_Check.f (a0_0 : Int) (a0_1 : Int) (a0_2 : Int) (a0_3 : Int) (a0_4 : Int) (l0_5 : List (S86)) (l0_6 : List (S86)) (l0_7 : List Int) (l0_8 : List Int) : Option (Int) := (hist_open.f a0_0 a0_1 a0_2 a0_3 a0_4 l0_5 l0_6 l0_7 l0_8).bind fun bt102 => (some bt102.2.2)
set_option maxHeartbeats 8000000 in
set_option maxRecDepth 100000 in
theorem hist_Check.calls (a0_0 : Int) (a0_1 : Int) (a0_2 : Int) (a0_3 : Int) (a0_4 : Int) (A0_5 : Option Addr) (c0_5 : Nat) (l0_5 : List (S86)) (A0_6 : Option Addr) (c0_6 : Nat) (l0_6 : List (S86)) (A0_7 : Option Addr) (c0_7 : Nat) (l0_7 : List Int) (A0_8 : Option Addr) (c0_8 : Nat) (l0_8 : List Int) (r : Int) (w : World) (hr0_5 : Kd.C k86 w A0_5 l0_5.length l0_5) (hc0_5 : l0_5.length ≤ c0_5) (hr0_6 : Kd.C k86 w A0_6 l0_6.length l0_6) (hc0_6 : l0_6.length ≤ c0_6) (hr0_7 : Kd.C (Kd.int .i64) w A0_7 l0_7.length l0_7) (hc0_7 : l0_7.length ≤ c0_7) (hr0_8 : Kd.C (Kd.int .i64) w A0_8 l0_8.length l0_8) (hc0_8 : l0_8.length ≤ c0_8) (h : hist_Check.f a0_0 a0_1 a0_2 a0_3 a0_4 l0_5 l0_6 l0_7 l0_8 = some r) :
  Calls Try.prog 50 #[.agg #[.int .i64 a0_0, .int .u64 a0_1, .int .u64 a0_2, .int .u64 a0_3, .int .u64 a0_4, .slice A0_5 l0_5.length c0_5, .slice A0_6 l0_6.length c0_6, .slice A0_7 l0_7.length c0_7, .slice A0_8 l0_8.length c0_8]] w fun e w' => e = .returned (.int .i64 r) ∧ Below w.heap.size w w' := by
 have hu26 := Try.underlying26
 have HR0_5 := Aside0.mk hr0_5
 have HC0_5 := Aside0.mk hc0_5
 clear hr0_5 hc0_5
 have HR0_6 := Aside0.mk hr0_6
 have HC0_6 := Aside0.mk hc0_6
 clear hr0_6 hc0_6
 have HR0_7 := Aside0.mk hr0_7
 have HC0_7 := Aside0.mk hc0_7
 clear hr0_7 hc0_7
 have HR0_8 := Aside0.mk hr0_8
 have HC0_8 := Aside0.mk hc0_8
 clear hr0_8 hc0_8
 have HB := Aside0.mk (Below.refl w.heap.size w)
 have H : ((hist_open.f a0_0 a0_1 a0_2 a0_3 a0_4 l0_5 l0_6 l0_7 l0_8).bind fun bt102 => (some bt102.2.2)) = some r := h
 clear h
 replace H := Option.bind_eq_some_iff.mp H
 obtain ⟨⟨t102, t105, t108⟩, A20, H⟩ := H
 replace H : (some t108) = some r := H
 have A2 := Aside0.mk A20
 clear A20
 obtain rfl := Option.some.inj H
 go_enter Try.func50, Try.ntmps50
 go_wp2_with (first | ((with_reducible refine gate_dst (N := 1) rfl ?_); refine box_event ?hg (N := 1) ?hd (cs := #[.int .i64 a0_0, .int .u64 a0_1, .int .u64 a0_2, .int .u64 a0_3, .int .u64 a0_4, .slice A0_5 l0_5.length c0_5, .slice A0_6 l0_6.length c0_6, .slice A0_7 l0_7.length c0_7, .slice A0_8 l0_8.length c0_8]) (t := 26) ?hr ?_; (case hd => rfl); (case hg => rfl); (case hr => first | (go_simp; done) | (go_simp; rfl)); intro gb101 hg w3 hbox hb; have BK101 := Aside0.mk (hbox); have GW101 := Aside0.mk ((by rw [hg]; exact (below_size (below_u HB.out)) : w.heap.size ≤ gb101)); have GE101 := Aside0.mk ((by rw [hg]; exact (below_size (below_u HB.out)) : w.heap.size ≤ gb101)); replace HB := Aside0.mk (below_step (below_u HB.out) hb); clear hb hbox hg; have hcz4_0 := blk_cell BK101.out; have hfz4_0 := blk_frozen BK101.out) | ((with_reducible refine gate_callee (f := 71) rfl ?_); refine goesM_ (some 8) Try.func71 #[.agg #[.int .i64 a0_0, .int .u64 a0_1, .int .u64 a0_2, .int .u64 a0_3, .int .u64 a0_4, .slice A0_5 l0_5.length c0_5, .slice A0_6 l0_6.length c0_6, .slice A0_7 l0_7.length c0_7, .slice A0_8 l0_8.length c0_8]] ?_; (with_reducible refine (hist_open.calls a0_0 a0_1 a0_2 a0_3 a0_4 _ _ l0_5 _ _ l0_6 _ _ l0_7 _ _ l0_8 t102 t105 t108 _ ?side1 ?side2 ?side3 ?side4 ?side5 ?side6 ?side7 ?side8 A2.out).mono ?_); (case side1 => exact Kd.C_u (Kd.C_below HR0_5.out HB.out)); (case side2 => exact HC0_5.out); (case side3 => exact Kd.C_u (Kd.C_below HR0_6.out HB.out)); (case side4 => exact HC0_6.out); (case side5 => exact Kd.C_u (Kd.C_below HR0_7.out HB.out)); (case side6 => exact HC0_7.out); (case side7 => exact Kd.C_u (Kd.C_below HR0_8.out HB.out)); (case side8 => exact HC0_8.out); rintro e w5 ⟨v103, v106, rfl, ho0, ho1, hb⟩; refine ⟨_, rfl, ?_⟩; have HO104 := Aside0.mk (Kd.R_lower ho0 (below_size (by repeat (first | (with_reducible first | exact HB.out | apply below_alloc | apply pw_below_drewN | apply below_drew1 | refine below_set ?_ GE101.out) | exact HB.out)))); have HO107 := Aside0.mk (Kd.R_lower ho1 (below_size (by repeat (first | (with_reducible first | exact HB.out | apply below_alloc | apply pw_below_drewN | apply below_drew1 | refine below_set ?_ GE101.out) | exact HB.out)))); replace BK101 := Aside0.mk (blk_ub BK101.out hb); replace HB := Aside0.mk (below_step (by repeat (first | (with_reducible first | exact HB.out | apply below_alloc | apply pw_below_drewN | apply below_drew1 | refine below_set ?_ GE101.out) | exact HB.out)) hb); (try clear hb); (try clear hb2); (try clear hk); (try clear hi); (try clear ho0); (try clear ho1); clear A2))
 go_ret
 exact ⟨by first | rfl | (simp [errW_none, errW_some] <;> rfl) | (simp [*, errW_none, errW_some] <;> rfl), by repeat (first | (with_reducible first | exact HB.out | apply below_alloc | apply pw_below_drewN | apply below_drew1 | refine below_set ?_ GE101.out) | exact HB.out)⟩
end Go.Proofs.Ytfbjjbbhnmoolaa.P
namespace Go.Proofs.Ytfbjjbbhnmoolaa.P
open Go.RowKit Go.Proofs.YtfbjjbbhnmoolaaW.PrintWords Go.Proofs.YtfbjjbbhnmoolaaW.PrintLast Go.Proofs.YtfbjjbbhnmoolaaW.PrintMore
attribute [local go_sem] max2_int min2_int max_two min_two max_three min_three max_four min_four
def fhist_From.f (a0_0 : Int) (a0_1 : Int) (a0_2 : Int) (a0_3 : Int) (a0_4 : Int) (l0_5 : List (S86)) (l0_6 : List (S86)) (l0_7 : List Int) (l0_8 : List Int) : Option (Int × Int × Int × Int × Int × (List (S86)) × (List (S86)) × List Int × List Int × Int) := (hist_Check.f a0_0 a0_1 a0_2 a0_3 a0_4 l0_5 l0_6 l0_7 l0_8).bind fun t103 => (if t103 = 0 then ((fhist_Float.f a0_2).bind fun t104 => ((fhist_Float.f a0_3).bind fun t105 => ((slices_Clone_span.f l0_5).bind fun t106 => ((slices_Clone_span.f l0_6).bind fun t109 => ((fhist_floats.f l0_7).bind fun t112 => ((fhist_floats.f l0_8).bind fun t115 => (some (a0_0, a0_1, t104, t105, a0_4, t106, t109, t112, t115, 0)))))))) else (some (0, 0, 0, 0, 0, ([] : List (S86)), ([] : List (S86)), ([] : List Int), ([] : List Int), t103)))
def fhist_From.T4 : Bool × List (List Nat × List Nat) := (true, [([], []), ([0], [0]), ([], []), ([2], [2]), ([], []), ([4], [4]), ([5], [5]), ([], []), ([7], [7]), ([8, 6], [8]), ([], []), ([10], [10]), ([], []), ([12], [12]), ([13, 9], [13]), ([], []), ([15], [15]), ([16, 14], [16]), ([], []), ([18], [18]), ([19, 17], [19]), ([], []), ([21], [21]), ([22, 20], [22]), ([1, 3, 6, 9, 11, 14, 17, 20, 23], [1, 3, 6, 9, 11, 14, 17, 20, 23]), ([24, 23, 0, 1, 2, 3, 4, 5, 6, 7, 8, 9, 10, 11, 12, 13, 14, 15, 16, 17, 18, 19, 20, 21, 22, 23, 24], [24]), ([25, 0, 1, 2, 3, 4, 5, 6, 7, 8, 9, 10, 11, 12, 13, 14, 15, 16, 17, 18, 19, 20, 21, 22, 23, 24, 25], [])])
def fhist_From.B4 : List Nat := [0, 1, 0, 4, 0, 16, 48, 0, 128, 496, 0, 1024, 0, 4096, 13296, 0, 32768, 127984, 0, 262144, 1045488, 0, 2097152, 8385520, 16777215, 33554431, 67108863]
theorem fhist_From.tab4 : rtab .any (opsOf Try.f11 4) = fhist_From.T4 := by kernel_rfl
theorem fhist_From.bits4 : waitsOk fhist_From.T4.2 fhist_From.B4 = true := by kernel_rfl
set_option maxHeartbeats 8000000 in
set_option maxRecDepth 100000 in
theorem fhist_From.calls (a0_0 : Int) (a0_1 : Int) (a0_2 : Int) (a0_3 : Int) (a0_4 : Int) (A0_5 : Option Addr) (c0_5 : Nat) (l0_5 : List (S86)) (A0_6 : Option Addr) (c0_6 : Nat) (l0_6 : List (S86)) (A0_7 : Option Addr) (c0_7 : Nat) (l0_7 : List Int) (A0_8 : Option Addr) (c0_8 : Nat) (l0_8 : List Int) (r1 : Int) (r2 : Int) (r3 : Int) (r4 : Int) (r5 : Int) (r6 : List (S86)) (r7 : List (S86)) (r8 : List Int) (r9 : List Int) (r10 : Int) (w : World) (hr0_5 : Kd.C k86 w A0_5 l0_5.length l0_5) (hc0_5 : l0_5.length ≤ c0_5) (hr0_6 : Kd.C k86 w A0_6 l0_6.length l0_6) (hc0_6 : l0_6.length ≤ c0_6) (hr0_7 : Kd.C (Kd.int .i64) w A0_7 l0_7.length l0_7) (hc0_7 : l0_7.length ≤ c0_7) (hr0_8 : Kd.C (Kd.int .i64) w A0_8 l0_8.length l0_8) (hc0_8 : l0_8.length ≤ c0_8) (h : fhist_From.f a0_0 a0_1 a0_2 a0_3 a0_4 l0_5 l0_6 l0_7 l0_8 = some (r1, r2, r3, r4, r5, r6, r7, r8, r9, r10)) :
  Calls Try.prog 11 #[.agg #[.int .i64 a0_0, .int .u64 a0_1, .int .u64 a0_2, .int .u64 a0_3, .int .u64 a0_4, .slice A0_5 l0_5.length c0_5, .slice A0_6 l0_6.length c0_6, .slice A0_7 l0_7.length c0_7, .slice A0_8 l0_8.length c0_8]] w fun e w' => ∃ v5_ v6_ v7_ v8_ : Value, e = .returned (.tuple #[.agg #[.int .i64 r1, .int .u64 r2, .int .u64 r3, .int .u64 r4, .int .u64 r5, v5_, v6_, v7_, v8_], .int .i64 r10]) ∧ Kd.R k86 86 w' w.heap.size (fun k_ => some k_ ≠ (v6_ : Value).ownBlock) v5_ r6 ∧ Kd.R k86 86 w' w.heap.size (fun k_ => some k_ ≠ (v5_ : Value).ownBlock) v6_ r7 ∧ Kd.R (Kd.int .u64) 22 w' w.heap.size (fun k_ => some k_ ≠ (v8_ : Value).ownBlock) v7_ r8 ∧ Kd.R (Kd.int .u64) 22 w' w.heap.size (fun k_ => some k_ ≠ (v7_ : Value).ownBlock) v8_ r9 ∧ Below w.heap.size w w' := by
 have hu26 := Try.underlying26
 have hu31 := Try.underlying31
 have HR0_5 := Aside0.mk hr0_5
 have HC0_5 := Aside0.mk hc0_5
 clear hr0_5 hc0_5
 have HR0_6 := Aside0.mk hr0_6
 have HC0_6 := Aside0.mk hc0_6
 clear hr0_6 hc0_6
 have HR0_7 := Aside0.mk hr0_7
 have HC0_7 := Aside0.mk hc0_7
 clear hr0_7 hc0_7
 have HR0_8 := Aside0.mk hr0_8
 have HC0_8 := Aside0.mk hc0_8
 clear hr0_8 hc0_8
 have HB := Aside0.mk (Below.refl w.heap.size w)
 have H : ((hist_Check.f a0_0 a0_1 a0_2 a0_3 a0_4 l0_5 l0_6 l0_7 l0_8).bind fun t103 => (if t103 = 0 then ((fhist_Float.f a0_2).bind fun t104 => ((fhist_Float.f a0_3).bind fun t105 => ((slices_Clone_span.f l0_5).bind fun t106 => ((slices_Clone_span.f l0_6).bind fun t109 => ((fhist_floats.f l0_7).bind fun t112 => ((fhist_floats.f l0_8).bind fun t115 => (some (a0_0, a0_1, t104, t105, a0_4, t106, t109, t112, t115, 0)))))))) else (some (0, 0, 0, 0, 0, ([] : List (S86)), ([] : List (S86)), ([] : List Int), ([] : List Int), t103)))) = some (r1, r2, r3, r4, r5, r6, r7, r8, r9, r10) := h
 clear h
 replace H := Option.bind_eq_some_iff.mp H
 obtain ⟨t103, A20, H⟩ := H
 replace H : (if t103 = 0 then ((fhist_Float.f a0_2).bind fun t104 => ((fhist_Float.f a0_3).bind fun t105 => ((slices_Clone_span.f l0_5).bind fun t106 => ((slices_Clone_span.f l0_6).bind fun t109 => ((fhist_floats.f l0_7).bind fun t112 => ((fhist_floats.f l0_8).bind fun t115 => (some (a0_0, a0_1, t104, t105, a0_4, t106, t109, t112, t115, 0)))))))) else (some (0, 0, 0, 0, 0, ([] : List (S86)), ([] : List (S86)), ([] : List Int), ([] : List Int), t103))) = some (r1, r2, r3, r4, r5, r6, r7, r8, r9, r10) := H
 have A2 := Aside0.mk A20
 clear A20
 by_cases c3 : t103 = 0
 ·rw [if_pos c3] at H
  have c3b0 : (t103 == 0) = true := beq_iff_eq.mpr c3
  have c3b1 : (t103 != 0) = false := bne_eq_false_iff_eq.mpr c3
  clear c3
  replace H := Option.bind_eq_some_iff.mp H
  obtain ⟨t104, A40, H⟩ := H
  replace H : ((fhist_Float.f a0_3).bind fun t105 => ((slices_Clone_span.f l0_5).bind fun t106 => ((slices_Clone_span.f l0_6).bind fun t109 => ((fhist_floats.f l0_7).bind fun t112 => ((fhist_floats.f l0_8).bind fun t115 => (some (a0_0, a0_1, t104, t105, a0_4, t106, t109, t112, t115, 0))))))) = some (r1, r2, r3, r4, r5, r6, r7, r8, r9, r10) := H
  have A4 := Aside0.mk A40
  clear A40
  replace H := Option.bind_eq_some_iff.mp H
  obtain ⟨t105, A50, H⟩ := H
  replace H : ((slices_Clone_span.f l0_5).bind fun t106 => ((slices_Clone_span.f l0_6).bind fun t109 => ((fhist_floats.f l0_7).bind fun t112 => ((fhist_floats.f l0_8).bind fun t115 => (some (a0_0, a0_1, t104, t105, a0_4, t106, t109, t112, t115, 0)))))) = some (r1, r2, r3, r4, r5, r6, r7, r8, r9, r10) := H
  have A5 := Aside0.mk A50
  clear A50
  replace H := Option.bind_eq_some_iff.mp H
  obtain ⟨t106, A60, H⟩ := H
  replace H : ((slices_Clone_span.f l0_6).bind fun t109 => ((fhist_floats.f l0_7).bind fun t112 => ((fhist_floats.f l0_8).bind fun t115 => (some (a0_0, a0_1, t104, t105, a0_4, t106, t109, t112, t115, 0))))) = some (r1, r2, r3, r4, r5, r6, r7, r8, r9, r10) := H
  have A6 := Aside0.mk A60
  clear A60
  replace H := Option.bind_eq_some_iff.mp H
  obtain ⟨t109, A70, H⟩ := H
  replace H : ((fhist_floats.f l0_7).bind fun t112 => ((fhist_floats.f l0_8).bind fun t115 => (some (a0_0, a0_1, t104, t105, a0_4, t106, t109, t112, t115, 0)))) = some (r1, r2, r3, r4, r5, r6, r7, r8, r9, r10) := H
  have A7 := Aside0.mk A70
  clear A70
  replace H := Option.bind_eq_some_iff.mp H
  obtain ⟨t112, A80, H⟩ := H
  replace H : ((fhist_floats.f l0_8).bind fun t115 => (some (a0_0, a0_1, t104, t105, a0_4, t106, t109, t112, t115, 0))) = some (r1, r2, r3, r4, r5, r6, r7, r8, r9, r10) := H
  have A8 := Aside0.mk A80
  clear A80
  replace H := Option.bind_eq_some_iff.mp H
  obtain ⟨t115, A90, H⟩ := H
  replace H : (some (a0_0, a0_1, t104, t105, a0_4, t106, t109, t112, t115, 0)) = some (r1, r2, r3, r4, r5, r6, r7, r8, r9, r10) := H
  have A9 := Aside0.mk A90
  clear A90
  simp only [Option.some.injEq, Prod.mk.injEq] at H
  obtain ⟨rfl, rfl, rfl, rfl, rfl, rfl, rfl, rfl, rfl, rfl⟩ := H
  go_enter Try.func11, Try.ntmps11
  try go_wp2_with (first | ((with_reducible refine gate_dst (N := 1) rfl ?_); refine box_event ?hg (N := 1) ?hd (cs := #[.int .i64 a0_0, .int .u64 a0_1, .int .u64 a0_2, .int .u64 a0_3, .int .u64 a0_4, .slice A0_5 l0_5.length c0_5, .slice A0_6 l0_6.length c0_6, .slice A0_7 l0_7.length c0_7, .slice A0_8 l0_8.length c0_8]) (t := 26) ?hr ?_; (case hd => rfl); (case hg => rfl); (case hr => first | (go_simp; done) | (go_simp; rfl)); intro gb101 hg w10 hbox hb; have BK101 := Aside0.mk (hbox); have GW101 := Aside0.mk ((by rw [hg]; exact (below_size (below_u HB.out)) : w.heap.size ≤ gb101)); have GE101 := Aside0.mk ((by rw [hg]; exact (below_size (below_u HB.out)) : w.heap.size ≤ gb101)); replace HB := Aside0.mk (below_step (below_u HB.out) hb); clear hb hbox hg) | ((with_reducible refine gate_dst (N := 2) rfl ?_); refine box_event ?hg (N := 2) ?hd (cs := #[.int .i64 0, .int .u64 0, .int .u64 0, .int .u64 0, .int .u64 0, .slice none 0 0, .slice none 0 0, .slice none 0 0, .slice none 0 0]) (t := 31) ?hr ?_; (case hd => rfl); (case hg => rfl); (case hr => first | (go_simp; done) | (go_simp; rfl)); intro gb102 hg w11 hbox hb; have BK102 := Aside0.mk (hbox); have GW102 := Aside0.mk ((by rw [hg]; exact (below_size (by repeat (first | (with_reducible first | exact HB.out | apply below_alloc | apply pw_below_drewN | apply below_drew1 | refine below_set ?_ GE101.out) | exact HB.out))) : w.heap.size ≤ gb102)); have GE102 := Aside0.mk ((by rw [hg]; exact (below_size (by repeat (first | (with_reducible first | exact HB.out | apply below_alloc | apply pw_below_drewN | apply below_drew1 | refine below_set ?_ GE101.out) | exact HB.out))) : w.heap.size ≤ gb102)); have NB101_102 := Aside0.mk ((by rw [hg]; exact Nat.ne_of_lt (blk_lt (g := gb101) (o := .cells #[.int .i64 a0_0, .int .u64 a0_1, .int .u64 a0_2, .int .u64 a0_3, .int .u64 a0_4, .slice A0_5 l0_5.length c0_5, .slice A0_6 l0_6.length c0_6, .slice A0_7 l0_7.length c0_7, .slice A0_8 l0_8.length c0_8] 26 (0, 0)) (blk_u BK101.out)) : gb101 ≠ gb102)); have NB102_101 := Aside0.mk ((by rw [hg]; exact Nat.ne_of_gt (blk_lt (g := gb101) (o := .cells #[.int .i64 a0_0, .int .u64 a0_1, .int .u64 a0_2, .int .u64 a0_3, .int .u64 a0_4, .slice A0_5 l0_5.length c0_5, .slice A0_6 l0_6.length c0_6, .slice A0_7 l0_7.length c0_7, .slice A0_8 l0_8.length c0_8] 26 (0, 0)) (blk_u BK101.out)) : gb102 ≠ gb101)); replace BK101 := Aside0.mk (blk_ub BK101.out hb); replace HB := Aside0.mk (below_step (by repeat (first | (with_reducible first | exact HB.out | apply below_alloc | apply pw_below_drewN | apply below_drew1 | refine below_set ?_ GE101.out) | exact HB.out)) hb); clear hb hbox hg; have hnb12 := NB101_102.out; have hnc12 := NB102_101.out; have hcz13_0 := blk_cell BK101.out; have hfz13_0 := blk_frozen BK101.out) | ((with_reducible refine gate_callee (f := 50) rfl ?_); refine goesL_ (some 6) rfl rfl Try.func50 (by kernel_rfl) rfl #[.agg #[.int .i64 a0_0, .int .u64 a0_1, .int .u64 a0_2, .int .u64 a0_3, .int .u64 a0_4, .slice A0_5 l0_5.length c0_5, .slice A0_6 l0_6.length c0_6, .slice A0_7 l0_7.length c0_7, .slice A0_8 l0_8.length c0_8]] rfl (by (try simp only [List.map_toArray, List.map_cons, List.map_nil]); first | done | rfl | (simp only [List.length_drop, List.length_take]; rfl)) ?_; (with_reducible refine (hist_Check.calls a0_0 a0_1 a0_2 a0_3 a0_4 _ _ l0_5 _ _ l0_6 _ _ l0_7 _ _ l0_8 t103 _ ?side1 ?side2 ?side3 ?side4 ?side5 ?side6 ?side7 ?side8 A2.out).mono ?_); (case side1 => exact Kd.C_u (Kd.C_below HR0_5.out HB.out)); (case side2 => exact HC0_5.out); (case side3 => exact Kd.C_u (Kd.C_below HR0_6.out HB.out)); (case side4 => exact HC0_6.out); (case side5 => exact Kd.C_u (Kd.C_below HR0_7.out HB.out)); (case side6 => exact HC0_7.out); (case side7 => exact Kd.C_u (Kd.C_below HR0_8.out HB.out)); (case side8 => exact HC0_8.out); rintro e w14 ⟨rfl, hb⟩; refine ⟨_, rfl, ?_⟩; replace BK101 := Aside0.mk (blk_ub BK101.out hb); replace BK102 := Aside0.mk (blk_ub BK102.out hb); replace HB := Aside0.mk (below_step (by repeat (first | (with_reducible first | exact HB.out | apply below_alloc | apply pw_below_drewN | apply below_drew1 | refine below_set ?_ GE101.out | refine below_set ?_ GE102.out) | exact HB.out)) hb); (try clear hb); (try clear hb2); (try clear hk); (try clear hi); clear A2))
  have n0_ := Aside0.mk (blk_drew BK101.out)
  have n1_ := Aside0.mk (blk_drew BK102.out)
  have n2_ := Aside0.mk (below_drew1 HB.out)
  clear BK101
  clear BK102
  clear HB
  have BK101 := n0_
  have BK102 := n1_
  have HB := n2_
  clear n0_ n1_ n2_
  refine start_ (n := 27) (S := fun w' => w'.cell? ⟨gb101, 0, none⟩ = some (.int .i64 a0_0) ∧ w'.cell? ⟨gb101, 1, none⟩ = some (.int .u64 a0_1) ∧ w'.cell? ⟨gb101, 2, none⟩ = some (.int .u64 a0_2) ∧ w'.cell? ⟨gb101, 3, none⟩ = some (.int .u64 a0_3) ∧ w'.cell? ⟨gb101, 4, none⟩ = some (.int .u64 a0_4) ∧ w'.cell? ⟨gb101, 5, none⟩ = some (.slice A0_5 l0_5.length c0_5) ∧ w'.cell? ⟨gb101, 6, none⟩ = some (.slice A0_6 l0_6.length c0_6) ∧ w'.cell? ⟨gb101, 7, none⟩ = some (.slice A0_7 l0_7.length c0_7) ∧ w'.cell? ⟨gb101, 8, none⟩ = some (.slice A0_8 l0_8.length c0_8)) (ds := []) #[false, false, false, false, false, false, false, false, false, false, false, false, false, false, false, false, false, false, false, false, false, false, false, false, false, false, false] (by kernel_rfl) rfl rfl ⟨(blk_cell BK101.out 0).trans rfl, (blk_cell BK101.out 1).trans rfl, (blk_cell BK101.out 2).trans rfl, (blk_cell BK101.out 3).trans rfl, (blk_cell BK101.out 4).trans rfl, (blk_cell BK101.out 5).trans rfl, (blk_cell BK101.out 6).trans rfl, (blk_cell BK101.out 7).trans rfl, (blk_cell BK101.out 8).trans rfl⟩ (fun hHeld => ?_); refine with_tabW fhist_From.tab4 fhist_From.bits4 (fun HT_ HW_ => ?_)
  generalize w14.drew = w15 at BK101 BK102 HB hHeld ⊢
  refine pure_ (i := 0) (N := some 11) (v := ?_) (a' := ?_) #[true, false, false, false, false, false, false, false, false, false, false, false, false, false, false, false, false, false, false, false, false, false, false, false, false, false, false] rfl rfl (any_of HT_.out (by kernel_rfl)) (fun _ _ _ h => h) (Or.inl ⟨by rfl, ?_⟩) ?_ ?_
  rotate_left
  ·intro w'
   go_simp
   with_reducible rfl
  rotate_left
  ·simp only [Act.put, List.setIfInBounds_toArray, List.set_cons_zero, List.set_cons_succ, i64_w, i32_w]
   rfl
  refine pure_ (i := 2) (N := some 13) (v := ?_) (a' := ?_) #[true, false, true, false, false, false, false, false, false, false, false, false, false, false, false, false, false, false, false, false, false, false, false, false, false, false, false] rfl rfl (any_of HT_.out (by kernel_rfl)) (fun _ _ _ h => h) (Or.inl ⟨by rfl, ?_⟩) ?_ ?_
  rotate_left
  ·intro w'
   go_simp
   with_reducible rfl
  rotate_left
  ·simp only [Act.put, List.setIfInBounds_toArray, List.set_cons_zero, List.set_cons_succ, i64_w, i32_w]
   rfl
  refine pure_ (i := 4) (N := some 15) (v := ?_) (a' := ?_) #[true, false, true, false, true, false, false, false, false, false, false, false, false, false, false, false, false, false, false, false, false, false, false, false, false, false, false] rfl rfl (any_of HT_.out (by kernel_rfl)) (fun _ _ _ h => h) (Or.inl ⟨by rfl, ?_⟩) ?_ ?_
  rotate_left
  ·intro w'
   go_simp
   with_reducible rfl
  rotate_left
  ·simp only [Act.put, List.setIfInBounds_toArray, List.set_cons_zero, List.set_cons_succ, i64_w, i32_w]
   rfl
  refine pure_ (i := 7) (N := some 18) (v := ?_) (a' := ?_) #[true, false, true, false, true, false, false, true, false, false, false, false, false, false, false, false, false, false, false, false, false, false, false, false, false, false, false] rfl rfl (any_of HT_.out (by kernel_rfl)) (fun _ _ _ h => h) (Or.inl ⟨by rfl, ?_⟩) ?_ ?_
  rotate_left
  ·intro w'
   go_simp
   with_reducible rfl
  rotate_left
  ·simp only [Act.put, List.setIfInBounds_toArray, List.set_cons_zero, List.set_cons_succ, i64_w, i32_w]
   rfl
  refine pure_ (i := 10) (N := some 21) (v := ?_) (a' := ?_) #[true, false, true, false, true, false, false, true, false, false, true, false, false, false, false, false, false, false, false, false, false, false, false, false, false, false, false] rfl rfl (any_of HT_.out (by kernel_rfl)) (fun _ _ _ h => h) (Or.inl ⟨by rfl, ?_⟩) ?_ ?_
  rotate_left
  ·intro w'
   go_simp
   with_reducible rfl
  rotate_left
  ·simp only [Act.put, List.setIfInBounds_toArray, List.set_cons_zero, List.set_cons_succ, i64_w, i32_w]
   rfl
  refine pure_ (i := 12) (N := some 23) (v := ?_) (a' := ?_) #[true, false, true, false, true, false, false, true, false, false, true, false, true, false, false, false, false, false, false, false, false, false, false, false, false, false, false] rfl rfl (any_of HT_.out (by kernel_rfl)) (fun _ _ _ h => h) (Or.inl ⟨by rfl, ?_⟩) ?_ ?_
  rotate_left
  ·intro w'
   go_simp
   with_reducible rfl
  rotate_left
  ·simp only [Act.put, List.setIfInBounds_toArray, List.set_cons_zero, List.set_cons_succ, i64_w, i32_w]
   rfl
  refine pure_ (i := 15) (N := some 26) (v := ?_) (a' := ?_) #[true, false, true, false, true, false, false, true, false, false, true, false, true, false, false, true, false, false, false, false, false, false, false, false, false, false, false] rfl rfl (any_of HT_.out (by kernel_rfl)) (fun _ _ _ h => h) (Or.inl ⟨by rfl, ?_⟩) ?_ ?_
  rotate_left
  ·intro w'
   go_simp
   with_reducible rfl
  rotate_left
  ·simp only [Act.put, List.setIfInBounds_toArray, List.set_cons_zero, List.set_cons_succ, i64_w, i32_w]
   rfl
  refine pure_ (i := 18) (N := some 29) (v := ?_) (a' := ?_) #[true, false, true, false, true, false, false, true, false, false, true, false, true, false, false, true, false, false, true, false, false, false, false, false, false, false, false] rfl rfl (any_of HT_.out (by kernel_rfl)) (fun _ _ _ h => h) (Or.inl ⟨by rfl, ?_⟩) ?_ ?_
  rotate_left
  ·intro w'
   go_simp
   with_reducible rfl
  rotate_left
  ·simp only [Act.put, List.setIfInBounds_toArray, List.set_cons_zero, List.set_cons_succ, i64_w, i32_w]
   rfl
  refine pure_ (i := 21) (N := some 32) (v := ?_) (a' := ?_) #[true, false, true, false, true, false, false, true, false, false, true, false, true, false, false, true, false, false, true, false, false, true, false, false, false, false, false] rfl rfl (any_of HT_.out (by kernel_rfl)) (fun _ _ _ h => h) (Or.inl ⟨by rfl, ?_⟩) ?_ ?_
  rotate_left
  ·intro w'
   go_simp
   with_reducible rfl
  rotate_left
  ·simp only [Act.put, List.setIfInBounds_toArray, List.set_cons_zero, List.set_cons_succ, i64_w, i32_w]
   rfl
  refine take_ (i := 1) (N := some 12) (v := ?_) (a' := ?_) #[true, true, true, false, true, false, false, true, false, false, true, false, true, false, false, true, false, false, true, false, false, true, false, false, false, false, false] rfl rfl (take_ofW HT_.out HW_.out (by kernel_rfl)) (fun _ _ _ h => h) (Or.inl ⟨by rfl, ?_⟩) hHeld ?_ ?_
  rotate_left
  ·rintro w' ⟨s0, s1, s2, s3, s4, s5, s6, s7, s8⟩
   go_simp
   with_reducible rfl
  rotate_left
  ·simp only [Act.put, List.setIfInBounds_toArray, List.set_cons_zero, List.set_cons_succ, i64_w, i32_w]
   rfl
  refine take_ (i := 3) (N := some 14) (v := ?_) (a' := ?_) #[true, true, true, true, true, false, false, true, false, false, true, false, true, false, false, true, false, false, true, false, false, true, false, false, false, false, false] rfl rfl (take_ofW HT_.out HW_.out (by kernel_rfl)) (fun _ _ _ h => h) (Or.inl ⟨by rfl, ?_⟩) hHeld ?_ ?_
  rotate_left
  ·rintro w' ⟨s0, s1, s2, s3, s4, s5, s6, s7, s8⟩
   go_simp
   with_reducible rfl
  rotate_left
  ·simp only [Act.put, List.setIfInBounds_toArray, List.set_cons_zero, List.set_cons_succ, i64_w, i32_w]
   rfl
  refine take_ (i := 5) (N := some 16) (v := ?_) (a' := ?_) #[true, true, true, true, true, true, false, true, false, false, true, false, true, false, false, true, false, false, true, false, false, true, false, false, false, false, false] rfl rfl (take_ofW HT_.out HW_.out (by kernel_rfl)) (fun _ _ _ h => h) (Or.inl ⟨by rfl, ?_⟩) hHeld ?_ ?_
  rotate_left
  ·rintro w' ⟨s0, s1, s2, s3, s4, s5, s6, s7, s8⟩
   go_simp
   with_reducible rfl
  rotate_left
  ·simp only [Act.put, List.setIfInBounds_toArray, List.set_cons_zero, List.set_cons_succ, i64_w, i32_w]
   rfl
  refine take_ (i := 8) (N := some 19) (v := ?_) (a' := ?_) #[true, true, true, true, true, true, false, true, true, false, true, false, true, false, false, true, false, false, true, false, false, true, false, false, false, false, false] rfl rfl (take_ofW HT_.out HW_.out (by kernel_rfl)) (fun _ _ _ h => h) (Or.inl ⟨by rfl, ?_⟩) hHeld ?_ ?_
  rotate_left
  ·rintro w' ⟨s0, s1, s2, s3, s4, s5, s6, s7, s8⟩
   go_simp
   with_reducible rfl
  rotate_left
  ·simp only [Act.put, List.setIfInBounds_toArray, List.set_cons_zero, List.set_cons_succ, i64_w, i32_w]
   rfl
  refine take_ (i := 11) (N := some 22) (v := ?_) (a' := ?_) #[true, true, true, true, true, true, false, true, true, false, true, true, true, false, false, true, false, false, true, false, false, true, false, false, false, false, false] rfl rfl (take_ofW HT_.out HW_.out (by kernel_rfl)) (fun _ _ _ h => h) (Or.inl ⟨by rfl, ?_⟩) hHeld ?_ ?_
  rotate_left
  ·rintro w' ⟨s0, s1, s2, s3, s4, s5, s6, s7, s8⟩
   go_simp
   with_reducible rfl
  rotate_left
  ·simp only [Act.put, List.setIfInBounds_toArray, List.set_cons_zero, List.set_cons_succ, i64_w, i32_w]
   rfl
  refine take_ (i := 13) (N := some 24) (v := ?_) (a' := ?_) #[true, true, true, true, true, true, false, true, true, false, true, true, true, true, false, true, false, false, true, false, false, true, false, false, false, false, false] rfl rfl (take_ofW HT_.out HW_.out (by kernel_rfl)) (fun _ _ _ h => h) (Or.inl ⟨by rfl, ?_⟩) hHeld ?_ ?_
  rotate_left
  ·rintro w' ⟨s0, s1, s2, s3, s4, s5, s6, s7, s8⟩
   go_simp
   with_reducible rfl
  rotate_left
  ·simp only [Act.put, List.setIfInBounds_toArray, List.set_cons_zero, List.set_cons_succ, i64_w, i32_w]
   rfl
  refine take_ (i := 16) (N := some 27) (v := ?_) (a' := ?_) #[true, true, true, true, true, true, false, true, true, false, true, true, true, true, false, true, true, false, true, false, false, true, false, false, false, false, false] rfl rfl (take_ofW HT_.out HW_.out (by kernel_rfl)) (fun _ _ _ h => h) (Or.inl ⟨by rfl, ?_⟩) hHeld ?_ ?_
  rotate_left
  ·rintro w' ⟨s0, s1, s2, s3, s4, s5, s6, s7, s8⟩
   go_simp
   with_reducible rfl
  rotate_left
  ·simp only [Act.put, List.setIfInBounds_toArray, List.set_cons_zero, List.set_cons_succ, i64_w, i32_w]
   rfl
  refine take_ (i := 19) (N := some 30) (v := ?_) (a' := ?_) #[true, true, true, true, true, true, false, true, true, false, true, true, true, true, false, true, true, false, true, true, false, true, false, false, false, false, false] rfl rfl (take_ofW HT_.out HW_.out (by kernel_rfl)) (fun _ _ _ h => h) (Or.inl ⟨by rfl, ?_⟩) hHeld ?_ ?_
  rotate_left
  ·rintro w' ⟨s0, s1, s2, s3, s4, s5, s6, s7, s8⟩
   go_simp
   with_reducible rfl
  rotate_left
  ·simp only [Act.put, List.setIfInBounds_toArray, List.set_cons_zero, List.set_cons_succ, i64_w, i32_w]
   rfl
  refine take_ (i := 22) (N := some 33) (v := ?_) (a' := ?_) #[true, true, true, true, true, true, false, true, true, false, true, true, true, true, false, true, true, false, true, true, false, true, true, false, false, false, false] rfl rfl (take_ofW HT_.out HW_.out (by kernel_rfl)) (fun _ _ _ h => h) (Or.inl ⟨by rfl, ?_⟩) hHeld ?_ ?_
  rotate_left
  ·rintro w' ⟨s0, s1, s2, s3, s4, s5, s6, s7, s8⟩
   go_simp
   with_reducible rfl
  rotate_left
  ·simp only [Act.put, List.setIfInBounds_toArray, List.set_cons_zero, List.set_cons_succ, i64_w, i32_w]
   rfl
  refine one_ (i := 6) (N := some 17) #[true, true, true, true, true, true, true, true, true, false, true, true, true, true, false, true, true, false, true, true, false, true, true, false, false, false, false] rfl rfl (one_of HT_.out (by kernel_rfl)) (by decide) (fun K hK => ?_)
  refine goes_ Try.func31 (by kernel_rfl) rfl #[.int .u64 a0_2] (by rfl) rfl rfl (by (try simp only [List.map_toArray, List.map_cons, List.map_nil]); first | done | rfl | (simp only [List.length_drop, List.length_take]; rfl)) ?_
  with_reducible refine (fhist_Float.calls a0_2 t104 _ A4.out).mono ?_
  rintro e w' ⟨rfl, ⟨nd, rfl⟩⟩
  refine ⟨_, rfl, ?_⟩
  refine hK.out _ _ ⟨(blk_cell BK101.out 0).trans rfl, (blk_cell BK101.out 1).trans rfl, (blk_cell BK101.out 2).trans rfl, (blk_cell BK101.out 3).trans rfl, (blk_cell BK101.out 4).trans rfl, (blk_cell BK101.out 5).trans rfl, (blk_cell BK101.out 6).trans rfl, (blk_cell BK101.out 7).trans rfl, (blk_cell BK101.out 8).trans rfl⟩ (fun hHeld => ?_)
  clear hK K
  refine norm_ (a' := ?_) ?_ ?_
  rotate_left
  ·show Act.put _ (some 17) _ = _
   simp only [Act.put, List.setIfInBounds_toArray, List.set_cons_zero, List.set_cons_succ, i64_w, i32_w]
   rfl
  refine one_ (i := 9) (N := some 20) #[true, true, true, true, true, true, true, true, true, true, true, true, true, true, false, true, true, false, true, true, false, true, true, false, false, false, false] rfl rfl (one_of HT_.out (by kernel_rfl)) (by decide) (fun K hK => ?_)
  refine goes_ Try.func31 (by kernel_rfl) rfl #[.int .u64 a0_3] (by rfl) rfl rfl (by (try simp only [List.map_toArray, List.map_cons, List.map_nil]); first | done | rfl | (simp only [List.length_drop, List.length_take]; rfl)) ?_
  with_reducible refine (fhist_Float.calls a0_3 t105 _ A5.out).mono ?_
  rintro e w' ⟨rfl, ⟨nd, rfl⟩⟩
  refine ⟨_, rfl, ?_⟩
  refine hK.out _ _ ⟨(blk_cell BK101.out 0).trans rfl, (blk_cell BK101.out 1).trans rfl, (blk_cell BK101.out 2).trans rfl, (blk_cell BK101.out 3).trans rfl, (blk_cell BK101.out 4).trans rfl, (blk_cell BK101.out 5).trans rfl, (blk_cell BK101.out 6).trans rfl, (blk_cell BK101.out 7).trans rfl, (blk_cell BK101.out 8).trans rfl⟩ (fun hHeld => ?_)
  clear hK K
  refine norm_ (a' := ?_) ?_ ?_
  rotate_left
  ·show Act.put _ (some 20) _ = _
   simp only [Act.put, List.setIfInBounds_toArray, List.set_cons_zero, List.set_cons_succ, i64_w, i32_w]
   rfl
  refine one_ (i := 14) (N := some 25) #[true, true, true, true, true, true, true, true, true, true, true, true, true, true, true, true, true, false, true, true, false, true, true, false, false, false, false] rfl rfl (one_of HT_.out (by kernel_rfl)) (by decide) (fun K hK => ?_)
  refine goes_ Try.func51 (by kernel_rfl) rfl #[.slice A0_5 l0_5.length c0_5] (by rfl) rfl rfl (by (try simp only [List.map_toArray, List.map_cons, List.map_nil]); first | done | rfl | (simp only [List.length_drop, List.length_take]; rfl)) ?_
  with_reducible refine (slices_Clone_span.calls _ _ l0_5 t106 _ ?side1 ?side2 A6.out).mono ?_
  (case side1 => repeat (first | exact (Kd.C_below HR0_5.out (by repeat (first | (with_reducible first | exact HB.out | apply below_alloc | apply pw_below_drewN | apply below_drew1 | refine below_set ?_ GE101.out | refine below_set ?_ GE102.out) | exact HB.out))) | (with_reducible refine Kd.C_alloc ?_ _) | (with_reducible refine Kd.C_drewN ?_ _) | (with_reducible refine Kd.C_drew ?_)))
  (case side2 => exact HC0_5.out)
  rintro e w16 ⟨v107, rfl, ho0, hb⟩
  refine ⟨_, rfl, ?_⟩
  have n0_ := Aside0.mk (Kd.R_lower ho0 (below_size (by repeat (first | (with_reducible first | exact HB.out | apply below_alloc | apply pw_below_drewN | apply below_drew1 | refine below_set ?_ GE101.out | refine below_set ?_ GE102.out) | exact HB.out))))
  have n1_ := Aside0.mk (blk_ub BK101.out hb)
  have n2_ := Aside0.mk (blk_ub BK102.out hb)
  have n3_ := Aside0.mk (below_step (by repeat (first | (with_reducible first | exact HB.out | apply below_alloc | apply pw_below_drewN | apply below_drew1 | refine below_set ?_ GE101.out | refine below_set ?_ GE102.out) | exact HB.out)) hb)
  clear BK101
  clear BK102
  clear HB
  have HO108 := n0_
  have BK101 := n1_
  have BK102 := n2_
  have HB := n3_
  clear n0_ n1_ n2_ n3_
  (try clear hb)
  (try clear hb2)
  (try clear hk)
  (try clear hi)
  (try clear ho0)
  refine hK.out _ _ ⟨(blk_cell BK101.out 0).trans rfl, (blk_cell BK101.out 1).trans rfl, (blk_cell BK101.out 2).trans rfl, (blk_cell BK101.out 3).trans rfl, (blk_cell BK101.out 4).trans rfl, (blk_cell BK101.out 5).trans rfl, (blk_cell BK101.out 6).trans rfl, (blk_cell BK101.out 7).trans rfl, (blk_cell BK101.out 8).trans rfl⟩ (fun hHeld => ?_)
  clear hK K
  refine norm_ (a' := ?_) ?_ ?_
  rotate_left
  ·show Act.put _ (some 25) _ = _
   simp only [Act.put, List.setIfInBounds_toArray, List.set_cons_zero, List.set_cons_succ, i64_w, i32_w]
   rfl
  refine one_ (i := 17) (N := some 28) #[true, true, true, true, true, true, true, true, true, true, true, true, true, true, true, true, true, true, true, true, false, true, true, false, false, false, false] rfl rfl (one_of HT_.out (by kernel_rfl)) (by decide) (fun K hK => ?_)
  refine goes_ Try.func51 (by kernel_rfl) rfl #[.slice A0_6 l0_6.length c0_6] (by rfl) rfl rfl (by (try simp only [List.map_toArray, List.map_cons, List.map_nil]); first | done | rfl | (simp only [List.length_drop, List.length_take]; rfl)) ?_
  with_reducible refine (slices_Clone_span.calls _ _ l0_6 t109 _ ?side1 ?side2 A7.out).mono ?_
  (case side1 => exact Kd.C_u (Kd.C_below HR0_6.out HB.out))
  (case side2 => exact HC0_6.out)
  rintro e w17 ⟨v110, rfl, ho0, hb⟩
  refine ⟨_, rfl, ?_⟩
  have n0_ := Aside0.mk (Kd.R_elder' (Kd.R_u HO108.out) (Kd.R_base ho0) hb)
  have n1_ := Aside0.mk (Kd.R_lower (Kd.R_new' ho0 (Kd.R_lt (Kd.R_u HO108.out))) (below_size (by repeat (first | (with_reducible first | exact HB.out | apply below_alloc | apply pw_below_drewN | apply below_drew1 | refine below_set ?_ GE101.out | refine below_set ?_ GE102.out) | exact HB.out))))
  have n2_ := Aside0.mk (blk_ub BK101.out hb)
  have n3_ := Aside0.mk (blk_ub BK102.out hb)
  have n4_ := Aside0.mk (below_step (by repeat (first | (with_reducible first | exact HB.out | apply below_alloc | apply pw_below_drewN | apply below_drew1 | refine below_set ?_ GE101.out | refine below_set ?_ GE102.out) | exact HB.out)) hb)
  clear HO108
  clear BK101
  clear BK102
  clear HB
  have HO108 := n0_
  have HO111 := n1_
  have BK101 := n2_
  have BK102 := n3_
  have HB := n4_
  clear n0_ n1_ n2_ n3_ n4_
  (try clear hb)
  (try clear hb2)
  (try clear hk)
  (try clear hi)
  (try clear ho0)
  refine hK.out _ _ ⟨(blk_cell BK101.out 0).trans rfl, (blk_cell BK101.out 1).trans rfl, (blk_cell BK101.out 2).trans rfl, (blk_cell BK101.out 3).trans rfl, (blk_cell BK101.out 4).trans rfl, (blk_cell BK101.out 5).trans rfl, (blk_cell BK101.out 6).trans rfl, (blk_cell BK101.out 7).trans rfl, (blk_cell BK101.out 8).trans rfl⟩ (fun hHeld => ?_)
  clear hK K
  refine norm_ (a' := ?_) ?_ ?_
  rotate_left
  ·show Act.put _ (some 28) _ = _
   simp only [Act.put, List.setIfInBounds_toArray, List.set_cons_zero, List.set_cons_succ, i64_w, i32_w]
   rfl
  refine one_ (i := 20) (N := some 31) #[true, true, true, true, true, true, true, true, true, true, true, true, true, true, true, true, true, true, true, true, true, true, true, false, false, false, false] rfl rfl (one_of HT_.out (by kernel_rfl)) (by decide) (fun K hK => ?_)
  refine goes_ Try.func52 (by kernel_rfl) rfl #[.slice A0_7 l0_7.length c0_7] (by rfl) rfl rfl (by (try simp only [List.map_toArray, List.map_cons, List.map_nil]); first | done | rfl | (simp only [List.length_drop, List.length_take]; rfl)) ?_
  with_reducible refine (fhist_floats.calls _ _ l0_7 t112 _ ?side1 ?side2 A8.out).mono ?_
  (case side1 => exact Kd.C_u (Kd.C_below HR0_7.out HB.out))
  (case side2 => exact HC0_7.out)
  rintro e w18 ⟨v113, rfl, ho0, hb⟩
  refine ⟨_, rfl, ?_⟩
  have n0_ := Aside0.mk (Kd.R_ub HO108.out hb)
  have n1_ := Aside0.mk (Kd.R_ub HO111.out hb)
  have n2_ := Aside0.mk (Kd.R_lower ho0 (below_size (by repeat (first | (with_reducible first | exact HB.out | apply below_alloc | apply pw_below_drewN | apply below_drew1 | refine below_set ?_ GE101.out | refine below_set ?_ GE102.out) | exact HB.out))))
  have n3_ := Aside0.mk (blk_ub BK101.out hb)
  have n4_ := Aside0.mk (blk_ub BK102.out hb)
  have n5_ := Aside0.mk (below_step (by repeat (first | (with_reducible first | exact HB.out | apply below_alloc | apply pw_below_drewN | apply below_drew1 | refine below_set ?_ GE101.out | refine below_set ?_ GE102.out) | exact HB.out)) hb)
  clear HO108
  clear HO111
  clear BK101
  clear BK102
  clear HB
  have HO108 := n0_
  have HO111 := n1_
  have HO114 := n2_
  have BK101 := n3_
  have BK102 := n4_
  have HB := n5_
  clear n0_ n1_ n2_ n3_ n4_ n5_
  (try clear hb)
  (try clear hb2)
  (try clear hk)
  (try clear hi)
  (try clear ho0)
  refine hK.out _ _ ⟨(blk_cell BK101.out 0).trans rfl, (blk_cell BK101.out 1).trans rfl, (blk_cell BK101.out 2).trans rfl, (blk_cell BK101.out 3).trans rfl, (blk_cell BK101.out 4).trans rfl, (blk_cell BK101.out 5).trans rfl, (blk_cell BK101.out 6).trans rfl, (blk_cell BK101.out 7).trans rfl, (blk_cell BK101.out 8).trans rfl⟩ (fun hHeld => ?_)
  clear hK K
  refine norm_ (a' := ?_) ?_ ?_
  rotate_left
  ·show Act.put _ (some 31) _ = _
   simp only [Act.put, List.setIfInBounds_toArray, List.set_cons_zero, List.set_cons_succ, i64_w, i32_w]
   rfl
  refine one_ (i := 23) (N := some 34) #[true, true, true, true, true, true, true, true, true, true, true, true, true, true, true, true, true, true, true, true, true, true, true, true, false, false, false] rfl rfl (one_of HT_.out (by kernel_rfl)) (by decide) (fun K hK => ?_)
  refine goes_ Try.func52 (by kernel_rfl) rfl #[.slice A0_8 l0_8.length c0_8] (by rfl) rfl rfl (by (try simp only [List.map_toArray, List.map_cons, List.map_nil]); first | done | rfl | (simp only [List.length_drop, List.length_take]; rfl)) ?_
  with_reducible refine (fhist_floats.calls _ _ l0_8 t115 _ ?side1 ?side2 A9.out).mono ?_
  (case side1 => exact Kd.C_u (Kd.C_below HR0_8.out HB.out))
  (case side2 => exact HC0_8.out)
  rintro e w19 ⟨v116, rfl, ho0, hb⟩
  refine ⟨_, rfl, ?_⟩
  have n0_ := Aside0.mk (Kd.R_ub HO108.out hb)
  have n1_ := Aside0.mk (Kd.R_ub HO111.out hb)
  have n2_ := Aside0.mk (Kd.R_elder' (Kd.R_u HO114.out) (Kd.R_base ho0) hb)
  have n3_ := Aside0.mk (Kd.R_lower (Kd.R_new' ho0 (Kd.R_lt (Kd.R_u HO114.out))) (below_size (by repeat (first | (with_reducible first | exact HB.out | apply below_alloc | apply pw_below_drewN | apply below_drew1 | refine below_set ?_ GE101.out | refine below_set ?_ GE102.out) | exact HB.out))))
  have n4_ := Aside0.mk (blk_ub BK101.out hb)
  have n5_ := Aside0.mk (blk_ub BK102.out hb)
  have n6_ := Aside0.mk (below_step (by repeat (first | (with_reducible first | exact HB.out | apply below_alloc | apply pw_below_drewN | apply below_drew1 | refine below_set ?_ GE101.out | refine below_set ?_ GE102.out) | exact HB.out)) hb)
  clear HO108
  clear HO111
  clear HO114
  clear BK101
  clear BK102
  clear HB
  have HO108 := n0_
  have HO111 := n1_
  have HO114 := n2_
  have HO117 := n3_
  have BK101 := n4_
  have BK102 := n5_
  have HB := n6_
  clear n0_ n1_ n2_ n3_ n4_ n5_ n6_
  (try clear hb)
  (try clear hb2)
  (try clear hk)
  (try clear hi)
  (try clear ho0)
  obtain ⟨Ao20, co20, eo20⟩ := Kd.R_slice HO117.out
  (first | subst eo20 | (injection eo20 with f1_ f2_ f3_; have f4_ := f1_.symm; have f5_ := f3_.symm; clear f1_ f2_ f3_; subst f4_; subst f5_))
  obtain ⟨Ao21, co21, eo21⟩ := Kd.R_slice HO114.out
  (first | subst eo21 | (injection eo21 with f1_ f2_ f3_; have f4_ := f1_.symm; have f5_ := f3_.symm; clear f1_ f2_ f3_; subst f4_; subst f5_))
  obtain ⟨Ao22, co22, eo22⟩ := Kd.R_slice HO111.out
  (first | subst eo22 | (injection eo22 with f1_ f2_ f3_; have f4_ := f1_.symm; have f5_ := f3_.symm; clear f1_ f2_ f3_; subst f4_; subst f5_))
  obtain ⟨Ao23, co23, eo23⟩ := Kd.R_slice HO108.out
  (first | subst eo23 | (injection eo23 with f1_ f2_ f3_; have f4_ := f1_.symm; have f5_ := f3_.symm; clear f1_ f2_ f3_; subst f4_; subst f5_))
  refine hK.out _ _ ⟨(blk_cell BK101.out 0).trans rfl, (blk_cell BK101.out 1).trans rfl, (blk_cell BK101.out 2).trans rfl, (blk_cell BK101.out 3).trans rfl, (blk_cell BK101.out 4).trans rfl, (blk_cell BK101.out 5).trans rfl, (blk_cell BK101.out 6).trans rfl, (blk_cell BK101.out 7).trans rfl, (blk_cell BK101.out 8).trans rfl⟩ (fun hHeld => ?_)
  clear hK K
  refine norm_ (a' := ?_) ?_ ?_
  rotate_left
  ·show Act.put _ (some 34) _ = _
   simp only [Act.put, List.setIfInBounds_toArray, List.set_cons_zero, List.set_cons_succ, i64_w, i32_w]
   rfl
  refine pure_ (i := 24) (N := some 35) (v := ?_) (a' := ?_) #[true, true, true, true, true, true, true, true, true, true, true, true, true, true, true, true, true, true, true, true, true, true, true, true, true, false, false] rfl rfl (any_of HT_.out (by kernel_rfl)) (fun _ _ _ h => h) (Or.inl ⟨by rfl, ?_⟩) ?_ ?_
  rotate_left
  ·intro w'
   go_simp
   with_reducible rfl
  rotate_left
  ·simp only [Act.put, List.setIfInBounds_toArray, List.set_cons_zero, List.set_cons_succ, i64_w, i32_w]
   rfl
  refine one_ (i := 25) (N := none) #[true, true, true, true, true, true, true, true, true, true, true, true, true, true, true, true, true, true, true, true, true, true, true, true, true, true, false] rfl rfl (one_of HT_.out (by kernel_rfl)) (by decide) (fun K hK => ?_)
  have hs24 : w19.cell? ⟨gb102, 0, none⟩ = some (.int .i64 0) := (blk_cell BK102.out 0).trans rfl
  have hfs24 := blk_frozen BK102.out 0
  have hns24_0 := NB101_102.out
  have hms24_0 := NB102_101.out
  have hs25 : w19.cell? ⟨gb102, 1, none⟩ = some (.int .u64 0) := (blk_cell BK102.out 1).trans rfl
  have hfs25 := blk_frozen BK102.out 1
  have hns25_0 := NB101_102.out
  have hms25_0 := NB102_101.out
  have hs26 : w19.cell? ⟨gb102, 2, none⟩ = some (.int .u64 0) := (blk_cell BK102.out 2).trans rfl
  have hfs26 := blk_frozen BK102.out 2
  have hns26_0 := NB101_102.out
  have hms26_0 := NB102_101.out
  have hs27 : w19.cell? ⟨gb102, 3, none⟩ = some (.int .u64 0) := (blk_cell BK102.out 3).trans rfl
  have hfs27 := blk_frozen BK102.out 3
  have hns27_0 := NB101_102.out
  have hms27_0 := NB102_101.out
  have hs28 : w19.cell? ⟨gb102, 4, none⟩ = some (.int .u64 0) := (blk_cell BK102.out 4).trans rfl
  have hfs28 := blk_frozen BK102.out 4
  have hns28_0 := NB101_102.out
  have hms28_0 := NB102_101.out
  have hs29 : w19.cell? ⟨gb102, 5, none⟩ = some (.slice none 0 0) := (blk_cell BK102.out 5).trans rfl
  have hfs29 := blk_frozen BK102.out 5
  have hns29_0 := NB101_102.out
  have hms29_0 := NB102_101.out
  have hs30 : w19.cell? ⟨gb102, 6, none⟩ = some (.slice none 0 0) := (blk_cell BK102.out 6).trans rfl
  have hfs30 := blk_frozen BK102.out 6
  have hns30_0 := NB101_102.out
  have hms30_0 := NB102_101.out
  have hs31 : w19.cell? ⟨gb102, 7, none⟩ = some (.slice none 0 0) := (blk_cell BK102.out 7).trans rfl
  have hfs31 := blk_frozen BK102.out 7
  have hns31_0 := NB101_102.out
  have hms31_0 := NB102_101.out
  have hs32 : w19.cell? ⟨gb102, 8, none⟩ = some (.slice none 0 0) := (blk_cell BK102.out 8).trans rfl
  have hfs32 := blk_frozen BK102.out 8
  have hns32_0 := NB101_102.out
  have hms32_0 := NB102_101.out
  refine skip_ (w1 := ?_) (by rfl) rfl ?_ ?_
  rotate_left
  ·go_simp
   rfl
  refine hK.out _ _ ⟨((cell_far (p := ⟨gb102, _, none⟩) NB101_102.out _).trans (((cell_far (p := ⟨gb102, _, none⟩) NB101_102.out _).trans (((cell_far (p := ⟨gb102, _, none⟩) NB101_102.out _).trans (((cell_far (p := ⟨gb102, _, none⟩) NB101_102.out _).trans (((cell_far (p := ⟨gb102, _, none⟩) NB101_102.out _).trans (((cell_far (p := ⟨gb102, _, none⟩) NB101_102.out _).trans (((cell_far (p := ⟨gb102, _, none⟩) NB101_102.out _).trans (((cell_far (p := ⟨gb102, _, none⟩) NB101_102.out _).trans (((cell_far (p := ⟨gb102, _, none⟩) NB101_102.out _).trans (hHeld.1)))))))))))))))))), ((cell_far (p := ⟨gb102, _, none⟩) NB101_102.out _).trans (((cell_far (p := ⟨gb102, _, none⟩) NB101_102.out _).trans (((cell_far (p := ⟨gb102, _, none⟩) NB101_102.out _).trans (((cell_far (p := ⟨gb102, _, none⟩) NB101_102.out _).trans (((cell_far (p := ⟨gb102, _, none⟩) NB101_102.out _).trans (((cell_far (p := ⟨gb102, _, none⟩) NB101_102.out _).trans (((cell_far (p := ⟨gb102, _, none⟩) NB101_102.out _).trans (((cell_far (p := ⟨gb102, _, none⟩) NB101_102.out _).trans (((cell_far (p := ⟨gb102, _, none⟩) NB101_102.out _).trans (hHeld.2.1)))))))))))))))))), ((cell_far (p := ⟨gb102, _, none⟩) NB101_102.out _).trans (((cell_far (p := ⟨gb102, _, none⟩) NB101_102.out _).trans (((cell_far (p := ⟨gb102, _, none⟩) NB101_102.out _).trans (((cell_far (p := ⟨gb102, _, none⟩) NB101_102.out _).trans (((cell_far (p := ⟨gb102, _, none⟩) NB101_102.out _).trans (((cell_far (p := ⟨gb102, _, none⟩) NB101_102.out _).trans (((cell_far (p := ⟨gb102, _, none⟩) NB101_102.out _).trans (((cell_far (p := ⟨gb102, _, none⟩) NB101_102.out _).trans (((cell_far (p := ⟨gb102, _, none⟩) NB101_102.out _).trans (hHeld.2.2.1)))))))))))))))))), ((cell_far (p := ⟨gb102, _, none⟩) NB101_102.out _).trans (((cell_far (p := ⟨gb102, _, none⟩) NB101_102.out _).trans (((cell_far (p := ⟨gb102, _, none⟩) NB101_102.out _).trans (((cell_far (p := ⟨gb102, _, none⟩) NB101_102.out _).trans (((cell_far (p := ⟨gb102, _, none⟩) NB101_102.out _).trans (((cell_far (p := ⟨gb102, _, none⟩) NB101_102.out _).trans (((cell_far (p := ⟨gb102, _, none⟩) NB101_102.out _).trans (((cell_far (p := ⟨gb102, _, none⟩) NB101_102.out _).trans (((cell_far (p := ⟨gb102, _, none⟩) NB101_102.out _).trans (hHeld.2.2.2.1)))))))))))))))))), ((cell_far (p := ⟨gb102, _, none⟩) NB101_102.out _).trans (((cell_far (p := ⟨gb102, _, none⟩) NB101_102.out _).trans (((cell_far (p := ⟨gb102, _, none⟩) NB101_102.out _).trans (((cell_far (p := ⟨gb102, _, none⟩) NB101_102.out _).trans (((cell_far (p := ⟨gb102, _, none⟩) NB101_102.out _).trans (((cell_far (p := ⟨gb102, _, none⟩) NB101_102.out _).trans (((cell_far (p := ⟨gb102, _, none⟩) NB101_102.out _).trans (((cell_far (p := ⟨gb102, _, none⟩) NB101_102.out _).trans (((cell_far (p := ⟨gb102, _, none⟩) NB101_102.out _).trans (hHeld.2.2.2.2.1)))))))))))))))))), ((cell_far (p := ⟨gb102, _, none⟩) NB101_102.out _).trans (((cell_far (p := ⟨gb102, _, none⟩) NB101_102.out _).trans (((cell_far (p := ⟨gb102, _, none⟩) NB101_102.out _).trans (((cell_far (p := ⟨gb102, _, none⟩) NB101_102.out _).trans (((cell_far (p := ⟨gb102, _, none⟩) NB101_102.out _).trans (((cell_far (p := ⟨gb102, _, none⟩) NB101_102.out _).trans (((cell_far (p := ⟨gb102, _, none⟩) NB101_102.out _).trans (((cell_far (p := ⟨gb102, _, none⟩) NB101_102.out _).trans (((cell_far (p := ⟨gb102, _, none⟩) NB101_102.out _).trans (hHeld.2.2.2.2.2.1)))))))))))))))))), ((cell_far (p := ⟨gb102, _, none⟩) NB101_102.out _).trans (((cell_far (p := ⟨gb102, _, none⟩) NB101_102.out _).trans (((cell_far (p := ⟨gb102, _, none⟩) NB101_102.out _).trans (((cell_far (p := ⟨gb102, _, none⟩) NB101_102.out _).trans (((cell_far (p := ⟨gb102, _, none⟩) NB101_102.out _).trans (((cell_far (p := ⟨gb102, _, none⟩) NB101_102.out _).trans (((cell_far (p := ⟨gb102, _, none⟩) NB101_102.out _).trans (((cell_far (p := ⟨gb102, _, none⟩) NB101_102.out _).trans (((cell_far (p := ⟨gb102, _, none⟩) NB101_102.out _).trans (hHeld.2.2.2.2.2.2.1)))))))))))))))))), ((cell_far (p := ⟨gb102, _, none⟩) NB101_102.out _).trans (((cell_far (p := ⟨gb102, _, none⟩) NB101_102.out _).trans (((cell_far (p := ⟨gb102, _, none⟩) NB101_102.out _).trans (((cell_far (p := ⟨gb102, _, none⟩) NB101_102.out _).trans (((cell_far (p := ⟨gb102, _, none⟩) NB101_102.out _).trans (((cell_far (p := ⟨gb102, _, none⟩) NB101_102.out _).trans (((cell_far (p := ⟨gb102, _, none⟩) NB101_102.out _).trans (((cell_far (p := ⟨gb102, _, none⟩) NB101_102.out _).trans (((cell_far (p := ⟨gb102, _, none⟩) NB101_102.out _).trans (hHeld.2.2.2.2.2.2.2.1)))))))))))))))))), ((cell_far (p := ⟨gb102, _, none⟩) NB101_102.out _).trans (((cell_far (p := ⟨gb102, _, none⟩) NB101_102.out _).trans (((cell_far (p := ⟨gb102, _, none⟩) NB101_102.out _).trans (((cell_far (p := ⟨gb102, _, none⟩) NB101_102.out _).trans (((cell_far (p := ⟨gb102, _, none⟩) NB101_102.out _).trans (((cell_far (p := ⟨gb102, _, none⟩) NB101_102.out _).trans (((cell_far (p := ⟨gb102, _, none⟩) NB101_102.out _).trans (((cell_far (p := ⟨gb102, _, none⟩) NB101_102.out _).trans (((cell_far (p := ⟨gb102, _, none⟩) NB101_102.out _).trans (hHeld.2.2.2.2.2.2.2.2))))))))))))))))))⟩ (fun hHeld => ?_)
  clear hK K
  refine pure_ (i := 26) (N := some 3) (v := ?_) (a' := ?_) #[true, true, true, true, true, true, true, true, true, true, true, true, true, true, true, true, true, true, true, true, true, true, true, true, true, true, true] rfl rfl (any_of HT_.out (by kernel_rfl)) (fun _ _ _ h => h) (Or.inl ⟨by rfl, ?_⟩) ?_ ?_
  rotate_left
  ·intro w'
   go_simp
   with_reducible rfl
  rotate_left
  ·simp only [Act.put, List.setIfInBounds_toArray, List.set_cons_zero, List.set_cons_succ, i64_w, i32_w]
   rfl
  refine done_ (done_of HT_.out (by kernel_rfl)) ?_
  try go_wp2
  refine bodyPost_ret (results_ct rfl _ _ gb102 31 #[.int .i64 a0_0, .int .u64 a0_1, .int .u64 t104, .int .u64 t105, .int .u64 a0_4, .slice Ao23 t106.length co23, .slice Ao22 t109.length co22, .slice Ao21 t112.length co21, .slice Ao20 t115.length co20] (0, 0) _ rfl (by (repeat with_reducible refine blk_q ?_); refine blk_put (cs := #[.int .i64 a0_0, .int .u64 a0_1, .int .u64 t104, .int .u64 t105, .int .u64 a0_4, .slice Ao23 t106.length co23, .slice Ao22 t109.length co22, .slice Ao21 t112.length co21, .slice none 0 0]) ?_ 8 _ rfl; (repeat with_reducible refine blk_q ?_); refine blk_put (cs := #[.int .i64 a0_0, .int .u64 a0_1, .int .u64 t104, .int .u64 t105, .int .u64 a0_4, .slice Ao23 t106.length co23, .slice Ao22 t109.length co22, .slice none 0 0, .slice none 0 0]) ?_ 7 _ rfl; (repeat with_reducible refine blk_q ?_); refine blk_put (cs := #[.int .i64 a0_0, .int .u64 a0_1, .int .u64 t104, .int .u64 t105, .int .u64 a0_4, .slice Ao23 t106.length co23, .slice none 0 0, .slice none 0 0, .slice none 0 0]) ?_ 6 _ rfl; (repeat with_reducible refine blk_q ?_); refine blk_put (cs := #[.int .i64 a0_0, .int .u64 a0_1, .int .u64 t104, .int .u64 t105, .int .u64 a0_4, .slice none 0 0, .slice none 0 0, .slice none 0 0, .slice none 0 0]) ?_ 5 _ rfl; (repeat with_reducible refine blk_q ?_); refine blk_put (cs := #[.int .i64 a0_0, .int .u64 a0_1, .int .u64 t104, .int .u64 t105, .int .u64 0, .slice none 0 0, .slice none 0 0, .slice none 0 0, .slice none 0 0]) ?_ 4 _ rfl; (repeat with_reducible refine blk_q ?_); refine blk_put (cs := #[.int .i64 a0_0, .int .u64 a0_1, .int .u64 t104, .int .u64 0, .int .u64 0, .slice none 0 0, .slice none 0 0, .slice none 0 0, .slice none 0 0]) ?_ 3 _ rfl; (repeat with_reducible refine blk_q ?_); refine blk_put (cs := #[.int .i64 a0_0, .int .u64 a0_1, .int .u64 0, .int .u64 0, .int .u64 0, .slice none 0 0, .slice none 0 0, .slice none 0 0, .slice none 0 0]) ?_ 2 _ rfl; (repeat with_reducible refine blk_q ?_); refine blk_put (cs := #[.int .i64 a0_0, .int .u64 0, .int .u64 0, .int .u64 0, .int .u64 0, .slice none 0 0, .slice none 0 0, .slice none 0 0, .slice none 0 0]) ?_ 1 _ rfl; (repeat with_reducible refine blk_q ?_); refine blk_put (cs := #[.int .i64 0, .int .u64 0, .int .u64 0, .int .u64 0, .int .u64 0, .slice none 0 0, .slice none 0 0, .slice none 0 0, .slice none 0 0]) ?_ 0 _ rfl; (repeat with_reducible refine blk_q ?_); exact BK102.out) Try.underlying31 rfl (by kernel_rfl)) rfl ?_
  exact ⟨_, _, _, _, by first | rfl | (simp [errW_none, errW_some] <;> rfl) | (simp [*, errW_none, errW_some] <;> rfl), by (repeat with_reducible refine Kd.R_q ?_); exact Kd.R_mono (Kd.R_far (p := ⟨gb102, 8, none⟩) (Kd.R_far (p := ⟨gb102, 7, none⟩) (Kd.R_far (p := ⟨gb102, 6, none⟩) (Kd.R_far (p := ⟨gb102, 5, none⟩) (Kd.R_far (p := ⟨gb102, 4, none⟩) (Kd.R_far (p := ⟨gb102, 3, none⟩) (Kd.R_far (p := ⟨gb102, 2, none⟩) (Kd.R_far (p := ⟨gb102, 1, none⟩) (Kd.R_far (p := ⟨gb102, 0, none⟩) (Kd.R_types HO108.out BK102.out (by decide)) (fun _ hk => hk.2) (.int .i64 a0_0)) (fun _ hk => hk.2) (.int .u64 a0_1)) (fun _ hk => hk.2) (.int .u64 t104)) (fun _ hk => hk.2) (.int .u64 t105)) (fun _ hk => hk.2) (.int .u64 a0_4)) (fun _ hk => hk.2) (.slice Ao23 t106.length co23)) (fun _ hk => hk.2) (.slice Ao22 t109.length co22)) (fun _ hk => hk.2) (.slice Ao21 t112.length co21)) (fun _ hk => hk.2) (.slice Ao20 t115.length co20)) (fun _ hk => hk.1.2), by (repeat with_reducible refine Kd.R_q ?_); exact Kd.R_mono (Kd.R_far (p := ⟨gb102, 8, none⟩) (Kd.R_far (p := ⟨gb102, 7, none⟩) (Kd.R_far (p := ⟨gb102, 6, none⟩) (Kd.R_far (p := ⟨gb102, 5, none⟩) (Kd.R_far (p := ⟨gb102, 4, none⟩) (Kd.R_far (p := ⟨gb102, 3, none⟩) (Kd.R_far (p := ⟨gb102, 2, none⟩) (Kd.R_far (p := ⟨gb102, 1, none⟩) (Kd.R_far (p := ⟨gb102, 0, none⟩) (Kd.R_types HO111.out BK102.out (by decide)) (fun _ hk => hk.2) (.int .i64 a0_0)) (fun _ hk => hk.2) (.int .u64 a0_1)) (fun _ hk => hk.2) (.int .u64 t104)) (fun _ hk => hk.2) (.int .u64 t105)) (fun _ hk => hk.2) (.int .u64 a0_4)) (fun _ hk => hk.2) (.slice Ao23 t106.length co23)) (fun _ hk => hk.2) (.slice Ao22 t109.length co22)) (fun _ hk => hk.2) (.slice Ao21 t112.length co21)) (fun _ hk => hk.2) (.slice Ao20 t115.length co20)) (fun _ hk => hk.1.2), by (repeat with_reducible refine Kd.R_q ?_); exact Kd.R_mono (Kd.R_far (p := ⟨gb102, 8, none⟩) (Kd.R_far (p := ⟨gb102, 7, none⟩) (Kd.R_far (p := ⟨gb102, 6, none⟩) (Kd.R_far (p := ⟨gb102, 5, none⟩) (Kd.R_far (p := ⟨gb102, 4, none⟩) (Kd.R_far (p := ⟨gb102, 3, none⟩) (Kd.R_far (p := ⟨gb102, 2, none⟩) (Kd.R_far (p := ⟨gb102, 1, none⟩) (Kd.R_far (p := ⟨gb102, 0, none⟩) (Kd.R_types HO114.out BK102.out (by decide)) (fun _ hk => hk.2) (.int .i64 a0_0)) (fun _ hk => hk.2) (.int .u64 a0_1)) (fun _ hk => hk.2) (.int .u64 t104)) (fun _ hk => hk.2) (.int .u64 t105)) (fun _ hk => hk.2) (.int .u64 a0_4)) (fun _ hk => hk.2) (.slice Ao23 t106.length co23)) (fun _ hk => hk.2) (.slice Ao22 t109.length co22)) (fun _ hk => hk.2) (.slice Ao21 t112.length co21)) (fun _ hk => hk.2) (.slice Ao20 t115.length co20)) (fun _ hk => hk.1.2), by (repeat with_reducible refine Kd.R_q ?_); exact Kd.R_mono (Kd.R_far (p := ⟨gb102, 8, none⟩) (Kd.R_far (p := ⟨gb102, 7, none⟩) (Kd.R_far (p := ⟨gb102, 6, none⟩) (Kd.R_far (p := ⟨gb102, 5, none⟩) (Kd.R_far (p := ⟨gb102, 4, none⟩) (Kd.R_far (p := ⟨gb102, 3, none⟩) (Kd.R_far (p := ⟨gb102, 2, none⟩) (Kd.R_far (p := ⟨gb102, 1, none⟩) (Kd.R_far (p := ⟨gb102, 0, none⟩) (Kd.R_types HO117.out BK102.out (by decide)) (fun _ hk => hk.2) (.int .i64 a0_0)) (fun _ hk => hk.2) (.int .u64 a0_1)) (fun _ hk => hk.2) (.int .u64 t104)) (fun _ hk => hk.2) (.int .u64 t105)) (fun _ hk => hk.2) (.int .u64 a0_4)) (fun _ hk => hk.2) (.slice Ao23 t106.length co23)) (fun _ hk => hk.2) (.slice Ao22 t109.length co22)) (fun _ hk => hk.2) (.slice Ao21 t112.length co21)) (fun _ hk => hk.2) (.slice Ao20 t115.length co20)) (fun _ hk => hk.1.2), by repeat (first | (with_reducible first | exact HB.out | apply below_alloc | apply pw_below_drewN | apply below_drew1 | refine below_set ?_ GE101.out | refine below_set ?_ GE102.out) | exact HB.out)⟩
 rw [if_neg c3] at H
 have c3b0 : (t103 == 0) = false := beq_eq_false_iff_ne.mpr c3
 have c3b1 : (t103 != 0) = true := bne_iff_ne.mpr c3
 simp only [Option.some.injEq, Prod.mk.injEq] at H
 obtain ⟨rfl, rfl, rfl, rfl, rfl, rfl, rfl, rfl, rfl, rfl⟩ := H
 go_enter Try.func11, Try.ntmps11
 go_wp2_with (first | ((with_reducible refine gate_dst (N := 1) rfl ?_); refine box_event ?hg (N := 1) ?hd (cs := #[.int .i64 a0_0, .int .u64 a0_1, .int .u64 a0_2, .int .u64 a0_3, .int .u64 a0_4, .slice A0_5 l0_5.length c0_5, .slice A0_6 l0_6.length c0_6, .slice A0_7 l0_7.length c0_7, .slice A0_8 l0_8.length c0_8]) (t := 26) ?hr ?_; (case hd => rfl); (case hg => rfl); (case hr => first | (go_simp; done) | (go_simp; rfl)); intro gb101 hg w33 hbox hb; have BK101 := Aside0.mk (hbox); have GW101 := Aside0.mk ((by rw [hg]; exact (below_size (below_u HB.out)) : w.heap.size ≤ gb101)); have GE101 := Aside0.mk ((by rw [hg]; exact (below_size (below_u HB.out)) : w.heap.size ≤ gb101)); replace HB := Aside0.mk (below_step (below_u HB.out) hb); clear hb hbox hg) | ((with_reducible refine gate_dst (N := 2) rfl ?_); refine box_event ?hg (N := 2) ?hd (cs := #[.int .i64 0, .int .u64 0, .int .u64 0, .int .u64 0, .int .u64 0, .slice none 0 0, .slice none 0 0, .slice none 0 0, .slice none 0 0]) (t := 31) ?hr ?_; (case hd => rfl); (case hg => rfl); (case hr => first | (go_simp; done) | (go_simp; rfl)); intro gb102 hg w34 hbox hb; have BK102 := Aside0.mk (hbox); have GW102 := Aside0.mk ((by rw [hg]; exact (below_size (by repeat (first | (with_reducible first | exact HB.out | apply below_alloc | apply pw_below_drewN | apply below_drew1 | refine below_set ?_ GE101.out) | exact HB.out))) : w.heap.size ≤ gb102)); have GE102 := Aside0.mk ((by rw [hg]; exact (below_size (by repeat (first | (with_reducible first | exact HB.out | apply below_alloc | apply pw_below_drewN | apply below_drew1 | refine below_set ?_ GE101.out) | exact HB.out))) : w.heap.size ≤ gb102)); have NB101_102 := Aside0.mk ((by rw [hg]; exact Nat.ne_of_lt (blk_lt (g := gb101) (o := .cells #[.int .i64 a0_0, .int .u64 a0_1, .int .u64 a0_2, .int .u64 a0_3, .int .u64 a0_4, .slice A0_5 l0_5.length c0_5, .slice A0_6 l0_6.length c0_6, .slice A0_7 l0_7.length c0_7, .slice A0_8 l0_8.length c0_8] 26 (0, 0)) (blk_u BK101.out)) : gb101 ≠ gb102)); have NB102_101 := Aside0.mk ((by rw [hg]; exact Nat.ne_of_gt (blk_lt (g := gb101) (o := .cells #[.int .i64 a0_0, .int .u64 a0_1, .int .u64 a0_2, .int .u64 a0_3, .int .u64 a0_4, .slice A0_5 l0_5.length c0_5, .slice A0_6 l0_6.length c0_6, .slice A0_7 l0_7.length c0_7, .slice A0_8 l0_8.length c0_8] 26 (0, 0)) (blk_u BK101.out)) : gb102 ≠ gb101)); replace BK101 := Aside0.mk (blk_ub BK101.out hb); replace HB := Aside0.mk (below_step (by repeat (first | (with_reducible first | exact HB.out | apply below_alloc | apply pw_below_drewN | apply below_drew1 | refine below_set ?_ GE101.out) | exact HB.out)) hb); clear hb hbox hg; have hnb35 := NB101_102.out; have hnc35 := NB102_101.out; have hcz36_0 := blk_cell BK101.out; have hfz36_0 := blk_frozen BK101.out) | ((with_reducible refine gate_callee (f := 50) rfl ?_); refine goesL_ (some 6) rfl rfl Try.func50 (by kernel_rfl) rfl #[.agg #[.int .i64 a0_0, .int .u64 a0_1, .int .u64 a0_2, .int .u64 a0_3, .int .u64 a0_4, .slice A0_5 l0_5.length c0_5, .slice A0_6 l0_6.length c0_6, .slice A0_7 l0_7.length c0_7, .slice A0_8 l0_8.length c0_8]] rfl (by (try simp only [List.map_toArray, List.map_cons, List.map_nil]); first | done | rfl | (simp only [List.length_drop, List.length_take]; rfl)) ?_; (with_reducible refine (hist_Check.calls a0_0 a0_1 a0_2 a0_3 a0_4 _ _ l0_5 _ _ l0_6 _ _ l0_7 _ _ l0_8 t103 _ ?side1 ?side2 ?side3 ?side4 ?side5 ?side6 ?side7 ?side8 A2.out).mono ?_); (case side1 => exact Kd.C_u (Kd.C_below HR0_5.out HB.out)); (case side2 => exact HC0_5.out); (case side3 => exact Kd.C_u (Kd.C_below HR0_6.out HB.out)); (case side4 => exact HC0_6.out); (case side5 => exact Kd.C_u (Kd.C_below HR0_7.out HB.out)); (case side6 => exact HC0_7.out); (case side7 => exact Kd.C_u (Kd.C_below HR0_8.out HB.out)); (case side8 => exact HC0_8.out); rintro e w37 ⟨rfl, hb⟩; refine ⟨_, rfl, ?_⟩; replace BK101 := Aside0.mk (blk_ub BK101.out hb); replace BK102 := Aside0.mk (blk_ub BK102.out hb); replace HB := Aside0.mk (below_step (by repeat (first | (with_reducible first | exact HB.out | apply below_alloc | apply pw_below_drewN | apply below_drew1 | refine below_set ?_ GE101.out | refine below_set ?_ GE102.out) | exact HB.out)) hb); (try clear hb); (try clear hb2); (try clear hk); (try clear hi); clear A2; have hcz38_0 := blk_cell BK102.out; have hfz38_0 := blk_frozen BK102.out))
 refine bodyPost_ret (results_ct rfl _ _ gb102 31 #[.int .i64 0, .int .u64 0, .int .u64 0, .int .u64 0, .int .u64 0, .slice none 0 0, .slice none 0 0, .slice none 0 0, .slice none 0 0] (0, 0) _ rfl (by (repeat with_reducible refine blk_q ?_); refine blk_put (cs := #[.int .i64 0, .int .u64 0, .int .u64 0, .int .u64 0, .int .u64 0, .slice none 0 0, .slice none 0 0, .slice none 0 0, .slice none 0 0]) ?_ 8 _ rfl; (repeat with_reducible refine blk_q ?_); refine blk_put (cs := #[.int .i64 0, .int .u64 0, .int .u64 0, .int .u64 0, .int .u64 0, .slice none 0 0, .slice none 0 0, .slice none 0 0, .slice none 0 0]) ?_ 7 _ rfl; (repeat with_reducible refine blk_q ?_); refine blk_put (cs := #[.int .i64 0, .int .u64 0, .int .u64 0, .int .u64 0, .int .u64 0, .slice none 0 0, .slice none 0 0, .slice none 0 0, .slice none 0 0]) ?_ 6 _ rfl; (repeat with_reducible refine blk_q ?_); refine blk_put (cs := #[.int .i64 0, .int .u64 0, .int .u64 0, .int .u64 0, .int .u64 0, .slice none 0 0, .slice none 0 0, .slice none 0 0, .slice none 0 0]) ?_ 5 _ rfl; (repeat with_reducible refine blk_q ?_); refine blk_put (cs := #[.int .i64 0, .int .u64 0, .int .u64 0, .int .u64 0, .int .u64 0, .slice none 0 0, .slice none 0 0, .slice none 0 0, .slice none 0 0]) ?_ 4 _ rfl; (repeat with_reducible refine blk_q ?_); refine blk_put (cs := #[.int .i64 0, .int .u64 0, .int .u64 0, .int .u64 0, .int .u64 0, .slice none 0 0, .slice none 0 0, .slice none 0 0, .slice none 0 0]) ?_ 3 _ rfl; (repeat with_reducible refine blk_q ?_); refine blk_put (cs := #[.int .i64 0, .int .u64 0, .int .u64 0, .int .u64 0, .int .u64 0, .slice none 0 0, .slice none 0 0, .slice none 0 0, .slice none 0 0]) ?_ 2 _ rfl; (repeat with_reducible refine blk_q ?_); refine blk_put (cs := #[.int .i64 0, .int .u64 0, .int .u64 0, .int .u64 0, .int .u64 0, .slice none 0 0, .slice none 0 0, .slice none 0 0, .slice none 0 0]) ?_ 1 _ rfl; (repeat with_reducible refine blk_q ?_); refine blk_put (cs := #[.int .i64 0, .int .u64 0, .int .u64 0, .int .u64 0, .int .u64 0, .slice none 0 0, .slice none 0 0, .slice none 0 0, .slice none 0 0]) ?_ 0 _ rfl; (repeat with_reducible refine blk_q ?_); exact BK102.out) Try.underlying31 rfl (by kernel_rfl)) rfl ?_
 exact ⟨_, _, _, _, by first | rfl | (simp [errW_none, errW_some] <;> rfl) | (simp [*, errW_none, errW_some] <;> rfl), by first | exact Kd.R_nil _ _ _ _ _ | exact Kd.N_nil _ _ _ _ _ | exact Kd.V_nil _ _ _ _ _ | exact Kd.Q_nil _ _ _ _ _ | exact Kd.S_nil _ _ _ _ _, by first | exact Kd.R_nil _ _ _ _ _ | exact Kd.N_nil _ _ _ _ _ | exact Kd.V_nil _ _ _ _ _ | exact Kd.Q_nil _ _ _ _ _ | exact Kd.S_nil _ _ _ _ _, by first | exact Kd.R_nil _ _ _ _ _ | exact Kd.N_nil _ _ _ _ _ | exact Kd.V_nil _ _ _ _ _ | exact Kd.Q_nil _ _ _ _ _ | exact Kd.S_nil _ _ _ _ _, by first | exact Kd.R_nil _ _ _ _ _ | exact Kd.N_nil _ _ _ _ _ | exact Kd.V_nil _ _ _ _ _ | exact Kd.Q_nil _ _ _ _ _ | exact Kd.S_nil _ _ _ _ _, by repeat (first | (with_reducible first | exact HB.out | apply below_alloc | apply pw_below_drewN | apply below_drew1 | refine below_set ?_ GE101.out | refine below_set ?_ GE102.out) | exact HB.out)⟩
end Go.Proofs.Ytfbjjbbhnmoolaa.P
namespace Go.Proofs.Ytfbjjbbhnmoolaa.P
open Go.RowKit Go.Shelf Go.Proofs.YtfbjjbbhnmoolaaW.PrintWords Go.Proofs.YtfbjjbbhnmoolaaW.PrintLast Go.Proofs.YtfbjjbbhnmoolaaW.PrintMore
def fromR (a : Hi) : Fh × Int := if checkR a ≠ 0 then (emptyF, checkR a) else (fromF a, 0)
theorem clone_f {l : List Sp} (h : l.length < 8796093022208) : slices_Clone_span.f l = some l := if_pos h
theorem from_f (a : Hi) (hw : wfH a) : fhist_From.f a.f0 a.f1 a.f2 a.f3 a.f4 a.f5 a.f6 a.f7 a.f8 = some ((fromR a).1.f0, (fromR a).1.f1, (fromR a).1.f2, (fromR a).1.f3, (fromR a).1.f4, (fromR a).1.f5, (fromR a).1.f6, (fromR a).1.f7, (fromR a).1.f8, (fromR a).2) := by
  have hch : hist_Check.f a.f0 a.f1 a.f2 a.f3 a.f4 a.f5 a.f6 a.f7 a.f8 = some (checkR a) := by
    unfold hist_Check.f checkR
    rw [show hist_open.f a.f0 a.f1 a.f2 a.f3 a.f4 a.f5 a.f6 a.f7 a.f8 = some (openR a) from if_pos hw]
    rfl
  unfold fhist_From.f fromR
  rw [hch, Option.bind_some]
  by_cases hc : checkR a = 0
  · rw [if_pos hc, if_neg (show ¬ checkR a ≠ 0 from fun h => h hc)]
    obtain ⟨z1, z2, z3, z4⟩ := checkR_zero hc
    have b5 := (spCheck_zero (side_bounds z2).2.2.2).1
    have b6 := (spCheck_zero (side_bounds z3).2.2.2).1
    obtain ⟨_, _, _, k7, k8⟩ := from_open hw hc
    rw [show fhist_Float.f a.f2 = some (nearI a.f2) from rfl, show fhist_Float.f a.f3 = some (nearI a.f3) from rfl, clone_f (by omega), clone_f (by omega), show fhist_floats.f a.f7 = some (floatsCR a.f7) from if_pos k7, show fhist_floats.f a.f8 = some (floatsCR a.f8) from if_pos k8]
    rfl
  · rw [if_neg hc, if_pos hc]
    rfl
theorem from_c (a : Hi) (x : Fh) (e : Int) (hw : wfH a) (hx : fromR a = (x, e)) (w : World) (u : Value) (hu : HI w u a) : Calls Try.prog 11 #[u] w fun r w' => ∃ D5x g5x D6x g6x D7x g7x D8x g8x, r = .returned (.tuple #[.agg #[.int .i64 x.f0, .int .u64 x.f1, .int .u64 x.f2, .int .u64 x.f3, .int .u64 x.f4, .slice D5x x.f5.length g5x, .slice D6x x.f6.length g6x, .slice D7x x.f7.length g7x, .slice D8x x.f8.length g8x], .int .i64 e]) ∧ GI w' (.agg #[.int .i64 x.f0, .int .u64 x.f1, .int .u64 x.f2, .int .u64 x.f3, .int .u64 x.f4, .slice D5x x.f5.length g5x, .slice D6x x.f6.length g6x, .slice D7x x.f7.length g7x, .slice D8x x.f8.length g8x]) x ∧ Below w.heap.size w w' := by
  obtain ⟨A5, c5, A6, c6, A7, c7, A8, c8, rfl, ⟨_, _, e5, h51, h52⟩, ⟨_, _, e6, h61, h62⟩, ⟨_, _, e7, h71, h72⟩, ⟨_, _, e8, h81, h82⟩⟩ := hu.open_
  cases e5; cases e6; cases e7; cases e8
  have hf := from_f a hw
  rw [hx] at hf
  refine (fhist_From.calls a.f0 a.f1 a.f2 a.f3 a.f4 A5 c5 _ A6 c6 _ A7 c7 _ A8 c8 _ _ _ _ _ _ _ _ _ _ _ w h52 h51 h62 h61 h72 h71 h82 h81 hf).mono ?_
  rintro r w1 ⟨v5, v6, v7, v8, rfl, h5, h6, h7, h8, hb⟩
  have hi : GI w1 (.agg #[.int .i64 x.f0, .int .u64 x.f1, .int .u64 x.f2, .int .u64 x.f3, .int .u64 x.f4, v5, v6, v7, v8]) x := GI.mk (.of_R h5) (.of_R h6) (.of_R h7) (.of_R h8)
  obtain ⟨a5, c5, a6, c6, a7, c7, a8, c8, e, -⟩ := hi.open_
  rw [e] at hi ⊢
  exact ⟨a5, c5, a6, c6, a7, c7, a8, c8, rfl, hi, hb⟩
end Go.Proofs.Ytfbjjbbhnmoolaa.P
namespace Go.Proofs.Ytfbjjbbhnmoolaa.P
open Go.RowKit Go.Shelf Go.Proofs.YtfbjjbbhnmoolaaW.PrintWords Go.Proofs.YtfbjjbbhnmoolaaW.PrintLast Go.Proofs.YtfbjjbbhnmoolaaW.PrintMore
def wholesOf (l : List Int) : List Int := l.map (fun v => (wholeI v).1)
def allWhole (l : List Int) : Bool := l.all (fun v => (wholeI v).2)
def noneBig (l : List Int) : Bool := l.all (fun v => decide (v ≤ 9223372036854775807))
def backH (h : Fh) : Hi := ⟨h.f0, h.f1, (wholeI h.f2).1, (wholeI h.f3).1, h.f4, h.f5, h.f6, diffsW 0 (wholesOf h.f7), diffsW 0 (wholesOf h.f8)⟩
def backR (h : Fh) : Hi × Int :=
  if checkF h ≠ 0 then (emptyH, checkF h)
  else if (allWhole [h.f2, h.f3] && allWhole h.f7 && allWhole h.f8) = false then (emptyH, 10)
  else if (noneBig (wholesOf h.f7) && noneBig (wholesOf h.f8)) = false then (emptyH, 28)
  else if checkR (backH h) ≠ 0 then (emptyH, checkR (backH h)) else (backH h, 0)
def tupB (x : Hi × Int) : Int × Int × Int × Int × Int × List Sp × List Sp × List Int × List Int × Int := (x.1.f0, x.1.f1, x.1.f2, x.1.f3, x.1.f4, x.1.f5, x.1.f6, x.1.f7, x.1.f8, x.2)
theorem wholeI_u64 {v : Int} (h : 0 ≤ v) : u64 (wholeI v).1 := by
  obtain ⟨n, rfl⟩ : ∃ n : Nat, v = n := ⟨v.toNat, by omega⟩
  unfold wholeI
  rw [Int.toNat_natCast]
  by_cases c : (wholeN n).2 = true
  · obtain ⟨e1, e2⟩ := wholeN_flt c
    exact ⟨by simp only; omega, by simp only; omega⟩
  · have : (wholeN n).1 = 0 := by
      unfold wholeN at c ⊢
      split at c
      · exact absurd rfl c
      · rename_i c0
        rw [if_neg c0]
        split at c
        · rename_i c1; rw [if_pos c1]
        · rename_i c1
          rw [if_neg c1]
          split at c
          · rename_i c2
            rw [if_pos c2]
            split at c
            · exact absurd rfl c
            · rename_i c3; rw [if_neg c3]
          · exact absurd rfl c
    simp only [this]
    exact ⟨by decide, by decide⟩
theorem diffsW_i64 : ∀ (l : List Int) (a : Int), 0 ≤ a → a ≤ 9223372036854775807 → (∀ x ∈ l, 0 ≤ x ∧ x ≤ 9223372036854775807) → i64s (diffsW a l)
  | [], a, _, _, _ => fun x hx => by simp [diffsW] at hx
  | y :: t, a, h0, h1, h => fun x hx => by
    have hy := h y (by simp)
    simp only [diffsW] at hx
    rcases List.mem_cons.1 hx with e | hx
    · rw [e]; exact ⟨by omega, by omega⟩
    · exact diffsW_i64 t y hy.1 hy.2 (fun z hz => h z (List.mem_cons_of_mem _ hz)) x hx
theorem wholesOf_nonneg {l : List Int} (h : ∀ v ∈ l, 0 ≤ v) : ∀ x ∈ wholesOf l, 0 ≤ x := fun x hx => by
  obtain ⟨v, hv, rfl⟩ := List.mem_map.1 hx
  exact (wholeI_u64 (h v hv)).1
theorem noneBig_le {l : List Int} (h : noneBig l = true) : ∀ x ∈ l, x ≤ 9223372036854775807 := fun x hx => by
  have := List.all_eq_true.1 h x hx
  simpa using this
theorem backH_wf {h : Fh} (hw : wfF h) (h7 : h.f7.length ≤ 4096) (h8 : h.f8.length ≤ 4096) (b7 : noneBig (wholesOf h.f7) = true) (b8 : noneBig (wholesOf h.f8) = true) : wfH (backH h) := by
  obtain ⟨w0, w1, w2, w3, w4, w5, w6, w7, w8, -⟩ := hw
  have k7 := wholesOf_nonneg (fun v hv => (w7 v hv).1)
  have k8 := wholesOf_nonneg (fun v hv => (w8 v hv).1)
  have l7 : (diffsW 0 (wholesOf h.f7)).length = h.f7.length := by rw [diffsW_len]; simp [wholesOf]
  have l8 : (diffsW 0 (wholesOf h.f8)).length = h.f8.length := by rw [diffsW_len]; simp [wholesOf]
  refine ⟨w0, w1, wholeI_u64 w2.1, wholeI_u64 w3.1, w4, w5, w6, diffsW_i64 _ 0 (by decide) (by decide) (fun x hx => ⟨k7 x hx, noneBig_le b7 x hx⟩), diffsW_i64 _ 0 (by decide) (by decide) (fun x hx => ⟨k8 x hx, noneBig_le b8 x hx⟩), ?_, ?_⟩
  · show (diffsW 0 (wholesOf h.f7)).length < _
    omega
  · show (diffsW 0 (wholesOf h.f8)).length < _
    omega
end Go.Proofs.Ytfbjjbbhnmoolaa.P
namespace Go.Proofs.Ytfbjjbbhnmoolaa.P
open Go.RowKit Go.Proofs.YtfbjjbbhnmoolaaW.PrintWords Go.Proofs.YtfbjjbbhnmoolaaW.PrintLast Go.Proofs.YtfbjjbbhnmoolaaW.PrintMore
attribute [local go_sem] max2_int min2_int max_two min_two max_three min_three max_four min_four
def tidepoleref10_Float.l0 : Nat → Int → Int → Option (Int)
 | 0, _, _ => none
 | k + 1, x0, x3 => if 0 ≤ x3 then (if (shr .u64 x0 x3) > 1 then (tidepoleref10_Float.l0 k x0 (IntKind.u64.wrap (x3 + 1))) else (if x3 ≤ 52 then (if 0 ≤ (IntKind.u64.wrap (52 - x3)) then (some (IntKind.u64.wrap ((IntKind.u64.wrap ((IntKind.u64.wrap (1023 + x3)) * 4503599627370496)) + (IntKind.u64.wrap ((IntKind.u64.wrap (x0 * (shl .u64 1 (IntKind.u64.wrap (52 - x3))))) - 4503599627370496))))) else (none)) else (if 0 ≤ (IntKind.u64.wrap (x3 - 52)) then (if (shl .u64 1 (IntKind.u64.wrap (x3 - 52))) = 0 then (none) else (if (Int.tmod x0 (shl .u64 1 (IntKind.u64.wrap (x3 - 52)))) > (IntKind.u64.wrap (Int.tdiv (shl .u64 1 (IntKind.u64.wrap (x3 - 52))) 2)) then (some (IntKind.u64.wrap ((IntKind.u64.wrap ((IntKind.u64.wrap (1023 + x3)) * 4503599627370496)) + (IntKind.u64.wrap ((IntKind.u64.wrap ((IntKind.u64.wrap (Int.tdiv x0 (shl .u64 1 (IntKind.u64.wrap (x3 - 52))))) + 1)) - 4503599627370496))))) else (if (Int.tmod x0 (shl .u64 1 (IntKind.u64.wrap (x3 - 52)))) = (IntKind.u64.wrap (Int.tdiv (shl .u64 1 (IntKind.u64.wrap (x3 - 52))) 2)) then (if (Int.tmod (IntKind.u64.wrap (Int.tdiv x0 (shl .u64 1 (IntKind.u64.wrap (x3 - 52))))) 2) = 1 then (some (IntKind.u64.wrap ((IntKind.u64.wrap ((IntKind.u64.wrap (1023 + x3)) * 4503599627370496)) + (IntKind.u64.wrap ((IntKind.u64.wrap ((IntKind.u64.wrap (Int.tdiv x0 (shl .u64 1 (IntKind.u64.wrap (x3 - 52))))) + 1)) - 4503599627370496))))) else (some (IntKind.u64.wrap ((IntKind.u64.wrap ((IntKind.u64.wrap (1023 + x3)) * 4503599627370496)) + (IntKind.u64.wrap ((IntKind.u64.wrap (Int.tdiv x0 (shl .u64 1 (IntKind.u64.wrap (x3 - 52))))) - 4503599627370496)))))) else (some (IntKind.u64.wrap ((IntKind.u64.wrap ((IntKind.u64.wrap (1023 + x3)) * 4503599627370496)) + (IntKind.u64.wrap ((IntKind.u64.wrap (Int.tdiv x0 (shl .u64 1 (IntKind.u64.wrap (x3 - 52))))) - 4503599627370496)))))))) else (none)))) else (none)
def tidepoleref10_Float.f (k : Nat) (a0 : Int) : Option (Int) := if a0 = 0 then (some 0) else (tidepoleref10_Float.l0 k a0 0)
set_option maxHeartbeats 8000000 in
set_option maxRecDepth 100000 in
theorem tidepoleref10_Float.calls (k : Nat) (a0 : Int) (r : Int) (w : World) (h : tidepoleref10_Float.f k a0 = some r) :
  Calls Try.prog 32 #[.int .u64 a0] w fun e w' => e = .returned (.int .u64 r) ∧ Drawn0 w w' := by
 have H : (if a0 = 0 then (some 0) else (tidepoleref10_Float.l0 k a0 0)) = some r := h
 clear h
 by_cases c2 : a0 = 0
 ·rw [if_pos c2] at H
  have c2b0 : (a0 == 0) = true := beq_iff_eq.mpr c2
  have c2b1 : (a0 != 0) = false := bne_eq_false_iff_eq.mpr c2
  clear c2
  obtain rfl := Option.some.inj H
  go_enter Try.func32, Try.ntmps32
  go_wp2
  repeat (go_quiet (fail); try go_wp2)
  go_ret
  exact ⟨by first | rfl | (simp; done) | (simp [*]; done), by repeat (first | exact Drawn0.refl _ | apply Drawn0.step)⟩
 rw [if_neg c2] at H
 have c2b0 : (a0 == 0) = false := beq_eq_false_iff_ne.mpr c2
 have c2b1 : (a0 != 0) = true := bne_iff_ne.mpr c2
 have H' := Aside0.mk H
 clear H
 go_enter Try.func32, Try.ntmps32
 go_wp2
 repeat (go_quiet (fail); try go_wp2)
 go_loopg [3] k (fun kq v3 w' => ∃ (x3_1 : Int), v3 = .int .u64 x3_1 ∧ Aside0 (tidepoleref10_Float.l0 kq a0 x3_1 = some r) ∧ Aside0 (kq ≤ k) ∧ Drawn0 w w')
 case atStart => exact ⟨(0), (by first | rfl | (simp; done) | (simp [*]; done)), H', ⟨Nat.le_refl _⟩, by repeat (first | exact Drawn0.refl _ | apply Drawn0.step)⟩
 case round =>
  clear H'
  try clear c2
  try clear c2b0
  try clear c2b1
  try clear p2
  obtain ⟨x3_1, rfl, HA, HK1, ⟨m1, rfl⟩⟩ := hrel
  cases gk with
  | zero => exact absurd HA.out (by simp [tidepoleref10_Float.l0])
  | succ k1 =>
   have H := HA.out
   clear HA
   simp only [tidepoleref10_Float.l0] at H
   by_cases c3 : 0 ≤ x3_1
   ·rw [if_pos c3] at H
    have c3b0 := eq_true c3
    have c3b1 : decide (0 ≤ x3_1) = true := decide_eq_true c3
    clear c3
    obtain ⟨ji4, hji4⟩ : ∃ j_ : Int, (shr .u64 a0 x3_1) = j_ := ⟨_, rfl⟩
    replace H : (if (ji4) > 1 then (tidepoleref10_Float.l0 k1 a0 (IntKind.u64.wrap (x3_1 + 1))) else (if x3_1 ≤ 52 then (if 0 ≤ (IntKind.u64.wrap (52 - x3_1)) then (some (IntKind.u64.wrap ((IntKind.u64.wrap ((IntKind.u64.wrap (1023 + x3_1)) * 4503599627370496)) + (IntKind.u64.wrap ((IntKind.u64.wrap (a0 * (shl .u64 1 (IntKind.u64.wrap (52 - x3_1))))) - 4503599627370496))))) else (none)) else (if 0 ≤ (IntKind.u64.wrap (x3_1 - 52)) then (if (shl .u64 1 (IntKind.u64.wrap (x3_1 - 52))) = 0 then (none) else (if (Int.tmod a0 (shl .u64 1 (IntKind.u64.wrap (x3_1 - 52)))) > (IntKind.u64.wrap (Int.tdiv (shl .u64 1 (IntKind.u64.wrap (x3_1 - 52))) 2)) then (some (IntKind.u64.wrap ((IntKind.u64.wrap ((IntKind.u64.wrap (1023 + x3_1)) * 4503599627370496)) + (IntKind.u64.wrap ((IntKind.u64.wrap ((IntKind.u64.wrap (Int.tdiv a0 (shl .u64 1 (IntKind.u64.wrap (x3_1 - 52))))) + 1)) - 4503599627370496))))) else (if (Int.tmod a0 (shl .u64 1 (IntKind.u64.wrap (x3_1 - 52)))) = (IntKind.u64.wrap (Int.tdiv (shl .u64 1 (IntKind.u64.wrap (x3_1 - 52))) 2)) then (if (Int.tmod (IntKind.u64.wrap (Int.tdiv a0 (shl .u64 1 (IntKind.u64.wrap (x3_1 - 52))))) 2) = 1 then (some (IntKind.u64.wrap ((IntKind.u64.wrap ((IntKind.u64.wrap (1023 + x3_1)) * 4503599627370496)) + (IntKind.u64.wrap ((IntKind.u64.wrap ((IntKind.u64.wrap (Int.tdiv a0 (shl .u64 1 (IntKind.u64.wrap (x3_1 - 52))))) + 1)) - 4503599627370496))))) else (some (IntKind.u64.wrap ((IntKind.u64.wrap ((IntKind.u64.wrap (1023 + x3_1)) * 4503599627370496)) + (IntKind.u64.wrap ((IntKind.u64.wrap (Int.tdiv a0 (shl .u64 1 (IntKind.u64.wrap (x3_1 - 52))))) - 4503599627370496)))))) else (some (IntKind.u64.wrap ((IntKind.u64.wrap ((IntKind.u64.wrap (1023 + x3_1)) * 4503599627370496)) + (IntKind.u64.wrap ((IntKind.u64.wrap (Int.tdiv a0 (shl .u64 1 (IntKind.u64.wrap (x3_1 - 52))))) - 4503599627370496)))))))) else (none)))) = some r := by first | (rw [hji4] at H; exact H) | (simp only [hji4] at H ⊢; exact H)
    have hji4_ : (a0 / 2 ^ min x3_1.toNat 64) = ji4 := hji4
    have hji4z : x3_1 ≤ 64 → (a0 / 2 ^ x3_1.toNat) = ji4 := shr_small hji4
    by_cases c5 : (ji4) > 1
    ·rw [if_pos c5] at H
     have c5b0 : decide (1 < (ji4)) = true := decide_eq_true c5
     clear c5
     have H' := Aside0.mk H
     clear H
     go_wp2
     repeat (go_quiet (fail); try go_wp2)
     go_roundg k1
     case measure => have := HK1.out; omega
     case rel => exact ⟨(IntKind.u64.wrap (x3_1 + 1)), (by first | rfl | (simp; done) | (simp [*]; done)), H', ⟨by have := HK1.out; omega⟩, by repeat (first | exact Drawn0.refl _ | apply Drawn0.step)⟩
    rw [if_neg c5] at H
    have c5b0 : decide (1 < (ji4)) = false := decide_eq_false c5
    clear c5
    by_cases c6 : x3_1 ≤ 52
    ·rw [if_pos c6] at H
     have c6b0 : decide (x3_1 ≤ 52) = true := decide_eq_true c6
     clear c6
     obtain ⟨ji7, hji7⟩ : ∃ j_ : Int, (IntKind.u64.wrap (52 - x3_1)) = j_ := ⟨_, rfl⟩
     replace H : (if 0 ≤ (ji7) then (some (IntKind.u64.wrap ((IntKind.u64.wrap ((IntKind.u64.wrap (1023 + x3_1)) * 4503599627370496)) + (IntKind.u64.wrap ((IntKind.u64.wrap (a0 * (shl .u64 1 (ji7)))) - 4503599627370496))))) else (none)) = some r := by first | (rw [hji7] at H; exact H) | (simp only [hji7] at H ⊢; exact H)
     by_cases c8 : 0 ≤ (ji7)
     ·rw [if_pos c8] at H
      have c8b0 := eq_true c8
      have c8b1 : decide (0 ≤ (ji7)) = true := decide_eq_true c8
      clear c8
      obtain ⟨ji9, hji9⟩ : ∃ j_ : Int, (shl .u64 1 (ji7)) = j_ := ⟨_, rfl⟩
      replace H : (some (IntKind.u64.wrap ((IntKind.u64.wrap ((IntKind.u64.wrap (1023 + x3_1)) * 4503599627370496)) + (IntKind.u64.wrap ((IntKind.u64.wrap (a0 * (ji9))) - 4503599627370496))))) = some r := by first | (rw [hji9] at H; exact H) | (simp only [hji9] at H ⊢; exact H)
      have hji9_ : (IntKind.u64.wrap (1 * 2 ^ min (ji7).toNat 64)) = ji9 := hji9
      have hji9z : (ji7) ≤ 64 → (IntKind.u64.wrap (1 * 2 ^ (ji7).toNat)) = ji9 := shl_small hji9
      have hji9u : (IntKind.u64.wrap (2 ^ min (ji7).toNat 64)) = ji9 := by have h_ := hji9_; rw [Int.one_mul] at h_; exact h_
      have hji9v : (ji7) ≤ 64 → (IntKind.u64.wrap (2 ^ (ji7).toNat)) = ji9 := fun hle_ => by have h_ := hji9z hle_; rw [Int.one_mul] at h_; exact h_
      obtain rfl := Option.some.inj H
      go_wp2
      repeat (go_quiet (fail); try go_wp2)
      go_ret
      exact ⟨by first | rfl | (simp; done) | (simp only [← hji4, ← hji7, ← hji9] <;> (first | rfl | simp)) | (simp [*]; done), by repeat (first | exact Drawn0.refl _ | apply Drawn0.step)⟩
     rw [if_neg c8] at H
     exact absurd H (by simp)
    rw [if_neg c6] at H
    have c6b0 : decide (x3_1 ≤ 52) = false := decide_eq_false c6
    clear c6
    obtain ⟨ji10, hji10⟩ : ∃ j_ : Int, (IntKind.u64.wrap (x3_1 - 52)) = j_ := ⟨_, rfl⟩
    replace H : (if 0 ≤ (ji10) then (if (shl .u64 1 (ji10)) = 0 then (none) else (if (Int.tmod a0 (shl .u64 1 (ji10))) > (IntKind.u64.wrap (Int.tdiv (shl .u64 1 (ji10)) 2)) then (some (IntKind.u64.wrap ((IntKind.u64.wrap ((IntKind.u64.wrap (1023 + x3_1)) * 4503599627370496)) + (IntKind.u64.wrap ((IntKind.u64.wrap ((IntKind.u64.wrap (Int.tdiv a0 (shl .u64 1 (ji10)))) + 1)) - 4503599627370496))))) else (if (Int.tmod a0 (shl .u64 1 (ji10))) = (IntKind.u64.wrap (Int.tdiv (shl .u64 1 (ji10)) 2)) then (if (Int.tmod (IntKind.u64.wrap (Int.tdiv a0 (shl .u64 1 (ji10)))) 2) = 1 then (some (IntKind.u64.wrap ((IntKind.u64.wrap ((IntKind.u64.wrap (1023 + x3_1)) * 4503599627370496)) + (IntKind.u64.wrap ((IntKind.u64.wrap ((IntKind.u64.wrap (Int.tdiv a0 (shl .u64 1 (ji10)))) + 1)) - 4503599627370496))))) else (some (IntKind.u64.wrap ((IntKind.u64.wrap ((IntKind.u64.wrap (1023 + x3_1)) * 4503599627370496)) + (IntKind.u64.wrap ((IntKind.u64.wrap (Int.tdiv a0 (shl .u64 1 (ji10)))) - 4503599627370496)))))) else (some (IntKind.u64.wrap ((IntKind.u64.wrap ((IntKind.u64.wrap (1023 + x3_1)) * 4503599627370496)) + (IntKind.u64.wrap ((IntKind.u64.wrap (Int.tdiv a0 (shl .u64 1 (ji10)))) - 4503599627370496)))))))) else (none)) = some r := by first | (rw [hji10] at H; exact H) | (simp only [hji10] at H ⊢; exact H)
    by_cases c11 : 0 ≤ (ji10)
    ·rw [if_pos c11] at H
     have c11b0 := eq_true c11
     have c11b1 : decide (0 ≤ (ji10)) = true := decide_eq_true c11
     clear c11
     obtain ⟨ji12, hji12⟩ : ∃ j_ : Int, (shl .u64 1 (ji10)) = j_ := ⟨_, rfl⟩
     replace H : (if (ji12) = 0 then (none) else (if (Int.tmod a0 (ji12)) > (IntKind.u64.wrap (Int.tdiv (ji12) 2)) then (some (IntKind.u64.wrap ((IntKind.u64.wrap ((IntKind.u64.wrap (1023 + x3_1)) * 4503599627370496)) + (IntKind.u64.wrap ((IntKind.u64.wrap ((IntKind.u64.wrap (Int.tdiv a0 (ji12))) + 1)) - 4503599627370496))))) else (if (Int.tmod a0 (ji12)) = (IntKind.u64.wrap (Int.tdiv (ji12) 2)) then (if (Int.tmod (IntKind.u64.wrap (Int.tdiv a0 (ji12))) 2) = 1 then (some (IntKind.u64.wrap ((IntKind.u64.wrap ((IntKind.u64.wrap (1023 + x3_1)) * 4503599627370496)) + (IntKind.u64.wrap ((IntKind.u64.wrap ((IntKind.u64.wrap (Int.tdiv a0 (ji12))) + 1)) - 4503599627370496))))) else (some (IntKind.u64.wrap ((IntKind.u64.wrap ((IntKind.u64.wrap (1023 + x3_1)) * 4503599627370496)) + (IntKind.u64.wrap ((IntKind.u64.wrap (Int.tdiv a0 (ji12))) - 4503599627370496)))))) else (some (IntKind.u64.wrap ((IntKind.u64.wrap ((IntKind.u64.wrap (1023 + x3_1)) * 4503599627370496)) + (IntKind.u64.wrap ((IntKind.u64.wrap (Int.tdiv a0 (ji12))) - 4503599627370496)))))))) = some r := by first | (rw [hji12] at H; exact H) | (simp only [hji12] at H ⊢; exact H)
     have hji12_ : (IntKind.u64.wrap (1 * 2 ^ min (ji10).toNat 64)) = ji12 := hji12
     have hji12z : (ji10) ≤ 64 → (IntKind.u64.wrap (1 * 2 ^ (ji10).toNat)) = ji12 := shl_small hji12
     have hji12u : (IntKind.u64.wrap (2 ^ min (ji10).toNat 64)) = ji12 := by have h_ := hji12_; rw [Int.one_mul] at h_; exact h_
     have hji12v : (ji10) ≤ 64 → (IntKind.u64.wrap (2 ^ (ji10).toNat)) = ji12 := fun hle_ => by have h_ := hji12z hle_; rw [Int.one_mul] at h_; exact h_
     by_cases c13 : (ji12) = 0
     ·rw [if_pos c13] at H
      exact absurd H (by simp)
     rw [if_neg c13] at H
     have c13b0 : ((ji12) == 0) = false := beq_eq_false_iff_ne.mpr c13
     have c13b1 : ((ji12) != 0) = true := bne_iff_ne.mpr c13
     by_cases c14 : (Int.tmod a0 (ji12)) > (IntKind.u64.wrap (Int.tdiv (ji12) 2))
     ·rw [if_pos c14] at H
      have c14b0 : decide ((IntKind.u64.wrap (Int.tdiv (ji12) 2)) < (Int.tmod a0 (ji12))) = true := decide_eq_true c14
      clear c14
      obtain rfl := Option.some.inj H
      go_wp2
      repeat (go_quiet (fail); try go_wp2)
      go_ret
      exact ⟨by first | rfl | (simp; done) | (simp only [← hji4, ← hji10, ← hji12] <;> (first | rfl | simp)) | (simp [*]; done), by repeat (first | exact Drawn0.refl _ | apply Drawn0.step)⟩
     rw [if_neg c14] at H
     have c14b0 : decide ((IntKind.u64.wrap (Int.tdiv (ji12) 2)) < (Int.tmod a0 (ji12))) = false := decide_eq_false c14
     clear c14
     by_cases c15 : (Int.tmod a0 (ji12)) = (IntKind.u64.wrap (Int.tdiv (ji12) 2))
     ·rw [if_pos c15] at H
      have c15b0 : ((Int.tmod a0 (ji12)) == (IntKind.u64.wrap (Int.tdiv (ji12) 2))) = true := beq_iff_eq.mpr c15
      have c15b1 : ((Int.tmod a0 (ji12)) != (IntKind.u64.wrap (Int.tdiv (ji12) 2))) = false := bne_eq_false_iff_eq.mpr c15
      clear c15
      by_cases c16 : (Int.tmod (IntKind.u64.wrap (Int.tdiv a0 (ji12))) 2) = 1
      ·rw [if_pos c16] at H
       have c16b0 : ((Int.tmod (IntKind.u64.wrap (Int.tdiv a0 (ji12))) 2) == 1) = true := beq_iff_eq.mpr c16
       have c16b1 : ((Int.tmod (IntKind.u64.wrap (Int.tdiv a0 (ji12))) 2) != 1) = false := bne_eq_false_iff_eq.mpr c16
       clear c16
       obtain rfl := Option.some.inj H
       go_wp2
       repeat (go_quiet (fail); try go_wp2)
       go_ret
       exact ⟨by first | rfl | (simp; done) | (simp only [← hji4, ← hji10, ← hji12] <;> (first | rfl | simp)) | (simp [*]; done), by repeat (first | exact Drawn0.refl _ | apply Drawn0.step)⟩
      rw [if_neg c16] at H
      have c16b0 : ((Int.tmod (IntKind.u64.wrap (Int.tdiv a0 (ji12))) 2) == 1) = false := beq_eq_false_iff_ne.mpr c16
      have c16b1 : ((Int.tmod (IntKind.u64.wrap (Int.tdiv a0 (ji12))) 2) != 1) = true := bne_iff_ne.mpr c16
      obtain rfl := Option.some.inj H
      go_wp2
      repeat (go_quiet (fail); try go_wp2)
      go_ret
      exact ⟨by first | rfl | (simp; done) | (simp only [← hji4, ← hji10, ← hji12] <;> (first | rfl | simp)) | (simp [*]; done), by repeat (first | exact Drawn0.refl _ | apply Drawn0.step)⟩
     rw [if_neg c15] at H
     have c15b0 : ((Int.tmod a0 (ji12)) == (IntKind.u64.wrap (Int.tdiv (ji12) 2))) = false := beq_eq_false_iff_ne.mpr c15
     have c15b1 : ((Int.tmod a0 (ji12)) != (IntKind.u64.wrap (Int.tdiv (ji12) 2))) = true := bne_iff_ne.mpr c15
     obtain rfl := Option.some.inj H
     go_wp2
     repeat (go_quiet (fail); try go_wp2)
     go_ret
     exact ⟨by first | rfl | (simp; done) | (simp only [← hji4, ← hji10, ← hji12] <;> (first | rfl | simp)) | (simp [*]; done), by repeat (first | exact Drawn0.refl _ | apply Drawn0.step)⟩
    rw [if_neg c11] at H
    exact absurd H (by simp)
   rw [if_neg c3] at H
   exact absurd H (by simp)
end Go.Proofs.Ytfbjjbbhnmoolaa.P
namespace Go.Proofs.Ytfbjjbbhnmoolaa.P
open Go.RowKit Go.Shelf Go.Proofs.YtfbjjbbhnmoolaaW.PrintWords Go.Proofs.YtfbjjbbhnmoolaaW.PrintLast Go.Proofs.YtfbjjbbhnmoolaaW.PrintMore
theorem uwrap {x : Int} (h0 : 0 ≤ x) (h1 : x < 18446744073709551616) : IntKind.u64.wrap x = x := by
  show x % 18446744073709551616 = x
  omega
theorem shl_nat (m : Nat) (h : m ≤ 63) : shl .u64 1 (m : Int) = ((2 ^ m : Nat) : Int) := by
  show IntKind.u64.wrap (1 * 2 ^ min (m : Int).toNat 64) = _
  rw [Int.toNat_natCast, Nat.min_eq_left (by omega), Int.one_mul]
  have h1 : 2 ^ m ≤ 9223372036854775808 := Nat.pow_le_pow_right (n := 2) (by decide) h
  have e : (2 : Int) ^ m = ((2 ^ m : Nat) : Int) := by simp
  rw [e]
  clear e
  generalize 2 ^ m = q at *
  exact uwrap (by omega) (by omega)
theorem shr_nat (n m : Nat) (h : m ≤ 64) : shr .u64 (n : Int) (m : Int) = ((n / 2 ^ m : Nat) : Int) := by
  show (n : Int) / 2 ^ min (m : Int).toNat 64 = _
  rw [Int.toNat_natCast, Nat.min_eq_left h]
  simp
theorem tdiv_nat (a b : Nat) : Int.tdiv (a : Int) (b : Int) = ((a / b : Nat) : Int) := by
  rw [Int.tdiv_eq_ediv_of_nonneg (by omega)]; simp
theorem tmod_nat (a b : Nat) : Int.tmod (a : Int) (b : Int) = ((a % b : Nat) : Int) := by
  rw [Int.tmod_eq_emod_of_nonneg (by omega)]; simp
theorem refFloat_loop {n : Nat} (h0 : n ≠ 0) (hn : n < 18446744073709551616) : ∀ (d k j : Nat), n.log2 - j = d → d < k → j ≤ n.log2 → tidepoleref10_Float.l0 k (n : Int) (j : Int) = some ((fltR n : Nat) : Int) := by
  obtain ⟨b1, b2⟩ := log2_bounds h0
  have b3 := log2_lt64 h0 hn
  intro d
  induction d with
  | zero =>
    intro k j hd hk hj
    obtain ⟨k, rfl⟩ : ∃ m, k = m + 1 := ⟨k - 1, by omega⟩
    have ej : j = n.log2 := by omega
    have hf := frac_bounds h0
    have hfl : fltR n = if n.log2 ≤ 52 then (1022 + n.log2) * 4503599627370496 + n * 2 ^ (52 - n.log2) else (1022 + n.log2) * 4503599627370496 + rnd n (n.log2 - 52) := by unfold fltR; rw [if_neg h0]
    rw [← ej] at b1 b2 b3 hf hfl
    have hq : n / 2 ^ j = 1 := by
      have hp := Nat.two_pow_pos j
      have c1 : 1 ≤ n / 2 ^ j := (Nat.le_div_iff_mul_le hp).2 (by omega)
      have c2 : n / 2 ^ j < 2 := (Nat.div_lt_iff_lt_mul hp).2 (by rw [Nat.pow_succ] at b2; omega)
      omega
    rw [tidepoleref10_Float.l0, if_pos (by omega), shr_nat n j (by omega), hq, if_neg (by decide)]
    by_cases c : j ≤ 52
    · rw [if_pos c] at hf hfl
      rw [if_pos (by omega), uwrap (x := 52 - (j : Int)) (by omega) (by omega), if_pos (by omega), show (52 - (j : Int)) = ((52 - j : Nat) : Int) by omega, shl_nat _ (by omega)]
      rw [show (n : Int) * ((2 ^ (52 - j) : Nat) : Int) = ((n * 2 ^ (52 - j) : Nat) : Int) by simp]
      generalize n * 2 ^ (52 - j) = g at *
      rw [uwrap (x := 1023 + (j : Int)) (by omega) (by omega), uwrap (x := (1023 + (j : Int)) * 4503599627370496) (by omega) (by omega), uwrap (x := (g : Int)) (by omega) (by omega), uwrap (x := (g : Int) - 4503599627370496) (by omega) (by omega), uwrap (by omega) (by omega), hfl]
      congr 1
      omega
    · rw [if_neg c] at hf hfl
      rw [if_neg (by omega), uwrap (x := (j : Int) - 52) (by omega) (by omega), if_pos (by omega), show ((j : Int) - 52) = ((j - 52 : Nat) : Int) by omega, shl_nat _ (by omega)]
      have hp := Nat.two_pow_pos (j - 52)
      obtain ⟨d, hd⟩ : ∃ d, j - 52 = d + 1 := ⟨j - 53, by omega⟩
      have hhalf : 2 ^ (j - 52) = 2 * 2 ^ d := by rw [hd, Nat.pow_succ]; omega
      have hlow : 2 ^ (j - 52) ≤ 2 ^ 11 := Nat.pow_le_pow_right (by decide) (by omega)
      unfold rnd at hf hfl
      generalize 2 ^ (j - 52) = g at *
      generalize 2 ^ d = hh at *
      have hr := Nat.mod_lt n hp
      have hqe := Nat.div_add_mod n g
      have hqle : n / g ≤ n := Nat.div_le_self _ _
      rw [if_neg (by omega), tmod_nat, tdiv_nat, show Int.tdiv (g : Int) 2 = ((g / 2 : Nat) : Int) from tdiv_nat g 2]
      generalize n % g = r at *
      generalize n / g = q at *
      have hg2 : g / 2 = hh := by omega
      rw [hg2, uwrap (x := (hh : Int)) (by omega) (by omega), uwrap (x := (q : Int)) (by omega) (by omega), uwrap (x := 1023 + (j : Int)) (by omega) (by omega), uwrap (x := (1023 + (j : Int)) * 4503599627370496) (by omega) (by omega)]
      rw [show Int.tmod (q : Int) 2 = ((q % 2 : Nat) : Int) from tmod_nat q 2]
      by_cases c1 : hh < r
      · rw [if_pos (by omega)] at hf hfl
        rw [if_pos (by omega), uwrap (x := (q : Int) + 1) (by omega) (by omega), uwrap (x := (q : Int) + 1 - 4503599627370496) (by omega) (by omega), uwrap (by omega) (by omega), hfl]
        congr 1; omega
      · rw [if_neg (by omega)]
        by_cases c2 : r = hh
        · rw [if_pos (by omega)]
          by_cases c3 : q % 2 = 1
          · rw [if_pos (by omega)] at hf hfl
            rw [if_pos (by omega), uwrap (x := (q : Int) + 1) (by omega) (by omega), uwrap (x := (q : Int) + 1 - 4503599627370496) (by omega) (by omega), uwrap (by omega) (by omega), hfl]
            congr 1; omega
          · rw [if_neg (by omega)] at hf hfl
            rw [if_neg (by omega), uwrap (x := (q : Int) - 4503599627370496) (by omega) (by omega), uwrap (by omega) (by omega), hfl]
            congr 1; omega
        · rw [if_neg (by omega)] at hf hfl
          rw [if_neg (by omega), uwrap (x := (q : Int) - 4503599627370496) (by omega) (by omega), uwrap (by omega) (by omega), hfl]
          congr 1; omega
  | succ d ih =>
    intro k j hd hk hj
    obtain ⟨k, rfl⟩ : ∃ m, k = m + 1 := ⟨k - 1, by omega⟩
    have hlt : j < n.log2 := by omega
    have hq : 2 ≤ n / 2 ^ j := by
      refine (Nat.le_div_iff_mul_le (Nat.two_pow_pos j)).2 ?_
      have : 2 ^ (j + 1) ≤ 2 ^ n.log2 := Nat.pow_le_pow_right (by decide) hlt
      rw [Nat.pow_succ] at this
      omega
    rw [tidepoleref10_Float.l0, if_pos (by omega), shr_nat n j (by omega), if_pos (by omega), uwrap (x := (j : Int) + 1) (by omega) (by omega)]
    exact ih k (j + 1) (by omega) (by omega) (by omega)
theorem refFloat_eq (v : Int) (h : u64 v) (k : Nat) (hk : 70 ≤ k) : tidepoleref10_Float.f k v = some ((fltR v.toNat : Nat) : Int) := by
  obtain ⟨n, rfl⟩ : ∃ n : Nat, v = n := ⟨v.toNat, by have := h.1; omega⟩
  have hn : n < 18446744073709551616 := by have := h.2; omega
  rw [Int.toNat_natCast]
  unfold tidepoleref10_Float.f
  by_cases c : n = 0
  · subst c; rfl
  · have := log2_lt64 c hn
    rw [if_neg (by omega)]
    exact refFloat_loop c hn n.log2 k 0 (by omega) (by omega) (by omega)
theorem float_near (v : Int) (h : u64 v) : ((FloatKind.f64.nearest v : Nat) : Int) = ((fltR v.toNat : Nat) : Int) := by
  obtain ⟨n, rfl⟩ : ∃ n : Nat, v = n := ⟨v.toNat, by have := h.1; omega⟩
  rw [Int.toNat_natCast, nearest_eq (by have := h.2; omega)]
end Go.Proofs.Ytfbjjbbhnmoolaa.P
namespace Go.Proofs.Ytfbjjbbhnmoolaa.P
open Go.RowKit Go.Shelf Go.Proofs.YtfbjjbbhnmoolaaW.PrintWords Go.Proofs.YtfbjjbbhnmoolaaW.PrintLast Go.Proofs.YtfbjjbbhnmoolaaW.PrintMore
def GR (w : World) (v : Value) (h : Fh) : Prop :=
  ∃ v5 v6 v7 v8, v = .agg #[.int .i64 h.f0, .int .u64 h.f1, .int .u64 h.f2, .int .u64 h.f3, .int .u64 h.f4, v5, v6, v7, v8] ∧ SI kRsp w v5 (h.f5.map toR) ∧ SI kRsp w v6 (h.f6.map toR) ∧ SI (Kd.int .u64) w v7 h.f7 ∧ SI (Kd.int .u64) w v8 h.f8
theorem GR.below {w w' : World} {v : Value} {h : Fh} (x : GR w v h) (hb : Below w.heap.size w w') : GR w' v h := by
  obtain ⟨v5, v6, v7, v8, e, h5, h6, h7, h8⟩ := x
  exact ⟨v5, v6, v7, v8, e, h5.below hb, h6.below hb, h7.below hb, h8.below hb⟩
theorem GR.open_ {w : World} {v : Value} {h : Fh} (x : GR w v h) : ∃ A5 c5 A6 c6 A7 c7 A8 c8, v = .agg #[.int .i64 h.f0, .int .u64 h.f1, .int .u64 h.f2, .int .u64 h.f3, .int .u64 h.f4, .slice A5 h.f5.length c5, .slice A6 h.f6.length c6, .slice A7 h.f7.length c7, .slice A8 h.f8.length c8] ∧
    SI kRsp w (.slice A5 h.f5.length c5) (h.f5.map toR) ∧ SI kRsp w (.slice A6 h.f6.length c6) (h.f6.map toR) ∧ SI (Kd.int .u64) w (.slice A7 h.f7.length c7) h.f7 ∧ SI (Kd.int .u64) w (.slice A8 h.f8.length c8) h.f8 := by
  obtain ⟨v5, v6, v7, v8, rfl, h5, h6, h7, h8⟩ := x
  obtain ⟨A5, c5, rfl, h51, h52⟩ := h5
  obtain ⟨A6, c6, rfl, h61, h62⟩ := h6
  obtain ⟨A7, c7, rfl, h71, h72⟩ := h7
  obtain ⟨A8, c8, rfl, h81, h82⟩ := h8
  rw [List.length_map]
  rw [List.length_map]
  refine ⟨A5, c5, A6, c6, A7, c7, A8, c8, rfl, ⟨A5, c5, by rw [List.length_map], h51, h52⟩, ⟨A6, c6, by rw [List.length_map], h61, h62⟩, .of h72 h71, .of h82 h81⟩
end Go.Proofs.Ytfbjjbbhnmoolaa.P
namespace Go.Proofs.Ytfbjjbbhnmoolaa.P
open Go.RowKit Go.Proofs.YtfbjjbbhnmoolaaW.PrintWords Go.Proofs.YtfbjjbbhnmoolaaW.PrintLast Go.Proofs.YtfbjjbbhnmoolaaW.PrintMore
attribute [local go_sem] max2_int min2_int max_two min_two max_three min_three max_four min_four
attribute [local go_sem high] eqA86
def tidepolelaw10_one.f  : Option (Int × Int × Int × Int × Int × (List (S86)) × (List (S86)) × List Int × List Int) := some (0, 1, 4602678819172646912, 4613937818241073152, 0, (([(⟨3, 2⟩ : S86)] : List (S86))), ([] : List (S86)), (([4613937818241073152, 0] : List Int)), ([] : List Int))
set_option maxHeartbeats 8000000 in
set_option maxRecDepth 100000 in
theorem tidepolelaw10_one.calls  (r1 : Int) (r2 : Int) (r3 : Int) (r4 : Int) (r5 : Int) (r6 : List (S86)) (r7 : List (S86)) (r8 : List Int) (r9 : List Int) (w : World) (h : tidepolelaw10_one.f  = some (r1, r2, r3, r4, r5, r6, r7, r8, r9)) :
  Calls Try.prog 85 #[] w fun e w' => ∃ v5_ v6_ v7_ v8_ : Value, e = .returned (.agg #[.int .i64 r1, .int .u64 r2, .int .u64 r3, .int .u64 r4, .int .u64 r5, v5_, v6_, v7_, v8_]) ∧ Kd.R k86 86 w' w.heap.size (fun k_ => some k_ ≠ (v6_ : Value).ownBlock) v5_ r6 ∧ Kd.R k86 86 w' w.heap.size (fun k_ => some k_ ≠ (v5_ : Value).ownBlock) v6_ r7 ∧ Kd.R (Kd.int .u64) 22 w' w.heap.size (fun k_ => some k_ ≠ (v8_ : Value).ownBlock) v7_ r8 ∧ Kd.R (Kd.int .u64) 22 w' w.heap.size (fun k_ => some k_ ≠ (v7_ : Value).ownBlock) v8_ r9 ∧ Below w.heap.size w w' := by
 have hu31 := Try.underlying31
 have hu86 := Try.underlying86
 have HB := Aside0.mk (Below.refl w.heap.size w)
 have H : (some (0, 1, 4602678819172646912, 4613937818241073152, 0, (([(⟨3, 2⟩ : S86)] : List (S86))), ([] : List (S86)), (([4613937818241073152, 0] : List Int)), ([] : List Int))) = some (r1, r2, r3, r4, r5, r6, r7, r8, r9) := h
 clear h
 obtain ⟨y102, hy102⟩ : ∃ y_ : List (S86), y_ = (([(⟨3, 2⟩ : S86)] : List (S86))) := ⟨_, rfl⟩
 replace H : (some (0, 1, 4602678819172646912, 4613937818241073152, 0, y102, ([] : List (S86)), (([4613937818241073152, 0] : List Int)), ([] : List Int))) = some (r1, r2, r3, r4, r5, r6, r7, r8, r9) := by first | (rw [hy102]; with_reducible exact H) | (have H2_ := (Option.bind_some _ _).symm.trans H; rw [hy102]; with_reducible exact H2_) | (have H2_ := (Option.bind_some _ _).symm.trans H; with_reducible exact H2_) | with_reducible exact H | (rw [hy102]; exact H) | exact H
 have Ny102 := Aside0.mk hy102
 clear hy102
 obtain ⟨y105, hy105⟩ : ∃ y_ : List Int, y_ = (([4613937818241073152, 0] : List Int)) := ⟨_, rfl⟩
 replace H : (some (0, 1, 4602678819172646912, 4613937818241073152, 0, y102, ([] : List (S86)), y105, ([] : List Int))) = some (r1, r2, r3, r4, r5, r6, r7, r8, r9) := by first | (rw [hy105]; with_reducible exact H) | (have H2_ := (Option.bind_some _ _).symm.trans H; rw [hy105]; with_reducible exact H2_) | (have H2_ := (Option.bind_some _ _).symm.trans H; with_reducible exact H2_) | with_reducible exact H | (rw [hy105]; exact H) | exact H
 have Ny105 := Aside0.mk hy105
 clear hy105
 simp only [Option.some.injEq, Prod.mk.injEq] at H
 obtain ⟨rfl, rfl, rfl, rfl, rfl, rfl, rfl, rfl, rfl⟩ := H
 go_enter Try.func85, Try.ntmps85
 go_wp2_with (first | ((with_reducible refine gate_dst (N := 0) rfl ?_); refine box_event ?hg (N := 0) ?hd (cs := #[.int .i64 0, .int .u64 0, .int .u64 0, .int .u64 0, .int .u64 0, .slice none 0 0, .slice none 0 0, .slice none 0 0, .slice none 0 0]) (t := 31) ?hr ?_; (case hd => rfl); (case hg => rfl); (case hr => first | (go_simp; done) | (go_simp; rfl)); intro gb101 hg w1 hbox hb; have BK101 := Aside0.mk (hbox); have GW101 := Aside0.mk ((by rw [hg]; exact (below_size (below_u HB.out)) : w.heap.size ≤ gb101)); have GE101 := Aside0.mk ((by rw [hg]; exact (below_size (below_u HB.out)) : w.heap.size ≤ gb101)); replace HB := Aside0.mk (below_step (below_u HB.out) hb); clear hb hbox hg) | ((with_reducible refine gate_dst (N := 2) rfl ?_); refine Kd.R_lit k86 _ 86 ?hg (N := 2) ?hd (xs := ([(⟨3, 2⟩ : S86)] : List (S86))) (inner := [.int .i64 3, .int .i64 2]) (ok := fun _ => True) (okp := fun _ => True) ?hr ?hp (fun _ hk => hk) trivial (Below.refl _ _) (Nat.le_refl _) (by simp) ?_; (case hd => rfl); (case hg => rfl); (case hr => first | (go_simp; done) | (go_simp; rfl)); (case hp => exact (Reps.c2 (show Kd.M k86 _ _ _ (⟨3, 2⟩ : S86) [.int .i64 3, .int .i64 2] from (k86_mkM _ _ _ (⟨3, 2⟩ : S86) )) (Reps.none _ _))); intro v103 w2 ho3 hb hg_ hnew_; clear hg_ hnew_; (first | rw [← Ny102.out] at ho3 | (simp only [Int.reduceToNat] at ho3; rw [← Ny102.out] at ho3)); have HO104 := Aside0.mk (Kd.R_lower ho3 (below_size (by repeat (first | (with_reducible first | exact HB.out | refine below_q ?_ | refine below_set ?_ GE101.out) | exact HB.out)))); replace BK101 := Aside0.mk (blk_ub BK101.out hb); replace HB := Aside0.mk (below_step (by repeat (first | (with_reducible first | exact HB.out | refine below_q ?_ | refine below_set ?_ GE101.out) | exact HB.out)) hb); clear hb ho3) | ((with_reducible refine gate_dst (N := 3) rfl ?_); refine Kd.R_lit (Kd.int .u64) _ 22 ?hg (N := 3) ?hd (xs := ([4613937818241073152, 0] : List Int)) (inner := [.int .u64 4613937818241073152, .int .u64 0]) (ok := fun _ => True) (okp := fun _ => True) ?hr ?hp (fun _ hk => hk) trivial (Below.refl _ _) (Nat.le_refl _) (by simp) ?_; (case hd => rfl); (case hg => rfl); (case hr => first | (go_simp; done) | (go_simp; rfl)); (case hp => exact (Reps.one (show Kd.M (Kd.int .u64) _ _ _ 4613937818241073152 [.int .u64 4613937818241073152] from rfl) (Reps.one (show Kd.M (Kd.int .u64) _ _ _ 0 [.int .u64 0] from rfl) (Reps.none _ _)))); intro v106 w4 ho5 hb hg_ hnew_; clear hg_ hnew_; (first | rw [← Ny105.out] at ho5 | (simp only [Int.reduceToNat] at ho5; rw [← Ny105.out] at ho5)); have HO107 := Aside0.mk (Kd.R_lower ho5 (below_size (by repeat (first | (with_reducible first | exact HB.out | refine below_q ?_ | refine below_set ?_ GE101.out) | exact HB.out)))); replace HO104 := Aside0.mk (Kd.R_ub HO104.out hb); replace BK101 := Aside0.mk (blk_ub BK101.out hb); replace HB := Aside0.mk (below_step (by repeat (first | (with_reducible first | exact HB.out | refine below_q ?_ | refine below_set ?_ GE101.out) | exact HB.out)) hb); clear hb ho5; obtain ⟨Ao6, co6, eo6⟩ := Kd.R_slice HO107.out; subst eo6; obtain ⟨Ao7, co7, eo7⟩ := Kd.R_slice HO104.out; subst eo7; have hcz8_0 := blk_cell BK101.out; have hfz8_0 := blk_frozen BK101.out))
 refine bodyPost_ret (results_cell_row rfl _ _ gb101 31 #[.int .i64 0, .int .u64 1, .int .u64 4602678819172646912, .int .u64 4613937818241073152, .int .u64 0, .slice Ao7 y102.length co7, .slice none 0 0, .slice Ao6 y105.length co6, .slice none 0 0] (0, 0) _ rfl (by (repeat with_reducible refine blk_q ?_); refine blk_put (cs := #[.int .i64 0, .int .u64 1, .int .u64 4602678819172646912, .int .u64 4613937818241073152, .int .u64 0, .slice Ao7 y102.length co7, .slice none 0 0, .slice Ao6 y105.length co6, .slice none 0 0]) ?_ 8 _ rfl; (repeat with_reducible refine blk_q ?_); refine blk_put (cs := #[.int .i64 0, .int .u64 1, .int .u64 4602678819172646912, .int .u64 4613937818241073152, .int .u64 0, .slice Ao7 y102.length co7, .slice none 0 0, .slice none 0 0, .slice none 0 0]) ?_ 7 _ rfl; (repeat with_reducible refine blk_q ?_); refine blk_put (cs := #[.int .i64 0, .int .u64 1, .int .u64 4602678819172646912, .int .u64 4613937818241073152, .int .u64 0, .slice Ao7 y102.length co7, .slice none 0 0, .slice none 0 0, .slice none 0 0]) ?_ 6 _ rfl; (repeat with_reducible refine blk_q ?_); refine blk_put (cs := #[.int .i64 0, .int .u64 1, .int .u64 4602678819172646912, .int .u64 4613937818241073152, .int .u64 0, .slice none 0 0, .slice none 0 0, .slice none 0 0, .slice none 0 0]) ?_ 5 _ rfl; (repeat with_reducible refine blk_q ?_); refine blk_put (cs := #[.int .i64 0, .int .u64 1, .int .u64 4602678819172646912, .int .u64 4613937818241073152, .int .u64 0, .slice none 0 0, .slice none 0 0, .slice none 0 0, .slice none 0 0]) ?_ 4 _ rfl; (repeat with_reducible refine blk_q ?_); refine blk_put (cs := #[.int .i64 0, .int .u64 1, .int .u64 4602678819172646912, .int .u64 0, .int .u64 0, .slice none 0 0, .slice none 0 0, .slice none 0 0, .slice none 0 0]) ?_ 3 _ rfl; (repeat with_reducible refine blk_q ?_); refine blk_put (cs := #[.int .i64 0, .int .u64 1, .int .u64 0, .int .u64 0, .int .u64 0, .slice none 0 0, .slice none 0 0, .slice none 0 0, .slice none 0 0]) ?_ 2 _ rfl; (repeat with_reducible refine blk_q ?_); refine blk_put (cs := #[.int .i64 0, .int .u64 0, .int .u64 0, .int .u64 0, .int .u64 0, .slice none 0 0, .slice none 0 0, .slice none 0 0, .slice none 0 0]) ?_ 1 _ rfl; (repeat with_reducible refine blk_q ?_); refine blk_put (cs := #[.int .i64 0, .int .u64 0, .int .u64 0, .int .u64 0, .int .u64 0, .slice none 0 0, .slice none 0 0, .slice none 0 0, .slice none 0 0]) ?_ 0 _ rfl; (repeat with_reducible refine blk_q ?_); exact BK101.out) Try.underlying31 rfl (by kernel_rfl)) rfl ?_
 exact ⟨_, _, _, _, by first | rfl | (simp [errW_none, errW_some] <;> rfl) | (simp [*, errW_none, errW_some] <;> rfl), by (repeat with_reducible refine Kd.R_q ?_); exact Kd.R_mono (Kd.R_far (p := ⟨gb101, 8, none⟩) (Kd.R_far (p := ⟨gb101, 7, none⟩) (Kd.R_far (p := ⟨gb101, 6, none⟩) (Kd.R_far (p := ⟨gb101, 5, none⟩) (Kd.R_far (p := ⟨gb101, 4, none⟩) (Kd.R_far (p := ⟨gb101, 3, none⟩) (Kd.R_far (p := ⟨gb101, 2, none⟩) (Kd.R_far (p := ⟨gb101, 1, none⟩) (Kd.R_far (p := ⟨gb101, 0, none⟩) (Kd.R_types HO104.out BK101.out (by decide)) (fun _ hk => hk.2) (.int .i64 0)) (fun _ hk => hk.2) (.int .u64 1)) (fun _ hk => hk.2) (.int .u64 4602678819172646912)) (fun _ hk => hk.2) (.int .u64 4613937818241073152)) (fun _ hk => hk.2) (.int .u64 0)) (fun _ hk => hk.2) (.slice Ao7 y102.length co7)) (fun _ hk => hk.2) (.slice none 0 0)) (fun _ hk => hk.2) (.slice Ao6 y105.length co6)) (fun _ hk => hk.2) (.slice none 0 0)) (fun _ hk => (by simp [Value.ownBlock])), by first | exact Kd.R_nil _ _ _ _ _ | exact Kd.N_nil _ _ _ _ _ | exact Kd.V_nil _ _ _ _ _ | exact Kd.Q_nil _ _ _ _ _ | exact Kd.S_nil _ _ _ _ _, by (repeat with_reducible refine Kd.R_q ?_); exact Kd.R_mono (Kd.R_far (p := ⟨gb101, 8, none⟩) (Kd.R_far (p := ⟨gb101, 7, none⟩) (Kd.R_far (p := ⟨gb101, 6, none⟩) (Kd.R_far (p := ⟨gb101, 5, none⟩) (Kd.R_far (p := ⟨gb101, 4, none⟩) (Kd.R_far (p := ⟨gb101, 3, none⟩) (Kd.R_far (p := ⟨gb101, 2, none⟩) (Kd.R_far (p := ⟨gb101, 1, none⟩) (Kd.R_far (p := ⟨gb101, 0, none⟩) (Kd.R_types HO107.out BK101.out (by decide)) (fun _ hk => hk.2) (.int .i64 0)) (fun _ hk => hk.2) (.int .u64 1)) (fun _ hk => hk.2) (.int .u64 4602678819172646912)) (fun _ hk => hk.2) (.int .u64 4613937818241073152)) (fun _ hk => hk.2) (.int .u64 0)) (fun _ hk => hk.2) (.slice Ao7 y102.length co7)) (fun _ hk => hk.2) (.slice none 0 0)) (fun _ hk => hk.2) (.slice Ao6 y105.length co6)) (fun _ hk => hk.2) (.slice none 0 0)) (fun _ hk => (by simp [Value.ownBlock])), by first | exact Kd.R_nil _ _ _ _ _ | exact Kd.N_nil _ _ _ _ _ | exact Kd.V_nil _ _ _ _ _ | exact Kd.Q_nil _ _ _ _ _ | exact Kd.S_nil _ _ _ _ _, by repeat (first | (with_reducible first | exact HB.out | apply below_alloc | apply pw_below_drewN | apply below_drew1 | refine below_set ?_ GE101.out) | exact HB.out)⟩
def tidepolelaw10_few.l0 : Nat → Int → List (S86) → Int → Int → Option (Bool)
 | 0, _, _, _, _ => none
 | k + 1, x3, x6, x7, x8 => if x8 < x7 then (if 0 ≤ x8 then (if x8 < (x6.length : Int) then (if ((rd_T86 x6 x8).f1) > 0 then (if (wrap64 ((wrap64 (x3 + (wrap64 (1 + (wrap64 (Int.tdiv (mn ((rd_T86 x6 x8).f1) 5000) 10)))))) + 1)) > 400 then (some false) else (tidepolelaw10_few.l0 k (wrap64 ((wrap64 (x3 + (wrap64 (1 + (wrap64 (Int.tdiv (mn ((rd_T86 x6 x8).f1) 5000) 10)))))) + 1)) x6 x7 (wrap64 (x8 + 1)))) else (if (wrap64 (x3 + 1)) > 400 then (some false) else (tidepolelaw10_few.l0 k (wrap64 (x3 + 1)) x6 x7 (wrap64 (x8 + 1))))) else (none)) else (none)) else (some true)
def tidepolelaw10_few.f (k : Nat) (l0 : List (S86)) : Option (Bool) := tidepolelaw10_few.l0 k 0 l0 (l0.length : Int) 0
set_option maxHeartbeats 8000000 in
set_option maxRecDepth 100000 in
theorem tidepolelaw10_few.calls (k : Nat) (A0 : Option Addr) (c0 : Nat) (l0 : List (S86)) (r : Bool) (w : World) (hr0 : Kd.C k86 w A0 l0.length l0) (hc0 : l0.length ≤ c0) (h : tidepolelaw10_few.f k l0 = some r) :
  Calls Try.prog 41 #[.slice A0 l0.length c0] w fun e w' => e = .returned (.bool r) ∧ Below w.heap.size w w' := by
 have hu86 := Try.underlying86
 have HR0 := Aside0.mk hr0
 have HC0 := Aside0.mk hc0
 clear hr0 hc0
 have HB := Aside0.mk (Below.refl w.heap.size w)
 have H : (tidepolelaw10_few.l0 k 0 l0 (l0.length : Int) 0) = some r := h
 clear h
 have H' := Aside0.mk H
 clear H
 go_enter Try.func41, Try.ntmps41
 go_wp2
 go_loopg [3, 8] k (fun kq v3 v8 w' => ∃ (x3_1 : Int) (x8_1 : Int), v3 = .int .i64 x3_1 ∧ v8 = .int .i64 x8_1 ∧ Aside0 (tidepolelaw10_few.l0 kq x3_1 l0 (l0.length : Int) x8_1 = some r) ∧ Aside0 (kq ≤ k) ∧ Aside0 (Below w.heap.size w w'))
 case atStart => exact ⟨(0), (0), (by first | rfl | (simp; done) | (simp [*]; done)), (by first | rfl | (simp; done) | (simp [*]; done)), H', ⟨Nat.le_refl _⟩, ⟨by repeat (first | (with_reducible first | exact HB.out | apply below_alloc | apply pw_below_drewN | apply below_drew1) | exact HB.out)⟩⟩
 case round =>
  clear H'
  obtain ⟨x3_1, x8_1, rfl, rfl, HA, HK1, HB⟩ := hrel
  cases gk with
  | zero => exact absurd HA.out (by simp [tidepolelaw10_few.l0])
  | succ k1 =>
   have H := HA.out
   clear HA
   simp only [tidepolelaw10_few.l0] at H
   by_cases c2 : x8_1 < (l0.length : Int)
   ·rw [if_pos c2] at H
    have c2b0 : decide (x8_1 < (l0.length : Int)) = true := decide_eq_true c2
    clear c2
    by_cases c3 : 0 ≤ x8_1
    ·rw [if_pos c3] at H
     have c3b0 : decide (0 ≤ x8_1) = true := decide_eq_true c3
     clear c3
     by_cases c4 : x8_1 < (l0.length : Int)
     ·rw [if_pos c4] at H
      have c4b0 : decide (x8_1 < (l0.length : Int)) = true := decide_eq_true c4
      clear c4
      by_cases c5 : ((rd_T86 l0 x8_1).f1) > 0
      ·rw [if_pos c5] at H
       have c5b0 : decide (0 < ((rd_T86 l0 x8_1).f1)) = true := decide_eq_true c5
       clear c5
       obtain ⟨ji6, hji6⟩ : ∃ j_ : Int, (mn ((rd_T86 l0 x8_1).f1) 5000) = j_ := ⟨_, rfl⟩
       replace H : (if (wrap64 ((wrap64 (x3_1 + (wrap64 (1 + (wrap64 (Int.tdiv (ji6) 10)))))) + 1)) > 400 then (some false) else (tidepolelaw10_few.l0 k1 (wrap64 ((wrap64 (x3_1 + (wrap64 (1 + (wrap64 (Int.tdiv (ji6) 10)))))) + 1)) l0 (l0.length : Int) (wrap64 (x8_1 + 1)))) = some r := by first | (rw [hji6] at H; exact H) | (simp only [hji6] at H ⊢; exact H)
       have hji6_ : (if 5000 < ((rd_T86 l0 x8_1).f1) then 5000 else ((rd_T86 l0 x8_1).f1)) = ji6 := hji6
       by_cases c7 : (wrap64 ((wrap64 (x3_1 + (wrap64 (1 + (wrap64 (Int.tdiv (ji6) 10)))))) + 1)) > 400
       ·rw [if_pos c7] at H
        have c7b0 : decide (400 < (wrap64 ((wrap64 (x3_1 + (wrap64 (1 + (wrap64 (Int.tdiv (ji6) 10)))))) + 1))) = true := decide_eq_true c7
        clear c7
        obtain rfl := Option.some.inj H
        have p101 : 0 ≤ (x8_1 : Int) := of_decide_eq_true (by assumption)
        have q101 : x8_1 < (l0.length : Int) := of_decide_eq_true (by assumption)
        obtain ⟨ad101, e101, hx101_0, hx101_1⟩ := at_T86 HR0.out x8_1 p101 q101
        cases e101
        replace hx101_0 := (HB.out.cell (World.block_lt_of_cell? w _ hx101_0)).trans hx101_0
        replace hx101_1 := (HB.out.cell (World.block_lt_of_cell? w _ hx101_1)).trans hx101_1
        replace p101 := eq_true p101
        replace q101 := eq_true q101
        go_wp2_with (first | ((with_reducible refine gate_dst (N := 5) rfl ?_); refine box_event ?hg (N := 5) ?hd (cs := #[.int .i64 0, .int .i64 0]) (t := 86) ?hr ?_; (case hd => rfl); (case hg => rfl); (case hr => first | (go_simp; done) | (go_simp; rfl)); intro gb102 hg w8 hbox hb; have BK102 := Aside0.mk (hbox); have GW102 := Aside0.mk ((by rw [hg]; exact (below_size (below_u HB.out)) : w.heap.size ≤ gb102)); have GE102 := Aside0.mk ((by rw [hg]; exact (below_size (below_u HB.out)) : w.heap.size ≤ gb102)); replace HB := Aside0.mk (below_step (below_u HB.out) hb); clear hb hbox hg; have hcz9_0 := blk_cell BK102.out; have hfz9_0 := blk_frozen BK102.out))
        go_ret
        exact ⟨by first | rfl | (simp [errW_none, errW_some] <;> rfl) | (simp only [← hji6]; first | rfl | (simp [errW_none, errW_some] <;> rfl)) | (simp [*, errW_none, errW_some] <;> rfl), by repeat (first | (with_reducible first | exact HB.out | apply below_alloc | apply pw_below_drewN | apply below_drew1 | refine below_set ?_ GE102.out) | exact HB.out)⟩
       rw [if_neg c7] at H
       have c7b0 : decide (400 < (wrap64 ((wrap64 (x3_1 + (wrap64 (1 + (wrap64 (Int.tdiv (ji6) 10)))))) + 1))) = false := decide_eq_false c7
       clear c7
       have H' := Aside0.mk H
       clear H
       have p101 : 0 ≤ (x8_1 : Int) := of_decide_eq_true (by assumption)
       have q101 : x8_1 < (l0.length : Int) := of_decide_eq_true (by assumption)
       obtain ⟨ad101, e101, hx101_0, hx101_1⟩ := at_T86 HR0.out x8_1 p101 q101
       cases e101
       replace hx101_0 := (HB.out.cell (World.block_lt_of_cell? w _ hx101_0)).trans hx101_0
       replace hx101_1 := (HB.out.cell (World.block_lt_of_cell? w _ hx101_1)).trans hx101_1
       replace p101 := eq_true p101
       replace q101 := eq_true q101
       go_wp2_with (first | ((with_reducible refine gate_dst (N := 5) rfl ?_); refine box_event ?hg (N := 5) ?hd (cs := #[.int .i64 0, .int .i64 0]) (t := 86) ?hr ?_; (case hd => rfl); (case hg => rfl); (case hr => first | (go_simp; done) | (go_simp; rfl)); intro gb102 hg w10 hbox hb; have BK102 := Aside0.mk (hbox); have GW102 := Aside0.mk ((by rw [hg]; exact (below_size (below_u HB.out)) : w.heap.size ≤ gb102)); have GE102 := Aside0.mk ((by rw [hg]; exact (below_size (below_u HB.out)) : w.heap.size ≤ gb102)); replace HB := Aside0.mk (below_step (below_u HB.out) hb); clear hb hbox hg; have hcz11_0 := blk_cell BK102.out; have hfz11_0 := blk_frozen BK102.out))
       go_roundg k1
       case measure => have := HK1.out; omega
       case rel => exact ⟨(wrap64 ((wrap64 (x3_1 + (wrap64 (1 + (wrap64 (Int.tdiv (ji6) 10)))))) + 1)), (wrap64 (x8_1 + 1)), (by first | rfl | (simp; done) | (simp only [← hji6] <;> (first | rfl | simp)) | (simp [*]; done)), (by first | rfl | (simp; done) | (simp [*]; done)), H', ⟨by have := HK1.out; omega⟩, ⟨by repeat (first | (with_reducible first | exact HB.out | apply below_alloc | apply pw_below_drewN | apply below_drew1 | refine below_set ?_ GE102.out) | exact HB.out)⟩⟩
      rw [if_neg c5] at H
      have c5b0 : decide (0 < ((rd_T86 l0 x8_1).f1)) = false := decide_eq_false c5
      clear c5
      by_cases c12 : (wrap64 (x3_1 + 1)) > 400
      ·rw [if_pos c12] at H
       have c12b0 : decide (400 < (wrap64 (x3_1 + 1))) = true := decide_eq_true c12
       clear c12
       obtain rfl := Option.some.inj H
       have p101 : 0 ≤ (x8_1 : Int) := of_decide_eq_true (by assumption)
       have q101 : x8_1 < (l0.length : Int) := of_decide_eq_true (by assumption)
       obtain ⟨ad101, e101, hx101_0, hx101_1⟩ := at_T86 HR0.out x8_1 p101 q101
       cases e101
       replace hx101_0 := (HB.out.cell (World.block_lt_of_cell? w _ hx101_0)).trans hx101_0
       replace hx101_1 := (HB.out.cell (World.block_lt_of_cell? w _ hx101_1)).trans hx101_1
       replace p101 := eq_true p101
       replace q101 := eq_true q101
       go_wp2_with (first | ((with_reducible refine gate_dst (N := 5) rfl ?_); refine box_event ?hg (N := 5) ?hd (cs := #[.int .i64 0, .int .i64 0]) (t := 86) ?hr ?_; (case hd => rfl); (case hg => rfl); (case hr => first | (go_simp; done) | (go_simp; rfl)); intro gb102 hg w13 hbox hb; have BK102 := Aside0.mk (hbox); have GW102 := Aside0.mk ((by rw [hg]; exact (below_size (below_u HB.out)) : w.heap.size ≤ gb102)); have GE102 := Aside0.mk ((by rw [hg]; exact (below_size (below_u HB.out)) : w.heap.size ≤ gb102)); replace HB := Aside0.mk (below_step (below_u HB.out) hb); clear hb hbox hg; have hcz14_0 := blk_cell BK102.out; have hfz14_0 := blk_frozen BK102.out))
       go_ret
       exact ⟨by first | rfl | (simp [errW_none, errW_some] <;> rfl) | (simp [*, errW_none, errW_some] <;> rfl), by repeat (first | (with_reducible first | exact HB.out | apply below_alloc | apply pw_below_drewN | apply below_drew1 | refine below_set ?_ GE102.out) | exact HB.out)⟩
      rw [if_neg c12] at H
      have c12b0 : decide (400 < (wrap64 (x3_1 + 1))) = false := decide_eq_false c12
      clear c12
      have H' := Aside0.mk H
      clear H
      have p101 : 0 ≤ (x8_1 : Int) := of_decide_eq_true (by assumption)
      have q101 : x8_1 < (l0.length : Int) := of_decide_eq_true (by assumption)
      obtain ⟨ad101, e101, hx101_0, hx101_1⟩ := at_T86 HR0.out x8_1 p101 q101
      cases e101
      replace hx101_0 := (HB.out.cell (World.block_lt_of_cell? w _ hx101_0)).trans hx101_0
      replace hx101_1 := (HB.out.cell (World.block_lt_of_cell? w _ hx101_1)).trans hx101_1
      replace p101 := eq_true p101
      replace q101 := eq_true q101
      go_wp2_with (first | ((with_reducible refine gate_dst (N := 5) rfl ?_); refine box_event ?hg (N := 5) ?hd (cs := #[.int .i64 0, .int .i64 0]) (t := 86) ?hr ?_; (case hd => rfl); (case hg => rfl); (case hr => first | (go_simp; done) | (go_simp; rfl)); intro gb102 hg w15 hbox hb; have BK102 := Aside0.mk (hbox); have GW102 := Aside0.mk ((by rw [hg]; exact (below_size (below_u HB.out)) : w.heap.size ≤ gb102)); have GE102 := Aside0.mk ((by rw [hg]; exact (below_size (below_u HB.out)) : w.heap.size ≤ gb102)); replace HB := Aside0.mk (below_step (below_u HB.out) hb); clear hb hbox hg; have hcz16_0 := blk_cell BK102.out; have hfz16_0 := blk_frozen BK102.out))
      go_roundg k1
      case measure => have := HK1.out; omega
      case rel => exact ⟨(wrap64 (x3_1 + 1)), (wrap64 (x8_1 + 1)), (by first | rfl | (simp; done) | (simp [*]; done)), (by first | rfl | (simp; done) | (simp [*]; done)), H', ⟨by have := HK1.out; omega⟩, ⟨by repeat (first | (with_reducible first | exact HB.out | apply below_alloc | apply pw_below_drewN | apply below_drew1 | refine below_set ?_ GE102.out) | exact HB.out)⟩⟩
     rw [if_neg c4] at H
     exact absurd H (by simp)
    rw [if_neg c3] at H
    exact absurd H (by simp)
   rw [if_neg c2] at H
   have c2b0 : decide (x8_1 < (l0.length : Int)) = false := decide_eq_false c2
   clear c2
   obtain rfl := Option.some.inj H
   go_wp2
   go_ret
   exact ⟨by first | rfl | (simp [errW_none, errW_some] <;> rfl) | (simp [*, errW_none, errW_some] <;> rfl), by repeat (first | (with_reducible first | exact HB.out | apply below_alloc | apply pw_below_drewN | apply below_drew1) | exact HB.out)⟩
def tidepolelaw10_spans.l0 : Nat → List (S117) → List (S86) → Int → Int → Option ((List (S117)))
 | 0, _, _, _, _ => none
 | k + 1, x3, x6, x7, x8 => if x8 < x7 then (if 0 ≤ x8 then (if x8 < (x6.length : Int) then (if x3.length < 8796093022208 then (tidepolelaw10_spans.l0 k (x3 ++ [(⟨(rd_T86 x6 x8).f0, (rd_T86 x6 x8).f1⟩ : S117)]) x6 x7 (wrap64 (x8 + 1))) else (none)) else (none)) else (none)) else (some x3)
def tidepolelaw10_spans.f (k : Nat) (l0 : List (S86)) : Option ((List (S117))) := tidepolelaw10_spans.l0 k ([] : List (S117)) l0 (l0.length : Int) 0
set_option maxHeartbeats 8000000 in
set_option maxRecDepth 100000 in
theorem tidepolelaw10_spans.calls (k : Nat) (A0 : Option Addr) (c0 : Nat) (l0 : List (S86)) (r : List (S117)) (w : World) (hr0 : Kd.C k86 w A0 l0.length l0) (hc0 : l0.length ≤ c0) (h : tidepolelaw10_spans.f k l0 = some r) :
  Calls Try.prog 95 #[.slice A0 l0.length c0] w fun e w' => ∃ v0_ : Value, e = .returned (v0_) ∧ Kd.R k117 117 w' w.heap.size (fun _ => True) v0_ r ∧ Below w.heap.size w w' := by
 have hu86 := Try.underlying86
 have hu117 := Try.underlying117
 have HR0 := Aside0.mk hr0
 have HC0 := Aside0.mk hc0
 clear hr0 hc0
 have HB := Aside0.mk (Below.refl w.heap.size w)
 have H : (tidepolelaw10_spans.l0 k ([] : List (S117)) l0 (l0.length : Int) 0) = some r := h
 clear h
 have H' := Aside0.mk H
 clear H
 go_enter Try.func95, Try.ntmps95
 go_wp2
 go_loopg [3, 8] k (fun kq v3 v8 w' => ∃ (x3_1 : List (S117)) (x8_1 : Int), v8 = .int .i64 x8_1 ∧ Aside0 (tidepolelaw10_spans.l0 kq x3_1 l0 (l0.length : Int) x8_1 = some r) ∧ Aside0 (kq ≤ k) ∧ Aside0 (Kd.R k117 117 w' w.heap.size (fun _ => True) v3 x3_1) ∧ Aside0 (Below w.heap.size w w'))
 case atStart => exact ⟨(([] : List (S117))), (0), (by first | rfl | (simp; done) | (simp [*]; done)), H', ⟨Nat.le_refl _⟩, ⟨by first | exact Kd.R_nil _ _ _ _ _ | exact Kd.N_nil _ _ _ _ _ | exact Kd.V_nil _ _ _ _ _ | exact Kd.Q_nil _ _ _ _ _ | exact Kd.S_nil _ _ _ _ _⟩, ⟨by repeat (first | (with_reducible first | exact HB.out | apply below_alloc | apply pw_below_drewN | apply below_drew1) | exact HB.out)⟩⟩
 case round =>
  clear H'
  obtain ⟨x3_1, x8_1, rfl, HA, HK1, HO_3, HB⟩ := hrel
  cases gk with
  | zero => exact absurd HA.out (by simp [tidepolelaw10_spans.l0])
  | succ k1 =>
   have H := HA.out
   clear HA
   simp only [tidepolelaw10_spans.l0] at H
   by_cases c2 : x8_1 < (l0.length : Int)
   ·rw [if_pos c2] at H
    have c2b0 : decide (x8_1 < (l0.length : Int)) = true := decide_eq_true c2
    clear c2
    by_cases c3 : 0 ≤ x8_1
    ·rw [if_pos c3] at H
     have c3b0 : decide (0 ≤ x8_1) = true := decide_eq_true c3
     clear c3
     by_cases c4 : x8_1 < (l0.length : Int)
     ·rw [if_pos c4] at H
      have c4b0 : decide (x8_1 < (l0.length : Int)) = true := decide_eq_true c4
      clear c4
      by_cases c5 : x3_1.length < 8796093022208
      ·rw [if_pos c5] at H
       have LMc5 := Aside0.mk c5
       clear c5
       obtain ⟨y103, hy103⟩ : ∃ y_ : List (S117), y_ = (x3_1 ++ [(⟨(rd_T86 l0 x8_1).f0, (rd_T86 l0 x8_1).f1⟩ : S117)]) := ⟨_, rfl⟩
       replace H : (tidepolelaw10_spans.l0 k1 y103 l0 (l0.length : Int) (wrap64 (x8_1 + 1))) = some r := by first | (rw [hy103]; with_reducible exact H) | (have H2_ := (Option.bind_some _ _).symm.trans H; rw [hy103]; with_reducible exact H2_) | (have H2_ := (Option.bind_some _ _).symm.trans H; with_reducible exact H2_) | with_reducible exact H | (rw [hy103]; exact H) | exact H
       have Ny103 := Aside0.mk hy103
       clear hy103
       have H' := Aside0.mk H
       clear H
       have p101 : 0 ≤ (x8_1 : Int) := of_decide_eq_true (by assumption)
       have q101 : x8_1 < (l0.length : Int) := of_decide_eq_true (by assumption)
       obtain ⟨ad101, e101, hx101_0, hx101_1⟩ := at_T86 HR0.out x8_1 p101 q101
       cases e101
       replace hx101_0 := (HB.out.cell (World.block_lt_of_cell? w _ hx101_0)).trans hx101_0
       replace hx101_1 := (HB.out.cell (World.block_lt_of_cell? w _ hx101_1)).trans hx101_1
       replace p101 := eq_true p101
       replace q101 := eq_true q101
       go_wp2_with (first | ((with_reducible refine gate_dst (N := 5) rfl ?_); refine box_event ?hg (N := 5) ?hd (cs := #[.int .i64 0, .int .i64 0]) (t := 86) ?hr ?_; (case hd => rfl); (case hg => rfl); (case hr => first | (go_simp; done) | (go_simp; rfl)); intro gb102 hg w6 hbox hb; have BK102 := Aside0.mk (hbox); have GW102 := Aside0.mk ((by rw [hg]; exact (below_size (below_u HB.out)) : w.heap.size ≤ gb102)); have GE102 := Aside0.mk ((by rw [hg]; exact (below_size (below_u HB.out)) : w.heap.size ≤ gb102)); replace HO_3 := Aside0.mk (Kd.R_ub HO_3.out hb); replace HB := Aside0.mk (below_step (below_u HB.out) hb); clear hb hbox hg; have hcz7_0 := blk_cell BK102.out; have hfz7_0 := blk_frozen BK102.out) | ((with_reducible refine gate_builtin (b := .append) (xs := #[.tmp 12, .tmp 18]) rfl ?_); at_builtin; refine Kd.R_append k117 (w0 := w) w.heap.size rfl (.tmp 12) (.tmp 18) 43 117 (.agg #[(.int .i64 0), (.int .i64 0)]) 16 rfl Try.underlying43 info117 rfl (by decide) (by omega) u3 x3_1 (⟨(rd_T86 l0 x8_1).f0, (rd_T86 l0 x8_1).f1⟩ : S117) [.int .i64 ((rd_T86 l0 x8_1).f0), .int .i64 ((rd_T86 l0 x8_1).f1)] (fun _ => True) (fun _ => False) rfl (by first | (go_simp; done) | (go_simp; rfl)) ?aP (fun _ hk => hk.elim) ?aF ?aO ?aB ?aS ?aL ?_; (case aP => exact k117_mkM _ _ _ (⟨(rd_T86 l0 x8_1).f0, (rd_T86 l0 x8_1).f1⟩ : S117)); (case aB => exact (by repeat (first | (with_reducible first | exact HB.out | refine below_q ?_ | refine below_set ?_ GE102.out) | exact HB.out))); (case aF => exact (fun _ _ => trivial)); (case aO => exact (Kd.R_u (Kd.R_mono (Kd.R_far (p := ⟨gb102, 1, none⟩) (Kd.R_far (p := ⟨gb102, 0, none⟩) (Kd.R_types HO_3.out BK102.out (by decide)) (fun _ hk => hk.2) (.int .i64 ((rd_T86 l0 x8_1).f0))) (fun _ hk => hk.2) (.int .i64 ((rd_T86 l0 x8_1).f1))) (fun _ hk => trivial)))); (case aS => exact (below_size (by repeat (first | (with_reducible first | exact HB.out | refine below_q ?_ | refine below_set ?_ GE102.out) | exact HB.out)))); (case aL => have := LMc5.out; omega); intro v104 w8 ho hb hg hat; rw [← Ny103.out] at ho; have n0_ := Aside0.mk (blk_grown (g := gb102) (o := .cells #[.int .i64 ((rd_T86 l0 x8_1).f0), .int .i64 ((rd_T86 l0 x8_1).f1)] 86 (0, 0)) (by (repeat with_reducible refine blk_q ?_); refine blk_put (cs := #[.int .i64 ((rd_T86 l0 x8_1).f0), .int .i64 0]) ?_ 1 _ rfl; (repeat with_reducible refine blk_q ?_); refine blk_put (cs := #[.int .i64 0, .int .i64 0]) ?_ 0 _ rfl; (repeat with_reducible refine blk_q ?_); exact BK102.out) hg (Kd.R_ne HO_3.out BK102.out (by decide))); have HO105 := Aside0.mk (ho); replace HB := Aside0.mk (hb); clear HO_3; clear BK102; have BK102 := n0_; clear n0_; clear ho hb hg hat))
       go_roundg k1
       case measure => have := HK1.out; omega
       case rel => exact ⟨(y103), (wrap64 (x8_1 + 1)), (by first | rfl | (simp; done) | (simp [*]; done)), H', ⟨by have := HK1.out; omega⟩, ⟨by (repeat with_reducible refine Kd.R_q ?_); exact HO105.out⟩, ⟨by repeat (first | (with_reducible first | exact HB.out | apply below_alloc | apply pw_below_drewN | apply below_drew1 | refine below_set ?_ GE102.out) | exact HB.out)⟩⟩
      rw [if_neg c5] at H
      exact absurd H (by simp)
     rw [if_neg c4] at H
     exact absurd H (by simp)
    rw [if_neg c3] at H
    exact absurd H (by simp)
   rw [if_neg c2] at H
   have c2b0 : decide (x8_1 < (l0.length : Int)) = false := decide_eq_false c2
   clear c2
   obtain rfl := Option.some.inj H
   go_wp2
   go_ret
   exact ⟨_, by first | rfl | (simp [errW_none, errW_some] <;> rfl) | (simp [*, errW_none, errW_some] <;> rfl), by (repeat with_reducible refine Kd.R_q ?_); exact HO_3.out, by repeat (first | (with_reducible first | exact HB.out | apply below_alloc | apply pw_below_drewN | apply below_drew1) | exact HB.out)⟩
def tidepolelaw10_same.l0 : Nat → List Int → List Int → Int → Int → Option (Bool)
 | 0, _, _, _, _ => none
 | k + 1, x0, x1, x12, x13 => if x13 < x12 then (if 0 ≤ x13 then (if x13 < (x0.length : Int) then (if x13 < (x1.length : Int) then (if (rd x0 x13) = (rd x1 x13) then (tidepolelaw10_same.l0 k x0 x1 x12 (wrap64 (x13 + 1))) else (some false)) else (none)) else (none)) else (none)) else (some true)
def tidepolelaw10_same.f (k : Nat) (l0 : List Int) (l1 : List Int) : Option (Bool) := if (l0.length : Int) = (l1.length : Int) then (tidepolelaw10_same.l0 k l0 l1 (l0.length : Int) 0) else (some false)
set_option maxHeartbeats 8000000 in
set_option maxRecDepth 100000 in
theorem tidepolelaw10_same.calls (k : Nat) (A0 : Option Addr) (c0 : Nat) (l0 : List Int) (A1 : Option Addr) (c1 : Nat) (l1 : List Int) (r : Bool) (w : World) (hr0 : Kd.C (Kd.int .u64) w A0 l0.length l0) (hc0 : l0.length ≤ c0) (hr1 : Kd.C (Kd.int .u64) w A1 l1.length l1) (hc1 : l1.length ≤ c1) (h : tidepolelaw10_same.f k l0 l1 = some r) :
  Calls Try.prog 39 #[.slice A0 l0.length c0, .slice A1 l1.length c1] w fun e w' => e = .returned (.bool r) ∧ Drawn0 w w' := by
 have HR0 := Aside0.mk hr0
 have HC0 := Aside0.mk hc0
 clear hr0 hc0
 have HR1 := Aside0.mk hr1
 have HC1 := Aside0.mk hc1
 clear hr1 hc1
 have H : (if (l0.length : Int) = (l1.length : Int) then (tidepolelaw10_same.l0 k l0 l1 (l0.length : Int) 0) else (some false)) = some r := h
 clear h
 by_cases c3 : (l0.length : Int) = (l1.length : Int)
 ·rw [if_pos c3] at H
  have c3b0 : ((l0.length : Int) == (l1.length : Int)) = true := beq_iff_eq.mpr c3
  have c3b1 : ((l0.length : Int) != (l1.length : Int)) = false := bne_eq_false_iff_eq.mpr c3
  have c3b2 : (l0.length == l1.length) = true := by first | simpa using c3 | (simp at c3 ⊢; omega)
  clear c3
  have H' := Aside0.mk H
  clear H
  go_enter Try.func39, Try.ntmps39
  go_wp2
  repeat (go_quiet (fail); try go_wp2)
  go_loopg [13] k (fun kq v13 w' => ∃ (x13_1 : Int), v13 = .int .i64 x13_1 ∧ Aside0 (tidepolelaw10_same.l0 kq l0 l1 (l0.length : Int) x13_1 = some r) ∧ Aside0 (kq ≤ k) ∧ Drawn0 w w')
  case atStart => exact ⟨(0), (by first | rfl | (simp; done) | (simp [*]; done)), H', ⟨Nat.le_refl _⟩, by repeat (first | exact Drawn0.refl _ | apply Drawn0.step)⟩
  case round =>
   clear H'
   try clear c1
   try clear p2
   try clear c3
   try clear c3b0
   try clear c3b1
   try clear c3b2
   obtain ⟨x13_1, rfl, HA, HK1, ⟨m1, rfl⟩⟩ := hrel
   cases gk with
   | zero => exact absurd HA.out (by simp [tidepolelaw10_same.l0])
   | succ k1 =>
    have H := HA.out
    clear HA
    simp only [tidepolelaw10_same.l0] at H
    by_cases c4 : x13_1 < (l0.length : Int)
    ·rw [if_pos c4] at H
     have c4b0 : decide (x13_1 < (l0.length : Int)) = true := decide_eq_true c4
     clear c4
     by_cases c5 : 0 ≤ x13_1
     ·rw [if_pos c5] at H
      have c5b0 : decide (0 ≤ x13_1) = true := decide_eq_true c5
      clear c5
      by_cases c6 : x13_1 < (l0.length : Int)
      ·rw [if_pos c6] at H
       have c6b0 : decide (x13_1 < (l0.length : Int)) = true := decide_eq_true c6
       clear c6
       by_cases c7 : x13_1 < (l1.length : Int)
       ·rw [if_pos c7] at H
        have c7b0 : decide (x13_1 < (l1.length : Int)) = true := decide_eq_true c7
        clear c7
        by_cases c8 : (rd l0 x13_1) = (rd l1 x13_1)
        ·rw [if_pos c8] at H
         have c8b0 : ((rd l0 x13_1) == (rd l1 x13_1)) = true := beq_iff_eq.mpr c8
         have c8b1 : ((rd l0 x13_1) != (rd l1 x13_1)) = false := bne_eq_false_iff_eq.mpr c8
         clear c8
         have H' := Aside0.mk H
         clear H
         have p101 : 0 ≤ (x13_1 : Int) := of_decide_eq_true (by assumption)
         have q101 : x13_1 < (l0.length : Int) := of_decide_eq_true (by assumption)
         obtain ⟨ad101, e101, hx101_0⟩ := Kd.at_int HR0.out x13_1 p101 q101
         cases e101
         replace p101 := eq_true p101
         replace q101 := eq_true q101
         have p102 : 0 ≤ (x13_1 : Int) := of_decide_eq_true (by assumption)
         have q102 : x13_1 < (l1.length : Int) := of_decide_eq_true (by assumption)
         obtain ⟨ad102, e102, hx102_0⟩ := Kd.at_int HR1.out x13_1 p102 q102
         cases e102
         replace p102 := eq_true p102
         replace q102 := eq_true q102
         go_wp2
         repeat (go_quiet (fail); try go_wp2)
         go_roundg k1
         case measure => have := HK1.out; omega
         case rel => exact ⟨(wrap64 (x13_1 + 1)), (by first | rfl | (simp; done) | (simp [*]; done)), H', ⟨by have := HK1.out; omega⟩, by repeat (first | exact Drawn0.refl _ | apply Drawn0.step)⟩
        rw [if_neg c8] at H
        have c8b0 : ((rd l0 x13_1) == (rd l1 x13_1)) = false := beq_eq_false_iff_ne.mpr c8
        have c8b1 : ((rd l0 x13_1) != (rd l1 x13_1)) = true := bne_iff_ne.mpr c8
        obtain rfl := Option.some.inj H
        have p101 : 0 ≤ (x13_1 : Int) := of_decide_eq_true (by assumption)
        have q101 : x13_1 < (l0.length : Int) := of_decide_eq_true (by assumption)
        obtain ⟨ad101, e101, hx101_0⟩ := Kd.at_int HR0.out x13_1 p101 q101
        cases e101
        replace p101 := eq_true p101
        replace q101 := eq_true q101
        have p102 : 0 ≤ (x13_1 : Int) := of_decide_eq_true (by assumption)
        have q102 : x13_1 < (l1.length : Int) := of_decide_eq_true (by assumption)
        obtain ⟨ad102, e102, hx102_0⟩ := Kd.at_int HR1.out x13_1 p102 q102
        cases e102
        replace p102 := eq_true p102
        replace q102 := eq_true q102
        go_wp2
        repeat (go_quiet (fail); try go_wp2)
        go_ret
        exact ⟨by first | rfl | (simp; done) | (simp [*]; done), by repeat (first | exact Drawn0.refl _ | apply Drawn0.step)⟩
       rw [if_neg c7] at H
       exact absurd H (by simp)
      rw [if_neg c6] at H
      exact absurd H (by simp)
     rw [if_neg c5] at H
     exact absurd H (by simp)
    rw [if_neg c4] at H
    have c4b0 : decide (x13_1 < (l0.length : Int)) = false := decide_eq_false c4
    clear c4
    obtain rfl := Option.some.inj H
    go_wp2
    repeat (go_quiet (fail); try go_wp2)
    go_ret
    exact ⟨by first | rfl | (simp; done) | (simp [*]; done), by repeat (first | exact Drawn0.refl _ | apply Drawn0.step)⟩
 rw [if_neg c3] at H
 have c3b0 : ((l0.length : Int) == (l1.length : Int)) = false := beq_eq_false_iff_ne.mpr c3
 have c3b1 : ((l0.length : Int) != (l1.length : Int)) = true := bne_iff_ne.mpr c3
 have c3b2 : (l0.length == l1.length) = false := by first | simpa using c3 | (simp at c3 ⊢; omega)
 obtain rfl := Option.some.inj H
 go_enter Try.func39, Try.ntmps39
 go_wp2
 repeat (go_quiet (fail); try go_wp2)
 go_ret
 exact ⟨by first | rfl | (simp; done) | (simp [*]; done), by repeat (first | exact Drawn0.refl _ | apply Drawn0.step)⟩
def tidepolelaw10_alike.l0 : Nat → List (S86) → List (S86) → Int → Int → Option (Bool)
 | 0, _, _, _, _ => none
 | k + 1, x0, x1, x12, x13 => if x13 < x12 then (if 0 ≤ x13 then (if x13 < (x0.length : Int) then (if x13 < (x1.length : Int) then (if (!(((rd_T86 x0 x13).f0) == ((rd_T86 x1 x13).f0)) || (!(((rd_T86 x0 x13).f1) == ((rd_T86 x1 x13).f1)))) = true then (some false) else (tidepolelaw10_alike.l0 k x0 x1 x12 (wrap64 (x13 + 1)))) else (none)) else (none)) else (none)) else (some true)
def tidepolelaw10_alike.f (k : Nat) (l0 : List (S86)) (l1 : List (S86)) : Option (Bool) := if (l0.length : Int) = (l1.length : Int) then (tidepolelaw10_alike.l0 k l0 l1 (l0.length : Int) 0) else (some false)
set_option maxHeartbeats 8000000 in
set_option maxRecDepth 100000 in
theorem tidepolelaw10_alike.calls (k : Nat) (A0 : Option Addr) (c0 : Nat) (l0 : List (S86)) (A1 : Option Addr) (c1 : Nat) (l1 : List (S86)) (r : Bool) (w : World) (hr0 : Kd.C k86 w A0 l0.length l0) (hc0 : l0.length ≤ c0) (hr1 : Kd.C k86 w A1 l1.length l1) (hc1 : l1.length ≤ c1) (h : tidepolelaw10_alike.f k l0 l1 = some r) :
  Calls Try.prog 40 #[.slice A0 l0.length c0, .slice A1 l1.length c1] w fun e w' => e = .returned (.bool r) ∧ Drawn0 w w' := by
 have hu86 := Try.underlying86
 have HR0 := Aside0.mk hr0
 have HC0 := Aside0.mk hc0
 clear hr0 hc0
 have HR1 := Aside0.mk hr1
 have HC1 := Aside0.mk hc1
 clear hr1 hc1
 have H : (if (l0.length : Int) = (l1.length : Int) then (tidepolelaw10_alike.l0 k l0 l1 (l0.length : Int) 0) else (some false)) = some r := h
 clear h
 by_cases c3 : (l0.length : Int) = (l1.length : Int)
 ·rw [if_pos c3] at H
  have c3b0 : ((l0.length : Int) == (l1.length : Int)) = true := beq_iff_eq.mpr c3
  have c3b1 : ((l0.length : Int) != (l1.length : Int)) = false := bne_eq_false_iff_eq.mpr c3
  have c3b2 : (l0.length == l1.length) = true := by first | simpa using c3 | (simp at c3 ⊢; omega)
  clear c3
  have H' := Aside0.mk H
  clear H
  go_enter Try.func40, Try.ntmps40
  go_wp2
  repeat (go_quiet (fail); try go_wp2)
  go_loopg [13] k (fun kq v13 w' => ∃ (x13_1 : Int), v13 = .int .i64 x13_1 ∧ Aside0 (tidepolelaw10_alike.l0 kq l0 l1 (l0.length : Int) x13_1 = some r) ∧ Aside0 (kq ≤ k) ∧ Drawn0 w w')
  case atStart => exact ⟨(0), (by first | rfl | (simp; done) | (simp [*]; done)), H', ⟨Nat.le_refl _⟩, by repeat (first | exact Drawn0.refl _ | apply Drawn0.step)⟩
  case round =>
   clear H'
   try clear c1
   try clear p2
   try clear c3
   try clear c3b0
   try clear c3b1
   try clear c3b2
   obtain ⟨x13_1, rfl, HA, HK1, ⟨m1, rfl⟩⟩ := hrel
   cases gk with
   | zero => exact absurd HA.out (by simp [tidepolelaw10_alike.l0])
   | succ k1 =>
    have H := HA.out
    clear HA
    simp only [tidepolelaw10_alike.l0] at H
    by_cases c4 : x13_1 < (l0.length : Int)
    ·rw [if_pos c4] at H
     have c4b0 : decide (x13_1 < (l0.length : Int)) = true := decide_eq_true c4
     clear c4
     by_cases c5 : 0 ≤ x13_1
     ·rw [if_pos c5] at H
      have c5b0 : decide (0 ≤ x13_1) = true := decide_eq_true c5
      clear c5
      by_cases c6 : x13_1 < (l0.length : Int)
      ·rw [if_pos c6] at H
       have c6b0 : decide (x13_1 < (l0.length : Int)) = true := decide_eq_true c6
       clear c6
       by_cases c7 : x13_1 < (l1.length : Int)
       ·rw [if_pos c7] at H
        have c7b0 : decide (x13_1 < (l1.length : Int)) = true := decide_eq_true c7
        clear c7
        by_cases c8 : (!(((rd_T86 l0 x13_1).f0) == ((rd_T86 l1 x13_1).f0)) || (!(((rd_T86 l0 x13_1).f1) == ((rd_T86 l1 x13_1).f1)))) = true
        ·rw [if_pos c8] at H
         have c8b0 : (!(((rd_T86 l0 x13_1).f0) == ((rd_T86 l1 x13_1).f0)) || (!(((rd_T86 l0 x13_1).f1) == ((rd_T86 l1 x13_1).f1)))) = true := c8
         clear c8
         obtain rfl := Option.some.inj H
         have p101 : 0 ≤ (x13_1 : Int) := of_decide_eq_true (by assumption)
         have q101 : x13_1 < (l0.length : Int) := of_decide_eq_true (by assumption)
         obtain ⟨ad101, e101, hx101_0, hx101_1⟩ := at_T86 HR0.out x13_1 p101 q101
         cases e101
         replace p101 := eq_true p101
         replace q101 := eq_true q101
         have p102 : 0 ≤ (x13_1 : Int) := of_decide_eq_true (by assumption)
         have q102 : x13_1 < (l1.length : Int) := of_decide_eq_true (by assumption)
         obtain ⟨ad102, e102, hx102_0, hx102_1⟩ := at_T86 HR1.out x13_1 p102 q102
         cases e102
         replace p102 := eq_true p102
         replace q102 := eq_true q102
         go_wp2
         repeat (go_quiet (fail); try go_wp2)
         go_ret
         exact ⟨by first | rfl | (simp; done) | (simp [*]; done), by repeat (first | exact Drawn0.refl _ | apply Drawn0.step)⟩
        rw [if_neg c8] at H
        have c8b0 : (!(((rd_T86 l0 x13_1).f0) == ((rd_T86 l1 x13_1).f0)) || (!(((rd_T86 l0 x13_1).f1) == ((rd_T86 l1 x13_1).f1)))) = false := by simpa using c8
        clear c8
        have H' := Aside0.mk H
        clear H
        have p101 : 0 ≤ (x13_1 : Int) := of_decide_eq_true (by assumption)
        have q101 : x13_1 < (l0.length : Int) := of_decide_eq_true (by assumption)
        obtain ⟨ad101, e101, hx101_0, hx101_1⟩ := at_T86 HR0.out x13_1 p101 q101
        cases e101
        replace p101 := eq_true p101
        replace q101 := eq_true q101
        have p102 : 0 ≤ (x13_1 : Int) := of_decide_eq_true (by assumption)
        have q102 : x13_1 < (l1.length : Int) := of_decide_eq_true (by assumption)
        obtain ⟨ad102, e102, hx102_0, hx102_1⟩ := at_T86 HR1.out x13_1 p102 q102
        cases e102
        replace p102 := eq_true p102
        replace q102 := eq_true q102
        go_wp2
        repeat (go_quiet (fail); try go_wp2)
        go_roundg k1
        case measure => have := HK1.out; omega
        case rel => exact ⟨(wrap64 (x13_1 + 1)), (by first | rfl | (simp; done) | (simp [*]; done)), H', ⟨by have := HK1.out; omega⟩, by repeat (first | exact Drawn0.refl _ | apply Drawn0.step)⟩
       rw [if_neg c7] at H
       exact absurd H (by simp)
      rw [if_neg c6] at H
      exact absurd H (by simp)
     rw [if_neg c5] at H
     exact absurd H (by simp)
    rw [if_neg c4] at H
    have c4b0 : decide (x13_1 < (l0.length : Int)) = false := decide_eq_false c4
    clear c4
    obtain rfl := Option.some.inj H
    go_wp2
    repeat (go_quiet (fail); try go_wp2)
    go_ret
    exact ⟨by first | rfl | (simp; done) | (simp [*]; done), by repeat (first | exact Drawn0.refl _ | apply Drawn0.step)⟩
 rw [if_neg c3] at H
 have c3b0 : ((l0.length : Int) == (l1.length : Int)) = false := beq_eq_false_iff_ne.mpr c3
 have c3b1 : ((l0.length : Int) != (l1.length : Int)) = true := bne_iff_ne.mpr c3
 have c3b2 : (l0.length == l1.length) = false := by first | simpa using c3 | (simp at c3 ⊢; omega)
 obtain rfl := Option.some.inj H
 go_enter Try.func40, Try.ntmps40
 go_wp2
 repeat (go_quiet (fail); try go_wp2)
 go_ret
 exact ⟨by first | rfl | (simp; done) | (simp [*]; done), by repeat (first | exact Drawn0.refl _ | apply Drawn0.step)⟩
end Go.Proofs.Ytfbjjbbhnmoolaa.P
namespace Go.Proofs.Ytfbjjbbhnmoolaa.P
open Go.RowKit Go.Shelf Go.Proofs.YtfbjjbbhnmoolaaW.PrintWords Go.Proofs.YtfbjjbbhnmoolaaW.PrintLast Go.Proofs.YtfbjjbbhnmoolaaW.PrintMore
theorem spans10_eq (l : List Sp) (hm : l.length < 8796093022208) (k : Nat) (hk : l.length < k) : tidepolelaw10_spans.f k l = some (l.map toR) := by
  unfold tidepolelaw10_spans.f
  have : ∀ (d k i : Nat), l.length - i = d → d < k → i ≤ l.length → tidepolelaw10_spans.l0 k ((l.take i).map toR) l (l.length : Int) (i : Int) = some (l.map toR) := by
    intro d
    induction d with
    | zero =>
      intro k i hd hk hi
      obtain ⟨k, rfl⟩ : ∃ m, k = m + 1 := ⟨k - 1, by omega⟩
      rw [tidepolelaw10_spans.l0, if_neg (by omega), List.take_of_length_le (by omega)]
    | succ d ih =>
      intro k i hd hk hi
      obtain ⟨k, rfl⟩ : ∃ m, k = m + 1 := ⟨k - 1, by omega⟩
      have hlt : i < l.length := by omega
      have hl1 : ((l.take i).map toR).length = i := by simp; omega
      rw [tidepolelaw10_spans.l0, if_pos (by omega), if_pos (by omega), if_pos (by omega), hl1, rdSp_at hlt, if_pos (by omega), wrap_succ (by omega), ← ih k (i + 1) (by omega) (by omega) (by omega), take_at hlt]
      simp only [List.map_append, List.map_cons, List.map_nil]
      rfl
  exact this l.length k 0 (by omega) hk (by omega)
theorem few10_c (l : List Sp) (hw : wfSps l) : ∃ b : Bool, (b = true → l.length ≤ 400) ∧ ∀ (w : World) (v : Value), SI kSp w v l → Calls Try.prog 41 #[v] w fun e w' => e = .returned (.bool b) ∧ Below w.heap.size w w' := by
  have hl : ∀ (d k i : Nat) (n : Int), 401 - i = d → d < k → i ≤ l.length → (i : Int) ≤ n → n ≤ 400 → ∃ b, tidepolelaw10_few.l0 k n l (l.length : Int) (i : Int) = some b ∧ (b = true → l.length ≤ 400) := by
    intro d
    induction d with
    | zero => intro k i n hd hk hi h0 h1; omega
    | succ d ih =>
      intro k i n hd hk hi h0 h1
      obtain ⟨k, rfl⟩ : ∃ m, k = m + 1 := ⟨k - 1, by omega⟩
      simp only [tidepolelaw10_few.l0]
      by_cases hlt : i < l.length
      · rw [if_pos (by omega), if_pos (by omega), if_pos (by omega), rdSp_at hlt, wrap_succ (by omega)]
        generalize l[i] = s
        have hrec : ∀ m : Int, n + 1 ≤ m → ∃ b, (if m > 400 then some false else tidepolelaw10_few.l0 k m l (l.length : Int) ((i + 1 : Nat) : Int)) = some b ∧ (b = true → l.length ≤ 400) := by
          intro m hm
          by_cases c : m > 400
          · rw [if_pos c]; exact ⟨false, rfl, fun h => by cases h⟩
          · rw [if_neg c]; exact ih k (i + 1) m (by omega) (by omega) (by omega) (by omega) (by omega)
        by_cases c : s.f1 > 0
        · rw [if_pos c]
          have hmn : 0 ≤ mn s.f1 5000 ∧ mn s.f1 5000 ≤ 5000 := by unfold mn; omega
          have ht := Int.tdiv_eq_ediv_of_nonneg (b := 10) hmn.1
          rw [ht]
          refine hrec _ ?_
          rw [wrap_id (x := mn s.f1 5000 / 10) (by omega) (by omega), wrap_id (x := 1 + mn s.f1 5000 / 10) (by omega) (by omega), wrap_id (x := n + (1 + mn s.f1 5000 / 10)) (by omega) (by omega), wrap_id (by omega) (by omega)]
          omega
        · rw [if_neg c]
          refine hrec _ ?_
          rw [wrap_id (by omega) (by omega)]; omega
      · rw [if_neg (by omega)]; exact ⟨true, rfl, fun _ => by omega⟩
  obtain ⟨b, h1, h2⟩ := hl 401 402 0 0 (by omega) (by omega) (by omega) (by omega) (by omega)
  refine ⟨b, h2, fun w v hv => ?_⟩
  obtain ⟨A, c, rfl, hc, hr⟩ := hv
  exact (tidepolelaw10_few.calls 402 A c l b w hr hc h1).mono fun e w1 h => ⟨h.1, h.2⟩
end Go.Proofs.Ytfbjjbbhnmoolaa.P
