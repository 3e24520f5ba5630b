/- What the functions of layer 7 that reckon with numbers come to, in closed form: program and reference. -/
import Derived.Test.YtacgeafjilipdaaMPlain
import Derived.Test.YtacgeafjilipdaaPPairs
import Derived.Test.YtacgeafjilipdaaPR07
namespace Go.Proofs.Ytacgeafjilipdaa.P
open Go.RowKit Go.Proofs.YtacgeafjilipdaaW.PrintWords Go.Proofs.YtacgeafjilipdaaW.PrintLast Go.Proofs.YtacgeafjilipdaaW.PrintMore
set_option linter.unusedVariables false
set_option linter.unusedSimpArgs false

/-- The sums of the first, the first two, .. behind 'at'; none: one is beyond 64 bits. -/
def sumsFrom : Int → List Int → Option (List Int)
  | _, [] => some []
  | a, d :: r => if i64 (a + d) then (sumsFrom (a + d) r).map (fun o => (a + d) :: o) else none
/-- The differences, the first one to 'last'. -/
def diffsFrom : Int → List Int → Option (List Int)
  | _, [] => some []
  | a, v :: r => if i64 (v - a) then (diffsFrom v r).map (fun o => (v - a) :: o) else none

theorem add_flag {a d : Int} (ha : i64 a) (hd : i64 d) : ((decide ((wrap64 (a + d)) > a)) == (decide (d > 0))) = decide (i64 (a + d)) := by
  unfold i64 at *
  by_cases h : -9223372036854775808 ≤ a + d ∧ a + d ≤ 9223372036854775807
  · rw [decide_eq_true h, wrap_id h.1 h.2]
    by_cases hp : d > 0
    · have : a + d > a := by omega
      simp [hp, this]
    · have : ¬ a + d > a := by omega
      simp [hp, this]
  · rw [decide_eq_false h]
    by_cases hp : d > 0
    · have : ¬ wrap64 (a + d) > a := by unfold wrap64; omega
      simp [hp, this]
    · have : wrap64 (a + d) > a := by unfold wrap64; omega
      simp [hp, this]
theorem less_flag {a d : Int} (ha : i64 a) (hd : i64 d) : ((decide ((wrap64 (a - d)) < a)) == (decide (d > 0))) = decide (i64 (a - d)) := by
  unfold i64 at *
  by_cases h : -9223372036854775808 ≤ a - d ∧ a - d ≤ 9223372036854775807
  · rw [decide_eq_true h, wrap_id h.1 h.2]
    by_cases hp : d > 0
    · have : a - d < a := by omega
      simp [hp, this]
    · have : ¬ a - d < a := by omega
      simp [hp, this]
  · rw [decide_eq_false h]
    by_cases hp : d > 0
    · have : ¬ wrap64 (a - d) < a := by unfold wrap64; omega
      simp [hp, this]
    · have : wrap64 (a - d) < a := by unfold wrap64; omega
      simp [hp, this]

theorem absolute_loop (l : List Int) (hw : ∀ x ∈ l, i64 x) (hl : l.length < 17592186044416) : ∀ (d k i : Nat) (acc : List Int) (a : Int), l.length - i = d → d < k → i ≤ l.length → acc.length = i → i64 a →
    pairs_Absolute.l0 k acc a l (l.length : Int) (i : Int) = some (match sumsFrom a (l.drop i) with | some o => (acc ++ o, 0) | none => ([], 28)) := by
  intro d
  induction d with
  | zero =>
    intro k i acc a hd hk hi ha hwa
    obtain ⟨k, rfl⟩ : ∃ m, k = m + 1 := ⟨k - 1, by omega⟩
    simp only [pairs_Absolute.l0]
    rw [if_neg (by omega), drop_end (by omega)]
    simp [sumsFrom]
  | succ d ih =>
    intro k i acc a hd hk hi ha hwa
    obtain ⟨k, rfl⟩ : ∃ m, k = m + 1 := ⟨k - 1, by omega⟩
    have hlt : i < l.length := by omega
    have hwd : i64 l[i] := hw _ (List.getElem_mem hlt)
    simp only [pairs_Absolute.l0]
    rw [if_pos (by omega), if_pos (by omega), if_pos (by omega), rd_at hlt, drop_at hlt]
    simp only [pairs_add.f, Option.bind_some]
    rw [add_flag hwa hwd]
    by_cases hs : i64 (a + l[i])
    · rw [if_pos (by simpa using hs), if_pos (by omega), wrap_of_i64 hs, wrap_succ (by omega), ih k (i + 1) _ _ (by omega) (by omega) (by omega) (by simp [ha]) hs]
      simp only [sumsFrom, if_pos hs]
      cases sumsFrom (a + l[i]) (l.drop (i + 1)) <;> simp
    · rw [if_neg (by simpa using hs)]
      simp only [sumsFrom, if_neg hs]

theorem absolute_eq (l : List Int) (hw : ∀ x ∈ l, i64 x) (hl : l.length < 17592186044416) (k : Nat) (hk : l.length < k) :
    pairs_Absolute.f k l = some (match sumsFrom 0 l with | some o => (o, 0) | none => ([], 28)) := by
  unfold pairs_Absolute.f
  have h := absolute_loop l hw hl l.length k 0 [] 0 (by omega) hk (by omega) rfl (by unfold i64; omega)
  rw [List.drop_zero] at h
  exact h

theorem deltas_loop (l : List Int) (hw : ∀ x ∈ l, i64 x) (hl : l.length < 17592186044416) : ∀ (d k i : Nat) (acc : List Int) (a : Int), l.length - i = d → d < k → i ≤ l.length → acc.length = i → i64 a →
    pairs_Deltas.l0 k acc a l (l.length : Int) (i : Int) = some (match diffsFrom a (l.drop i) with | some o => (acc ++ o, 0) | none => ([], 28)) := by
  intro d
  induction d with
  | zero =>
    intro k i acc a hd hk hi ha hwa
    obtain ⟨k, rfl⟩ : ∃ m, k = m + 1 := ⟨k - 1, by omega⟩
    simp only [pairs_Deltas.l0]
    rw [if_neg (by omega), drop_end (by omega)]
    simp [diffsFrom]
  | succ d ih =>
    intro k i acc a hd hk hi ha hwa
    obtain ⟨k, rfl⟩ : ∃ m, k = m + 1 := ⟨k - 1, by omega⟩
    have hlt : i < l.length := by omega
    have hwd : i64 l[i] := hw _ (List.getElem_mem hlt)
    simp only [pairs_Deltas.l0]
    rw [if_pos (by omega), if_pos (by omega), if_pos (by omega), rd_at hlt, drop_at hlt]
    simp only [pairs_less.f, Option.bind_some]
    rw [less_flag hwd hwa]
    by_cases hs : i64 (l[i] - a)
    · rw [if_pos (by simpa using hs), if_pos (by omega), wrap_of_i64 hs, wrap_succ (by omega), ih k (i + 1) _ _ (by omega) (by omega) (by omega) (by simp [ha]) hwd]
      simp only [diffsFrom, if_pos hs]
      cases diffsFrom l[i] (l.drop (i + 1)) <;> simp
    · rw [if_neg (by simpa using hs)]
      simp only [diffsFrom, if_neg hs]

theorem deltas_eq (l : List Int) (hw : ∀ x ∈ l, i64 x) (hl : l.length < 17592186044416) (k : Nat) (hk : l.length < k) :
    pairs_Deltas.f k l = some (match diffsFrom 0 l with | some o => (o, 0) | none => ([], 28)) := by
  unfold pairs_Deltas.f
  have h := deltas_loop l hw hl l.length k 0 [] 0 (by omega) hk (by omega) rfl (by unfold i64; omega)
  rw [List.drop_zero] at h
  exact h

theorem sumsFrom_length : ∀ (l : List Int) (a : Int) (o : List Int), sumsFrom a l = some o → o.length = l.length
  | [], a, o, h => by simp [sumsFrom] at h; subst h; rfl
  | d :: r, a, o, h => by
    simp only [sumsFrom] at h
    split at h
    · cases h2 : sumsFrom (a + d) r with
      | none => rw [h2] at h; cases h
      | some o2 => rw [h2] at h; simp at h; subst h; simp [sumsFrom_length r _ _ h2]
    · cases h
theorem sumsFrom_i64 : ∀ (l : List Int) (a : Int) (o : List Int), sumsFrom a l = some o → ∀ x ∈ o, i64 x
  | [], a, o, h => by simp [sumsFrom] at h; subst h; simp
  | d :: r, a, o, h => by
    simp only [sumsFrom] at h
    split at h
    · rename_i hs
      cases h2 : sumsFrom (a + d) r with
      | none => rw [h2] at h; cases h
      | some o2 =>
        rw [h2] at h; simp at h; subst h
        intro x hx
        rcases List.mem_cons.1 hx with rfl | hx
        · exact hs
        · exact sumsFrom_i64 r _ _ h2 x hx
    · cases h
theorem diffs_sums : ∀ (l : List Int) (a : Int) (o : List Int), (∀ x ∈ l, i64 x) → sumsFrom a l = some o → diffsFrom a o = some l
  | [], a, o, _, h => by simp [sumsFrom] at h; subst h; rfl
  | d :: r, a, o, hw, h => by
    simp only [sumsFrom] at h
    split at h
    · cases h2 : sumsFrom (a + d) r with
      | none => rw [h2] at h; cases h
      | some o2 =>
        rw [h2] at h; simp at h; subst h
        have hd : a + d - a = d := by omega
        simp only [diffsFrom]
        rw [hd, if_pos (hw d (List.mem_cons_self ..)), diffs_sums r (a + d) o2 (fun x hx => hw x (List.mem_cons_of_mem _ hx)) h2]
        rfl
    · cases h

theorem sum_eq (l : List Int) (hw : ∀ x ∈ l, i64 x) (hl : l.length < 17592186044416) (k : Nat) (hk : l.length < k) :
    pairs_Sum.f k l = some (match sumsFrom 0 l with | some o => (o.getLastD 0, 0) | none => (0, 28)) := by
  unfold pairs_Sum.f
  rw [absolute_eq l hw hl k hk]
  simp only [Option.bind_some]
  cases h : sumsFrom 0 l with
  | none => simp
  | some o =>
    have hlen := sumsFrom_length _ _ _ h
    simp only [if_true]
    by_cases h0 : o = []
    · subst h0; simp
    · have hp : 0 < o.length := List.length_pos_iff.2 h0
      rw [if_neg (by omega), wrap_id (by omega) (by omega), if_pos (by omega), if_pos (by omega)]
      have : ((o.length : Int) - 1) = ((o.length - 1 : Nat) : Int) := by omega
      rw [this, rd_at (by omega)]
      simp [List.getLastD, List.getLast?_eq_getElem?, hp]
      cases o with
      | nil => exact absurd rfl h0
      | cons x r => simp [List.getLast_eq_getElem]

/-! ### the reference -/
theorem fits_eq {a d : Int} (ha : i64 a) (hd : i64 d) : tidepoleref07_Fits.f a d = some (decide (i64 (a + d))) := by
  unfold tidepoleref07_Fits.f
  unfold i64 at ha hd
  by_cases h : d ≥ 0
  · rw [if_pos h, wrap_id (by omega) (by omega)]
    congr 1
    rw [decide_eq_decide]; unfold i64; omega
  · rw [if_neg h, wrap_id (by omega) (by omega)]
    congr 1
    rw [decide_eq_decide]; unfold i64; omega
theorem refAbsolute_loop (l : List Int) (hw : ∀ x ∈ l, i64 x) (hl : l.length < 17592186044416) : ∀ (d k i : Nat) (acc : List Int) (a : Int), l.length - i = d → d < k → i ≤ l.length → acc.length = i → i64 a →
    tidepoleref07_Absolute.l0 k l acc a (i : Int) = some (match sumsFrom a (l.drop i) with | some o => (acc ++ o, 0) | none => ([], 1)) := by
  intro d
  induction d with
  | zero =>
    intro k i acc a hd hk hi ha hwa
    obtain ⟨k, rfl⟩ : ∃ m, k = m + 1 := ⟨k - 1, by omega⟩
    simp only [tidepoleref07_Absolute.l0]
    rw [if_neg (by omega), drop_end (by omega)]
    simp [sumsFrom]
  | succ d ih =>
    intro k i acc a hd hk hi ha hwa
    obtain ⟨k, rfl⟩ : ∃ m, k = m + 1 := ⟨k - 1, by omega⟩
    have hlt : i < l.length := by omega
    have hwd : i64 l[i] := hw _ (List.getElem_mem hlt)
    simp only [tidepoleref07_Absolute.l0]
    rw [if_pos (by omega), if_pos (by omega), rd_at hlt, drop_at hlt, fits_eq hwa hwd]
    simp only [Option.bind_some]
    by_cases hs : i64 (a + l[i])
    · rw [if_pos (by simpa using hs), if_pos (by omega), wrap_of_i64 hs, wrap_succ (by omega), ih k (i + 1) _ _ (by omega) (by omega) (by omega) (by simp [ha]) hs]
      simp only [sumsFrom, if_pos hs]
      cases sumsFrom (a + l[i]) (l.drop (i + 1)) <;> simp
    · rw [if_neg (by simpa using hs)]
      simp only [sumsFrom, if_neg hs]
theorem refAbsolute_eq (l : List Int) (hw : ∀ x ∈ l, i64 x) (hl : l.length < 17592186044416) (k : Nat) (hk : l.length < k) :
    tidepoleref07_Absolute.f k l = some (match sumsFrom 0 l with | some o => (o, 0) | none => ([], 1)) := by
  unfold tidepoleref07_Absolute.f
  have h := refAbsolute_loop l hw hl l.length k 0 [] 0 (by omega) hk (by omega) rfl (by unfold i64; omega)
  rw [List.drop_zero] at h
  exact h
theorem refDeltas_loop (l : List Int) (hw : ∀ x ∈ l, i64 x) (hl : l.length < 17592186044416) : ∀ (d k i : Nat) (acc : List Int) (a : Int), l.length - i = d → d < k → i ≤ l.length → acc.length = i → i64 a →
    tidepoleref07_Deltas.l0 k l acc a (i : Int) = some (match diffsFrom a (l.drop i) with | some o => (acc ++ o, 0) | none => ([], 1)) := by
  intro d
  induction d with
  | zero =>
    intro k i acc a hd hk hi ha hwa
    obtain ⟨k, rfl⟩ : ∃ m, k = m + 1 := ⟨k - 1, by omega⟩
    simp only [tidepoleref07_Deltas.l0]
    rw [if_neg (by omega), drop_end (by omega)]
    simp [diffsFrom]
  | succ d ih =>
    intro k i acc a hd hk hi ha hwa
    obtain ⟨k, rfl⟩ : ∃ m, k = m + 1 := ⟨k - 1, by omega⟩
    have hlt : i < l.length := by omega
    have hwd : i64 l[i] := hw _ (List.getElem_mem hlt)
    simp only [tidepoleref07_Deltas.l0]
    rw [if_pos (by omega), if_pos (by omega), rd_at hlt, drop_at hlt]
    have hgo : i64 (l[i] - a) → tidepoleref07_Deltas.l0 k l (acc ++ [wrap64 (l[i] - a)]) l[i] (wrap64 ((i : Int) + 1)) = some (match diffsFrom a (l[i] :: l.drop (i + 1)) with | some o => (acc ++ o, 0) | none => ([], 1)) := by
      intro hs
      rw [wrap_of_i64 hs, wrap_succ (by omega), ih k (i + 1) _ _ (by omega) (by omega) (by omega) (by simp [ha]) hwd]
      simp only [diffsFrom, if_pos hs]
      cases diffsFrom l[i] (l.drop (i + 1)) <;> simp
    have hno : ¬ i64 (l[i] - a) → some (([] : List Int), (1 : Int)) = some (match diffsFrom a (l[i] :: l.drop (i + 1)) with | some o => (acc ++ o, 0) | none => ([], 1)) := by
      intro hs
      simp only [diffsFrom, if_neg hs]
    unfold i64 at hwa hwd hgo hno
    by_cases h0 : a ≥ 0
    · rw [if_pos h0, wrap_id (x := -9223372036854775808 + a) (by omega) (by omega)]
      by_cases h1 : l[i] < -9223372036854775808 + a
      · rw [if_pos h1]; exact hno (by omega)
      · rw [if_neg h1, if_neg (by omega), if_pos (by omega)]; exact hgo (by omega)
    · rw [if_neg h0, if_pos (by omega), wrap_id (x := 9223372036854775807 + a) (by omega) (by omega)]
      by_cases h1 : l[i] > 9223372036854775807 + a
      · rw [if_pos h1]; exact hno (by omega)
      · rw [if_neg h1, if_pos (by omega)]; exact hgo (by omega)
theorem refDeltas_eq (l : List Int) (hw : ∀ x ∈ l, i64 x) (hl : l.length < 17592186044416) (k : Nat) (hk : l.length < k) :
    tidepoleref07_Deltas.f k l = some (match diffsFrom 0 l with | some o => (o, 0) | none => ([], 1)) := by
  unfold tidepoleref07_Deltas.f
  have h := refDeltas_loop l hw hl l.length k 0 [] 0 (by omega) hk (by omega) rfl (by unfold i64; omega)
  rw [List.drop_zero] at h
  exact h

end Go.Proofs.Ytacgeafjilipdaa.P
