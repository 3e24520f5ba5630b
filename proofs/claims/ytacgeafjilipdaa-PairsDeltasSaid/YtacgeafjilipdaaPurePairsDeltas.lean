/- PairsDeltas, the pure part: sums and differences of any numbers are those of the document, or refused; the one undoes the other. No condition. -/
import Derived.Test.YtacgeafjilipdaaPLPairsDeltas
import Derived.Test.YtacgeafjilipdaaMPure07
import Derived.Test.YtacgeafjilipdaaPH07
namespace Go.Proofs.Ytacgeafjilipdaa.P
open Go.RowKit Go.Proofs.YtacgeafjilipdaaW.PrintWords Go.Proofs.YtacgeafjilipdaaW.PrintLast Go.Proofs.YtacgeafjilipdaaW.PrintMore
set_option linter.unusedVariables false
set_option linter.unusedSimpArgs false
theorem same07_loop (a b : List Int) (hl : a.length = b.length) (hm : a.length < 17592186044416) : ∀ (d k i : Nat), a.length - i = d → d < k → i ≤ a.length →
    tidepolelaw07_same.l0 k a b (a.length : Int) (i : Int) = some (decide (a.drop i = b.drop i)) := by
  intro d
  induction d with
  | zero =>
    intro k i hd hk hi
    obtain ⟨k, rfl⟩ : ∃ m, k = m + 1 := ⟨k - 1, by omega⟩
    simp only [tidepolelaw07_same.l0]
    rw [if_neg (by omega), drop_end (by omega), drop_end (by omega)]; rfl
  | succ d ih =>
    intro k i hd hk hi
    obtain ⟨k, rfl⟩ : ∃ m, k = m + 1 := ⟨k - 1, by omega⟩
    have h1 : i < a.length := by omega
    have h2 : i < b.length := by omega
    simp only [tidepolelaw07_same.l0]
    rw [if_pos (by omega), if_pos (by omega), if_pos (by omega), if_pos (by omega), rd_at h1, rd_at h2, drop_at h1, drop_at h2]
    by_cases he : a[i] = b[i]
    · rw [if_pos he, wrap_succ (by omega), ih k (i + 1) (by omega) (by omega) (by omega)]
      congr 1; rw [decide_eq_decide, List.cons_eq_cons]; exact ⟨fun h => ⟨he, h⟩, fun h => h.2⟩
    · rw [if_neg he, decide_eq_false (fun h => he (List.cons_eq_cons.1 h).1)]
theorem same07_eq (a b : List Int) (hm : a.length < 17592186044416) (k : Nat) (hk : a.length < k) : tidepolelaw07_same.f k a b = some (decide (a = b)) := by
  unfold tidepolelaw07_same.f
  by_cases h : a.length = b.length
  · rw [if_pos (by omega)]
    have := same07_loop a b h hm a.length k 0 (by omega) hk (by omega)
    simpa using this
  · rw [if_neg (by omega)]
    rw [decide_eq_false (fun e => h (by rw [e]))]
theorem diffsFrom_length : ∀ (l : List Int) (a : Int) (o : List Int), diffsFrom a l = some o → o.length = l.length
  | [], a, o, h => by simp [diffsFrom] at h; subst h; rfl
  | d :: r, a, o, h => by
    simp only [diffsFrom] at h
    split at h
    · cases h2 : diffsFrom d r with
      | none => rw [h2] at h; cases h
      | some o2 => rw [h2] at h; simp at h; subst h; simp [diffsFrom_length r _ _ h2]
    · cases h
end Go.Proofs.Ytacgeafjilipdaa.P
namespace Go.Proofs.Ytacgeafjilipdaa.Pure
open Go.RowKit Go.Proofs.Ytacgeafjilipdaa.P Go.Proofs.YtacgeafjilipdaaW.PrintWords
theorem PairsDeltas : ∀ (x0 : List Int), (fun xs_ => ∀ x_ ∈ xs_, (inI .i64) x_) x0 → ∃ k, tidepolelaw07_PairsDeltas.f k x0 = some true := by
  intro l hw
  have hw := i64_all hw
  unfold tidepolelaw07_PairsDeltas.f
  by_cases hg : (l.length : Int) > 200
  · exact ⟨0, by rw [if_pos hg]; rfl⟩
  have hl : l.length < 17592186044416 := by omega
  refine ⟨l.length + 3, ?_⟩
  rw [if_neg hg, absolute_eq l hw hl _ (by omega), refAbsolute_eq l hw hl _ (by omega), deltas_eq l hw hl _ (by omega), refDeltas_eq l hw hl _ (by omega), sum_eq l hw hl _ (by omega)]
  simp only [Option.bind_some]
  have hsame : ∀ o : List Int, o.length ≤ l.length → tidepolelaw07_same.f (l.length + 3) o o = some true := fun o ho => by rw [same07_eq o o (by omega) _ (by omega)]; simp
  have hdl : ∀ o, diffsFrom 0 l = some o → o.length ≤ l.length := fun o ho => by rw [diffsFrom_length _ _ _ ho]; exact Nat.le_refl _
  cases hs : sumsFrom 0 l with
  | none =>
    cases hd : diffsFrom 0 l with
    | none =>
      simp [hsame [] (Nat.zero_le _), tidepolelaw07_PairsDeltas.j0, tidepolelaw07_PairsDeltas.j1]
      rfl
    | some o =>
      simp [hsame [] (Nat.zero_le _), hsame o (hdl o hd), tidepolelaw07_PairsDeltas.j0, tidepolelaw07_PairsDeltas.j1]
      rfl
  | some s =>
    have hsl : s.length = l.length := sumsFrom_length _ _ _ hs
    have hback : pairs_Deltas.f (l.length + 1) s = some (l, 0) := by
      rw [deltas_eq s (sumsFrom_i64 _ _ _ hs) (by omega) _ (by omega), diffs_sums l 0 s hw hs]
    have hsame1 : tidepolelaw07_same.f (l.length + 1) l l = some true := by rw [same07_eq l l (by omega) _ (by omega)]; simp
    have hj : tidepolelaw07_PairsDeltas.j0 (l.length + 3) l s s 0 (s.getLastD 0) false = some true := by
      simp only [tidepolelaw07_PairsDeltas.j0]
      rw [if_neg (by decide), if_neg (by decide)]
      simp only [tidepolelaw07_PairsDeltas.j1]
      by_cases h0 : l = []
      · subst h0
        have : s = [] := List.length_eq_zero_iff.1 (by simpa using hsl)
        subst this
        rfl
      · have hp : 0 < l.length := List.length_pos_iff.2 h0
        rw [if_neg (by simp; exact h0), hback]
        simp only [Option.bind_some]
        have e : wrap64 ((s.length : Int) - 1) = ((s.length - 1 : Nat) : Int) := by rw [wrap_id (by omega) (by omega)]; omega
        rw [e, if_pos (by omega), if_pos (by omega), rd_at (by omega), if_pos]
        · simp only [if_true, hsame1]; rfl
        · rw [List.getLastD_eq_getLast?, List.getLast?_eq_getElem?, List.getElem?_eq_getElem (by omega)]; rfl
    cases hd : diffsFrom 0 l with
    | none =>
      simp [hsame s (by omega), hsame [] (Nat.zero_le _)]
      rw [List.getLastD_eq_getLast?] at hj; exact hj
    | some o =>
      simp [hsame s (by omega), hsame o (hdl o hd)]
      rw [List.getLastD_eq_getLast?] at hj; exact hj
end Go.Proofs.Ytacgeafjilipdaa.Pure
