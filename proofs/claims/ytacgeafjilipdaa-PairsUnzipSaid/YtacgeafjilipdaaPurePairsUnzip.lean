/- PairsUnzip, the pure part. No condition. -/
import Derived.Test.YtacgeafjilipdaaPLPairsUnzip
import Derived.Test.YtacgeafjilipdaaMPure07B
namespace Go.Proofs.Ytacgeafjilipdaa.P
open Go.RowKit Go.Proofs.YtacgeafjilipdaaW.PrintWords Go.Proofs.YtacgeafjilipdaaW.PrintLast Go.Proofs.YtacgeafjilipdaaW.PrintMore
set_option linter.unusedVariables false
set_option linter.unusedSimpArgs false
theorem unzipLaw_l1 (l : List Pr) (hm : l.length ≤ 300) : ∀ (d k i : Nat), l.length - i = d → d < k → i ≤ l.length →
    tidepolelaw07_PairsUnzip.l1 k l (l.map (·.f1)) (l.length : Int) (i : Int) = some true := by
  intro d
  induction d with
  | zero =>
    intro k i hd hk hi
    obtain ⟨k, rfl⟩ : ∃ m, k = m + 1 := ⟨k - 1, by omega⟩
    simp only [tidepolelaw07_PairsUnzip.l1]
    rw [if_neg (by omega)]; rfl
  | succ d ih =>
    intro k i hd hk hi
    obtain ⟨k, rfl⟩ : ∃ m, k = m + 1 := ⟨k - 1, by omega⟩
    have hlt : i < l.length := by omega
    simp only [tidepolelaw07_PairsUnzip.l1, List.length_map]
    rw [if_pos (by omega), if_pos (by omega), if_pos (by omega), if_pos (by omega), rdPr_at hlt, rd_at (by simpa using hlt), if_pos (by simp), wrap_succ (by omega)]
    exact ih k (i + 1) (by omega) (by omega) (by omega)
set_option maxRecDepth 100000 in
theorem unzipLaw_l0 (l : List Pr) (hw : wfPrs l) (hm : l.length ≤ 300) : ∀ (d k i : Nat), l.length - i = d → d + 5130000 < k → i ≤ l.length →
    tidepolelaw07_PairsUnzip.l0 k l ((l.take i).map (·.f0)) l (l.length : Int) (i : Int) = some true := by
  intro d
  induction d with
  | zero =>
    intro k i hd hk hi
    obtain ⟨k, rfl⟩ : ∃ m, k = m + 1 := ⟨k - 1, by omega⟩
    simp only [tidepolelaw07_PairsUnzip.l0]
    rw [if_neg (by omega), List.take_of_length_le (by omega), unzip_eq l hw (by omega) k (by omega), refRising_eq _ (by simp; omega) k (by simp; omega)]
    simp only [Option.bind_some, unzipRes]
    have hln : ¬ ((l.map (·.f0)).length : Int) > 4096 := by simp; omega
    by_cases hr : rises (-1048576) (l.map (·.f0)) = true
    · have hinv := spInv_take _ hr
      have hln2 : (spansOf (l.map (·.f0))).length ≤ 300 := by have := hinv.len; simp at this; omega
      have hres : fromRes (l.map (·.f0)) = (spansOf (l.map (·.f0)), 0) := by unfold fromRes; rw [if_pos hr, if_neg hln, if_neg (by omega)]
      rw [hres, if_pos hr]
      simp only [if_true, List.length_map]
      have hck := spansOf_check hr (by simp; omega) (by omega)
      rw [lawRef_eq _ (by omega) k (by omega), Option.bind_some, refPlaces_eq _ hck k (by omega), Option.bind_some, refSame_eq _ _ (by have := places_len hck; omega) k (by have := places_len hck; omega), Option.bind_some, hinv.pl]
      obtain ⟨k, rfl⟩ : ∃ m, k = m + 1 := ⟨k - 1, by omega⟩
      simp only [tidepolelaw07_PairsUnzip.j1, decide_true, Bool.not_true]
      rw [if_neg (by decide)]
      have := unzipLaw_l1 l hm l.length k 0 (by omega) (by omega) (by omega)
      simpa using this
    · have hres : fromRes (l.map (·.f0)) = ([], 11) := by unfold fromRes; rw [if_neg hr]
      rw [hres, if_neg hr]
      rfl
  | succ d ih =>
    intro k i hd hk hi
    obtain ⟨k, rfl⟩ : ∃ m, k = m + 1 := ⟨k - 1, by omega⟩
    have hlt : i < l.length := by omega
    have hl1 : ((l.take i).map (·.f0)).length = i := by simp; omega
    simp only [tidepolelaw07_PairsUnzip.l0]
    rw [if_pos (by omega), if_pos (by omega), if_pos (by omega), hl1, rdPr_at hlt, if_pos (by omega), wrap_succ (by omega), ← ih k (i + 1) (by omega) (by omega) (by omega), take_at hlt]
    simp only [List.map_append, List.map_cons, List.map_nil]
end Go.Proofs.Ytacgeafjilipdaa.P
namespace Go.Proofs.Ytacgeafjilipdaa.Pure
open Go.RowKit Go.Proofs.Ytacgeafjilipdaa.P Go.Proofs.YtacgeafjilipdaaW.PrintWords
set_option maxRecDepth 100000 in
theorem PairsUnzip : ∀ (x0 : List (S26)), (fun xs_ => ∀ x_ ∈ xs_, wf26 x_) x0 → ∃ k, tidepolelaw07_PairsUnzip.f k x0 = some true := by
  intro l hw
  have hw := wfPrs_of hw
  unfold tidepolelaw07_PairsUnzip.f
  by_cases hg : (l.length : Int) > 300
  · exact ⟨0, by rw [if_pos hg]; rfl⟩
  refine ⟨l.length + 5130001, ?_⟩
  rw [if_neg hg]
  exact unzipLaw_l0 l hw (by omega) l.length _ 0 (by omega) (by omega) (by omega)
end Go.Proofs.Ytacgeafjilipdaa.Pure
