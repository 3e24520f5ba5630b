/- PairsZip, the pure part. No condition. -/
import Derived.Test.YtacgeafjilipdaaPLPairsZip
import Derived.Test.YtacgeafjilipdaaMPure07B
namespace Go.Proofs.Ytacgeafjilipdaa.P
open Go.RowKit Go.Proofs.YtacgeafjilipdaaW.PrintWords Go.Proofs.YtacgeafjilipdaaW.PrintLast Go.Proofs.YtacgeafjilipdaaW.PrintMore
set_option linter.unusedVariables false
set_option linter.unusedSimpArgs false
/-- The guard of the statements ends, and lets only short lists in. -/
theorem small07_loop (l : List Sp) (hw : wfSps l) : ∀ (d k i : Nat) (n : Int), 401 - i = d → d < k → i ≤ l.length → (i : Int) ≤ n → n ≤ 400 →
    ∃ b, tidepolelaw07_small.l0 k n l (l.length : Int) (i : Int) = some b ∧ (b = true → l.length ≤ 400) := by
  intro d
  induction d with
  | zero => intro k i n hd hk hi h0 h1; omega
  | succ d ih =>
    intro k i n hd hk hi h0 h1
    obtain ⟨k, rfl⟩ : ∃ m, k = m + 1 := ⟨k - 1, by omega⟩
    simp only [tidepolelaw07_small.l0]
    by_cases hlt : i < l.length
    · rw [if_pos (by omega), if_pos (by omega), if_pos (by omega), rdSp_at hlt, wrap_succ (by omega)]
      generalize l[i] = s
      have hrec : ∀ m : Int, n + 1 ≤ m → ∃ b, (if m > 400 then some false else tidepolelaw07_small.l0 k m l (l.length : Int) ((i + 1 : Nat) : Int)) = some b ∧ (b = true → l.length ≤ 400) := by
        intro m hm
        by_cases c : m > 400
        · rw [if_pos c]; exact ⟨false, rfl, fun h => by cases h⟩
        · rw [if_neg c]; exact ih k (i + 1) m (by omega) (by omega) (by omega) (by omega) (by omega)
      by_cases c : s.f1 > 0
      · rw [if_pos c]
        have hmn : 0 ≤ mn s.f1 5000 ∧ mn s.f1 5000 ≤ 5000 := by unfold mn; omega
        have ht := Int.tdiv_eq_ediv_of_nonneg (b := 10) hmn.1
        rw [ht]
        refine hrec _ ?_
        rw [wrap_id (x := mn s.f1 5000 / 10) (by omega) (by omega), wrap_id (x := 1 + mn s.f1 5000 / 10) (by omega) (by omega), wrap_id (x := n + (1 + mn s.f1 5000 / 10)) (by omega) (by omega), wrap_id (by omega) (by omega)]
        omega
      · rw [if_neg c]
        refine hrec _ ?_
        rw [wrap_id (by omega) (by omega)]; omega
    · rw [if_neg (by omega)]; exact ⟨true, rfl, fun _ => by omega⟩
theorem small07_eq (l : List Sp) (hw : wfSps l) : ∃ b, (∀ k, 402 < k → tidepolelaw07_small.f k l = some b) ∧ (b = true → l.length ≤ 400) := by
  obtain ⟨b, h1, h2⟩ := small07_loop l hw 401 402 0 0 (by omega) (by omega) (by omega) (by omega) (by omega)
  refine ⟨b, fun k hk => ?_, h2⟩
  obtain ⟨b', h1', h2'⟩ := small07_loop l hw 401 k 0 0 (by omega) (by omega) (by omega) (by omega) (by omega)
  exact at_rounds (fun k => tidepolelaw07_small.mono l k) (by omega) h1

theorem zip_left : ∀ (ps v : List Int), ps.length = v.length → (List.zipWith (fun p x => (⟨p, x⟩ : Pr)) ps v).map (·.f0) = ps
  | [], [], _ => rfl
  | p :: ps, x :: v, h => by simp only [List.zipWith_cons_cons, List.map_cons, zip_left ps v (by simpa using h)]
  | [], _ :: _, h => by simp at h
  | _ :: _, [], h => by simp at h
theorem zip_right : ∀ (ps v : List Int), ps.length = v.length → (List.zipWith (fun p x => (⟨p, x⟩ : Pr)) ps v).map (·.f1) = v
  | [], [], _ => rfl
  | p :: ps, x :: v, h => by simp only [List.zipWith_cons_cons, List.map_cons, zip_right ps v (by simpa using h)]
  | [], _ :: _, h => by simp at h
  | _ :: _, [], h => by simp at h
theorem zipLaw_l0 (v : List Int) (ps : List Int) (hl : ps.length = v.length) (hm : ps.length ≤ 300) (hps : ∀ x ∈ ps, i64 x) (hv : ∀ x ∈ v, i64 x) (hr : rises (-1048576) ps = true) : ∀ (d k i : Nat), ps.length - i = d → d + 6000 < k → i ≤ ps.length →
    tidepolelaw07_PairsZip.l0 k v (List.zipWith (fun p x => (⟨p, x⟩ : Pr)) ps v) ps (ps.length : Int) (i : Int) = some true := by
  have hzl : (List.zipWith (fun p x => (⟨p, x⟩ : Pr)) ps v).length = ps.length := by simp; omega
  have hz0 : (List.zipWith (fun p x => (⟨p, x⟩ : Pr)) ps v).map (·.f0) = ps := by
    exact zip_left ps v (by omega)
  have hz1 : (List.zipWith (fun p x => (⟨p, x⟩ : Pr)) ps v).map (·.f1) = v := by
    exact zip_right ps v (by omega)
  have hzw : wfPrs (List.zipWith (fun p x => (⟨p, x⟩ : Pr)) ps v) := by
    intro s hs
    exact ⟨hps _ (by rw [← hz0]; exact List.mem_map_of_mem hs), hv _ (by rw [← hz1]; exact List.mem_map_of_mem hs)⟩
  intro d
  induction d with
  | zero =>
    intro k i hd hk hi
    obtain ⟨k, rfl⟩ : ∃ m, k = m + 1 := ⟨k - 1, by omega⟩
    simp only [tidepolelaw07_PairsZip.l0]
    rw [if_neg (by omega), unzip_eq _ hzw (by omega) k (by omega)]
    have hinv := spInv_take _ hr
    have hln2 : (spansOf ps).length ≤ 300 := by have := hinv.len; omega
    have hres : fromRes ps = (spansOf ps, 0) := by unfold fromRes; rw [if_pos hr, if_neg (by omega), if_neg (by omega)]
    have hck := spansOf_check hr (by omega) (by omega)
    have hwf := spansOf_wf hr (by omega)
    simp only [Option.bind_some, unzipRes, hz0, hz1, hres, if_true]
    rw [zip_eq _ _ hwf k (by omega), canonical_eq _ hwf (by omega) k (by omega)]
    simp only [Option.bind_some, zipRes, hck, if_true, hinv.pl, hl, hinv.can, decide_true, Bool.and_true]
    rw [equalPr_eq _ _ (by omega) k (by omega)]
    simp
    rfl
  | succ d ih =>
    intro k i hd hk hi
    obtain ⟨k, rfl⟩ : ∃ m, k = m + 1 := ⟨k - 1, by omega⟩
    have hlt : i < ps.length := by omega
    have hlv : i < v.length := by omega
    have hg : (List.zipWith (fun p x => (⟨p, x⟩ : Pr)) ps v)[i]'(by omega) = ⟨ps[i], v[i]⟩ := by simp
    simp only [tidepolelaw07_PairsZip.l0]
    rw [if_pos (by omega), if_pos (by omega), if_pos (by omega), if_pos (by omega), rdPr_at (by omega), hg, rd_at hlt, rd_at hlv]
    simp only [if_true]
    rw [if_pos (by omega), wrap_succ (by omega)]
    exact ih k (i + 1) (by omega) (by omega) (by omega)

end Go.Proofs.Ytacgeafjilipdaa.P
namespace Go.Proofs.Ytacgeafjilipdaa.Pure
open Go.RowKit Go.Proofs.Ytacgeafjilipdaa.P Go.Proofs.YtacgeafjilipdaaW.PrintWords
set_option maxRecDepth 100000 in
theorem PairsZip : ∀ (x0 : List (S144)) (x1 : List Int), (fun xs_ => ∀ x_ ∈ xs_, wf144 x_) x0 → (fun xs_ => ∀ x_ ∈ xs_, (inI .i64) x_) x1 → ∃ k, tidepolelaw07_PairsZip.f k x0 x1 = some true := by
  intro l v hw hv
  have hw := wfSps_of hw
  have hv := i64_all hv
  obtain ⟨b, hb, hs⟩ := small07_eq l hw
  refine ⟨5200000, ?_⟩
  unfold tidepolelaw07_PairsZip.f
  generalize hK : (5200000 : Nat) = K
  rw [hb K (by omega), Option.bind_some]
  have haw : ∀ k, tidepolelaw07_PairsZip.j0 (k + 1) l v true = some true := fun k => by simp only [tidepolelaw07_PairsZip.j0]; rfl
  obtain ⟨K, rfl⟩ : ∃ m, K = m + 2 := ⟨K - 2, by omega⟩
  cases b with
  | false => rw [if_neg (by decide)]; exact haw _
  | true =>
    rw [if_pos rfl]
    by_cases hg : (v.length : Int) > 300
    · rw [decide_eq_true hg]; exact haw _
    rw [decide_eq_false hg]
    have hl := hs rfl
    rw [tidepolelaw07_PairsZip.j0, if_neg (by decide), zip_eq l v hw _ (by omega), lawRef_eq l (by omega) _ (by omega)]
    simp only [Option.bind_some]
    rw [refCheck_eq l hw _ (by omega)]
    simp only [Option.bind_some, zipRes]
    by_cases hc : spCheck l = 0
    · rw [if_pos hc, refPlaces_eq l hc _ (by omega)]
      simp only [Option.bind_some]
      have hpl := places_len hc
      by_cases hn : (plN 0 l).length = v.length
      · rw [if_pos (by omega)]
        simp only [hc, hn, if_true]
        have hz : (List.zipWith (fun p x => (⟨p, x⟩ : Pr)) (plN 0 l) v).length = (plN 0 l).length := by simp; omega
        rw [tidepolelaw07_PairsZip.j1, hz, hn]
        rw [if_neg (by simp)]
        have hr := rises_of_right hc
        have h64 : ∀ x ∈ plN 0 l, i64 x := fun x hx => by have := rises_i64 hr x hx; exact ⟨by omega, by omega⟩
        have := zipLaw_l0 v (plN 0 l) hn (by omega) h64 hv hr (plN 0 l).length K 0 (by omega) (by omega) (by omega)
        rw [hn] at this
        exact this
      · rw [if_neg (by omega)]
        simp only [hc, hn, if_true, if_false]
        rfl
    · rw [if_neg hc]
      simp only [hc, if_false, if_true]
      rfl
end Go.Proofs.Ytacgeafjilipdaa.Pure
