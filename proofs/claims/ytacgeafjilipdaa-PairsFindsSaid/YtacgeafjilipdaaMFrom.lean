/- span.From, span.Canonical, span.Places and the document's Check, Places and Rising, in closed form. -/
import Derived.Test.YtacgeafjilipdaaMSpans
namespace Go.Proofs.Ytacgeafjilipdaa.P
open Go.RowKit Go.Proofs.YtacgeafjilipdaaW.PrintWords Go.Proofs.YtacgeafjilipdaaW.PrintLast Go.Proofs.YtacgeafjilipdaaW.PrintMore
set_option linter.unusedVariables false
set_option linter.unusedSimpArgs false

def fromRes (l : List Int) : List Sp × Int := if rises (-1048576) l = true then (if (l.length : Int) > 4096 then ([], 12) else if ((spansOf l).length : Int) > 1024 then ([], 12) else (spansOf l, 0)) else ([], 11)
theorem rdSp_last (c : List Sp) (s : Sp) (h : c.length < 4611686018427387904) : wrap64 (((c ++ [s]).length : Int) - 1) = (c.length : Int) ∧ rd_T144 (c ++ [s]) (c.length : Int) = s := by
  refine ⟨by simp only [List.length_append, List.length_cons, List.length_nil]; rw [wrap_id (by omega) (by omega)]; omega, ?_⟩
  rw [rdSp_at (by simp)]; simp
theorem from_loop (l : List Int) (hw : ∀ x ∈ l, i64 x) (hm : l.length < 4398046511104) : ∀ (d k i : Nat), l.length - i = d → 2 * d < k → i ≤ l.length → rises (-1048576) (l.take i) = true →
    span_From.l0 k l (foldF (l.take i)).1 (foldF (l.take i)).2 l (l.length : Int) (i : Int) = some (fromRes l) := by
  intro d
  induction d with
  | zero =>
    intro k i hd hk hi hr
    obtain ⟨k, rfl⟩ : ∃ m, k = m + 1 := ⟨k - 1, by omega⟩
    have hil : i = l.length := by omega
    subst hil
    rw [List.take_length] at hr ⊢
    simp only [span_From.l0]
    rw [if_neg (by omega)]
    unfold fromRes
    rw [if_pos hr]
    show _ = some (if (l.length : Int) > 4096 then ([], 12) else if (((foldF l).1).length : Int) > 1024 then ([], 12) else ((foldF l).1, 0))
    split
    · rfl
    · split <;> rfl
  | succ d ih =>
    intro k i hd hk hi hr
    obtain ⟨k, rfl⟩ : ∃ m, k = m + 2 := ⟨k - 2, by omega⟩
    have hlt : i < l.length := by omega
    have hp := hw _ (List.getElem_mem hlt)
    have hinv : SpInv (l.take i) (foldF (l.take i)).1 (foldF (l.take i)).2 := spInv_take _ hr
    have hfail : ¬ (lowB (-1048576) (l.take i) ≤ l[i] ∧ l[i] ≤ 1048576) → some (([] : List Sp), (11 : Int)) = some (fromRes l) := by
      intro hb
      unfold fromRes
      rw [rises_take_false hlt hb]; rfl
    have hgo : (lowB (-1048576) (l.take i) ≤ l[i] ∧ l[i] ≤ 1048576) → span_From.l0 k l (foldF (l.take (i + 1))).1 (foldF (l.take (i + 1))).2 l (l.length : Int) ((i + 1 : Nat) : Int) = some (fromRes l) := by
      intro hb
      refine ih k (i + 1) (by omega) (by omega) (by omega) ?_
      rw [take_at hlt, rises_snoc, hr, decide_eq_true hb]; rfl
    have hsnoc : foldF (l.take (i + 1)) = stepF (foldF (l.take i)) l[i] := by rw [take_at hlt, foldF_snoc]
    rw [hsnoc] at hgo
    clear hsnoc
    have hlen : (l.take i).length = i := by simp; omega
    have hi0 : (l.take i).getLast? = none ↔ i = 0 := by rw [List.getLast?_eq_none_iff]; constructor
                                                        · intro h; rw [h] at hlen; simpa using hlen.symm
                                                        · intro h; subst h; rfl
    simp only [span_From.l0]
    rw [if_pos (by omega), if_pos (by omega), if_pos (by omega), rd_at hlt, in_eq]
    simp only [Option.bind_some]
    generalize l[i] = p at hp hfail hgo
    generalize foldF (l.take i) = g at hinv hgo
    obtain ⟨c, e⟩ := g
    obtain ⟨hpl, hen, hcnt, hcan, hpos, hright, hnil, hlast, hfirst, hcl⟩ := hinv
    simp only at hpl hen hcnt hcan hpos hright hnil hlast hfirst hgo hcl ⊢
    rw [hlen] at hcl
    have hbad : ∀ b, b = true → ¬ (lowB (-1048576) (l.take i) ≤ p ∧ p ≤ 1048576) → span_From.j1 (k + 1) l c e (i : Int) p l (l.length : Int) (i : Int) b = some (fromRes l) := by
      intro b hb h; subst hb
      simp only [span_From.j1]; simp only [if_true]; exact hfail h
    by_cases c1 : -1048576 ≤ p ∧ p ≤ 1048576
    rotate_left
    · rw [decide_eq_false c1, if_neg (by decide)]
      refine hbad true rfl (fun h => c1 ?_)
      cases hl : (l.take i).getLast? with
      | none => rw [lowB_none hl] at h; exact h
      | some q => have := hlast q hl; rw [lowB_some hl] at h; omega
    rw [decide_eq_true c1, if_pos rfl]
    -- the bound that counts
    have hbnd : (¬ (i > 0 ∧ p < e)) → (lowB (-1048576) (l.take i) ≤ p ∧ p ≤ 1048576) := by
      intro h
      cases hl : (l.take i).getLast? with
      | none => rw [lowB_none hl]; exact c1
      | some q =>
        have := hlast q hl
        have : i ≠ 0 := fun h0 => by rw [hi0.2 h0] at hl; cases hl
        rw [lowB_some hl]; omega
    have hne : (i > 0 ∧ p < e) → ¬ (lowB (-1048576) (l.take i) ≤ p ∧ p ≤ 1048576) := by
      rintro ⟨h0, h1⟩ h
      cases hl : (l.take i).getLast? with
      | none => exact absurd (hi0.1 hl) (by omega)
      | some q => have := hlast q hl; rw [lowB_some hl] at h; have := h.1; omega
    have hcn : c = [] ↔ i = 0 := hnil.trans (List.getLast?_eq_none_iff.symm.trans hi0)
    have heb : -1048576 ≤ e ∧ e ≤ 1048577 := by
      cases hl : (l.take i).getLast? with
      | none => have := hfirst (List.getLast?_eq_none_iff.1 hl); omega
      | some q => have := hlast q hl; omega
    have hgood : ¬ (i > 0 ∧ p < e) → span_From.j1 (k + 1) l c e (i : Int) p l (l.length : Int) (i : Int) false = some (fromRes l) := by
      intro hn
      have hgo := hgo (hbnd hn)
      unfold stepF at hgo
      simp only at hgo
      have happ : (some (c ++ [(⟨wrap64 (p - e), 0⟩ : Sp)] : List Sp)).bind (fun y => (if 0 ≤ (wrap64 ((y.length : Int) - 1)) then (if (wrap64 ((y.length : Int) - 1)) < (y.length : Int) then (span_From.l0 k l (y.set ((wrap64 ((y.length : Int) - 1)) : Int).toNat (⟨(rd_T144 y (wrap64 ((y.length : Int) - 1))).f0, wrap64 (((rd_T144 y (wrap64 ((y.length : Int) - 1))).f1) + 1)⟩ : Sp)) (wrap64 (p + 1)) l (l.length : Int) (wrap64 ((i : Int) + 1))) else (none)) else (none))) = span_From.l0 k l (c ++ [⟨p - e, 1⟩]) (p + 1) l (l.length : Int) ((i + 1 : Nat) : Int) := by
        simp only [Option.bind_some]
        obtain ⟨e1, e2⟩ := rdSp_last c ⟨wrap64 (p - e), 0⟩ (by omega)
        rw [e1, e2, if_pos (by omega), if_pos (by simp only [List.length_append, List.length_cons, List.length_nil]; omega)]
        simp only []
        rw [wrap_id (x := p - e) (by omega) (by omega), wrap_id (x := 0 + 1) (by omega) (by omega), wrap_id (x := p + 1) (by omega) (by omega), wrap_succ (by omega)]
        congr 1
        simp
      simp only [span_From.j1]
      rw [if_neg (by decide)]
      by_cases h0 : i = 0
      · rw [if_pos (by omega), if_pos (by omega), happ]
        rw [if_pos (Or.inl (hcn.2 h0))] at hgo
        exact hgo
      · rw [if_neg (by omega)]
        by_cases h1 : p > e
        · rw [if_pos h1, if_pos (by omega), happ]
          rw [if_pos (Or.inr h1)] at hgo
          exact hgo
        · rw [if_neg h1]
          rw [if_neg (by rintro (h | h); exact h0 (hcn.1 h); exact h1 h)] at hgo
          have hne : c ≠ [] := fun h => h0 (hcn.1 h)
          obtain ⟨c', s, rfl⟩ : ∃ c' s, c = c' ++ [s] := ⟨c.dropLast, c.getLast hne, (List.dropLast_concat_getLast hne).symm⟩
          have hs1 := hpos s (by simp)
          rw [hlen] at hs1
          simp only [List.length_append, List.length_cons, List.length_nil] at hcl
          obtain ⟨e1, e2⟩ := rdSp_last c' s (by omega)
          rw [e1, e2, if_pos (by omega), if_pos (by simp only [List.length_append, List.length_cons, List.length_nil]; omega)]
          simp only [List.dropLast_concat, List.getLast?_concat, Option.map_some, Option.toList_some] at hgo
          rw [wrap_id (x := s.f1 + 1) (by omega) (by omega), wrap_id (x := p + 1) (by omega) (by omega), wrap_succ (by omega), ← hgo]
          congr 1
          simp
    by_cases c2 : (i : Int) > 0
    · rw [if_pos c2]
      by_cases c3 : p < e
      · exact hbad _ (decide_eq_true c3) (hne ⟨by omega, c3⟩)
      · rw [decide_eq_false c3]; exact hgood (fun h => c3 h.2)
    · rw [if_neg c2]; exact hgood (fun h => c2 (by omega))

theorem from_eq (l : List Int) (hw : ∀ x ∈ l, i64 x) (hm : l.length < 4398046511104) (k : Nat) (hk : 2 * l.length < k) : span_From.f k l = some (fromRes l) := by
  unfold span_From.f
  exact from_loop l hw hm l.length k 0 (by omega) hk (by omega) rfl

theorem canonical_loop (l : List Sp) (hw : wfSps l) (hm : l.length < 4398046511104) : ∀ (d k i : Nat), l.length - i = d → d + 2049 < k → i ≤ l.length →
    span_Canonical.l0 k l l (l.length : Int) (i : Int) = some (canonB (decide (i = 0)) (l.drop i) && decide (spCheck l = 0)) := by
  intro d
  induction d with
  | zero =>
    intro k i hd hk hi
    obtain ⟨k, rfl⟩ : ∃ m, k = m + 1 := ⟨k - 1, by omega⟩
    simp only [span_Canonical.l0]
    rw [if_neg (by omega), drop_end (by omega), check_eq l hw k (by omega)]
    simp only [canonB, Bool.true_and, Option.bind_some]; rfl
  | succ d ih =>
    intro k i hd hk hi
    obtain ⟨k, rfl⟩ : ∃ m, k = m + 1 := ⟨k - 1, by omega⟩
    have hlt : i < l.length := by omega
    have ih := ih k (i + 1) (by omega) (by omega) (by omega)
    simp only [span_Canonical.l0]
    rw [if_pos (by omega), if_pos (by omega), if_pos (by omega), rdSp_at hlt, drop_at hlt, wrap_succ (by omega), ih]
    generalize l[i] = s
    simp only [canonB]
    by_cases c1 : s.f1 = 0
    · rw [if_pos c1, decide_eq_false (fun h => h.1 c1)]; rfl
    rw [if_neg c1]
    by_cases c2 : (i : Int) > 0
    · rw [if_pos c2]
      by_cases c3 : s.f0 = 0
      · rw [if_pos c3, decide_eq_false (fun h => h.2 (by simp; omega) c3)]; rfl
      · rw [if_neg c3, decide_eq_true (show canonOne (decide (i = 0)) s from ⟨c1, fun _ => c3⟩)]; simp
    · rw [if_neg c2, decide_eq_true (show canonOne (decide (i = 0)) s from ⟨c1, fun h => by simp at h; omega⟩)]; simp
theorem canonical_eq (l : List Sp) (hw : wfSps l) (hm : l.length < 4398046511104) (k : Nat) (hk : l.length + 2049 < k) : span_Canonical.f k l = some (canonB true l && decide (spCheck l = 0)) := by
  unfold span_Canonical.f
  have := canonical_loop l hw hm l.length k 0 (by omega) (by omega) (by omega)
  simpa using this

/-- What Places answers. -/
def placesRes (l : List Sp) : List Int × Int := if spCheck l = 0 then (plN 0 l, 0) else ([], spCheck l)
theorem spCheck_zero {l : List Sp} (h : spCheck l = 0) : l.length ≤ 1024 ∧ spRight true 0 0 l = true := by
  unfold spCheck at h
  split at h
  · cases h
  · split at h
    · exact ⟨by omega, by assumption⟩
    · cases h
theorem places_len {l : List Sp} (h : spCheck l = 0) : (plN 0 l).length ≤ 4096 := by
  have hr := (spCheck_zero h).2
  have h1 := plN_length l 0 (fun s hs => (spRight_pos l _ _ _ hr s hs).1)
  have h2 := cntN_le l _ _ _ hr (by omega)
  omega
theorem places_eq (l : List Sp) (hw : wfSps l) (k : Nat) (hk : 2048 < k) : span_Places.f k l = some (placesRes l) := by
  unfold span_Places.f placesRes
  rw [check_eq l hw k hk]
  simp only [Option.bind_some]
  by_cases h : spCheck l = 0
  · have h0 := spCheck_zero h
    rw [if_pos h, if_pos h, placesAt_plN l _ _ _ h0.2, if_pos ⟨by omega, by have := places_len h; omega⟩]
  · rw [if_neg h, if_neg h]

/-! The document. -/
theorem refRising_loop (l : List Int) (hm : l.length < 17592186044416) : ∀ (d k i : Nat), l.length - i = d → d < k → i ≤ l.length → rises (-1048576) (l.take i) = true →
    tidepoleref06_Rising.l0 k l (i : Int) = some (rises (-1048576) l) := by
  intro d
  induction d with
  | zero =>
    intro k i hd hk hi hr
    obtain ⟨k, rfl⟩ : ∃ m, k = m + 1 := ⟨k - 1, by omega⟩
    simp only [tidepoleref06_Rising.l0]
    rw [if_neg (by omega)]
    rw [List.take_of_length_le (by omega)] at hr
    rw [hr]
  | succ d ih =>
    intro k i hd hk hi hr
    obtain ⟨k, rfl⟩ : ∃ m, k = m + 1 := ⟨k - 1, by omega⟩
    have hlt : i < l.length := by omega
    have ih := ih k (i + 1) (by omega) (by omega) (by omega)
    rw [take_at hlt, rises_snoc, hr, Bool.true_and] at ih
    have hlast : (l.take i).getLast? = if h : i = 0 then none else some (l[i - 1]'(by omega)) := by
      rw [List.getLast?_eq_getElem?]
      by_cases h : i = 0
      · subst h; simp
      · rw [dif_neg h]; simp only [List.length_take]; rw [show min i l.length - 1 = i - 1 by omega, List.getElem?_take_of_lt (by omega), List.getElem?_eq_getElem (by omega)]
    have hf : ¬ (lowB (-1048576) (l.take i) ≤ l[i] ∧ l[i] ≤ 1048576) → rises (-1048576) l = false := rises_take_false hlt
    simp only [tidepoleref06_Rising.l0]
    rw [if_pos (by omega), if_pos (by omega), rd_at hlt, wrap_succ (by omega)]
    by_cases h0 : i = 0
    · subst h0
      simp only [List.take_zero, lowB_none List.getLast?_nil] at ih hf
      by_cases c1 : l[0] < -1048576
      · rw [if_pos c1, hf (by omega)]
      rw [if_neg c1]
      by_cases c2 : l[0] > 1048576
      · rw [if_pos c2, hf (by omega)]
      rw [if_neg c2, if_neg (by omega)]
      exact ih (decide_eq_true (by omega))
    · rw [dif_neg h0] at hlast
      rw [lowB_some hlast] at ih hf
      have hrl : ∀ (q : Int), l[i - 1]'(by omega) = q → -1048576 ≤ q := by
        intro q hq
        have hl1 : i - 1 < l.length := by omega
        rw [show i = (i - 1) + 1 by omega, take_at hl1, rises_snoc] at hr
        simp only [Bool.and_eq_true, decide_eq_true_eq] at hr
        have h3 := spInv_take _ hr.1
        rw [hq] at hr
        cases hl : (l.take (i - 1)).getLast? with
        | none => rw [lowB_none hl] at hr; exact hr.2.1
        | some q' => have := h3.last q' hl; rw [lowB_some hl] at hr; have := hr.2.1; omega
      have hrl := hrl _ rfl
      by_cases c1 : l[i] < -1048576
      · rw [if_pos c1, hf (by omega)]
      rw [if_neg c1]
      by_cases c2 : l[i] > 1048576
      · rw [if_pos c2, hf (by omega)]
      have e1 : wrap64 ((i : Int) - 1) = ((i - 1 : Nat) : Int) := by rw [wrap_id (by omega) (by omega)]; omega
      rw [if_neg c2, if_pos (by omega), e1, if_pos (by omega), if_pos (by omega), rd_at (by omega)]
      by_cases c3 : l[i] ≤ l[i - 1]
      · rw [if_pos c3, hf (by omega)]
      rw [if_neg c3]
      exact ih (decide_eq_true (by omega))
theorem refRising_eq (l : List Int) (hm : l.length < 17592186044416) (k : Nat) (hk : l.length < k) : tidepoleref06_Rising.f k l = some (rises (-1048576) l) := by
  unfold tidepoleref06_Rising.f
  exact refRising_loop l hm l.length k 0 (by omega) (by omega) (by omega) rfl

theorem refSame_loop (a b : List Int) (hl : a.length = b.length) (hm : a.length < 17592186044416) : ∀ (d k i : Nat), a.length - i = d → d < k → i ≤ a.length →
    tidepoleref06_Same.l0 k a b (i : Int) = some (decide (a.drop i = b.drop i)) := by
  intro d
  induction d with
  | zero =>
    intro k i hd hk hi
    obtain ⟨k, rfl⟩ : ∃ m, k = m + 1 := ⟨k - 1, by omega⟩
    simp only [tidepoleref06_Same.l0]
    rw [if_neg (by omega), drop_end (by omega), drop_end (by omega)]; rfl
  | succ d ih =>
    intro k i hd hk hi
    obtain ⟨k, rfl⟩ : ∃ m, k = m + 1 := ⟨k - 1, by omega⟩
    have h1 : i < a.length := by omega
    have h2 : i < b.length := by omega
    simp only [tidepoleref06_Same.l0]
    rw [if_pos (by omega), if_pos (by omega), if_pos (by omega), rd_at h1, rd_at h2, drop_at h1, drop_at h2]
    by_cases he : a[i] = b[i]
    · rw [if_pos he, wrap_succ (by omega), ih k (i + 1) (by omega) (by omega) (by omega)]
      congr 1; rw [decide_eq_decide, List.cons_eq_cons]; exact ⟨fun h => ⟨he, h⟩, fun h => h.2⟩
    · rw [if_neg he, decide_eq_false (fun h => he (List.cons_eq_cons.1 h).1)]
theorem refSame_eq (a b : List Int) (hm : a.length < 17592186044416) (k : Nat) (hk : a.length < k) : tidepoleref06_Same.f k a b = some (decide (a = b)) := by
  unfold tidepoleref06_Same.f
  by_cases h : a.length = b.length
  · rw [if_pos (by omega)]
    have := refSame_loop a b h hm a.length k 0 (by omega) hk (by omega)
    simpa using this
  · rw [if_neg (by omega)]
    rw [decide_eq_false (fun e => h (by rw [e]))]

theorem rdRsp_map {l : List Sp} {i : Nat} (h : i < l.length) : rd_T147 (l.map toR) (i : Int) = toR l[i] := by rw [rdRsp_at (by simpa using h)]; simp
/-- The inner loop of the document's Places. -/
theorem refPlaces_in (l : List Sp) (i : Nat) (hi : i < l.length) (s : Sp) (hs : l[i] = s) (hf : 0 ≤ s.f1 ∧ s.f1 ≤ 4096) : ∀ (d k j : Nat) (acc : List Int) (a : Int), s.f1.toNat - j = d → j ≤ s.f1.toNat → acc.length + d < 17592186044416 → -4611686018427387904 ≤ a → a + d ≤ 4611686018427387904 →
    tidepoleref06_Places.l1 (k + (d + 1)) (l.map toR) acc a (i : Int) (j : Int) = tidepoleref06_Places.l0 k (l.map toR) (acc ++ run a d) (a + d) (wrap64 ((i : Int) + 1)) := by
  intro d
  induction d with
  | zero =>
    intro k j acc a hd hj hacc ha hb
    have hc : ¬ (j : Int) < (toR s).f1 := by show ¬ (j : Int) < s.f1; omega
    rw [tidepoleref06_Places.l1, List.length_map, if_pos (by omega), if_pos (by omega), rdRsp_map hi, hs, if_neg hc]
    simp [run]
  | succ d ih =>
    intro k j acc a hd hj hacc ha hb
    have hc : (j : Int) < (toR s).f1 := by show (j : Int) < s.f1; omega
    rw [← Nat.add_assoc, tidepoleref06_Places.l1, List.length_map, if_pos (by omega), if_pos (by omega), rdRsp_map hi, hs, if_pos hc, if_pos (by omega), wrap_succ (by omega), wrap_id (x := a + 1) (by omega) (by omega), ih k (j + 1) _ _ (by omega) (by omega) (by simp; omega) (by omega) (by omega)]
    congr 1
    · simp [run]
    · omega
set_option maxRecDepth 100000 in
theorem refPlaces_loop (l : List Sp) (hm : l.length < 17592186044416) : ∀ (d k i : Nat) (acc : List Int) (f : Bool) (a n : Int), l.length - i = d → d * 5000 < k → i ≤ l.length → spRight f a n (l.drop i) = true → n ≤ 4096 → -4611686018427387904 + d * 4194304 ≤ a → a + d * 4194304 ≤ 4611686018427387904 → acc.length + d * 4096 ≤ 8796093022208 →
    tidepoleref06_Places.l0 k (l.map toR) acc a (i : Int) = some (acc ++ plN a (l.drop i)) := by
  intro d
  induction d with
  | zero =>
    intro k i acc f a n hd hk hi hr hn ha hb hacc
    obtain ⟨k, rfl⟩ : ∃ m, k = m + 1 := ⟨k - 1, by omega⟩
    simp only [tidepoleref06_Places.l0, List.length_map]
    rw [if_neg (by omega), drop_end (by omega)]; simp [plN]
  | succ d ih =>
    intro k i acc f a n hd hk hi hr hn ha hb hacc
    have hlt : i < l.length := by omega
    rw [drop_at hlt] at hr ⊢
    simp only [spRight, Bool.and_eq_true, decide_eq_true_eq] at hr
    obtain ⟨h1, h2, h3, h4, h5, h6, h7, h8⟩ := hr.1
    obtain ⟨k, rfl⟩ : ∃ m, k = m + (l[i].f1.toNat + 1) + 1 := ⟨k - (l[i].f1.toNat + 1) - 1, by omega⟩
    rw [tidepoleref06_Places.l0, List.length_map, if_pos (by omega), if_pos (by omega), rdRsp_map hlt]
    have he : ((l[i].f1.toNat : Nat) : Int) = l[i].f1 := by omega
    have := refPlaces_in l i hlt l[i] rfl ⟨h1, h2⟩ l[i].f1.toNat k 0 acc (a + l[i].f0) (by omega) (by omega) (by omega) (by omega) (by omega)
    rw [show (toR l[i]).f0 = l[i].f0 from rfl, wrap_id (x := a + l[i].f0) (by omega) (by omega)]
    rw [show (0 : Int) = ((0 : Nat) : Int) from rfl, this, wrap_succ (by omega), he, ih k (i + 1) _ false _ (n + l[i].f1) (by omega) (by omega) (by omega) hr.2 (by omega) (by omega) (by omega) (by simp [run_length]; omega)]
    simp [plN]
theorem refPlaces_eq (l : List Sp) (h : spCheck l = 0) (k : Nat) (hk : 5120000 < k) : tidepoleref06_Places.f k (l.map toR) = some (plN 0 l) := by
  have h0 := spCheck_zero h
  unfold tidepoleref06_Places.f
  have := refPlaces_loop l (by omega) l.length k 0 [] true 0 0 (by omega) (by omega) (by omega) h0.2 (by omega) (by omega) (by omega) (by simp; omega)
  simpa using this

/-- The inner loop of the document's Check. -/
theorem refCheck_in (l : List Sp) (i : Nat) (x0 x1 : Int) (hf : 0 ≤ x1 ∧ x1 ≤ 4096) (n0 : Int) (hn : 0 ≤ n0 ∧ n0 ≤ 4096) : ∀ (d k j : Nat) (a : Int), x1.toNat - j = d → j ≤ x1.toNat → -1048576 ≤ a → a ≤ 1048577 →
    tidepoleref06_Check.l1 (k + (d + 1)) (l.map toR) a (n0 + j) (i : Int) (j : Int) x0 x1 = if 0 < d ∧ a + d - 1 > 1048576 then some 20 else if n0 + x1 > 4096 then some 20 else tidepoleref06_Check.l0 k (l.map toR) (a + d) (n0 + x1) (wrap64 ((i : Int) + 1)) := by
  intro d
  induction d with
  | zero =>
    intro k j a hd hj ha hb
    have e : n0 + (j : Int) = n0 + x1 := by omega
    rw [tidepoleref06_Check.l1, if_neg (by omega), e]
    simp
  | succ d ih =>
    intro k j a hd hj ha hb
    rw [← Nat.add_assoc, tidepoleref06_Check.l1, if_pos (by omega)]
    by_cases c : a > 1048576
    · rw [if_pos c, if_pos (by omega)]
    · have e : wrap64 (n0 + (j : Int) + 1) = n0 + ((j + 1 : Nat) : Int) := by rw [wrap_id (by omega) (by omega)]; omega
      have e2 : a + ((d + 1 : Nat) : Int) = a + 1 + (d : Int) := by omega
      rw [if_neg c, wrap_succ (by omega), wrap_id (x := a + 1) (by omega) (by omega), e, ih k (j + 1) _ (by omega) (by omega) (by omega) (by omega), e2]
      by_cases c2 : a + 1 + (d : Int) - 1 > 1048576
      · rw [if_pos (show 0 < d + 1 ∧ a + 1 + (d : Int) - 1 > 1048576 from ⟨by omega, c2⟩)]
        by_cases c3 : 0 < d
        · rw [if_pos ⟨c3, c2⟩]
        · omega
      · rw [if_neg (show ¬ (0 < d ∧ a + 1 + (d : Int) - 1 > 1048576) from fun h => c2 h.2), if_neg (show ¬ (0 < d + 1 ∧ a + 1 + (d : Int) - 1 > 1048576) from fun h => c2 h.2)]
theorem refCheck_j1 (k d : Nat) (l : List Sp) (i : Nat) (a n x0 x1 : Int) (ha : -1048576 ≤ a ∧ a ≤ 1048577) (hn : 0 ≤ n ∧ n ≤ 4096) (h0 : -1048576 ≤ x0 ∧ x0 ≤ 2097152) (h1 : 0 ≤ x1 ∧ x1 ≤ 4096) (hd : d = x1.toNat) :
    tidepoleref06_Check.j1 (k + (d + 1) + 1 + 1) (l.map toR) a n (i : Int) false x0 x1 = if -1048576 ≤ a + x0 ∧ a + x0 ≤ 1048576 ∧ a + x0 + max (x1 - 1) 0 ≤ 1048576 ∧ n + x1 ≤ 4096 then tidepoleref06_Check.l0 k (l.map toR) (a + x0 + x1) (n + x1) (wrap64 ((i : Int) + 1)) else some 20 := by
  have e : ((x1.toNat : Nat) : Int) = x1 := by omega
  rw [tidepoleref06_Check.j1, if_neg (by decide), wrap_id (x := a + x0) (by omega) (by omega)]
  by_cases c1 : a + x0 < -1048576
  · rw [if_pos c1, if_neg (by omega), tidepoleref06_Check.j2, if_pos rfl]
  rw [if_neg c1, tidepoleref06_Check.j2]
  by_cases c2 : a + x0 > 1048576
  · rw [if_pos (decide_eq_true c2), if_neg (by omega)]
  rw [if_neg (by simp; omega)]
  have := refCheck_in l i x0 x1 h1 n hn d k 0 (a + x0) (by omega) (by omega) (by omega) (by omega)
  rw [show n + ((0 : Nat) : Int) = n by omega] at this
  rw [show (0 : Int) = ((0 : Nat) : Int) from rfl, this, hd, e]
  by_cases c3 : a + x0 + max (x1 - 1) 0 ≤ 1048576
  · rw [if_neg (by omega)]
    by_cases c4 : n + x1 ≤ 4096
    · rw [if_neg (by omega), if_pos ⟨by omega, by omega, by exact c3, c4⟩]
    · rw [if_pos (by omega), if_neg (fun h => c4 h.2.2.2)]
  · rw [if_pos (by omega), if_neg (fun h => c3 h.2.2.1)]
theorem refCheck_loop (l : List Sp) (hw : wfSps l) (hm : l.length ≤ 4611686018427387904) : ∀ (d k i : Nat) (a n : Int), l.length - i = d → 5000 * d < k → i ≤ l.length → -1048576 ≤ a ∧ a ≤ 1048577 → 0 ≤ n ∧ n ≤ 4096 → (i = 0 → a = 0) →
    tidepoleref06_Check.l0 k (l.map toR) a n (i : Int) = some (if spRight (decide (i = 0)) a n (l.drop i) = true then 0 else 20) := by
  intro d
  induction d with
  | zero =>
    intro k i a n hd hk hi ha hn ha0
    obtain ⟨k, rfl⟩ : ∃ m, k = m + 1 := ⟨k - 1, by omega⟩
    rw [tidepoleref06_Check.l0, List.length_map, if_neg (by omega), drop_end (by omega)]; rfl
  | succ d ih =>
    intro k i a n hd hk hi ha hn ha0
    have hlt : i < l.length := by omega
    obtain ⟨k, rfl⟩ : ∃ m, k = m + 3 := ⟨k - 3, by omega⟩
    have hs := hw _ (List.getElem_mem hlt)
    rw [tidepoleref06_Check.l0, List.length_map, if_pos (by omega), if_pos (by omega), rdRsp_map hlt, drop_at hlt]
    generalize l[i] = s at hs
    rw [show (toR s).f0 = s.f0 from rfl, show (toR s).f1 = s.f1 from rfl]
    have hbad : ¬ oneRight (decide (i = 0)) a n s → (some 20 : Option Int) = some (if spRight (decide (i = 0)) a n (s :: l.drop (i + 1)) = true then 0 else 20) := fun h => by simp only [spRight, decide_eq_false h, Bool.false_and]; rfl
    have hf : ∀ b, b = true → tidepoleref06_Check.j1 (k + 2) (l.map toR) a n (i : Int) b s.f0 s.f1 = some 20 := fun b hb => by subst hb; rw [tidepoleref06_Check.j1, if_pos rfl]
    have hgo : (-1048576 ≤ s.f0 ∧ s.f0 ≤ 2097152) → (0 ≤ s.f1 ∧ s.f1 ≤ 4096) → (if decide (i = 0) = true then -1048576 ≤ s.f0 else 0 ≤ s.f0) → tidepoleref06_Check.j1 (k + 2) (l.map toR) a n (i : Int) false s.f0 s.f1 = some (if spRight (decide (i = 0)) a n (s :: l.drop (i + 1)) = true then 0 else 20) := by
      intro h0 h1 h2
      obtain ⟨q, hq⟩ : ∃ q, k = q + (s.f1.toNat + 1) := ⟨k - (s.f1.toNat + 1), by omega⟩
      rw [show k + 2 = q + (s.f1.toNat + 1) + 1 + 1 by omega, refCheck_j1 q _ l i a n s.f0 s.f1 ha hn h0 h1 rfl]
      by_cases c : -1048576 ≤ a + s.f0 ∧ a + s.f0 ≤ 1048576 ∧ a + s.f0 + max (s.f1 - 1) 0 ≤ 1048576 ∧ n + s.f1 ≤ 4096
      · rw [if_pos c, wrap_succ (by omega), ih q (i + 1) _ _ (by omega) (by omega) (by omega) (by omega) (by omega) (by omega)]
        have : oneRight (decide (i = 0)) a n s := ⟨h1.1, h1.2, h0.2, h2, c.1, c.2.1, c.2.2.1, c.2.2.2⟩
        simp only [spRight, decide_eq_true this, Bool.true_and]
        rfl
      · rw [if_neg c]; exact hbad (fun h => c ⟨h.2.2.2.2.1, h.2.2.2.2.2.1, h.2.2.2.2.2.2.1, h.2.2.2.2.2.2.2⟩)
    have hj : (s.f1 < 0 → (if s.f1 < 0 then tidepoleref06_Check.j1 (k + 2) (l.map toR) a n (i : Int) true s.f0 s.f1 else tidepoleref06_Check.j1 (k + 2) (l.map toR) a n (i : Int) (decide (s.f1 > 4096)) s.f0 s.f1) = some (if spRight (decide (i = 0)) a n (s :: l.drop (i + 1)) = true then 0 else 20)) := by
      intro c; rw [if_pos c, hf _ rfl]; exact hbad (fun h => by have := h.1; omega)
    have hrest : (-1048576 ≤ s.f0 ∧ s.f0 ≤ 2097152) → (if decide (i = 0) = true then -1048576 ≤ s.f0 else 0 ≤ s.f0) → (if s.f1 < 0 then tidepoleref06_Check.j1 (k + 2) (l.map toR) a n (i : Int) true s.f0 s.f1 else tidepoleref06_Check.j1 (k + 2) (l.map toR) a n (i : Int) (decide (s.f1 > 4096)) s.f0 s.f1) = some (if spRight (decide (i = 0)) a n (s :: l.drop (i + 1)) = true then 0 else 20) := by
      intro h0 h2
      by_cases c : s.f1 < 0
      · exact hj c
      rw [if_neg c]
      by_cases c3 : s.f1 > 4096
      · rw [hf _ (decide_eq_true c3)]; exact hbad (fun h => by have := h.2.1; omega)
      · rw [decide_eq_false c3]; exact hgo h0 (by omega) h2
    by_cases c0 : s.f0 < -1048576
    · rw [if_pos c0, hf _ rfl]
      refine hbad (fun h => ?_)
      have h4 := h.2.2.2.1
      split at h4 <;> omega
    rw [if_neg c0]
    by_cases c1 : s.f0 > 2097152
    · rw [if_pos c1, hf _ rfl]; exact hbad (fun h => by have := h.2.2.1; omega)
    rw [if_neg c1]
    by_cases c5 : i = 0
    · subst c5
      rw [if_pos (by omega)]
      by_cases c6 : s.f0 > 1048576
      · rw [if_pos c6, hf _ rfl]
        have := ha0 rfl
        exact hbad (fun h => by have := h.2.2.2.2.2.1; omega)
      · rw [if_neg c6, if_neg (by omega)]
        exact hrest (by omega) (by simp; omega)
    · rw [if_neg (by omega), if_pos (by omega)]
      by_cases c4 : s.f0 < 0
      · rw [if_pos c4, hf _ rfl]; exact hbad (fun h => by have h4 := h.2.2.2.1; rw [if_neg (by simp [c5])] at h4; omega)
      · rw [if_neg c4]; exact hrest (by omega) (by rw [if_neg (by simp [c5])]; omega)
theorem refCheck_eq (l : List Sp) (hw : wfSps l) (k : Nat) (hk : 5120000 < k) : tidepoleref06_Check.f k (l.map toR) = some (spCheck l) := by
  unfold tidepoleref06_Check.f spCheck
  rw [List.length_map]
  by_cases h : l.length > 1024
  · rw [if_pos (by omega), if_pos h]
  · rw [if_neg (by omega), if_neg h]
    have := refCheck_loop l hw (by omega) l.length k 0 0 0 (by omega) (by omega) (by omega) (by omega) (by omega) (fun _ => rfl)
    simpa using this

theorem rises_of_right {l : List Sp} (h : spCheck l = 0) : rises (-1048576) (plN 0 l) = true := by
  have hr := (spCheck_zero h).2
  have hrun : ∀ (m : Nat) (b e : Int), e ≤ b → (m = 0 ∨ b + m - 1 ≤ 1048576) → ∀ r, rises (b + m) r = true ∨ (m = 0 ∧ rises e r = true) → rises e (run b m ++ r) = true := by
    intro m
    induction m with
    | zero =>
      intro b e h1 h2 r h3
      rcases h3 with h3 | h3
      · simp only [run, List.nil_append]
        have hmono : ∀ (r : List Int) (e e' : Int), e ≤ e' → rises e' r = true → rises e r = true := by
          intro r
          cases r with
          | nil => intros; rfl
          | cons x r => intro e e' he h; simp only [rises, Bool.and_eq_true, decide_eq_true_eq] at h ⊢; exact ⟨⟨by omega, h.1.2⟩, h.2⟩
        exact hmono r e _ (by omega) h3
      · exact h3.2
    | succ m ih =>
      intro b e h1 h2 r h3
      simp only [run, List.cons_append, rises, Bool.and_eq_true, decide_eq_true_eq]
      refine ⟨⟨h1, by omega⟩, ih (b + 1) (b + 1) (Int.le_refl _) (by omega) r (Or.inl ?_)⟩
      rcases h3 with h3 | h3
      · rw [show b + 1 + (m : Int) = b + ((m + 1 : Nat) : Int) by omega]; exact h3
      · omega
  have : ∀ (l : List Sp) (f : Bool) (a n e : Int), spRight f a n l = true → (if f = true then a = 0 ∧ e = -1048576 else e ≤ a) → rises e (plN a l) = true := by
    intro l
    induction l with
    | nil => intros; rfl
    | cons s l ih =>
      intro f a n e h he
      simp only [spRight, Bool.and_eq_true, decide_eq_true_eq] at h
      obtain ⟨h1, h2, h3, h4, h5, h6, h7, h8⟩ := h.1
      have ee : ((s.f1.toNat : Nat) : Int) = s.f1 := by omega
      have hle : e ≤ a + s.f0 := by cases f <;> simp at he h4 <;> omega
      simp only [plN]
      refine hrun s.f1.toNat (a + s.f0) e hle (by omega) _ ?_
      rw [ee]
      exact Or.inl (ih false _ _ _ h.2 (by simp))
  exact this l true 0 0 _ hr (by simp)
theorem rises_i64 {l : List Int} (h : rises (-1048576) l = true) : ∀ x ∈ l, -1048576 ≤ x ∧ x ≤ 1048576 := by
  have : ∀ (l : List Int) (e : Int), -1048576 ≤ e → rises e l = true → ∀ x ∈ l, -1048576 ≤ x ∧ x ≤ 1048576 := by
    intro l
    induction l with
    | nil => intro e _ _ x hx; cases hx
    | cons y l ih =>
      intro e he h x hx
      simp only [rises, Bool.and_eq_true, decide_eq_true_eq] at h
      rcases List.mem_cons.1 hx with rfl | hx
      · omega
      · exact ih (y + 1) (by omega) h.2 x hx
  exact this l _ (Int.le_refl _) h

end Go.Proofs.Ytacgeafjilipdaa.P
