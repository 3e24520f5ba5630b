/- Pairs zipped and unzipped, in closed form. -/
import Derived.Test.YtacgeafjilipdaaMFrom
import Derived.Test.YtacgeafjilipdaaPPairs
import Derived.Test.YtacgeafjilipdaaPH07
import Derived.Test.YtacgeafjilipdaaPEqual
namespace Go.Proofs.Ytacgeafjilipdaa.P
open Go.RowKit Go.Proofs.YtacgeafjilipdaaW.PrintWords Go.Proofs.YtacgeafjilipdaaW.PrintLast Go.Proofs.YtacgeafjilipdaaW.PrintMore
set_option linter.unusedVariables false
set_option linter.unusedSimpArgs false

abbrev Pr := S26
instance : DecidableEq Pr := fun a b => if h : a.f0 = b.f0 ∧ a.f1 = b.f1 then isTrue (by cases a; cases b; simp only at h; rw [h.1, h.2]) else isFalse (by rintro rfl; exact h ⟨rfl, rfl⟩)
theorem rdPr_at {l : List Pr} {i : Nat} (h : i < l.length) : rd_T26 l (i : Int) = l[i] := by unfold rd_T26; simp [List.getD, h]
def wfPrs (l : List Pr) : Prop := ∀ s ∈ l, i64 s.f0 ∧ i64 s.f1
theorem wfPrs_of {l : List Pr} (h : ∀ s ∈ l, wf26 s) : wfPrs l := fun s hs => ⟨i64_of (h s hs).1, i64_of (h s hs).2⟩

theorem fromRes_ok {l : List Int} (h : (fromRes l).2 = 0) : rises (-1048576) l = true ∧ l.length ≤ 4096 ∧ (spansOf l).length ≤ 1024 ∧ (fromRes l).1 = spansOf l := by
  unfold fromRes at h ⊢
  split at h
  · rename_i hr
    split at h
    · cases h
    · split at h
      · cases h
      · refine ⟨hr, by omega, by omega, ?_⟩
        rw [if_pos hr, if_neg (by omega), if_neg (by omega)]
  · cases h
/-- Unzip's answer. -/
def unzipRes (l : List Pr) : List Sp × List Int × Int := if (fromRes (l.map (·.f0))).2 = 0 then ((fromRes (l.map (·.f0))).1, l.map (·.f1), 0) else ([], [], (fromRes (l.map (·.f0))).2)
theorem unzip_loop (l : List Pr) (hw : wfPrs l) (hm : l.length < 4398046511104) : ∀ (d k i : Nat), l.length - i = d → d + 2 * l.length + 1 < k → i ≤ l.length →
    pairs_Unzip_int64.l0 k ((l.take i).map (·.f0)) ((l.take i).map (·.f1)) l (l.length : Int) (i : Int) = some (unzipRes l) := by
  intro d
  induction d with
  | zero =>
    intro k i hd hk hi
    obtain ⟨k, rfl⟩ : ∃ m, k = m + 1 := ⟨k - 1, by omega⟩
    simp only [pairs_Unzip_int64.l0]
    rw [if_neg (by omega), List.take_of_length_le (by omega), from_eq _ (by intro x hx; obtain ⟨s, hs, rfl⟩ := List.mem_map.1 hx; exact (hw s hs).1) (by simpa using hm) k (by simp; omega)]
    simp only [Option.bind_some]
    unfold unzipRes
    split <;> rfl
  | succ d ih =>
    intro k i hd hk hi
    obtain ⟨k, rfl⟩ : ∃ m, k = m + 1 := ⟨k - 1, by omega⟩
    have hlt : i < l.length := by omega
    have hl1 : ((l.take i).map (·.f0)).length = i := by simp; omega
    have hl2 : ((l.take i).map (·.f1)).length = i := by simp; omega
    simp only [pairs_Unzip_int64.l0, Option.bind_some]
    rw [if_pos (by omega), if_pos (by omega), if_pos (by omega), hl1, hl2, rdPr_at hlt, if_pos (by simp; omega), if_pos (by simp; omega), wrap_succ (by omega), ← ih k (i + 1) (by omega) (by omega) (by omega), take_at hlt]
    simp only [List.map_append, List.map_cons, List.map_nil]
theorem unzip_eq (l : List Pr) (hw : wfPrs l) (hm : l.length < 4398046511104) (k : Nat) (hk : 3 * l.length + 1 < k) : pairs_Unzip_int64.f k l = some (unzipRes l) := by
  unfold pairs_Unzip_int64.f
  exact unzip_loop l hw hm l.length k 0 (by omega) (by omega) (by omega)

theorem lawRef_loop (l : List Sp) (hm : l.length < 8796093022208) : ∀ (d k i : Nat), l.length - i = d → d < k → i ≤ l.length →
    tidepolelaw07_ref.l0 k ((l.take i).map toR) l (l.length : Int) (i : Int) = some (l.map toR) := by
  intro d
  induction d with
  | zero =>
    intro k i hd hk hi
    obtain ⟨k, rfl⟩ : ∃ m, k = m + 1 := ⟨k - 1, by omega⟩
    simp only [tidepolelaw07_ref.l0]
    rw [if_neg (by omega), List.take_of_length_le (by omega)]
  | succ d ih =>
    intro k i hd hk hi
    obtain ⟨k, rfl⟩ : ∃ m, k = m + 1 := ⟨k - 1, by omega⟩
    have hlt : i < l.length := by omega
    have hl1 : ((l.take i).map toR).length = i := by simp; omega
    simp only [tidepolelaw07_ref.l0]
    rw [if_pos (by omega), if_pos (by omega), if_pos (by omega), hl1, rdSp_at hlt, if_pos (by omega), wrap_succ (by omega), ← ih k (i + 1) (by omega) (by omega) (by omega), take_at hlt]
    simp only [List.map_append, List.map_cons, List.map_nil]
    rfl
theorem lawRef_eq (l : List Sp) (hm : l.length < 8796093022208) (k : Nat) (hk : l.length < k) : tidepolelaw07_ref.f k l = some (l.map toR) := by
  unfold tidepolelaw07_ref.f
  exact lawRef_loop l hm l.length k 0 (by omega) (by omega) (by omega)

/-- Zip's answer. -/
def zipRes (l : List Sp) (v : List Int) : List Pr × Int := if spCheck l = 0 then (if (plN 0 l).length = v.length then (List.zipWith (fun p x => (⟨p, x⟩ : Pr)) (plN 0 l) v, 0) else ([], 10)) else ([], spCheck l)
theorem zip_loop (ps v : List Int) (hl : ps.length = v.length) (hm : ps.length < 8796093022208) : ∀ (d k i : Nat), ps.length - i = d → d < k → i ≤ ps.length →
    pairs_Zip_int64.l0 k v (List.zipWith (fun p x => (⟨p, x⟩ : Pr)) (ps.take i) (v.take i)) ps (ps.length : Int) (i : Int) = some (List.zipWith (fun p x => (⟨p, x⟩ : Pr)) ps v, 0) := by
  intro d
  induction d with
  | zero =>
    intro k i hd hk hi
    obtain ⟨k, rfl⟩ : ∃ m, k = m + 1 := ⟨k - 1, by omega⟩
    simp only [pairs_Zip_int64.l0]
    rw [if_neg (by omega), List.take_of_length_le (by omega), List.take_of_length_le (by omega)]
  | succ d ih =>
    intro k i hd hk hi
    obtain ⟨k, rfl⟩ : ∃ m, k = m + 1 := ⟨k - 1, by omega⟩
    have hlt : i < ps.length := by omega
    have hlv : i < v.length := by omega
    have hl1 : (List.zipWith (fun p x => (⟨p, x⟩ : Pr)) (ps.take i) (v.take i)).length = i := by simp; omega
    simp only [pairs_Zip_int64.l0]
    rw [if_pos (by omega), if_pos (by omega), if_pos (by omega), if_pos (by omega), hl1, rd_at hlt, rd_at hlv, if_pos (by omega), wrap_succ (by omega), ← ih k (i + 1) (by omega) (by omega) (by omega), take_at hlt, take_at hlv, List.zipWith_append (by simp; omega)]
    rfl
theorem zip_eq (l : List Sp) (v : List Int) (hw : wfSps l) (k : Nat) (hk : 4100 < k) : pairs_Zip_int64.f k l v = some (zipRes l v) := by
  unfold pairs_Zip_int64.f zipRes
  rw [places_eq l hw k (by omega)]
  simp only [Option.bind_some, placesRes]
  by_cases h : spCheck l = 0
  · have hl := places_len h
    rw [if_pos h, if_pos h]
    simp only [if_true]
    by_cases h1 : (plN 0 l).length = v.length
    · rw [if_pos (by omega), if_pos h1]
      exact zip_loop (plN 0 l) v h1 (by omega) (plN 0 l).length k 0 (by omega) (by omega) (by omega)
    · rw [if_neg (by omega), if_neg h1]
  · rw [if_neg h, if_neg h]
    simp only
    rw [if_neg h]

theorem equalPr_loop (a b : List Pr) (hl : a.length = b.length) (hm : a.length < 17592186044416) : ∀ (d k i : Nat), a.length - i = d → d < k → i ≤ a.length →
    pairs_Pair_int64_128.l0 k a b (a.length : Int) (i : Int) = some (decide (a.drop i = b.drop i)) := by
  intro d
  induction d with
  | zero =>
    intro k i hd hk hi
    obtain ⟨k, rfl⟩ : ∃ m, k = m + 1 := ⟨k - 1, by omega⟩
    simp only [pairs_Pair_int64_128.l0]
    rw [if_neg (by omega), drop_end (by omega), drop_end (by omega)]; rfl
  | succ d ih =>
    intro k i hd hk hi
    obtain ⟨k, rfl⟩ : ∃ m, k = m + 1 := ⟨k - 1, by omega⟩
    have h1 : i < a.length := by omega
    have h2 : i < b.length := by omega
    simp only [pairs_Pair_int64_128.l0]
    rw [if_pos (by omega), if_pos (by omega), if_pos (by omega), if_pos (by omega), rdPr_at h1, rdPr_at h2, drop_at h1, drop_at h2]
    generalize a[i] = x
    generalize b[i] = y
    by_cases he : x = y
    · subst he
      rw [if_neg (by simp), wrap_succ (by omega), ih k (i + 1) (by omega) (by omega) (by omega)]
      congr 1; rw [decide_eq_decide, List.cons_eq_cons]; exact ⟨fun h => ⟨rfl, h⟩, fun h => h.2⟩
    · rw [if_pos, decide_eq_false (fun h => he (List.cons_eq_cons.1 h).1)]
      obtain ⟨x0, x1⟩ := x
      obtain ⟨y0, y1⟩ := y
      simp only [Bool.or_eq_true, Bool.not_eq_true', beq_eq_false_iff_ne, ne_eq]
      by_cases h0 : x0 = y0
      · right; intro h1; subst h0; subst h1; exact he rfl
      · exact Or.inl h0
theorem equalPr_eq (a b : List Pr) (hm : a.length < 17592186044416) (k : Nat) (hk : a.length < k) : pairs_Equal_int64.f k a b = some (decide (a = b)) := by
  unfold pairs_Equal_int64.f pairs_Pair_int64_128.f
  by_cases h : a.length = b.length
  · rw [if_pos (by omega)]
    have := equalPr_loop a b h hm a.length k 0 (by omega) hk (by omega)
    simp only [List.drop_zero] at this
    rw [show (0 : Int) = ((0 : Nat) : Int) from rfl, this]; rfl
  · rw [if_neg (by omega)]
    rw [decide_eq_false (fun e => h (by rw [e]))]; rfl

/-- The spans made of places are right. -/
theorem spansOf_check {l : List Int} (hr : rises (-1048576) l = true) (h1 : l.length ≤ 4096) (h2 : (spansOf l).length ≤ 1024) : spCheck (spansOf l) = 0 := by
  have h := spInv_take l hr
  unfold spCheck
  rw [if_neg (by omega), if_pos (h.right (by omega))]
theorem spansOf_wf {l : List Int} (hr : rises (-1048576) l = true) (h1 : l.length ≤ 4096) : wfSps (spansOf l) := by
  have h := spInv_take l hr
  intro s hs
  have := h.pos s hs
  exact ⟨⟨by omega, by omega⟩, ⟨by omega, by omega⟩⟩

end Go.Proofs.Ytacgeafjilipdaa.P
