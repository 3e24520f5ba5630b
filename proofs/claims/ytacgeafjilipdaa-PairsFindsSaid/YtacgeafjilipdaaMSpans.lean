/- Spans and their places in closed form: program and reference. -/
import Derived.Test.YtacgeafjilipdaaMPure06
namespace Go.Proofs.Ytacgeafjilipdaa.P
open Go.RowKit Go.Proofs.YtacgeafjilipdaaW.PrintWords Go.Proofs.YtacgeafjilipdaaW.PrintLast Go.Proofs.YtacgeafjilipdaaW.PrintMore
set_option linter.unusedVariables false
set_option linter.unusedSimpArgs false

/-- Places one behind the other, without bounds. -/
def run : Int → Nat → List Int
  | _, 0 => []
  | a, n + 1 => a :: run (a + 1) n
theorem run_length : ∀ (n : Nat) (a : Int), (run a n).length = n
  | 0, _ => rfl
  | n + 1, a => by show (run (a + 1) n).length + 1 = n + 1; rw [run_length n]
theorem run_snoc : ∀ (n : Nat) (a : Int), run a (n + 1) = run a n ++ [a + n]
  | 0, a => by simp [run]
  | n + 1, a => by
    show a :: run (a + 1) (n + 1) = a :: run (a + 1) n ++ [a + ((n + 1 : Nat) : Int)]
    rw [run_snoc n]; simp; omega
def plN : Int → List Sp → List Int
  | _, [] => []
  | a, s :: r => run (a + s.f0) s.f1.toNat ++ plN (a + s.f0 + s.f1) r
def enN : Int → List Sp → Int
  | a, [] => a
  | a, s :: r => enN (a + s.f0 + s.f1) r
def cntN : List Sp → Int
  | [] => 0
  | s :: r => s.f1 + cntN r
theorem plN_snoc (s : Sp) : ∀ (l : List Sp) (a : Int), plN a (l ++ [s]) = plN a l ++ run (enN a l + s.f0) s.f1.toNat
  | [], a => by simp [plN, enN]
  | x :: l, a => by simp [plN, enN, plN_snoc s l]
theorem enN_snoc (s : Sp) : ∀ (l : List Sp) (a : Int), enN a (l ++ [s]) = enN a l + s.f0 + s.f1
  | [], a => by simp [enN]
  | x :: l, a => by simp [enN, enN_snoc s l]
theorem cntN_snoc (s : Sp) : ∀ (l : List Sp), cntN (l ++ [s]) = cntN l + s.f1
  | [] => by simp [cntN]
  | x :: l => by simp [cntN, cntN_snoc s l]; omega
theorem spRight_snoc (s : Sp) : ∀ (l : List Sp) (f : Bool) (a n : Int), spRight f a n (l ++ [s]) = (spRight f a n l && decide (oneRight (f && l.isEmpty) (enN a l) (n + cntN l) s))
  | [], f, a, n => by simp [spRight, enN, cntN]
  | x :: l, f, a, n => by
    simp only [List.cons_append, spRight, enN, cntN, spRight_snoc s l, List.isEmpty_cons, Bool.false_and, Bool.and_false, Bool.and_assoc, Int.add_assoc]
/-- All lengths are none or more. -/
theorem spRight_pos : ∀ (l : List Sp) (f : Bool) (a n : Int), spRight f a n l = true → ∀ s ∈ l, 0 ≤ s.f1 ∧ s.f1 ≤ 4096
  | [], _, _, _, _, s, hs => by simp at hs
  | x :: l, f, a, n, h, s, hs => by
    simp only [spRight, Bool.and_eq_true, decide_eq_true_eq] at h
    rcases List.mem_cons.1 hs with rfl | hs
    · exact ⟨h.1.1, h.1.2.1⟩
    · exact spRight_pos l _ _ _ h.2 s hs
theorem plN_length : ∀ (l : List Sp) (a : Int), (∀ s ∈ l, 0 ≤ s.f1) → ((plN a l).length : Int) = cntN l
  | [], _, _ => rfl
  | s :: l, a, h => by
    have := plN_length l (a + s.f0 + s.f1) (fun x hx => h x (List.mem_cons_of_mem _ hx))
    have := h s (List.mem_cons_self ..)
    simp only [plN, cntN, List.length_append, run_length]
    omega
theorem runAt_run : ∀ (n : Nat) (a : Int), -4611686018427387904 ≤ a → a + n ≤ 4611686018427387904 → runAt a n = run a n ∧ runEnd a n = a + n
  | 0, a, _, _ => ⟨rfl, by simp [runEnd]⟩
  | n + 1, a, h0, h1 => by
    have h2 : a + 1 + (n : Int) ≤ 4611686018427387904 := by omega
    obtain ⟨e1, e2⟩ := runAt_run n (a + 1) (by omega) h2
    simp only [runAt, runEnd, run]
    rw [wrap_id (by omega) (by omega), e1, e2]
    exact ⟨rfl, by omega⟩
theorem placesAt_plN : ∀ (l : List Sp) (f : Bool) (a n : Int), spRight f a n l = true → placesAt a l = plN a l
  | [], _, _, _, _ => rfl
  | s :: l, f, a, n, h => by
    simp only [spRight, Bool.and_eq_true, decide_eq_true_eq] at h
    obtain ⟨h1, h2, h3, h4, h5, h6, h7, h8⟩ := h.1
    have he : ((s.f1.toNat : Nat) : Int) = s.f1 := by omega
    have hb := runAt_run s.f1.toNat (a + s.f0) (by omega) (by omega)
    simp only [placesAt, plN]
    rw [wrap_id (by omega) (by omega), hb.1, hb.2, he, placesAt_plN l _ _ _ h.2]
theorem cntN_le : ∀ (l : List Sp) (f : Bool) (a n : Int), spRight f a n l = true → n ≤ 4096 → n + cntN l ≤ 4096
  | [], _, _, _, _, h => by simp [cntN]; exact h
  | s :: l, f, a, n, h, _ => by
    simp only [spRight, Bool.and_eq_true, decide_eq_true_eq] at h
    have := cntN_le l _ _ _ h.2 h.1.2.2.2.2.2.2.2
    simp only [cntN]; omega

/-- They rise from some place on, to the last that may be. -/
def rises : Int → List Int → Bool
  | _, [] => true
  | e, p :: r => decide (e ≤ p ∧ p ≤ 1048576) && rises (p + 1) r
/-- The first place that may come behind a list. -/
def lowB (e : Int) (l : List Int) : Int := match l.getLast? with | none => e | some q => q + 1
theorem lowB_none {e : Int} {l : List Int} (h : l.getLast? = none) : lowB e l = e := by unfold lowB; rw [h]
theorem lowB_some {e q : Int} {l : List Int} (h : l.getLast? = some q) : lowB e l = q + 1 := by unfold lowB; rw [h]
theorem rises_snoc (p : Int) : ∀ (l : List Int) (e : Int), rises e (l ++ [p]) = (rises e l && decide (lowB e l ≤ p ∧ p ≤ 1048576))
  | [], e => (show (decide (e ≤ p ∧ p ≤ 1048576) && true) = (true && decide (e ≤ p ∧ p ≤ 1048576)) from Bool.and_comm _ _)
  | x :: l, e => by
    simp only [List.cons_append, rises, rises_snoc p l, Bool.and_assoc]
    congr 3
    cases l with
    | nil => rfl
    | cons y l => cases h : (y :: l).getLast? with
      | none => simp at h
      | some q => rw [lowB_some h, lowB_some (by rw [List.getLast?_cons_cons]; exact h)]
theorem rises_take_false {l : List Int} {i : Nat} (h : i < l.length) (hb : ¬ (lowB (-1048576) (l.take i) ≤ l[i] ∧ l[i] ≤ 1048576)) : rises (-1048576) l = false := by
  have e : l = l.take (i + 1) ++ l.drop (i + 1) := (List.take_append_drop _ _).symm
  have happ : ∀ (a b : List Int) (e : Int), rises e a = false → rises e (a ++ b) = false := by
    intro a
    induction a with
    | nil => intro b e h; simp [rises] at h
    | cons x a ih => intro b e h; simp only [List.cons_append, rises] at h ⊢; rcases Bool.and_eq_false_iff.1 h with h | h
                     · rw [h]; rfl
                     · rw [ih b _ h]; simp
  rw [e]
  apply happ
  rw [take_at h, rises_snoc, decide_eq_false hb]
  simp

/-- One place more. -/
def stepF (c : List Sp × Int) (p : Int) : List Sp × Int :=
  (if c.1 = [] ∨ p > c.2 then c.1 ++ [⟨p - c.2, 1⟩] else c.1.dropLast ++ (c.1.getLast?.map fun s => (⟨s.f0, s.f1 + 1⟩ : Sp)).toList, p + 1)
def foldF (l : List Int) : List Sp × Int := l.foldl stepF ([], 0)
/-- The canonical list of places. -/
def spansOf (l : List Int) : List Sp := (foldF l).1
theorem foldF_snoc (l : List Int) (p : Int) : foldF (l ++ [p]) = stepF (foldF l) p := by simp [foldF]
def canonOne (first : Bool) (s : Sp) : Prop := s.f1 ≠ 0 ∧ (first = false → s.f0 ≠ 0)
instance (f : Bool) (s : Sp) : Decidable (canonOne f s) := by unfold canonOne; exact inferInstance
def canonB : Bool → List Sp → Bool
  | _, [] => true
  | f, s :: r => decide (canonOne f s) && canonB false r
theorem canonB_snoc (s : Sp) : ∀ (l : List Sp) (f : Bool), canonB f (l ++ [s]) = (canonB f l && decide (canonOne (f && l.isEmpty) s))
  | [], f => by simp [canonB]
  | x :: l, f => by simp only [List.cons_append, canonB, canonB_snoc s l, List.isEmpty_cons, Bool.false_and, Bool.and_false, Bool.and_assoc]

/-- What holds of the spans of rising places. -/
structure SpInv (l : List Int) (c : List Sp) (e : Int) : Prop where
  pl : plN 0 c = l
  en : enN 0 c = e
  cnt : cntN c = l.length
  can : canonB true c = true
  pos : ∀ s ∈ c, 1 ≤ s.f1 ∧ s.f1 ≤ l.length ∧ -1048576 ≤ s.f0 ∧ s.f0 ≤ 2097152
  right : (l.length : Int) ≤ 4096 → spRight true 0 0 c = true
  nil : c = [] ↔ l = []
  last : ∀ q, l.getLast? = some q → e = q + 1 ∧ -1048576 ≤ q ∧ q ≤ 1048576
  first : l = [] → e = 0
  len : c.length ≤ l.length

theorem spInv_step {l : List Int} {p : Int} (h : SpInv l (foldF l).1 (foldF l).2) (hp : lowB (-1048576) l ≤ p ∧ p ≤ 1048576) : SpInv (l ++ [p]) (foldF (l ++ [p])).1 (foldF (l ++ [p])).2 := by
  rw [foldF_snoc]
  generalize foldF l = g at h
  obtain ⟨c, e⟩ := g
  obtain ⟨hpl, hen, hcnt, hcan, hpos, hright, hnil, hlast, hfirst, hlen⟩ := h
  simp only at hpl hen hcnt hcan hpos hright hnil hlast hfirst hlen
  have hpb : -1048576 ≤ p := by
    cases hl : l.getLast? with
    | none => rw [lowB_none hl] at hp; exact hp.1
    | some q => rw [lowB_some hl] at hp; have := hlast q hl; have := hp.1; omega
  have heb : -1048576 ≤ e ∧ e ≤ 1048577 := by
    cases hl : l.getLast? with
    | none => have := hfirst (List.getLast?_eq_none_iff.1 hl); omega
    | some q => have := hlast q hl; omega
  have hlast' : ∀ q, (l ++ [p]).getLast? = some q → p + 1 = q + 1 ∧ -1048576 ≤ q ∧ q ≤ 1048576 := by
    intro q hq; simp at hq; subst hq; exact ⟨rfl, hpb, hp.2⟩
  unfold stepF
  simp only
  by_cases hc : c = [] ∨ p > e
  · rw [if_pos hc]
    have hemp : c ≠ [] → 0 < p - e := by intro hne; rcases hc with hc | hc; exact absurd hc hne; omega
    have hlo : -1048576 ≤ p - e := by
      by_cases hne : c = []
      · have := hfirst (hnil.1 hne); omega
      · have := hemp hne; omega
    refine ⟨?_, ?_, ?_, ?_, ?_, ?_, ?_, hlast', by simp, by simp; exact hlen⟩
    · rw [plN_snoc, hpl, hen]; simp [run]; omega
    · rw [enN_snoc, hen]; simp; omega
    · rw [cntN_snoc, hcnt]; simp
    · rw [canonB_snoc, hcan]
      simp only [Bool.true_and, decide_eq_true_eq]
      refine ⟨by simp, fun hf => ?_⟩
      have : c ≠ [] := by rintro rfl; simp at hf
      have := hemp this
      simp only; omega
    · intro s hs
      rcases List.mem_append.1 hs with hs | hs
      · have := hpos s hs; simp; omega
      · simp at hs; subst hs; simp; omega
    · intro hl
      have hl' : (l.length : Int) ≤ 4096 := by simp at hl; omega
      rw [spRight_snoc, hright hl', hen, hcnt]
      simp only [Bool.true_and, decide_eq_true_eq]
      refine ⟨by simp, by simp, by simp; omega, ?_, by simp; omega, by simp; omega, by simp; omega, by simp at hl ⊢; omega⟩
      by_cases hne : c = []
      · subst hne; simp; have := hfirst (hnil.1 rfl); omega
      · have := hemp hne
        rw [if_neg (by simp [hne])]
        simp only; omega
    · simp
  · rw [if_neg hc]
    have hne : c ≠ [] := fun h => hc (Or.inl h)
    obtain ⟨c', s, rfl⟩ : ∃ c' s, c = c' ++ [s] := ⟨c.dropLast, c.getLast hne, (List.dropLast_concat_getLast hne).symm⟩
    have hle : l ≠ [] := fun h => hne (hnil.2 h)
    obtain ⟨q, hq⟩ : ∃ q, l.getLast? = some q := by cases hl : l.getLast? with
      | none => exact absurd (List.getLast?_eq_none_iff.1 hl) hle
      | some q => exact ⟨q, rfl⟩
    have hpe : p = e := by
      rw [lowB_some hq] at hp
      have := hlast q hq
      have := hp.1
      have : ¬ p > e := fun h => hc (Or.inr h)
      omega
    subst hpe
    have hs1 := hpos s (by simp)
    rw [plN_snoc] at hpl
    rw [enN_snoc] at hen
    rw [cntN_snoc] at hcnt
    rw [canonB_snoc] at hcan
    simp only [Bool.and_eq_true, decide_eq_true_eq] at hcan
    simp only [List.dropLast_concat, List.getLast?_concat, Option.map_some, Option.toList_some]
    have het : (s.f1 + 1).toNat = s.f1.toNat + 1 := by omega
    refine ⟨?_, ?_, ?_, ?_, ?_, ?_, ?_, hlast', by simp, by simp at hlen ⊢; omega⟩
    · rw [plN_snoc]; simp only []; rw [het, run_snoc, ← List.append_assoc, hpl]
      congr 2; omega
    · rw [enN_snoc]; simp only; omega
    · rw [cntN_snoc]; simp only [List.length_append, List.length_cons, List.length_nil]; omega
    · rw [canonB_snoc, hcan.1]
      simp only [Bool.true_and, decide_eq_true_eq]
      exact ⟨by simp only; omega, hcan.2.2⟩
    · intro x hx
      rcases List.mem_append.1 hx with hx | hx
      · have := hpos x (by simp [hx]); simp; omega
      · simp at hx; subst hx; simp; omega
    · intro hl
      have hl' : (l.length : Int) ≤ 4096 := by simp at hl; omega
      have hr := hright hl'
      rw [spRight_snoc] at hr ⊢
      simp only [Bool.and_eq_true, decide_eq_true_eq] at hr ⊢
      obtain ⟨hr0, h1, h2, h3, h4, h5, h6, h7, h8⟩ := hr
      simp only [List.length_append, List.length_cons, List.length_nil] at hl
      exact ⟨hr0, by simp only; omega, by simp only; omega, h3, h4, h5, h6, by simp only; omega, by simp only; omega⟩
    · simp
theorem spInv_take (l : List Int) (hr : rises (-1048576) l = true) : SpInv l (spansOf l) (foldF l).2 := by
  have : ∀ i, i ≤ l.length → SpInv (l.take i) (foldF (l.take i)).1 (foldF (l.take i)).2 := by
    intro i
    induction i with
    | zero => intro _; simp only [List.take_zero]; exact ⟨rfl, rfl, rfl, rfl, by simp [foldF], fun _ => rfl, by simp [foldF], by simp, fun _ => rfl, by simp [foldF]⟩
    | succ i ih =>
      intro hi
      have hlt : i < l.length := by omega
      rw [take_at hlt]
      refine spInv_step (ih (by omega)) ?_
      by_cases hb : (lowB (-1048576) (l.take i) ≤ l[i] ∧ l[i] ≤ 1048576)
      · exact hb
      · rw [rises_take_false hlt hb] at hr; cases hr
  have := this l.length (Nat.le_refl _)
  rwa [List.take_length] at this

end Go.Proofs.Ytacgeafjilipdaa.P
