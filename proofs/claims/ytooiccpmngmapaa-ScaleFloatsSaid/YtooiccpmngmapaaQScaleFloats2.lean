/- ScaleFloats: the part that this text bears of the proof that the statement answers true for every input. No condition. -/
import Derived.Test.YtooiccpmngmapaaQScaleFloats1
import Derived.RegionIn
import Derived.Sort.QuietTacIn
import Derived.Deep.RegionWith
import Derived.Laws.BitsAllLaws
import Derived.Outline
set_option linter.unusedVariables false
set_option linter.unusedSimpArgs false
namespace Go.Proofs.Ytooiccpmngmapaa.P
open Go.RowKit Go.Shelf Go.Proofs.YtooiccpmngmapaaW.PrintWords Go.Proofs.YtooiccpmngmapaaW.PrintLast Go.Proofs.YtooiccpmngmapaaW.PrintMore
def nan (v : Int) : Bool := decide ((Go.bits .andNot .u64 v 9223372036854775808) > 9218868437227405312)
def fits (zc ct sm : Int) (p n : List Pr) : Bool := (pJ zc [p, n]).2 && decide ((pJ zc [p, n]).1 ≤ ct) && (decide (¬ (pJ zc [p, n]).1 < ct) || nan sm)
def AU (s z zc ct sm : Int) (l5 l6 : List Sp) (l7 l8 : List Int) : List Pr × List Pr × Int :=
 if s < -4 ∨ s > 8 then ([], [], 21) else if ¬ z < 9218868437227405312 then ([], [], 11)
 else if (jP l5 l7).2 ≠ 0 then ([], [], (jP l5 l7).2) else if (jP l6 l8).2 ≠ 0 then ([], [], (jP l6 l8).2)
 else if fits zc ct sm (jP l5 l7).1 (jP l6 l8).1 = true then ((jP l5 l7).1, (jP l6 l8).1, 0) else ([], [], 22)
def UD (s z zc ct sm : Int) (l5 l6 : List Sp) (l7 l8 : List Int) : Prop := i64 s ∧ u64 z ∧ u64 zc ∧ u64 ct ∧ u64 sm ∧ kU l5 ∧ kU l6 ∧ Gj l7 ∧ Gj l8 ∧ l7.length < 4398046511104 ∧ l8.length < 4398046511104
instance (s z zc ct sm : Int) (l5 l6 : List Sp) (l7 l8 : List Int) : Decidable (UD s z zc ct sm l5 l6 l7 l8) := by unfold UD; exact inferInstance
def hist_open.f (s z zc ct sm : Int) (l5 l6 : List Sp) (l7 l8 : List Int) : Option (List Pr × List Pr × Int) := if UD s z zc ct sm l5 l6 l7 l8 then some (AU s z zc ct sm l5 l6 l7 l8) else none
theorem zF {l : List Sp} {d : List Int} (hd : Gj d) (h : (jP l d).2 = 0) : (∀ p ∈ (jP l d).1, 0 ≤ p.f1 ∧ p.f1 ≤ 9223372036854775807) ∧ (jP l d).1.length ≤ 4096 := by
  unfold jP at h ⊢
  by_cases c1 : fU l = 0
  rotate_left
  · rw [if_neg c1] at h; exact absurd h c1
  rw [if_pos c1] at h ⊢
  by_cases c2 : nK l = d.length
  rotate_left
  · rw [if_neg c2] at h; cases h
  rw [if_pos c2] at h ⊢
  cases hs : gJ 0 d with
  | none => rw [hs] at h; cases h
  | some c =>
    rw [hs] at h
    simp only at h ⊢
    by_cases c3 : c.any (fun x => decide (x < 0)) = true
    · rw [if_pos c3] at h; cases h
    rw [if_neg c3]
    have hi := AP d 0 c hs
    refine ⟨fun p hp => ?_, by have := uj c1; simp; omega⟩
    have : p.f1 ∈ c := by
      obtain ⟨i, hi2, rfl⟩ := List.mem_iff_getElem.1 hp
      simp only [List.getElem_zipWith]
      exact List.getElem_mem _
    have h1 := hi _ this
    refine ⟨?_, h1.2⟩
    by_cases hneg : p.f1 < 0
    · exact absurd (List.any_eq_true.2 ⟨_, this, ahG hneg⟩) c3
    · omega
theorem uw {w : World} {b1 b2 : Nat} {ok1 ok2 : Nat → Prop} {A B : Option Addr} {c d : Nat} {p n : List Pr} (h1 : Kd.R jB 173 w b1 ok1 (.slice A p.length c) p) (h2 : Kd.R jB 173 w b2 ok2 (.slice B n.length d) n) :
  RJ (w.alloc (.cells #[.slice A p.length c, .slice B n.length d] 91)) w.heap.size [p, n] := by
 have hb := iL w (.cells #[.slice A p.length c, .slice B n.length d] 91)
 intro i hi
 match i, hi with
 | 0, _ => exact ⟨A, c, (au hb 0).trans rfl, (Kd.bF h1).2.1, Kd.bT (Kd.bF h1).2.2 (ak (Below.refl _ _) _)⟩
 | 1, _ => exact ⟨B, d, (au hb 1).trans rfl, (Kd.bF h2).2.1, Kd.bT (Kd.bF h2).2.2 (ak (Below.refl _ _) _)⟩
theorem uQ {w : World} {b1 b2 m b0 : Nat} {v1 v2 : Value} {p n : List Pr} (h1 : Kd.R jB 173 w b1 (fun k => k < m ∧ b0 ≤ k) v1 p) (h2 : Kd.R jB 173 w b2 (fun k => m ≤ k ∧ b0 ≤ k) v2 n) :
  Kd.R jB 173 w b1 (fun k_ => (b0 ≤ k_) ∧ some k_ ≠ v2.ownBlock) v1 p ∧ Kd.R jB 173 w b2 (fun k_ => (b0 ≤ k_) ∧ some k_ ≠ v1.ownBlock) v2 n := by
 refine ⟨Kd.bZ h1 (fun k hk => ⟨hk.2, fun e => ?_⟩), Kd.bZ h2 (fun k hk => ⟨hk.2, fun e => ?_⟩)⟩
 ·have := h2.1 k e.symm; omega
 ·have := h1.1 k e.symm; omega
set_option maxHeartbeats 8000000 in
set_option maxRecDepth 100000 in
theorem hist_open.calls (s z zc ct sm : Int) (A5 : Option Addr) (c5 : Nat) (l5 : List Sp) (A6 : Option Addr) (c6 : Nat) (l6 : List Sp) (A7 : Option Addr) (c7 : Nat) (l7 : List Int) (A8 : Option Addr) (c8 : Nat) (l8 : List Int) (r1 r2 : List Pr) (r3 : Int) (w : World)
    (hr5 : Kd.C jq w A5 l5.length l5) (hc5 : l5.length ≤ c5) (hr6 : Kd.C jq w A6 l6.length l6) (hc6 : l6.length ≤ c6) (hr7 : Kd.C (Kd.int .i64) w A7 l7.length l7) (TP : l7.length ≤ c7) (hr8 : Kd.C (Kd.int .i64) w A8 l8.length l8) (hc8 : l8.length ≤ c8)
    (h : hist_open.f s z zc ct sm l5 l6 l7 l8 = some (r1, r2, r3)) :
    Calls Try.prog 70 #[.agg #[.int .i64 s, .int .u64 z, .int .u64 zc, .int .u64 ct, .int .u64 sm, .slice A5 l5.length c5, .slice A6 l6.length c6, .slice A7 l7.length c7, .slice A8 l8.length c8]] w fun e w' => ∃ mW Np : Value, e = .returned (.tuple #[mW, Np, .int .i64 r3]) ∧ Kd.R jB 173 w' w.heap.size (fun k_ => (w.heap.size ≤ k_) ∧ some k_ ≠ (Np : Value).ownBlock) mW r1 ∧ Kd.R jB 173 w' w.heap.size (fun k_ => (w.heap.size ≤ k_) ∧ some k_ ≠ (mW : Value).ownBlock) Np r2 ∧ Below w.heap.size w w' := by
  obtain ⟨hw, h2⟩ := lC h
  clear h
  obtain ⟨hs, hz, hzc, hct, hsm, hw5, hw6, hi7, hi8, hm7, hm8⟩ := hw
  have hu := Try.underlying29
  have HRA := ah (And.intro hr5 (And.intro hr6 (And.intro hr7 hr8)))
  have HCA := ah (And.intro hc5 (And.intro hc6 (And.intro TP hc8)))
  have H := ah h2
  have hs5 : hist_side.f l5 l7 = some (jP l5 l7) := if_pos ⟨hw5, hi7, hm7⟩
  have hs6 : hist_side.f l6 l8 = some (jP l6 l8) := if_pos ⟨hw6, hi8, hm8⟩
  have UE := zF (l := l5) hi7
  have UF := zF (l := l6) hi8
  clear h2 hr5 hr6 hr7 hr8 hc5 hc6 TP hc8 hw5 hw6 hi7 hi8 hm7 hm8
  unfold AU at H
  generalize jP l5 l7 = q5 at H hs5 UE
  generalize jP l6 l8 = q6 at H hs6 UF
  obtain ⟨p, e5⟩ := q5
  obtain ⟨n, e6⟩ := q6
  simp only at H UE UF
  have Xd := ah hs5
  have Yx := ah hs6
  have HOK := ah (And.intro UE UF)
  have HU := ah (And.intro hzc (And.intro hct hsm))
  clear hs5 hs6 UE UF hzc hct hsm hs hz
  by_cases c1 : s < -4
  · have H := H.out
    rw [if_pos (Or.inl c1)] at H
    injection H with h4 h5; injection h5 with h5 h6
    subst h4; subst h5; subst h6
    have c1b : decide (s < -4) = true := ahG c1
    clear c1
    go_enter Try.func70, Try.ntmps70
    go_wp2
    go_ret3
    exact ⟨_, _, rfl, Kd.eY _ _ _ _ _, Kd.eY _ _ _ _ _, ak (Below.refl _ _) _⟩
  by_cases c2 : s > 8
  · have H := H.out
    rw [if_pos (Or.inr c2)] at H
    injection H with h4 h5; injection h5 with h5 h6
    subst h4; subst h5; subst h6
    have c1b : decide (s < -4) = false := ahH c1
    have c2b : decide (8 < s) = true := ahG c2
    clear c1 c2
    go_enter Try.func70, Try.ntmps70
    go_wp2
    go_ret3
    exact ⟨_, _, rfl, Kd.eY _ _ _ _ _, Kd.eY _ _ _ _ _, ak (Below.refl _ _) _⟩
  have c1b : decide (s < -4) = false := ahH c1
  have c2b : decide (8 < s) = false := ahH c2
  rw [if_neg (by omega)] at H
  clear c1 c2
  obtain ⟨tz, htz⟩ : ∃ b, b = decide (z < 9218868437227405312) := ⟨_, rfl⟩
  have HTh := ah (show hist_Threshold.f z = some tz by rw [htz]; rfl)
  by_cases c3 : z < 9218868437227405312
  rotate_left
  · have H := H.out
    rw [if_pos c3] at H
    injection H with h4 h5; injection h5 with h5 h6
    subst h4; subst h5; subst h6
    rw [ahH c3] at htz
    subst htz
    clear c3
    go_enter Try.func70, Try.ntmps70
    go_wp2_with (first | (go_at_call 131; (with_reducible refine (hist_Threshold.calls z _ _ HTh.out).mono ?_); rintro e w1 ⟨rfl, hb⟩; have HB1 := ah (aG (ak (Below.refl w.heap.size w) (.cells #[.int .i64 s, .int .u64 z, .int .u64 zc, .int .u64 ct, .int .u64 sm, .slice A5 l5.length c5, .slice A6 l6.length c6, .slice A7 l7.length c7, .slice A8 l8.length c8] 29)) (by simp) hb.below); have oO := ah (bD (iL w (.cells #[.int .i64 s, .int .u64 z, .int .u64 zc, .int .u64 ct, .int .u64 sm, .slice A5 l5.length c5, .slice A6 l6.length c6, .slice A7 l7.length c7, .slice A8 l8.length c8] 29)) hb.below); have hf := fun i => au oO.out i; clear hb))
    go_ret3
    exact ⟨_, _, rfl, Kd.eY _ _ _ _ _, Kd.eY _ _ _ _ _, HB1.out⟩
  rw [ahG c3] at htz
  subst htz
  rw [if_neg (by omega)] at H
  clear c3
  by_cases c4 : e5 = 0
  rotate_left
  · have H := H.out
    rw [if_pos c4] at H
    injection H with h4 h5; injection h5 with h5 h6
    subst h4; subst h5; subst h6
    have c4b : (e5 == 0) = false := beq_eq_false_iff_ne.2 c4
    have c4c : (e5 != 0) = true := bne_iff_ne.2 c4
    clear c4
    go_enter Try.func70, Try.ntmps70
    go_wp2_with (first | (go_at_call 131; (with_reducible refine (hist_Threshold.calls z _ _ HTh.out).mono ?_); rintro e w1 ⟨rfl, hb⟩; have HB1 := ah (aG (ak (Below.refl w.heap.size w) (.cells #[.int .i64 s, .int .u64 z, .int .u64 zc, .int .u64 ct, .int .u64 sm, .slice A5 l5.length c5, .slice A6 l6.length c6, .slice A7 l7.length c7, .slice A8 l8.length c8] 29)) (by simp) hb.below); have oO := ah (bD (iL w (.cells #[.int .i64 s, .int .u64 z, .int .u64 zc, .int .u64 ct, .int .u64 sm, .slice A5 l5.length c5, .slice A6 l6.length c6, .slice A7 l7.length c7, .slice A8 l8.length c8] 29)) hb.below); have hf := fun i => au oO.out i; clear hb) | (go_at_call 132; (with_reducible refine (hist_side.calls _ _ l5 _ _ l7 p _ _ (Kd.bT HRA.out.1 HB1.out) HCA.out.1 (Kd.bT HRA.out.2.2.1 HB1.out) HCA.out.2.2.1 Xd.out).mono ?_); rintro e w2 ⟨v2, rfl, ho2, hb⟩; have HB2 := ah (aG HB1.out HB1.out.size hb); have Jg := ah (bD oO.out hb); have hf2 := fun i => au Jg.out i; have EF := ah (Kd.bZ (ok' := fun k => k < w2.heap.size ∧ w.heap.size ≤ k) (Kd.dh (Kd.jK ho2) HB1.out.size) (fun k hk => ⟨hk.2.2.1, Nat.le_trans HB1.out.size hk.2.1⟩)); obtain ⟨B2, d2, PN⟩ := Kd.dw ho2; subst PN; clear ho2 hb))
    go_ret3
    exact ⟨_, _, rfl, Kd.eY _ _ _ _ _, Kd.eY _ _ _ _ _, HB2.out⟩
  subst c4
  rw [if_neg (by simp)] at H
  by_cases c5' : e6 = 0
  rotate_left
  · have H := H.out
    rw [if_pos c5'] at H
    injection H with h4 h5; injection h5 with h5 h6
    subst h4; subst h5; subst h6
    have c4b : (e6 == 0) = false := beq_eq_false_iff_ne.2 c5'
    have c4c : (e6 != 0) = true := bne_iff_ne.2 c5'
    clear c5'
    go_enter Try.func70, Try.ntmps70
    go_wp2_with (first | (go_at_call 131; (with_reducible refine (hist_Threshold.calls z _ _ HTh.out).mono ?_); rintro e w1 ⟨rfl, hb⟩; have HB1 := ah (aG (ak (Below.refl w.heap.size w) (.cells #[.int .i64 s, .int .u64 z, .int .u64 zc, .int .u64 ct, .int .u64 sm, .slice A5 l5.length c5, .slice A6 l6.length c6, .slice A7 l7.length c7, .slice A8 l8.length c8] 29)) (by simp) hb.below); have oO := ah (bD (iL w (.cells #[.int .i64 s, .int .u64 z, .int .u64 zc, .int .u64 ct, .int .u64 sm, .slice A5 l5.length c5, .slice A6 l6.length c6, .slice A7 l7.length c7, .slice A8 l8.length c8] 29)) hb.below); have hf := fun i => au oO.out i; clear hb) | (go_at_call 132; (with_reducible refine (hist_side.calls _ _ l5 _ _ l7 p _ _ (Kd.bT HRA.out.1 HB1.out) HCA.out.1 (Kd.bT HRA.out.2.2.1 HB1.out) HCA.out.2.2.1 Xd.out).mono ?_); rintro e w2 ⟨v2, rfl, ho2, hb⟩; have HB2 := ah (aG HB1.out HB1.out.size hb); have Jg := ah (bD oO.out hb); have hf2 := fun i => au Jg.out i; have EF := ah (Kd.bZ (ok' := fun k => k < w2.heap.size ∧ w.heap.size ≤ k) (Kd.dh (Kd.jK ho2) HB1.out.size) (fun k hk => ⟨hk.2.2.1, Nat.le_trans HB1.out.size hk.2.1⟩)); obtain ⟨B2, d2, PN⟩ := Kd.dw ho2; subst PN; clear ho2 hb) | (go_at_call 132; (with_reducible refine (hist_side.calls _ _ l6 _ _ l8 n _ _ (Kd.bT HRA.out.2.1 HB2.out) HCA.out.2.1 (Kd.bT HRA.out.2.2.2 HB2.out) HCA.out.2.2.2 Yx.out).mono ?_); rintro e w3 ⟨v3, rfl, ho3, hb⟩; have HB3 := ah (aG HB2.out HB2.out.size hb); have xk := ah (bD Jg.out hb); have hf3 := fun i => au xk.out i; have Cb := ah (And.intro (Kd.eU EF.out hb) (Kd.bZ (ok' := fun k => w2.heap.size ≤ k ∧ w.heap.size ≤ k) (Kd.dh (Kd.jK ho3) HB2.out.size) (fun k hk => ⟨hk.2.1, Nat.le_trans HB2.out.size hk.2.1⟩))); obtain ⟨B3, d3, RN⟩ := Kd.dw ho3; subst RN; clear ho3 hb))
    go_ret3
    exact ⟨_, _, rfl, Kd.eY _ _ _ _ _, Kd.eY _ _ _ _ _, HB3.out⟩
  subst c5'
  rw [if_neg (by simp)] at H
  have HV := ah (show u64 zc ∧ (∀ r ∈ [p, n], ∀ q ∈ r, 0 ≤ q.f1 ∧ q.f1 ≤ 9223372036854775807) ∧ (∀ r ∈ [p, n], r.length ≤ 4611686018427387904) by
    have h1 := HOK.out.1 rfl
    have h2 := HOK.out.2 rfl
    refine ⟨HU.out.1, fun r hr => ?_, fun r hr => ?_⟩
    · simp at hr; rcases hr with rfl | rfl
      · exact h1.1
      · exact h2.1
    · simp at hr; rcases hr with rfl | rfl <;> omega)
  obtain ⟨⟨tt, tb⟩, htt⟩ : ∃ t, t = pJ zc [p, n] := ⟨_, rfl⟩
  have HTot := ah htt.symm
  obtain ⟨bn, hbn⟩ : ∃ b, b = nan sm := ⟨_, rfl⟩
  have HNa := ah (show hist_NaN.f sm = some bn by rw [hbn]; rfl)
  unfold fits at H
  rw [← htt, ← hbn] at H
  simp only at H
  clear htt hbn
  cases tb with
  | false =>
    have H := H.out
    rw [if_neg (by simp)] at H
    injection H with h4 h5; injection h5 with h5 h6
    subst h4; subst h5; subst h6
    go_enter Try.func70, Try.ntmps70
    go_wp2_with (first | (go_at_call 131; (with_reducible refine (hist_Threshold.calls z _ _ HTh.out).mono ?_); rintro e w1 ⟨rfl, hb⟩; have HB1 := ah (aG (ak (Below.refl w.heap.size w) (.cells #[.int .i64 s, .int .u64 z, .int .u64 zc, .int .u64 ct, .int .u64 sm, .slice A5 l5.length c5, .slice A6 l6.length c6, .slice A7 l7.length c7, .slice A8 l8.length c8] 29)) (by simp) hb.below); have oO := ah (bD (iL w (.cells #[.int .i64 s, .int .u64 z, .int .u64 zc, .int .u64 ct, .int .u64 sm, .slice A5 l5.length c5, .slice A6 l6.length c6, .slice A7 l7.length c7, .slice A8 l8.length c8] 29)) hb.below); have hf := fun i => au oO.out i; clear hb) | (go_at_call 132; (with_reducible refine (hist_side.calls _ _ l5 _ _ l7 p _ _ (Kd.bT HRA.out.1 HB1.out) HCA.out.1 (Kd.bT HRA.out.2.2.1 HB1.out) HCA.out.2.2.1 Xd.out).mono ?_); rintro e w2 ⟨v2, rfl, ho2, hb⟩; have HB2 := ah (aG HB1.out HB1.out.size hb); have Jg := ah (bD oO.out hb); have hf2 := fun i => au Jg.out i; have EF := ah (Kd.bZ (ok' := fun k => k < w2.heap.size ∧ w.heap.size ≤ k) (Kd.dh (Kd.jK ho2) HB1.out.size) (fun k hk => ⟨hk.2.2.1, Nat.le_trans HB1.out.size hk.2.1⟩)); obtain ⟨B2, d2, PN⟩ := Kd.dw ho2; subst PN; clear ho2 hb) | (go_at_call 132; (with_reducible refine (hist_side.calls _ _ l6 _ _ l8 n _ _ (Kd.bT HRA.out.2.1 HB2.out) HCA.out.2.1 (Kd.bT HRA.out.2.2.2 HB2.out) HCA.out.2.2.2 Yx.out).mono ?_); rintro e w3 ⟨v3, rfl, ho3, hb⟩; have HB3 := ah (aG HB2.out HB2.out.size hb); have xk := ah (bD Jg.out hb); have hf3 := fun i => au xk.out i; have Cb := ah (And.intro (Kd.eU EF.out hb) (Kd.bZ (ok' := fun k => w2.heap.size ≤ k ∧ w.heap.size ≤ k) (Kd.dh (Kd.jK ho3) HB2.out.size) (fun k hk => ⟨hk.2.1, Nat.le_trans HB2.out.size hk.2.1⟩))); obtain ⟨B3, d3, RN⟩ := Kd.dw ho3; subst RN; clear ho3 hb) | (go_at_call 133; refine (uq s z zc ct sm _ _ _ _ _ _ _ _ _ _ _ _ w3.heap.size _ [p, n] _ HV.out.1 HV.out.2.1 HV.out.2.2 (by simp) (by simp) (uw Cb.out.1 Cb.out.2)).mono ?_; rintro e w4 ⟨rfl, hb⟩; rw [HTot.out]; have HB4 := ah (aG HB3.out HB3.out.size (aG (ak (Below.refl _ _) _) (by simp) hb)); have RP := ah (bD xk.out (aG (ak (Below.refl _ _) _) (by simp) hb)); have hf4 := fun i => au RP.out i; have Qk := ah (And.intro (Kd.eU Cb.out.1 (aG (ak (Below.refl _ _) _) (by simp) hb)) (Kd.eU Cb.out.2 (aG (ak (Below.refl _ _) _) (by simp) hb))); clear hb))
    go_ret3
    exact ⟨_, _, rfl, Kd.eY _ _ _ _ _, Kd.eY _ _ _ _ _, HB4.out⟩
  | true =>
    by_cases d1 : ct < tt
    · have d1b : decide (ct < tt) = true := ahG d1
      have H := H.out
      rw [if_neg (by simp; omega)] at H
      injection H with h4 h5; injection h5 with h5 h6
      subst h4; subst h5; subst h6
      clear d1
      go_enter Try.func70, Try.ntmps70
      go_wp2_with (first | (go_at_call 131; (with_reducible refine (hist_Threshold.calls z _ _ HTh.out).mono ?_); rintro e w1 ⟨rfl, hb⟩; have HB1 := ah (aG (ak (Below.refl w.heap.size w) (.cells #[.int .i64 s, .int .u64 z, .int .u64 zc, .int .u64 ct, .int .u64 sm, .slice A5 l5.length c5, .slice A6 l6.length c6, .slice A7 l7.length c7, .slice A8 l8.length c8] 29)) (by simp) hb.below); have oO := ah (bD (iL w (.cells #[.int .i64 s, .int .u64 z, .int .u64 zc, .int .u64 ct, .int .u64 sm, .slice A5 l5.length c5, .slice A6 l6.length c6, .slice A7 l7.length c7, .slice A8 l8.length c8] 29)) hb.below); have hf := fun i => au oO.out i; clear hb) | (go_at_call 132; (with_reducible refine (hist_side.calls _ _ l5 _ _ l7 p _ _ (Kd.bT HRA.out.1 HB1.out) HCA.out.1 (Kd.bT HRA.out.2.2.1 HB1.out) HCA.out.2.2.1 Xd.out).mono ?_); rintro e w2 ⟨v2, rfl, ho2, hb⟩; have HB2 := ah (aG HB1.out HB1.out.size hb); have Jg := ah (bD oO.out hb); have hf2 := fun i => au Jg.out i; have EF := ah (Kd.bZ (ok' := fun k => k < w2.heap.size ∧ w.heap.size ≤ k) (Kd.dh (Kd.jK ho2) HB1.out.size) (fun k hk => ⟨hk.2.2.1, Nat.le_trans HB1.out.size hk.2.1⟩)); obtain ⟨B2, d2, PN⟩ := Kd.dw ho2; subst PN; clear ho2 hb) | (go_at_call 132; (with_reducible refine (hist_side.calls _ _ l6 _ _ l8 n _ _ (Kd.bT HRA.out.2.1 HB2.out) HCA.out.2.1 (Kd.bT HRA.out.2.2.2 HB2.out) HCA.out.2.2.2 Yx.out).mono ?_); rintro e w3 ⟨v3, rfl, ho3, hb⟩; have HB3 := ah (aG HB2.out HB2.out.size hb); have xk := ah (bD Jg.out hb); have hf3 := fun i => au xk.out i; have Cb := ah (And.intro (Kd.eU EF.out hb) (Kd.bZ (ok' := fun k => w2.heap.size ≤ k ∧ w.heap.size ≤ k) (Kd.dh (Kd.jK ho3) HB2.out.size) (fun k hk => ⟨hk.2.1, Nat.le_trans HB2.out.size hk.2.1⟩))); obtain ⟨B3, d3, RN⟩ := Kd.dw ho3; subst RN; clear ho3 hb) | (go_at_call 133; refine (uq s z zc ct sm _ _ _ _ _ _ _ _ _ _ _ _ w3.heap.size _ [p, n] _ HV.out.1 HV.out.2.1 HV.out.2.2 (by simp) (by simp) (uw Cb.out.1 Cb.out.2)).mono ?_; rintro e w4 ⟨rfl, hb⟩; rw [HTot.out]; have HB4 := ah (aG HB3.out HB3.out.size (aG (ak (Below.refl _ _) _) (by simp) hb)); have RP := ah (bD xk.out (aG (ak (Below.refl _ _) _) (by simp) hb)); have hf4 := fun i => au RP.out i; have Qk := ah (And.intro (Kd.eU Cb.out.1 (aG (ak (Below.refl _ _) _) (by simp) hb)) (Kd.eU Cb.out.2 (aG (ak (Below.refl _ _) _) (by simp) hb))); clear hb))
      go_ret3
      exact ⟨_, _, rfl, Kd.eY _ _ _ _ _, Kd.eY _ _ _ _ _, HB4.out⟩
    have d1b : decide (ct < tt) = false := ahH d1
    by_cases d2 : tt < ct
    · have d2b : decide (tt < ct) = true := ahG d2
      cases bn with
      | false =>
        have H := H.out
        rw [if_neg (by simp; omega)] at H
        injection H with h4 h5; injection h5 with h5 h6
        subst h4; subst h5; subst h6
        clear d1 d2
        go_enter Try.func70, Try.ntmps70
        go_wp2_with (first | (go_at_call 131; (with_reducible refine (hist_Threshold.calls z _ _ HTh.out).mono ?_); rintro e w1 ⟨rfl, hb⟩; have HB1 := ah (aG (ak (Below.refl w.heap.size w) (.cells #[.int .i64 s, .int .u64 z, .int .u64 zc, .int .u64 ct, .int .u64 sm, .slice A5 l5.length c5, .slice A6 l6.length c6, .slice A7 l7.length c7, .slice A8 l8.length c8] 29)) (by simp) hb.below); have oO := ah (bD (iL w (.cells #[.int .i64 s, .int .u64 z, .int .u64 zc, .int .u64 ct, .int .u64 sm, .slice A5 l5.length c5, .slice A6 l6.length c6, .slice A7 l7.length c7, .slice A8 l8.length c8] 29)) hb.below); have hf := fun i => au oO.out i; clear hb) | (go_at_call 132; (with_reducible refine (hist_side.calls _ _ l5 _ _ l7 p _ _ (Kd.bT HRA.out.1 HB1.out) HCA.out.1 (Kd.bT HRA.out.2.2.1 HB1.out) HCA.out.2.2.1 Xd.out).mono ?_); rintro e w2 ⟨v2, rfl, ho2, hb⟩; have HB2 := ah (aG HB1.out HB1.out.size hb); have Jg := ah (bD oO.out hb); have hf2 := fun i => au Jg.out i; have EF := ah (Kd.bZ (ok' := fun k => k < w2.heap.size ∧ w.heap.size ≤ k) (Kd.dh (Kd.jK ho2) HB1.out.size) (fun k hk => ⟨hk.2.2.1, Nat.le_trans HB1.out.size hk.2.1⟩)); obtain ⟨B2, d2, PN⟩ := Kd.dw ho2; subst PN; clear ho2 hb) | (go_at_call 132; (with_reducible refine (hist_side.calls _ _ l6 _ _ l8 n _ _ (Kd.bT HRA.out.2.1 HB2.out) HCA.out.2.1 (Kd.bT HRA.out.2.2.2 HB2.out) HCA.out.2.2.2 Yx.out).mono ?_); rintro e w3 ⟨v3, rfl, ho3, hb⟩; have HB3 := ah (aG HB2.out HB2.out.size hb); have xk := ah (bD Jg.out hb); have hf3 := fun i => au xk.out i; have Cb := ah (And.intro (Kd.eU EF.out hb) (Kd.bZ (ok' := fun k => w2.heap.size ≤ k ∧ w.heap.size ≤ k) (Kd.dh (Kd.jK ho3) HB2.out.size) (fun k hk => ⟨hk.2.1, Nat.le_trans HB2.out.size hk.2.1⟩))); obtain ⟨B3, d3, RN⟩ := Kd.dw ho3; subst RN; clear ho3 hb) | (go_at_call 133; refine (uq s z zc ct sm _ _ _ _ _ _ _ _ _ _ _ _ w3.heap.size _ [p, n] _ HV.out.1 HV.out.2.1 HV.out.2.2 (by simp) (by simp) (uw Cb.out.1 Cb.out.2)).mono ?_; rintro e w4 ⟨rfl, hb⟩; rw [HTot.out]; have HB4 := ah (aG HB3.out HB3.out.size (aG (ak (Below.refl _ _) _) (by simp) hb)); have RP := ah (bD xk.out (aG (ak (Below.refl _ _) _) (by simp) hb)); have hf4 := fun i => au RP.out i; have Qk := ah (And.intro (Kd.eU Cb.out.1 (aG (ak (Below.refl _ _) _) (by simp) hb)) (Kd.eU Cb.out.2 (aG (ak (Below.refl _ _) _) (by simp) hb))); clear hb) | (go_at_call 130; (with_reducible refine (hist_NaN.calls sm _ _ HNa.out).mono ?_); rintro e w5 ⟨rfl, hb⟩; have KE := ah (aG HB4.out HB4.out.size hb.below); have Nv := ah (bD RP.out hb.below); have hf5 := fun i => au Nv.out i; have Xc := ah (And.intro (Kd.eU Qk.out.1 hb.below) (Kd.eU Qk.out.2 hb.below)); clear hb))
        go_ret3
        exact ⟨_, _, rfl, Kd.eY _ _ _ _ _, Kd.eY _ _ _ _ _, KE.out⟩
      | true =>
        have H := H.out
        rw [if_pos (by simp; omega)] at H
        injection H with h4 h5; injection h5 with h5 h6
        subst h4; subst h5; subst h6
        clear d1 d2
        go_enter Try.func70, Try.ntmps70
        go_wp2_with (first | (go_at_call 131; (with_reducible refine (hist_Threshold.calls z _ _ HTh.out).mono ?_); rintro e w1 ⟨rfl, hb⟩; have HB1 := ah (aG (ak (Below.refl w.heap.size w) (.cells #[.int .i64 s, .int .u64 z, .int .u64 zc, .int .u64 ct, .int .u64 sm, .slice A5 l5.length c5, .slice A6 l6.length c6, .slice A7 l7.length c7, .slice A8 l8.length c8] 29)) (by simp) hb.below); have oO := ah (bD (iL w (.cells #[.int .i64 s, .int .u64 z, .int .u64 zc, .int .u64 ct, .int .u64 sm, .slice A5 l5.length c5, .slice A6 l6.length c6, .slice A7 l7.length c7, .slice A8 l8.length c8] 29)) hb.below); have hf := fun i => au oO.out i; clear hb) | (go_at_call 132; (with_reducible refine (hist_side.calls _ _ l5 _ _ l7 p _ _ (Kd.bT HRA.out.1 HB1.out) HCA.out.1 (Kd.bT HRA.out.2.2.1 HB1.out) HCA.out.2.2.1 Xd.out).mono ?_); rintro e w2 ⟨v2, rfl, ho2, hb⟩; have HB2 := ah (aG HB1.out HB1.out.size hb); have Jg := ah (bD oO.out hb); have hf2 := fun i => au Jg.out i; have EF := ah (Kd.bZ (ok' := fun k => k < w2.heap.size ∧ w.heap.size ≤ k) (Kd.dh (Kd.jK ho2) HB1.out.size) (fun k hk => ⟨hk.2.2.1, Nat.le_trans HB1.out.size hk.2.1⟩)); obtain ⟨B2, d2, PN⟩ := Kd.dw ho2; subst PN; clear ho2 hb) | (go_at_call 132; (with_reducible refine (hist_side.calls _ _ l6 _ _ l8 n _ _ (Kd.bT HRA.out.2.1 HB2.out) HCA.out.2.1 (Kd.bT HRA.out.2.2.2 HB2.out) HCA.out.2.2.2 Yx.out).mono ?_); rintro e w3 ⟨v3, rfl, ho3, hb⟩; have HB3 := ah (aG HB2.out HB2.out.size hb); have xk := ah (bD Jg.out hb); have hf3 := fun i => au xk.out i; have Cb := ah (And.intro (Kd.eU EF.out hb) (Kd.bZ (ok' := fun k => w2.heap.size ≤ k ∧ w.heap.size ≤ k) (Kd.dh (Kd.jK ho3) HB2.out.size) (fun k hk => ⟨hk.2.1, Nat.le_trans HB2.out.size hk.2.1⟩))); obtain ⟨B3, d3, RN⟩ := Kd.dw ho3; subst RN; clear ho3 hb) | (go_at_call 133; refine (uq s z zc ct sm _ _ _ _ _ _ _ _ _ _ _ _ w3.heap.size _ [p, n] _ HV.out.1 HV.out.2.1 HV.out.2.2 (by simp) (by simp) (uw Cb.out.1 Cb.out.2)).mono ?_; rintro e w4 ⟨rfl, hb⟩; rw [HTot.out]; have HB4 := ah (aG HB3.out HB3.out.size (aG (ak (Below.refl _ _) _) (by simp) hb)); have RP := ah (bD xk.out (aG (ak (Below.refl _ _) _) (by simp) hb)); have hf4 := fun i => au RP.out i; have Qk := ah (And.intro (Kd.eU Cb.out.1 (aG (ak (Below.refl _ _) _) (by simp) hb)) (Kd.eU Cb.out.2 (aG (ak (Below.refl _ _) _) (by simp) hb))); clear hb) | (go_at_call 130; (with_reducible refine (hist_NaN.calls sm _ _ HNa.out).mono ?_); rintro e w5 ⟨rfl, hb⟩; have KE := ah (aG HB4.out HB4.out.size hb.below); have Nv := ah (bD RP.out hb.below); have hf5 := fun i => au Nv.out i; have Xc := ah (And.intro (Kd.eU Qk.out.1 hb.below) (Kd.eU Qk.out.2 hb.below)); clear hb))
        go_ret3
        exact ⟨_, _, rfl, (uQ Xc.out.1 Xc.out.2).1, (uQ Xc.out.1 Xc.out.2).2, KE.out⟩
    · have d2b : decide (tt < ct) = false := ahH d2
      have H := H.out
      rw [if_pos (by simp; omega)] at H
      injection H with h4 h5; injection h5 with h5 h6
      subst h4; subst h5; subst h6
      clear d1 d2
      go_enter Try.func70, Try.ntmps70
      go_wp2_with (first | (go_at_call 131; (with_reducible refine (hist_Threshold.calls z _ _ HTh.out).mono ?_); rintro e w1 ⟨rfl, hb⟩; have HB1 := ah (aG (ak (Below.refl w.heap.size w) (.cells #[.int .i64 s, .int .u64 z, .int .u64 zc, .int .u64 ct, .int .u64 sm, .slice A5 l5.length c5, .slice A6 l6.length c6, .slice A7 l7.length c7, .slice A8 l8.length c8] 29)) (by simp) hb.below); have oO := ah (bD (iL w (.cells #[.int .i64 s, .int .u64 z, .int .u64 zc, .int .u64 ct, .int .u64 sm, .slice A5 l5.length c5, .slice A6 l6.length c6, .slice A7 l7.length c7, .slice A8 l8.length c8] 29)) hb.below); have hf := fun i => au oO.out i; clear hb) | (go_at_call 132; (with_reducible refine (hist_side.calls _ _ l5 _ _ l7 p _ _ (Kd.bT HRA.out.1 HB1.out) HCA.out.1 (Kd.bT HRA.out.2.2.1 HB1.out) HCA.out.2.2.1 Xd.out).mono ?_); rintro e w2 ⟨v2, rfl, ho2, hb⟩; have HB2 := ah (aG HB1.out HB1.out.size hb); have Jg := ah (bD oO.out hb); have hf2 := fun i => au Jg.out i; have EF := ah (Kd.bZ (ok' := fun k => k < w2.heap.size ∧ w.heap.size ≤ k) (Kd.dh (Kd.jK ho2) HB1.out.size) (fun k hk => ⟨hk.2.2.1, Nat.le_trans HB1.out.size hk.2.1⟩)); obtain ⟨B2, d2, PN⟩ := Kd.dw ho2; subst PN; clear ho2 hb) | (go_at_call 132; (with_reducible refine (hist_side.calls _ _ l6 _ _ l8 n _ _ (Kd.bT HRA.out.2.1 HB2.out) HCA.out.2.1 (Kd.bT HRA.out.2.2.2 HB2.out) HCA.out.2.2.2 Yx.out).mono ?_); rintro e w3 ⟨v3, rfl, ho3, hb⟩; have HB3 := ah (aG HB2.out HB2.out.size hb); have xk := ah (bD Jg.out hb); have hf3 := fun i => au xk.out i; have Cb := ah (And.intro (Kd.eU EF.out hb) (Kd.bZ (ok' := fun k => w2.heap.size ≤ k ∧ w.heap.size ≤ k) (Kd.dh (Kd.jK ho3) HB2.out.size) (fun k hk => ⟨hk.2.1, Nat.le_trans HB2.out.size hk.2.1⟩))); obtain ⟨B3, d3, RN⟩ := Kd.dw ho3; subst RN; clear ho3 hb) | (go_at_call 133; refine (uq s z zc ct sm _ _ _ _ _ _ _ _ _ _ _ _ w3.heap.size _ [p, n] _ HV.out.1 HV.out.2.1 HV.out.2.2 (by simp) (by simp) (uw Cb.out.1 Cb.out.2)).mono ?_; rintro e w4 ⟨rfl, hb⟩; rw [HTot.out]; have HB4 := ah (aG HB3.out HB3.out.size (aG (ak (Below.refl _ _) _) (by simp) hb)); have RP := ah (bD xk.out (aG (ak (Below.refl _ _) _) (by simp) hb)); have hf4 := fun i => au RP.out i; have Qk := ah (And.intro (Kd.eU Cb.out.1 (aG (ak (Below.refl _ _) _) (by simp) hb)) (Kd.eU Cb.out.2 (aG (ak (Below.refl _ _) _) (by simp) hb))); clear hb))
      go_ret3
      exact ⟨_, _, rfl, (uQ Qk.out.1 Qk.out.2).1, (uQ Qk.out.1 Qk.out.2).2, HB4.out⟩
section
variable {α : Type} (key val : α → Int)
def DI (l : List α) : Prop := l.Pairwise (fun a b => key a < key b)
variable {key val}
theorem DI.nil : DI key ([] : List α) := List.Pairwise.nil
theorem DI.tail {x : α} {l : List α} (h : DI key (x :: l)) : DI key l := (List.pairwise_cons.1 h).2
theorem DI.head {x : α} {l : List α} (h : DI key (x :: l)) : ∀ y ∈ l, key x < key y := (List.pairwise_cons.1 h).1
theorem DI.filter {l : List α} (p : α → Bool) (h : DI key l) : DI key (l.filter p) := List.Pairwise.filter p h
theorem DI.inj {l : List α} (hu : DI key l) {x y : α} (hx : x ∈ l) (hy : y ∈ l) (h : key x = key y) : x = y := by
  induction l with
  | nil => cases hx
  | cons z l ih =>
    rcases List.mem_cons.1 hx with e1 | hx1
    · rcases List.mem_cons.1 hy with e2 | hy1
      · rw [e1, e2]
      · have := hu.head y hy1; rw [e1] at h; omega
    · rcases List.mem_cons.1 hy with e2 | hy1
      · have := hu.head x hx1; rw [e2] at h; omega
      · exact ih hu.tail hx1 hy1
end
section
variable {α : Type}
variable {key : α → Int} {join : α → α → α}
end
def SI {α : Type} (d : Kd α) (w : World) (v : Value) (l : List α) : Prop := ∃ A c, v = .slice A l.length c ∧ l.length ≤ c ∧ d.C w A l.length l
theorem SI.below {α : Type} {d : Kd α} {w w' : World} {v : Value} {l : List α} (h : SI d w v l) (hb : Below w.heap.size w w') : SI d w' v l := by
 obtain ⟨A, c, e, h1, h2⟩ := h
 exact ⟨A, c, e, h1, Kd.bT h2 hb⟩
theorem SI.of {α : Type} {d : Kd α} {w : World} {A : Option Addr} {c : Nat} {l : List α} (h2 : d.C w A l.length l) (h1 : l.length ≤ c) : SI d w (.slice A l.length c) l := ⟨A, c, rfl, h1, h2⟩
theorem SI.rC {α : Type} {d : Kd α} {e : Nat} {w : World} {base : Nat} {ok : Nat → Prop} {v : Value} {l : List α} (h : d.R e w base ok v l) : SI d w v l := Kd.qy h
theorem SI.nil {α : Type} (d : Kd α) (w : World) : SI d w (.slice none 0 0) [] := ⟨none, 0, rfl, Nat.le_refl _, Kd.Qu d w⟩
abbrev Hi := S29
abbrev kSp := jq
abbrev kPr := jB
def HI (w : World) (v : Value) (h : Hi) : Prop :=
 ∃ v5 v6 v7 v8, v = .agg #[.int .i64 h.f0, .int .u64 h.f1, .int .u64 h.f2, .int .u64 h.f3, .int .u64 h.f4, v5, v6, v7, v8] ∧ SI kSp w v5 h.f5 ∧ SI kSp w v6 h.f6 ∧ SI (Kd.int .i64) w v7 h.f7 ∧ SI (Kd.int .i64) w v8 h.f8
theorem HI.below {w w' : World} {v : Value} {h : Hi} (x : HI w v h) (hb : Below w.heap.size w w') : HI w' v h := by
 obtain ⟨v5, v6, v7, v8, e, h5, h6, h7, h8⟩ := x
 exact ⟨v5, v6, v7, v8, e, h5.below hb, h6.below hb, h7.below hb, h8.below hb⟩
theorem HI.open_ {w : World} {v : Value} {h : Hi} (x : HI w v h) : ∃ A5 c5 A6 c6 A7 c7 A8 c8, v = .agg #[.int .i64 h.f0, .int .u64 h.f1, .int .u64 h.f2, .int .u64 h.f3, .int .u64 h.f4, .slice A5 h.f5.length c5, .slice A6 h.f6.length c6, .slice A7 h.f7.length c7, .slice A8 h.f8.length c8] ∧
  SI kSp w (.slice A5 h.f5.length c5) h.f5 ∧ SI kSp w (.slice A6 h.f6.length c6) h.f6 ∧ SI (Kd.int .i64) w (.slice A7 h.f7.length c7) h.f7 ∧ SI (Kd.int .i64) w (.slice A8 h.f8.length c8) h.f8 := by
 obtain ⟨v5, v6, v7, v8, rfl, h5, h6, h7, h8⟩ := x
 obtain ⟨A5, c5, rfl, KG, KH⟩ := h5
 obtain ⟨A6, c6, rfl, KI, KJ⟩ := h6
 obtain ⟨A7, c7, rfl, KL, h72⟩ := h7
 obtain ⟨A8, c8, rfl, KO, KP⟩ := h8
 exact ⟨A5, c5, A6, c6, A7, c7, A8, c8, rfl, .of KH KG, .of KJ KI, .of h72 KL, .of KP KO⟩
theorem HI.mk {w : World} {h : Hi} {v5 v6 v7 v8 : Value} (h5 : SI kSp w v5 h.f5) (h6 : SI kSp w v6 h.f6) (h7 : SI (Kd.int .i64) w v7 h.f7) (h8 : SI (Kd.int .i64) w v8 h.f8) :
 HI w (.agg #[.int .i64 h.f0, .int .u64 h.f1, .int .u64 h.f2, .int .u64 h.f3, .int .u64 h.f4, v5, v6, v7, v8]) h := ⟨v5, v6, v7, v8, rfl, h5, h6, h7, h8⟩
def Ql (h : Hi) : Prop := UD h.f0 h.f1 h.f2 h.f3 h.f4 h.f5 h.f6 h.f7 h.f8
def lK (h : Hi) : List Pr × List Pr × Int := AU h.f0 h.f1 h.f2 h.f3 h.f4 h.f5 h.f6 h.f7 h.f8
def qM (h : Hi) : Int := (lK h).2.2
theorem Nw (h : Hi) (hw : Ql h) (w : World) (v : Value) (hv : HI w v h) : Calls Try.prog 70 #[v] w fun e w' =>
  ∃ v0 v1 : Value, e = .returned (.tuple #[v0, v1, .int .i64 (lK h).2.2]) ∧ SI kPr w' v0 (lK h).1 ∧ SI kPr w' v1 (lK h).2.1 ∧ Below w.heap.size w w' := by
 obtain ⟨A5, c5, A6, c6, A7, c7, A8, c8, rfl, ⟨_, _, e5, KG, KH⟩, ⟨_, _, e6, KI, KJ⟩, ⟨_, _, e7, KL, h72⟩, ⟨_, _, e8, KO, KP⟩⟩ := hv.open_
 cases e5; cases e6; cases e7; cases e8
 refine (hist_open.calls h.f0 h.f1 h.f2 h.f3 h.f4 A5 c5 h.f5 A6 c6 h.f6 A7 c7 h.f7 A8 c8 h.f8 (lK h).1 (lK h).2.1 (lK h).2.2 w KH KG KJ KI h72 KL KP KO (if_pos hw)).mono ?_
 rintro e w1 ⟨v0, v1, rfl, h0, h1, hb⟩
 exact ⟨v0, v1, rfl, .rC h0, .rC h1, hb⟩
set_option maxHeartbeats 4000000 in
set_option maxRecDepth 100000 in
theorem OE (h : Hi) (hw : Ql h) (w : World) (v : Value) (hv : HI w v h) : Calls Try.prog 31 #[v] w fun e w' =>
  e = .returned (.int .i64 (qM h)) ∧ Below w.heap.size w w' := by
 have hu := Try.underlying29
 obtain ⟨A5, c5, A6, c6, A7, c7, A8, c8, e, -⟩ := hv.open_
 subst e
 have HV := ah hv
 have HW := ah hw
 clear hv hw
 go_enter Try.func31, Try.ntmps31
 go_wp2_with (go_at_call 70; (with_reducible refine (Nw h HW.out _ _ (HV.out.below (ak (Below.refl _ _) _))).mono ?_); rintro e w1 ⟨v0, v1, rfl, h0, h1, hb⟩; have HB := ah (aG (ak (Below.refl w.heap.size w) _) (by simp) hb); clear h0 h1 hb)
 go_ret
 exact ⟨rfl, HB.out⟩
def zG (h : Hi) (side : Int) : List Pr × Int := if side = 0 then ((lK h).1, (lK h).2.2) else if side = 1 then ((lK h).2.1, (lK h).2.2) else ([], 11)
set_option maxHeartbeats 4000000 in
set_option maxRecDepth 100000 in
theorem OG (h : Hi) (hw : Ql h) (side : Int) (w : World) (v : Value) (hv : HI w v h) : Calls Try.prog 78 #[v, .int .i64 side] w fun e w' =>
  ∃ v0, e = .returned (.tuple #[v0, .int .i64 (zG h side).2]) ∧ SI kPr w' v0 (zG h side).1 ∧ Below w.heap.size w w' := by
 have hu := Try.underlying29
 obtain ⟨A5, c5, A6, c6, A7, c7, A8, c8, e, -⟩ := hv.open_
 subst e
 have HV := ah hv
 have HW := ah hw
 clear hv hw
 unfold zG
 by_cases c0 : side = 0
 ·subst c0
  rw [if_pos rfl]
  go_enter Try.func78, Try.ntmps78
  go_wp2_with (go_at_call 70; (with_reducible refine (Nw h HW.out _ _ (HV.out.below (ak (Below.refl _ _) _))).mono ?_); rintro e w1 ⟨v0, v1, rfl, h0, h1, hb⟩; have HO := ah h0; have HB := ah (aG (ak (Below.refl w.heap.size w) _) (by simp) hb); clear h0 h1 hb)
  go_ret2
  exact ⟨_, rfl, HO.out, HB.out⟩
 ·rw [if_neg c0]
  have c0a : (side == 0) = false := beq_eq_false_iff_ne.2 c0
  have c0b : (side != 0) = true := bne_iff_ne.2 c0
  by_cases c1 : side = 1
  ·subst c1
   rw [if_pos rfl]
   clear c0
   go_enter Try.func78, Try.ntmps78
   go_wp2_with (go_at_call 70; (with_reducible refine (Nw h HW.out _ _ (HV.out.below (ak (Below.refl _ _) _))).mono ?_); rintro e w1 ⟨v0, v1, rfl, h0, h1, hb⟩; have HO := ah h1; have HB := ah (aG (ak (Below.refl w.heap.size w) _) (by simp) hb); clear h0 h1 hb)
   go_ret2
   exact ⟨_, rfl, HO.out, HB.out⟩
  ·rw [if_neg c1]
   have c1a : (side == 1) = false := beq_eq_false_iff_ne.2 c1
   have c1b : (side != 1) = true := bne_iff_ne.2 c1
   clear c0 c1
   go_enter Try.func78, Try.ntmps78
   go_wp2
   go_ret2
   exact ⟨_, rfl, SI.nil _ _, ak (Below.refl _ _) _⟩
def KA (base : Nat) (w w' : World) : Prop := w.heap.size ≤ w'.heap.size ∧ ∀ k, base ≤ k → k < w.heap.size → w'.heap[k]? = w.heap[k]?
theorem KA.refl (base : Nat) (w : World) : KA base w w := ⟨Nat.le_refl _, fun _ _ _ => rfl⟩
theorem KA.trans {base : Nat} {a b c : World} (h : KA base a b) (k : KA base b c) : KA base a c := ⟨Nat.le_trans h.1 k.1, fun i h0 h1 => (k.2 i h0 (Nat.lt_of_lt_of_le h1 h.1)).trans (h.2 i h0 h1)⟩
theorem KA.below {base : Nat} {w w' : World} (h : Below w.heap.size w w') : KA base w w' := ⟨h.size, fun k _ h1 => h.block k h1⟩
theorem KA.set {base b i : Nat} (w : World) (hb : b < base) (u : Value) : KA base w (w.setCell ⟨b, i, none⟩ u) := ⟨by simp [World.setCell], fun k h0 _ => Below.heap_setCell w ⟨b, i, none⟩ u k (by show k ≠ b; omega)⟩
def FI {α : Type} (d : Kd α) (base : Nat) (w : World) (v : Value) (l : List α) : Prop := ∀ w', KA base w w' → SI d w' v l
theorem FI.now {α : Type} {d : Kd α} {base : Nat} {w : World} {v : Value} {l : List α} (h : FI d base w v l) : SI d w v l := h w (KA.refl _ _)
theorem FI.at_ {α : Type} {d : Kd α} {base : Nat} {w w' : World} {v : Value} {l : List α} (h : FI d base w v l) (k : KA base w w') : SI d w' v l := h w' k
theorem FI.step {α : Type} {d : Kd α} {base : Nat} {w w' : World} {v : Value} {l : List α} (h : FI d base w v l) (k : KA base w w') : FI d base w' v l := fun w2 h2 => h w2 (k.trans h2)
theorem FI.rC {α : Type} {d : Kd α} {e : Nat} {w : World} {base b : Nat} {ok : Nat → Prop} {v : Value} {l : List α} (h : d.R e w b ok v l) (hb : base ≤ b) : FI d base w v l := fun w' hk =>
 .rC (Kd.MN (Kd.jK h) (fun k ho hlt => hk.2 k (Nat.le_trans hb ho.2.1) hlt))
theorem FI.slice {α : Type} {d : Kd α} {base : Nat} {w : World} {v : Value} {l : List α} (h : FI d base w v l) : ∃ A c, v = .slice A l.length c := by obtain ⟨A, c, e, _⟩ := h.now; exact ⟨A, c, e⟩
set_option maxHeartbeats 1000000 in
theorem nine {W : World} {g : Nat} {t : TypeId} {a0 a1 a2 a3 a4 a5 a6 a7 a8 : Value} (h : W.heap[g]? = some (.cells #[a0, a1, a2, a3, a4, a5, a6, a7, a8] t (0, 0))) (v0 v1 v2 v3 v4 v5 v6 v7 v8 : Value) :
  (((((((((W.setCell ⟨g, 0, none⟩ v0).setCell ⟨g, 1, none⟩ v1).setCell ⟨g, 2, none⟩ v2).setCell ⟨g, 3, none⟩ v3).setCell ⟨g, 4, none⟩ v4).setCell ⟨g, 5, none⟩ v5).setCell ⟨g, 6, none⟩ v6).setCell ⟨g, 7, none⟩ v7).setCell ⟨g, 8, none⟩ v8).heap[g]? = some (.cells #[v0, v1, v2, v3, v4, v5, v6, v7, v8] t (0, 0)) := by
 refine bC (cs := #[v0, v1, v2, v3, v4, v5, v6, v7, a8]) ?_ 8 _ rfl
 refine bC (cs := #[v0, v1, v2, v3, v4, v5, v6, a7, a8]) ?_ 7 _ rfl
 refine bC (cs := #[v0, v1, v2, v3, v4, v5, a6, a7, a8]) ?_ 6 _ rfl
 refine bC (cs := #[v0, v1, v2, v3, v4, a5, a6, a7, a8]) ?_ 5 _ rfl
 refine bC (cs := #[v0, v1, v2, v3, a4, a5, a6, a7, a8]) ?_ 4 _ rfl
 refine bC (cs := #[v0, v1, v2, a3, a4, a5, a6, a7, a8]) ?_ 3 _ rfl
 refine bC (cs := #[v0, v1, a2, a3, a4, a5, a6, a7, a8]) ?_ 2 _ rfl
 refine bC (cs := #[v0, a1, a2, a3, a4, a5, a6, a7, a8]) ?_ 1 _ rfl
 refine bC (cs := #[a0, a1, a2, a3, a4, a5, a6, a7, a8]) ?_ 0 _ rfl
 exact h
theorem FI.lower {α : Type} {d : Kd α} {base b : Nat} {w : World} {v : Value} {l : List α} (h : FI d b w v l) (hb : base ≤ b) : FI d base w v l := fun w' k => h w' ⟨k.1, fun i h0 h1 => k.2 i (Nat.le_trans hb h0) h1⟩
theorem lX {B : Nat} {w W : World} {g i j : Nat} {u u' : Value} (_ : w.heap.size ≤ W.heap.size) (h : Below B w W) (hg : B ≤ g := by exact Nat.le_refl _) : Below B w ((W.setCell ⟨g, i, none⟩ u).setCell ⟨g, j, none⟩ u') := (h.setCell (p := ⟨g, i, none⟩) hg u).setCell (p := ⟨g, j, none⟩) hg u'
theorem jd {B : Nat} {w W : World} {g : Nat} (h : Below B w W) (hg : B ≤ g) (v0 v1 v2 v3 v4 v5 v6 v7 v8 : Value) :
  Below B w (((((((((W.setCell ⟨g, 0, none⟩ v0).setCell ⟨g, 1, none⟩ v1).setCell ⟨g, 2, none⟩ v2).setCell ⟨g, 3, none⟩ v3).setCell ⟨g, 4, none⟩ v4).setCell ⟨g, 5, none⟩ v5).setCell ⟨g, 6, none⟩ v6).setCell ⟨g, 7, none⟩ v7).setCell ⟨g, 8, none⟩ v8) :=
 (((((((((h.setCell (p := ⟨g, 0, none⟩) hg v0).setCell (p := ⟨g, 1, none⟩) hg v1).setCell (p := ⟨g, 2, none⟩) hg v2).setCell (p := ⟨g, 3, none⟩) hg v3).setCell (p := ⟨g, 4, none⟩) hg v4).setCell (p := ⟨g, 5, none⟩) hg v5).setCell (p := ⟨g, 6, none⟩) hg v6).setCell (p := ⟨g, 7, none⟩) hg v7).setCell (p := ⟨g, 8, none⟩) hg v8)
theorem sG {base : Nat} {w W : World} {g : Nat} (h : KA base w W) (hg : g < base) (v0 v1 v2 v3 v4 v5 v6 v7 v8 : Value) :
  KA base w (((((((((W.setCell ⟨g, 0, none⟩ v0).setCell ⟨g, 1, none⟩ v1).setCell ⟨g, 2, none⟩ v2).setCell ⟨g, 3, none⟩ v3).setCell ⟨g, 4, none⟩ v4).setCell ⟨g, 5, none⟩ v5).setCell ⟨g, 6, none⟩ v6).setCell ⟨g, 7, none⟩ v7).setCell ⟨g, 8, none⟩ v8) :=
 h.trans (((((((((KA.set _ hg _).trans (KA.set _ hg _)).trans (KA.set _ hg _)).trans (KA.set _ hg _)).trans (KA.set _ hg _)).trans (KA.set _ hg _)).trans (KA.set _ hg _)).trans (KA.set _ hg _)).trans (KA.set _ hg _))
def uI (l : List Pr) : List Sp × List Int × Int := if (lW l).2.2 ≠ 0 then ([], [], (lW l).2.2) else match kV 0 (l.map (·.f1)) with | none => ([], [], 28) | some d => ((lW l).1, d, 0)
def xq (l : List Pr) : Prop := RF l ∧ l.length < 4398046511104
theorem Xe (l : List Pr) (hw : xq l) (k : Nat) (hk : 3 * l.length + 1 < k) : hist_lay.f k l = some (uI l) := by
 unfold hist_lay.f uI
 rw [RG l hw.1 hw.2 k hk]
 simp only [Option.bind_some]
 by_cases h : (lW l).2.2 = 0
 ·rw [if_pos h, if_neg (by simp [h])]
  have h1 : (lW l).2.1 = l.map (·.f1) := by
   unfold lW at h ⊢
   split
   ·rfl
   ·rename_i hc; rw [if_neg hc] at h; exact absurd h hc
  rw [h1, PG _ (by intro x hx; obtain ⟨s, hs, rfl⟩ := List.mem_map.1 hx; exact (hw.1 s hs).2) (by simp; have := hw.2; omega) k (by simp; omega)]
  cases kV 0 (l.map (·.f1)) with
  | none => simp
  | some d => simp
 ·rw [if_neg h, if_pos h]
theorem VK (l : List Pr) (hw : xq l) (w : World) (v : Value) (hv : SI kPr w v l) : Calls Try.prog 125 #[v] w fun e w' =>
  ∃ v0 v1 : Value, e = .returned (.tuple #[v0, v1, .int .i64 (uI l).2.2]) ∧ FI kSp w.heap.size w' v0 (uI l).1 ∧ FI (Kd.int .i64) w.heap.size w' v1 (uI l).2.1 ∧ Below w.heap.size w w' := by
 obtain ⟨A, c, rfl, hc, hr⟩ := hv
 refine (hist_lay.calls (3 * l.length + 2) A c l (uI l).1 (uI l).2.1 (uI l).2.2 w hr hc (Xe l hw _ (by omega))).mono ?_
 rintro e w1 ⟨v0, v1, rfl, h0, h1, hb⟩
 exact ⟨v0, v1, rfl, .rC h0 (Nat.le_refl _), .rC h1 (Nat.le_refl _), hb⟩
theorem yP {l : List Pr} (hw : xq l) : kU (uI l).1 ∧ Gj (uI l).2.1 ∧ (uI l).2.1.length < 4398046511104 := by
  unfold uI
  by_cases h : (lW l).2.2 = 0
  · rw [if_neg (by simp [h])]
    cases hd : kV 0 (l.map (·.f1)) with
    | none => exact ⟨fun s hs => by simp at hs, fun s hs => by simp at hs, by simp⟩
    | some d =>
      have h0 : (jO (l.map (·.f0))).2 = 0 := by
        unfold lW at h
        by_cases hc : (jO (l.map (·.f0))).2 = 0
        · exact hc
        · rw [if_neg hc] at h; exact absurd h hc
      have h1 : (lW l).1 = (jO (l.map (·.f0))).1 := by unfold lW; rw [if_pos h0]
      obtain ⟨hr, hl, hl2, he⟩ := Ey h0
      have hdl : ∀ (l : List Int) (a : Int) (o : List Int), kV a l = some o → o.length = l.length ∧ ∀ x ∈ o, i64 x := by
        intro l
        induction l with
        | nil => intro a o h; cases h; exact ⟨rfl, fun x hx => by simp at hx⟩
        | cons x l ih =>
          intro a o h
          simp only [kV] at h
          split at h
          · rename_i hx
            cases hq : kV x l with
            | none => rw [hq] at h; simp at h
            | some o' =>
              rw [hq] at h; simp at h; subst h
              obtain ⟨i1, i2⟩ := ih x o' hq
              refine ⟨by simp [i1], fun y hy => ?_⟩
              rcases List.mem_cons.1 hy with rfl | hy
              · exact hx
              · exact i2 y hy
          · cases h
      obtain ⟨i1, i2⟩ := hdl _ _ _ hd
      have := hw.2
      refine ⟨by rw [h1, he]; exact Ez hr hl, i2, by simp only; rw [i1]; simpa using this⟩
  · rw [if_pos h]; exact ⟨fun s hs => by simp at hs, fun s hs => by simp at hs, by simp⟩
def Hl (h : Hi) (p n : List Pr) : Hi := ⟨h.f0, h.f1, h.f2, h.f3, h.f4, (uI p).1, (uI n).1, (uI p).2.1, (uI n).2.1⟩
def xO : Hi := ⟨0, 0, 0, 0, 0, [], [], [], []⟩
def EG (h : Hi) (p n : List Pr) : Hi × Int := if (uI p).2.2 ≠ 0 then (xO, (uI p).2.2) else if (uI n).2.2 ≠ 0 then (xO, (uI n).2.2) else if qM (Hl h p n) ≠ 0 then (xO, qM (Hl h p n)) else (Hl h p n, 0)
theorem RQ {h : Hi} {p n : List Pr} (hw : Ql h) (hp : xq p) (hn : xq n) : Ql (Hl h p n) := by
 obtain ⟨a0, a1, a2, a3, a4, -⟩ := hw
 exact ⟨a0, a1, a2, a3, a4, (yP hp).1, (yP hn).1, (yP hp).2.1, (yP hn).2.1, (yP hp).2.2, (yP hn).2.2⟩
def HF (base : Nat) (w : World) (v : Value) (h : Hi) : Prop :=
 ∃ v5 v6 v7 v8, v = .agg #[.int .i64 h.f0, .int .u64 h.f1, .int .u64 h.f2, .int .u64 h.f3, .int .u64 h.f4, v5, v6, v7, v8] ∧ FI kSp base w v5 h.f5 ∧ FI kSp base w v6 h.f6 ∧ FI (Kd.int .i64) base w v7 h.f7 ∧ FI (Kd.int .i64) base w v8 h.f8
theorem HF.now {base : Nat} {w : World} {v : Value} {h : Hi} (x : HF base w v h) : HI w v h := by
 obtain ⟨v5, v6, v7, v8, e, h5, h6, h7, h8⟩ := x
 exact ⟨v5, v6, v7, v8, e, h5.now, h6.now, h7.now, h8.now⟩
theorem HF.step {base : Nat} {w w' : World} {v : Value} {h : Hi} (x : HF base w v h) (k : KA base w w') : HF base w' v h := by
 obtain ⟨v5, v6, v7, v8, e, h5, h6, h7, h8⟩ := x
 exact ⟨v5, v6, v7, v8, e, h5.step k, h6.step k, h7.step k, h8.step k⟩
theorem HF.lower {base b : Nat} {w : World} {v : Value} {h : Hi} (x : HF b w v h) (hb : base ≤ b) : HF base w v h := by
 obtain ⟨v5, v6, v7, v8, e, h5, h6, h7, h8⟩ := x
 exact ⟨v5, v6, v7, v8, e, h5.lower hb, h6.lower hb, h7.lower hb, h8.lower hb⟩
theorem HF.mk {base : Nat} {w : World} {h : Hi} {v5 v6 v7 v8 : Value} (h5 : FI kSp base w v5 h.f5) (h6 : FI kSp base w v6 h.f6) (h7 : FI (Kd.int .i64) base w v7 h.f7) (h8 : FI (Kd.int .i64) base w v8 h.f8) :
 HF base w (.agg #[.int .i64 h.f0, .int .u64 h.f1, .int .u64 h.f2, .int .u64 h.f3, .int .u64 h.f4, v5, v6, v7, v8]) h := ⟨v5, v6, v7, v8, rfl, h5, h6, h7, h8⟩
theorem HF.empty (base : Nat) (w : World) : HF base w (.agg #[.int .i64 0, .int .u64 0, .int .u64 0, .int .u64 0, .int .u64 0, .slice none 0 0, .slice none 0 0, .slice none 0 0, .slice none 0 0]) xO :=
 HF.mk (h := xO) (fun w _ => SI.nil _ w) (fun w _ => SI.nil _ w) (fun w _ => SI.nil _ w) (fun w _ => SI.nil _ w)
theorem HF.open_ {base : Nat} {w : World} {v : Value} {h : Hi} (x : HF base w v h) : ∃ A5 c5 A6 c6 A7 c7 A8 c8, v = .agg #[.int .i64 h.f0, .int .u64 h.f1, .int .u64 h.f2, .int .u64 h.f3, .int .u64 h.f4, .slice A5 h.f5.length c5, .slice A6 h.f6.length c6, .slice A7 h.f7.length c7, .slice A8 h.f8.length c8] := by
 obtain ⟨A5, c5, A6, c6, A7, c7, A8, c8, e, -⟩ := x.now.open_
 exact ⟨A5, c5, A6, c6, A7, c7, A8, c8, e⟩
set_option maxHeartbeats 8000000 in
set_option maxRecDepth 100000 in
theorem Xf (h : Hi) (p n : List Pr) (hw : Ql (Hl h p n)) (hp : xq p) (hn : xq n) (w : World) (v vp vn : Value) (hv : HI w v h) (hvp : SI kPr w vp p) (hvn : SI kPr w vn n) : Calls Try.prog 64 #[v, vp, vn] w fun e w' =>
  ∃ v', e = .returned (.tuple #[v', .int .i64 (EG h p n).2]) ∧ HF w.heap.size w' v' (EG h p n).1 ∧ Below w.heap.size w w' := by
 have hu := Try.underlying29
 obtain ⟨A5, c5, A6, c6, A7, c7, A8, c8, e, -⟩ := hv.open_
 subst e
 have HP := ah hvp
 have HN := ah hvn
 have HW := ah hw
 have F9 := fun w hv => VK p hp w vp hv
 have HC2 := fun w hv => VK n hn w vn hv
 clear hv hvp hvn hw hp hn
 unfold EG Hl at *
 generalize uI p = lp at *
 generalize uI n = ln at *
 obtain ⟨sp, dp, ep⟩ := lp
 obtain ⟨sn, dn, en⟩ := ln
 simp only at HW F9 HC2 ⊢
 replace F9 := ah F9
 replace HC2 := ah HC2
 by_cases c1 : ep = 0
 rotate_left
 ·rw [if_pos c1]
  have c1a : (ep != 0) = true := bne_iff_ne.2 c1
  clear c1
  go_enter Try.func64, Try.ntmps64
  go_wp2_with (first | (go_at_call 125; (with_reducible refine (F9.out _ (HP.out.below (ak (ak (Below.refl _ _) _) _))).mono ?_); rintro e w1 ⟨v0, v1, rfl, h0, h1, hb⟩; obtain ⟨B0, d0, rfl⟩ := h0.slice; obtain ⟨B1, d1, rfl⟩ := h1.slice; have PO := ah (show FI kSp (w.heap.size + 1 + 1) w1 (.slice B0 sp.length d0) sp by simpa using h0); have PS := ah (show FI (Kd.int .i64) (w.heap.size + 1 + 1) w1 (.slice B1 dp.length d1) dp by simpa using h1); have HB1 := ah (aG (ak (ak (Below.refl w.heap.size w) (.cells #[.int .i64 h.f0, .int .u64 h.f1, .int .u64 h.f2, .int .u64 h.f3, .int .u64 h.f4, .slice A5 h.f5.length c5, .slice A6 h.f6.length c6, .slice A7 h.f7.length c7, .slice A8 h.f8.length c8] 29)) (.cells #[.int .i64 0, .int .u64 0, .int .u64 0, .int .u64 0, .int .u64 0, .slice none 0 0, .slice none 0 0, .slice none 0 0, .slice none 0 0] 29)) (by simp; omega) hb); have oO := ah (bD (nZ (iL w (.cells #[.int .i64 h.f0, .int .u64 h.f1, .int .u64 h.f2, .int .u64 h.f3, .int .u64 h.f4, .slice A5 h.f5.length c5, .slice A6 h.f6.length c6, .slice A7 h.f7.length c7, .slice A8 h.f8.length c8] 29)) (.cells #[.int .i64 0, .int .u64 0, .int .u64 0, .int .u64 0, .int .u64 0, .slice none 0 0, .slice none 0 0, .slice none 0 0, .slice none 0 0] 29)) hb); have qh := ah (show w1.heap[w.heap.size + 1]? = some (.cells #[.int .i64 0, .int .u64 0, .int .u64 0, .int .u64 0, .int .u64 0, .slice none 0 0, .slice none 0 0, .slice none 0 0, .slice none 0 0] 29 (0, 0)) from (bD (show ((w.alloc (.cells #[.int .i64 h.f0, .int .u64 h.f1, .int .u64 h.f2, .int .u64 h.f3, .int .u64 h.f4, .slice A5 h.f5.length c5, .slice A6 h.f6.length c6, .slice A7 h.f7.length c7, .slice A8 h.f8.length c8] 29)).alloc (.cells #[.int .i64 0, .int .u64 0, .int .u64 0, .int .u64 0, .int .u64 0, .slice none 0 0, .slice none 0 0, .slice none 0 0, .slice none 0 0] 29)).heap[w.heap.size + 1]? = _ by simpa using iL (w.alloc (.cells #[.int .i64 h.f0, .int .u64 h.f1, .int .u64 h.f2, .int .u64 h.f3, .int .u64 h.f4, .slice A5 h.f5.length c5, .slice A6 h.f6.length c6, .slice A7 h.f7.length c7, .slice A8 h.f8.length c8] 29)) (.cells #[.int .i64 0, .int .u64 0, .int .u64 0, .int .u64 0, .int .u64 0, .slice none 0 0, .slice none 0 0, .slice none 0 0, .slice none 0 0] 29)) hb)); have hfx := fun i => au oO.out i; have hzx := fun i => aC oO.out i; have hfy := fun i => au qh.out i; have hzy := fun i => aC qh.out i; clear h0 h1 hb))
  refine bodyPost_ret (gu rfl _ _ (w.heap.size + 1) 29 #[.int .i64 0, .int .u64 0, .int .u64 0, .int .u64 0, .int .u64 0, .slice none 0 0, .slice none 0 0, .slice none 0 0, .slice none 0 0] (0, 0) _ rfl (nine (iG (iG qh.out (by show w.heap.size + 1 ≠ w.heap.size; omega) _) (by show w.heap.size + 1 ≠ w.heap.size; omega) _) _ _ _ _ _ _ _ _ _) Try.underlying29 rfl (by kernel_rfl)) rfl ?_
  exact ⟨_, rfl, HF.empty _ _, jd (lX HB1.out.size HB1.out) (by omega) _ _ _ _ _ _ _ _ _⟩
 subst c1
 rw [if_neg (by simp)]
 by_cases c2 : en = 0
 rotate_left
 ·rw [if_pos c2]
  have c2a : (en != 0) = true := bne_iff_ne.2 c2
  clear c2
  go_enter Try.func64, Try.ntmps64
  go_wp2_with (first | (go_at_call 125; (with_reducible refine (F9.out _ (HP.out.below (ak (ak (Below.refl _ _) _) _))).mono ?_); rintro e w1 ⟨v0, v1, rfl, h0, h1, hb⟩; obtain ⟨B0, d0, rfl⟩ := h0.slice; obtain ⟨B1, d1, rfl⟩ := h1.slice; have PO := ah (show FI kSp (w.heap.size + 1 + 1) w1 (.slice B0 sp.length d0) sp by simpa using h0); have PS := ah (show FI (Kd.int .i64) (w.heap.size + 1 + 1) w1 (.slice B1 dp.length d1) dp by simpa using h1); have HB1 := ah (aG (ak (ak (Below.refl w.heap.size w) (.cells #[.int .i64 h.f0, .int .u64 h.f1, .int .u64 h.f2, .int .u64 h.f3, .int .u64 h.f4, .slice A5 h.f5.length c5, .slice A6 h.f6.length c6, .slice A7 h.f7.length c7, .slice A8 h.f8.length c8] 29)) (.cells #[.int .i64 0, .int .u64 0, .int .u64 0, .int .u64 0, .int .u64 0, .slice none 0 0, .slice none 0 0, .slice none 0 0, .slice none 0 0] 29)) (by simp; omega) hb); have oO := ah (bD (nZ (iL w (.cells #[.int .i64 h.f0, .int .u64 h.f1, .int .u64 h.f2, .int .u64 h.f3, .int .u64 h.f4, .slice A5 h.f5.length c5, .slice A6 h.f6.length c6, .slice A7 h.f7.length c7, .slice A8 h.f8.length c8] 29)) (.cells #[.int .i64 0, .int .u64 0, .int .u64 0, .int .u64 0, .int .u64 0, .slice none 0 0, .slice none 0 0, .slice none 0 0, .slice none 0 0] 29)) hb); have qh := ah (show w1.heap[w.heap.size + 1]? = some (.cells #[.int .i64 0, .int .u64 0, .int .u64 0, .int .u64 0, .int .u64 0, .slice none 0 0, .slice none 0 0, .slice none 0 0, .slice none 0 0] 29 (0, 0)) from (bD (show ((w.alloc (.cells #[.int .i64 h.f0, .int .u64 h.f1, .int .u64 h.f2, .int .u64 h.f3, .int .u64 h.f4, .slice A5 h.f5.length c5, .slice A6 h.f6.length c6, .slice A7 h.f7.length c7, .slice A8 h.f8.length c8] 29)).alloc (.cells #[.int .i64 0, .int .u64 0, .int .u64 0, .int .u64 0, .int .u64 0, .slice none 0 0, .slice none 0 0, .slice none 0 0, .slice none 0 0] 29)).heap[w.heap.size + 1]? = _ by simpa using iL (w.alloc (.cells #[.int .i64 h.f0, .int .u64 h.f1, .int .u64 h.f2, .int .u64 h.f3, .int .u64 h.f4, .slice A5 h.f5.length c5, .slice A6 h.f6.length c6, .slice A7 h.f7.length c7, .slice A8 h.f8.length c8] 29)) (.cells #[.int .i64 0, .int .u64 0, .int .u64 0, .int .u64 0, .int .u64 0, .slice none 0 0, .slice none 0 0, .slice none 0 0, .slice none 0 0] 29)) hb)); have hfx := fun i => au oO.out i; have hzx := fun i => aC oO.out i; have hfy := fun i => au qh.out i; have hzy := fun i => aC qh.out i; clear h0 h1 hb) | (go_at_call 125; (with_reducible refine (HC2.out _ (HN.out.below (lX (HB1.out.size) HB1.out))).mono ?_); rintro e w3 ⟨v2, v3, rfl, h2, h3, hb⟩; obtain ⟨B2, d2, rfl⟩ := h2.slice; obtain ⟨B3, d3, rfl⟩ := h3.slice; have HS2 := ah (show w.heap.size + 1 + 1 ≤ w1.heap.size from by have := jX qh.out; omega); have HF2 := ah (show FI kSp (w.heap.size + 1 + 1) w3 (.slice B2 sn.length d2) sn from FI.lower h2 (by have := HS2.out; simpa [World.setCell] using this)); have HF3 := ah (show FI (Kd.int .i64) (w.heap.size + 1 + 1) w3 (.slice B3 dn.length d3) dn from FI.lower h3 (by have := HS2.out; simpa [World.setCell] using this)); have KQ := ah (show KA (w.heap.size + 1 + 1) w1 w3 from ((KA.set _ (by omega) _).trans (KA.set _ (by omega) _)).trans (KA.below hb)); have HB3 := ah (aG (lX (HB1.out.size) HB1.out) (by have := HB1.out.size; simpa [World.setCell] using this) hb); have xk := ah (bD (show ((w1.setCell ⟨w.heap.size, 5, none⟩ (.slice B0 sp.length d0)).setCell ⟨w.heap.size, 7, none⟩ (.slice B1 dp.length d1)).heap[w.heap.size]? = some (.cells #[.int .i64 h.f0, .int .u64 h.f1, .int .u64 h.f2, .int .u64 h.f3, .int .u64 h.f4, .slice B0 sp.length d0, .slice A6 h.f6.length c6, .slice B1 dp.length d1, .slice A8 h.f8.length c8] 29 (0, 0)) from bC (bC oO.out 5 _ rfl) 7 _ rfl) hb); have EH := ah (bD (show ((w1.setCell ⟨w.heap.size, 5, none⟩ (.slice B0 sp.length d0)).setCell ⟨w.heap.size, 7, none⟩ (.slice B1 dp.length d1)).heap[w.heap.size + 1]? = some (.cells #[.int .i64 0, .int .u64 0, .int .u64 0, .int .u64 0, .int .u64 0, .slice none 0 0, .slice none 0 0, .slice none 0 0, .slice none 0 0] 29 (0, 0)) from iG (iG qh.out (by show w.heap.size + 1 ≠ w.heap.size; omega) _) (by show w.heap.size + 1 ≠ w.heap.size; omega) _) hb); clear hfx hzx hfy hzy; have hfx := fun i => au xk.out i; have hzx := fun i => aC xk.out i; have hfy := fun i => au EH.out i; have hzy := fun i => aC EH.out i; clear h2 h3 hb))
  refine bodyPost_ret (gu rfl _ _ (w.heap.size + 1) 29 #[.int .i64 0, .int .u64 0, .int .u64 0, .int .u64 0, .int .u64 0, .slice none 0 0, .slice none 0 0, .slice none 0 0, .slice none 0 0] (0, 0) _ rfl (nine (iG (iG EH.out (by show w.heap.size + 1 ≠ w.heap.size; omega) _) (by show w.heap.size + 1 ≠ w.heap.size; omega) _) _ _ _ _ _ _ _ _ _) Try.underlying29 rfl (by kernel_rfl)) rfl ?_
  exact ⟨_, rfl, HF.empty _ _, jd (lX HB3.out.size HB3.out) (by omega) _ _ _ _ _ _ _ _ _⟩
 subst c2
 rw [if_neg (by simp)]
 have hck : ∀ w v5 v6 v7 v8, SI kSp w v5 sp → SI kSp w v6 sn → SI (Kd.int .i64) w v7 dp → SI (Kd.int .i64) w v8 dn → Calls Try.prog 31 #[.agg #[.int .i64 h.f0, .int .u64 h.f1, .int .u64 h.f2, .int .u64 h.f3, .int .u64 h.f4, v5, v6, v7, v8]] w fun e w' => e = .returned (.int .i64 (qM ⟨h.f0, h.f1, h.f2, h.f3, h.f4, sp, sn, dp, dn⟩)) ∧ Below w.heap.size w w' :=
  fun w v5 v6 v7 v8 h5 h6 h7 h8 => OE _ HW.out w _ (HI.mk (h := ⟨h.f0, h.f1, h.f2, h.f3, h.f4, sp, sn, dp, dn⟩) h5 h6 h7 h8)
 generalize qM ⟨h.f0, h.f1, h.f2, h.f3, h.f4, sp, sn, dp, dn⟩ = ec at hck ⊢
 have HCK := ah hck
 clear hck
 by_cases c3 : ec = 0
 rotate_left
 ·rw [if_pos c3]
  have c3a : (ec != 0) = true := bne_iff_ne.2 c3
  clear c3
  go_enter Try.func64, Try.ntmps64
  go_wp2_with (first | (go_at_call 125; (with_reducible refine (F9.out _ (HP.out.below (ak (ak (Below.refl _ _) _) _))).mono ?_); rintro e w1 ⟨v0, v1, rfl, h0, h1, hb⟩; obtain ⟨B0, d0, rfl⟩ := h0.slice; obtain ⟨B1, d1, rfl⟩ := h1.slice; have PO := ah (show FI kSp (w.heap.size + 1 + 1) w1 (.slice B0 sp.length d0) sp by simpa using h0); have PS := ah (show FI (Kd.int .i64) (w.heap.size + 1 + 1) w1 (.slice B1 dp.length d1) dp by simpa using h1); have HB1 := ah (aG (ak (ak (Below.refl w.heap.size w) (.cells #[.int .i64 h.f0, .int .u64 h.f1, .int .u64 h.f2, .int .u64 h.f3, .int .u64 h.f4, .slice A5 h.f5.length c5, .slice A6 h.f6.length c6, .slice A7 h.f7.length c7, .slice A8 h.f8.length c8] 29)) (.cells #[.int .i64 0, .int .u64 0, .int .u64 0, .int .u64 0, .int .u64 0, .slice none 0 0, .slice none 0 0, .slice none 0 0, .slice none 0 0] 29)) (by simp; omega) hb); have oO := ah (bD (nZ (iL w (.cells #[.int .i64 h.f0, .int .u64 h.f1, .int .u64 h.f2, .int .u64 h.f3, .int .u64 h.f4, .slice A5 h.f5.length c5, .slice A6 h.f6.length c6, .slice A7 h.f7.length c7, .slice A8 h.f8.length c8] 29)) (.cells #[.int .i64 0, .int .u64 0, .int .u64 0, .int .u64 0, .int .u64 0, .slice none 0 0, .slice none 0 0, .slice none 0 0, .slice none 0 0] 29)) hb); have qh := ah (show w1.heap[w.heap.size + 1]? = some (.cells #[.int .i64 0, .int .u64 0, .int .u64 0, .int .u64 0, .int .u64 0, .slice none 0 0, .slice none 0 0, .slice none 0 0, .slice none 0 0] 29 (0, 0)) from (bD (show ((w.alloc (.cells #[.int .i64 h.f0, .int .u64 h.f1, .int .u64 h.f2, .int .u64 h.f3, .int .u64 h.f4, .slice A5 h.f5.length c5, .slice A6 h.f6.length c6, .slice A7 h.f7.length c7, .slice A8 h.f8.length c8] 29)).alloc (.cells #[.int .i64 0, .int .u64 0, .int .u64 0, .int .u64 0, .int .u64 0, .slice none 0 0, .slice none 0 0, .slice none 0 0, .slice none 0 0] 29)).heap[w.heap.size + 1]? = _ by simpa using iL (w.alloc (.cells #[.int .i64 h.f0, .int .u64 h.f1, .int .u64 h.f2, .int .u64 h.f3, .int .u64 h.f4, .slice A5 h.f5.length c5, .slice A6 h.f6.length c6, .slice A7 h.f7.length c7, .slice A8 h.f8.length c8] 29)) (.cells #[.int .i64 0, .int .u64 0, .int .u64 0, .int .u64 0, .int .u64 0, .slice none 0 0, .slice none 0 0, .slice none 0 0, .slice none 0 0] 29)) hb)); have hfx := fun i => au oO.out i; have hzx := fun i => aC oO.out i; have hfy := fun i => au qh.out i; have hzy := fun i => aC qh.out i; clear h0 h1 hb) | (go_at_call 125; (with_reducible refine (HC2.out _ (HN.out.below (lX (HB1.out.size) HB1.out))).mono ?_); rintro e w3 ⟨v2, v3, rfl, h2, h3, hb⟩; obtain ⟨B2, d2, rfl⟩ := h2.slice; obtain ⟨B3, d3, rfl⟩ := h3.slice; have HS2 := ah (show w.heap.size + 1 + 1 ≤ w1.heap.size from by have := jX qh.out; omega); have HF2 := ah (show FI kSp (w.heap.size + 1 + 1) w3 (.slice B2 sn.length d2) sn from FI.lower h2 (by have := HS2.out; simpa [World.setCell] using this)); have HF3 := ah (show FI (Kd.int .i64) (w.heap.size + 1 + 1) w3 (.slice B3 dn.length d3) dn from FI.lower h3 (by have := HS2.out; simpa [World.setCell] using this)); have KQ := ah (show KA (w.heap.size + 1 + 1) w1 w3 from ((KA.set _ (by omega) _).trans (KA.set _ (by omega) _)).trans (KA.below hb)); have HB3 := ah (aG (lX (HB1.out.size) HB1.out) (by have := HB1.out.size; simpa [World.setCell] using this) hb); have xk := ah (bD (show ((w1.setCell ⟨w.heap.size, 5, none⟩ (.slice B0 sp.length d0)).setCell ⟨w.heap.size, 7, none⟩ (.slice B1 dp.length d1)).heap[w.heap.size]? = some (.cells #[.int .i64 h.f0, .int .u64 h.f1, .int .u64 h.f2, .int .u64 h.f3, .int .u64 h.f4, .slice B0 sp.length d0, .slice A6 h.f6.length c6, .slice B1 dp.length d1, .slice A8 h.f8.length c8] 29 (0, 0)) from bC (bC oO.out 5 _ rfl) 7 _ rfl) hb); have EH := ah (bD (show ((w1.setCell ⟨w.heap.size, 5, none⟩ (.slice B0 sp.length d0)).setCell ⟨w.heap.size, 7, none⟩ (.slice B1 dp.length d1)).heap[w.heap.size + 1]? = some (.cells #[.int .i64 0, .int .u64 0, .int .u64 0, .int .u64 0, .int .u64 0, .slice none 0 0, .slice none 0 0, .slice none 0 0, .slice none 0 0] 29 (0, 0)) from iG (iG qh.out (by show w.heap.size + 1 ≠ w.heap.size; omega) _) (by show w.heap.size + 1 ≠ w.heap.size; omega) _) hb); clear hfx hzx hfy hzy; have hfx := fun i => au xk.out i; have hzx := fun i => aC xk.out i; have hfy := fun i => au EH.out i; have hzy := fun i => aC EH.out i; clear h2 h3 hb) | (go_at_call 31; (with_reducible refine (HCK.out _ _ _ _ _ (PO.out.at_ (KQ.out.trans ((KA.set _ (by omega) _).trans (KA.set _ (by omega) _)))) (HF2.out.at_ ((KA.set _ (by omega) _).trans (KA.set _ (by omega) _))) (PS.out.at_ (KQ.out.trans ((KA.set _ (by omega) _).trans (KA.set _ (by omega) _)))) (HF3.out.at_ ((KA.set _ (by omega) _).trans (KA.set _ (by omega) _)))).mono ?_); rintro e w5 ⟨rfl, hb⟩; have RS := ah (show KA (w.heap.size + 1 + 1) w3 w5 from ((KA.set _ (by omega) _).trans (KA.set _ (by omega) _)).trans (KA.below hb)); have KE := ah (aG (lX (HB3.out.size) HB3.out) (by have := HB3.out.size; simpa [World.setCell] using this) hb); have Nv := ah (bD (show ((w3.setCell ⟨w.heap.size, 6, none⟩ (.slice B2 sn.length d2)).setCell ⟨w.heap.size, 8, none⟩ (.slice B3 dn.length d3)).heap[w.heap.size]? = some (.cells #[.int .i64 h.f0, .int .u64 h.f1, .int .u64 h.f2, .int .u64 h.f3, .int .u64 h.f4, .slice B0 sp.length d0, .slice B2 sn.length d2, .slice B1 dp.length d1, .slice B3 dn.length d3] 29 (0, 0)) from bC (bC xk.out 6 _ rfl) 8 _ rfl) hb); have EI := ah (bD (show ((w3.setCell ⟨w.heap.size, 6, none⟩ (.slice B2 sn.length d2)).setCell ⟨w.heap.size, 8, none⟩ (.slice B3 dn.length d3)).heap[w.heap.size + 1]? = some (.cells #[.int .i64 0, .int .u64 0, .int .u64 0, .int .u64 0, .int .u64 0, .slice none 0 0, .slice none 0 0, .slice none 0 0, .slice none 0 0] 29 (0, 0)) from iG (iG EH.out (by show w.heap.size + 1 ≠ w.heap.size; omega) _) (by show w.heap.size + 1 ≠ w.heap.size; omega) _) hb); clear hfx hzx hfy hzy; have hfx := fun i => au Nv.out i; have hzx := fun i => aC Nv.out i; have hfy := fun i => au EI.out i; have hzy := fun i => aC EI.out i; clear hb))
  refine bodyPost_ret (gu rfl _ _ (w.heap.size + 1) 29 #[.int .i64 0, .int .u64 0, .int .u64 0, .int .u64 0, .int .u64 0, .slice none 0 0, .slice none 0 0, .slice none 0 0, .slice none 0 0] (0, 0) _ rfl (nine (EI.out) _ _ _ _ _ _ _ _ _) Try.underlying29 rfl (by kernel_rfl)) rfl ?_
  exact ⟨_, rfl, HF.empty _ _, jd KE.out (by omega) _ _ _ _ _ _ _ _ _⟩
 subst c3
 rw [if_neg (by simp)]
 go_enter Try.func64, Try.ntmps64
 go_wp2_with (first | (go_at_call 125; (with_reducible refine (F9.out _ (HP.out.below (ak (ak (Below.refl _ _) _) _))).mono ?_); rintro e w1 ⟨v0, v1, rfl, h0, h1, hb⟩; obtain ⟨B0, d0, rfl⟩ := h0.slice; obtain ⟨B1, d1, rfl⟩ := h1.slice; have PO := ah (show FI kSp (w.heap.size + 1 + 1) w1 (.slice B0 sp.length d0) sp by simpa using h0); have PS := ah (show FI (Kd.int .i64) (w.heap.size + 1 + 1) w1 (.slice B1 dp.length d1) dp by simpa using h1); have HB1 := ah (aG (ak (ak (Below.refl w.heap.size w) (.cells #[.int .i64 h.f0, .int .u64 h.f1, .int .u64 h.f2, .int .u64 h.f3, .int .u64 h.f4, .slice A5 h.f5.length c5, .slice A6 h.f6.length c6, .slice A7 h.f7.length c7, .slice A8 h.f8.length c8] 29)) (.cells #[.int .i64 0, .int .u64 0, .int .u64 0, .int .u64 0, .int .u64 0, .slice none 0 0, .slice none 0 0, .slice none 0 0, .slice none 0 0] 29)) (by simp; omega) hb); have oO := ah (bD (nZ (iL w (.cells #[.int .i64 h.f0, .int .u64 h.f1, .int .u64 h.f2, .int .u64 h.f3, .int .u64 h.f4, .slice A5 h.f5.length c5, .slice A6 h.f6.length c6, .slice A7 h.f7.length c7, .slice A8 h.f8.length c8] 29)) (.cells #[.int .i64 0, .int .u64 0, .int .u64 0, .int .u64 0, .int .u64 0, .slice none 0 0, .slice none 0 0, .slice none 0 0, .slice none 0 0] 29)) hb); have qh := ah (show w1.heap[w.heap.size + 1]? = some (.cells #[.int .i64 0, .int .u64 0, .int .u64 0, .int .u64 0, .int .u64 0, .slice none 0 0, .slice none 0 0, .slice none 0 0, .slice none 0 0] 29 (0, 0)) from (bD (show ((w.alloc (.cells #[.int .i64 h.f0, .int .u64 h.f1, .int .u64 h.f2, .int .u64 h.f3, .int .u64 h.f4, .slice A5 h.f5.length c5, .slice A6 h.f6.length c6, .slice A7 h.f7.length c7, .slice A8 h.f8.length c8] 29)).alloc (.cells #[.int .i64 0, .int .u64 0, .int .u64 0, .int .u64 0, .int .u64 0, .slice none 0 0, .slice none 0 0, .slice none 0 0, .slice none 0 0] 29)).heap[w.heap.size + 1]? = _ by simpa using iL (w.alloc (.cells #[.int .i64 h.f0, .int .u64 h.f1, .int .u64 h.f2, .int .u64 h.f3, .int .u64 h.f4, .slice A5 h.f5.length c5, .slice A6 h.f6.length c6, .slice A7 h.f7.length c7, .slice A8 h.f8.length c8] 29)) (.cells #[.int .i64 0, .int .u64 0, .int .u64 0, .int .u64 0, .int .u64 0, .slice none 0 0, .slice none 0 0, .slice none 0 0, .slice none 0 0] 29)) hb)); have hfx := fun i => au oO.out i; have hzx := fun i => aC oO.out i; have hfy := fun i => au qh.out i; have hzy := fun i => aC qh.out i; clear h0 h1 hb) | (go_at_call 125; (with_reducible refine (HC2.out _ (HN.out.below (lX (HB1.out.size) HB1.out))).mono ?_); rintro e w3 ⟨v2, v3, rfl, h2, h3, hb⟩; obtain ⟨B2, d2, rfl⟩ := h2.slice; obtain ⟨B3, d3, rfl⟩ := h3.slice; have HS2 := ah (show w.heap.size + 1 + 1 ≤ w1.heap.size from by have := jX qh.out; omega); have HF2 := ah (show FI kSp (w.heap.size + 1 + 1) w3 (.slice B2 sn.length d2) sn from FI.lower h2 (by have := HS2.out; simpa [World.setCell] using this)); have HF3 := ah (show FI (Kd.int .i64) (w.heap.size + 1 + 1) w3 (.slice B3 dn.length d3) dn from FI.lower h3 (by have := HS2.out; simpa [World.setCell] using this)); have KQ := ah (show KA (w.heap.size + 1 + 1) w1 w3 from ((KA.set _ (by omega) _).trans (KA.set _ (by omega) _)).trans (KA.below hb)); have HB3 := ah (aG (lX (HB1.out.size) HB1.out) (by have := HB1.out.size; simpa [World.setCell] using this) hb); have xk := ah (bD (show ((w1.setCell ⟨w.heap.size, 5, none⟩ (.slice B0 sp.length d0)).setCell ⟨w.heap.size, 7, none⟩ (.slice B1 dp.length d1)).heap[w.heap.size]? = some (.cells #[.int .i64 h.f0, .int .u64 h.f1, .int .u64 h.f2, .int .u64 h.f3, .int .u64 h.f4, .slice B0 sp.length d0, .slice A6 h.f6.length c6, .slice B1 dp.length d1, .slice A8 h.f8.length c8] 29 (0, 0)) from bC (bC oO.out 5 _ rfl) 7 _ rfl) hb); have EH := ah (bD (show ((w1.setCell ⟨w.heap.size, 5, none⟩ (.slice B0 sp.length d0)).setCell ⟨w.heap.size, 7, none⟩ (.slice B1 dp.length d1)).heap[w.heap.size + 1]? = some (.cells #[.int .i64 0, .int .u64 0, .int .u64 0, .int .u64 0, .int .u64 0, .slice none 0 0, .slice none 0 0, .slice none 0 0, .slice none 0 0] 29 (0, 0)) from iG (iG qh.out (by show w.heap.size + 1 ≠ w.heap.size; omega) _) (by show w.heap.size + 1 ≠ w.heap.size; omega) _) hb); clear hfx hzx hfy hzy; have hfx := fun i => au xk.out i; have hzx := fun i => aC xk.out i; have hfy := fun i => au EH.out i; have hzy := fun i => aC EH.out i; clear h2 h3 hb) | (go_at_call 31; (with_reducible refine (HCK.out _ _ _ _ _ (PO.out.at_ (KQ.out.trans ((KA.set _ (by omega) _).trans (KA.set _ (by omega) _)))) (HF2.out.at_ ((KA.set _ (by omega) _).trans (KA.set _ (by omega) _))) (PS.out.at_ (KQ.out.trans ((KA.set _ (by omega) _).trans (KA.set _ (by omega) _)))) (HF3.out.at_ ((KA.set _ (by omega) _).trans (KA.set _ (by omega) _)))).mono ?_); rintro e w5 ⟨rfl, hb⟩; have RS := ah (show KA (w.heap.size + 1 + 1) w3 w5 from ((KA.set _ (by omega) _).trans (KA.set _ (by omega) _)).trans (KA.below hb)); have KE := ah (aG (lX (HB3.out.size) HB3.out) (by have := HB3.out.size; simpa [World.setCell] using this) hb); have Nv := ah (bD (show ((w3.setCell ⟨w.heap.size, 6, none⟩ (.slice B2 sn.length d2)).setCell ⟨w.heap.size, 8, none⟩ (.slice B3 dn.length d3)).heap[w.heap.size]? = some (.cells #[.int .i64 h.f0, .int .u64 h.f1, .int .u64 h.f2, .int .u64 h.f3, .int .u64 h.f4, .slice B0 sp.length d0, .slice B2 sn.length d2, .slice B1 dp.length d1, .slice B3 dn.length d3] 29 (0, 0)) from bC (bC xk.out 6 _ rfl) 8 _ rfl) hb); have EI := ah (bD (show ((w3.setCell ⟨w.heap.size, 6, none⟩ (.slice B2 sn.length d2)).setCell ⟨w.heap.size, 8, none⟩ (.slice B3 dn.length d3)).heap[w.heap.size + 1]? = some (.cells #[.int .i64 0, .int .u64 0, .int .u64 0, .int .u64 0, .int .u64 0, .slice none 0 0, .slice none 0 0, .slice none 0 0, .slice none 0 0] 29 (0, 0)) from iG (iG EH.out (by show w.heap.size + 1 ≠ w.heap.size; omega) _) (by show w.heap.size + 1 ≠ w.heap.size; omega) _) hb); clear hfx hzx hfy hzy; have hfx := fun i => au Nv.out i; have hzx := fun i => aC Nv.out i; have hfy := fun i => au EI.out i; have hzy := fun i => aC EI.out i; clear hb))
 refine bodyPost_ret (gu rfl _ _ (w.heap.size + 1) 29 #[.int .i64 h.f0, .int .u64 h.f1, .int .u64 h.f2, .int .u64 h.f3, .int .u64 h.f4, .slice B0 sp.length d0, .slice B2 sn.length d2, .slice B1 dp.length d1, .slice B3 dn.length d3] (0, 0) _ rfl (nine (EI.out) _ _ _ _ _ _ _ _ _) Try.underlying29 rfl (by kernel_rfl)) rfl ?_
 exact ⟨_, rfl, HF.mk (h := ⟨h.f0, h.f1, h.f2, h.f3, h.f4, sp, sn, dp, dn⟩) ((PO.out.step (KQ.out.trans (sG RS.out (by omega) _ _ _ _ _ _ _ _ _))).lower (by omega)) ((HF2.out.step (sG RS.out (by omega) _ _ _ _ _ _ _ _ _)).lower (by omega)) ((PS.out.step (KQ.out.trans (sG RS.out (by omega) _ _ _ _ _ _ _ _ _))).lower (by omega)) ((HF3.out.step (sG RS.out (by omega) _ _ _ _ _ _ _ _ _)).lower (by omega)), jd KE.out (by omega) _ _ _ _ _ _ _ _ _⟩
theorem Xg (h : Hi) (hw : Ql h) (p n : List Pr) (hp : xq p) (hn : xq n) (w : World) (v vp vn : Value) (hv : HI w v h) (hvp : SI kPr w vp p) (hvn : SI kPr w vn n) : Calls Try.prog 64 #[v, vp, vn] w fun e w' =>
 ∃ v', e = .returned (.tuple #[v', .int .i64 (EG h p n).2]) ∧ HF w.heap.size w' v' (EG h p n).1 ∧ Below w.heap.size w w' := Xf h p n (RQ hw hp hn) hp hn w v vp vn hv hvp hvn
attribute [local go_sem] Oper.semAt_some
def cnts (l : List Pr) : Prop := ∀ p ∈ l, i64 p.f0 ∧ 0 ≤ p.f1 ∧ p.f1 ≤ 9223372036854775807
instance (l : List Pr) : Decidable (cnts l) := by unfold cnts; exact inferInstance
end Go.Proofs.Ytooiccpmngmapaa.P
namespace Go.Proofs.Ytooiccpmngmapaa.P
open Go.RowKit Go.Shelf Go.Proofs.YtooiccpmngmapaaW.PrintWords Go.Proofs.YtooiccpmngmapaaW.PrintLast Go.Proofs.YtooiccpmngmapaaW.PrintMore
def xP (g : Nat) (cap : Array Value) (p : gq → Bool) (w : World) : Prop :=
 ∀ (W : World) (x : gq), Below w.heap.size w W → Calls Try.prog g (#[.agg #[.int .i64 x.f0, .int .i64 x.f1]] ++ cap) W fun e w' => e = .returned (.bool (p x)) ∧ Below W.heap.size W w'
theorem AV (l : List gq) (i : Nat) (h : i < l.length) : aX l (i : Int) = l[i] := by
 unfold aX; simp [List.getD, h]
set_option maxHeartbeats 2000000 in
theorem xA (g : Nat) (cap : Array Value) (p : gq → Bool) (A : Option Addr) (c : Nat) (l : List gq) (w : World)
    (hr : Kd.C jB w A l.length l) (hc : l.length ≤ c) (hm : l.length ≤ 9223372036854775807) (hp : xP g cap p w) (eg : ∀ args w, (callFunc g args).run Try.prog w = .ok (.enter g args) w) :
    Calls Try.prog 170 #[.slice A l.length c, .func (.func g) #[] cap] w fun e w' => e = .returned (.int .i64 (vI p l)) ∧ Below w.heap.size w w' := by
  have hu := Try.underlying173
  have HR := ah hr
  have HP := ah hp
  clear hr hp
  go_enter Try.func170, Try.ntmps170
  go_wp2
  go_loopg [5, 8] l.length (fun gg _ s8 wr => ∃ kk : Nat, kk ≤ l.length ∧ l.length - kk ≤ gg ∧ s8 = .int .i64 kk ∧ aj (Below w.heap.size w wr) ∧ aj (∀ j (hj : j < kk) (hj2 : j < l.length), p l[j] = false))
  case atStart => exact ⟨0, Nat.zero_le _, by omega, rfl, ⟨Below.refl _ w⟩, ⟨fun j hj => absurd hj (Nat.not_lt_zero _)⟩⟩
  case round =>
    obtain ⟨kk, hkk, hg, rfl, HB, HA⟩ := hrel
    by_cases hlt : kk < l.length
    · have hlti : (kk : Int) < (l.length : Int) := by omega
      obtain ⟨ad, e1, hx0, hx1⟩ := qH HR.out kk (by omega) (by omega)
      cases e1
      replace hx0 := (HB.out.cell (World.block_lt_of_cell? w _ hx0)).trans hx0
      replace hx1 := (HB.out.cell (World.block_lt_of_cell? w _ hx1)).trans hx1
      rw [AV l kk hlt, Int.toNat_natCast] at hx0 hx1
      have hcall := HP.out wr l[kk] HB.out
      generalize hy : l[kk] = y at hx0 hx1 hcall
      have HY := ah hy
      clear hy
      cases hq : p y with
      | true =>
        rw [hq] at hcall
        have HQ := ah hq
        clear hq
        have HC := ah hcall
        clear hcall
        go_wp2_with (go_at_fn g; refine HC.out.mono ?_; rintro e w' ⟨rfl, hb'⟩)
        go_ret
        refine ⟨?_, HB.out.trans (hb'.mono HB.out.size)⟩
        rw [Ac p l kk hlt (by rw [HY.out]; exact HQ.out) (fun j hj => HA.out j hj (by omega))]; rfl
      | false =>
        rw [hq] at hcall
        have HQ := ah hq
        clear hq
        have HC := ah hcall
        clear hcall
        go_wp2_with (go_at_fn g; refine HC.out.mono ?_; rintro e w' ⟨rfl, hb'⟩)
        go_roundg (l.length - (kk + 1))
        case measure => omega
        case rel =>
          refine ⟨kk + 1, by omega, by omega, by go_num, ⟨HB.out.trans (hb'.mono HB.out.size)⟩, ⟨fun j hj hj2 => ?_⟩⟩
          by_cases e : j = kk
          · subst e
            rw [HY.out]; exact HQ.out
          · exact HA.out j (by omega) hj2
    · have hlti : ¬ (kk : Int) < (l.length : Int) := by omega
      have hk : kk = l.length := by omega
      go_wp2
      go_ret
      refine ⟨?_, HB.out⟩
      rw [yF p l (fun j hj => HA.out j (by omega) hj)]; rfl
def slices_Clone_pair.f (l0 : List gq) : Option (List gq) := if l0.length < 8796093022208 then some l0 else none
set_option maxHeartbeats 2000000 in
set_option maxRecDepth 100000 in
theorem slices_Clone_pair.calls (A0 : Option Addr) (c0 : Nat) (l0 r : List gq) (w : World) (hr0 : Kd.C jB w A0 l0.length l0) (hc0 : l0.length ≤ c0) (h : slices_Clone_pair.f l0 = some r) :
    Calls Try.prog 135 #[.slice A0 l0.length c0] w fun e w' => ∃ mW : Value, e = .returned (mW) ∧ Kd.R jB 173 w' w.heap.size (fun _ => True) mW r ∧ Below w.heap.size w w' := by
  obtain ⟨hm, h2⟩ := lC h
  subst h2
  clear h
  have hu := Try.underlying91
  have HM := ah hm
  clear hm
  cases A0 with
  | none =>
    have hl : l0 = [] := by
      rcases Nat.eq_zero_or_pos l0.length with h | h
      · exact List.length_eq_zero_iff.1 h
      · obtain ⟨ad, e, _⟩ := hr0.2.2 h
        cases e
    subst hl
    have hn : ∀ W n c, (binOp .eql 91 (.slice none n c) (.slice none 0 0)).run Try.prog W = .ok (.bool true) W := fun W n c => by
      exact Lib.run_eql_slice_nil W _ _ none n c 0 0 Try.underlying91
    go_enter Try.func135, Try.ntmps135
    go_wp2
    go_ret
    exact ⟨_, rfl, Kd.eY _ _ _ _ _, Below.refl _ _⟩
  | some ad =>
    have hn : ∀ W n c, (binOp .eql 91 (.slice (some ad) n c) (.slice none 0 0)).run Try.prog W = .ok (.bool false) W := fun W n c => by
      exact Lib.run_eql_slice_nil W _ _ (some ad) n c 0 0 Try.underlying91
    have HR := ah hr0
    clear hr0
    go_enter Try.func135, Try.ntmps135
    go_wp2_with ((with_reducible refine eG (b := .append) (xs := #[.tmp 5, .tmp 6]) rfl ?_); at_builtin; refine Kd.uV jB (w0 := w) (Rr := jB.K w) w.heap.size rfl (.tmp 5) (.tmp 6) 91 173 _ 16 rfl Try.underlying91 zZ rfl (by decide) (by omega) (.slice (some ⟨w.heap.size, 0, none⟩) 0 0) [] l0 (some ad) l0.length c0 (fun _ => True) (fun _ => False) rfl rfl ?aO ?aR ?aK (fun _ hk => hk.elim) (fun _ _ => trivial) ?aB ?aS ?aL ?_; (case aO => exact ⟨fun _ _ => trivial, [], ⟨rfl, .inr ⟨w.heap.size, 0, #[], rfl, Nat.le_refl _, by simpa using iL w _, Nat.le_refl _, by unfold maxLen; omega, rfl, rfl⟩⟩, jl.none _ _⟩); (case aR => exact HR.out.qZ (ak (Below.refl _ _) _) (fun _ _ h => h)); (case aK => intro x cs hx; rw [GZ hx]; exact lT _ _ _ x); (case aB => exact ak (Below.refl _ _) _); (case aS => simp); (case aL => have := HM.out; simp; omega); intro v1 w1 ho hb hg hat; rw [List.nil_append] at ho; have HO := ah ho; have HB := ah hb; clear ho hb hg hat)
    go_ret
    exact ⟨_, rfl, HO.out, HB.out⟩
theorem Ny : ∀ w w1 base ok x cs, jB.M w base ok x cs → jB.M w1 base ok x cs := fun w w1 base ok x cs h => by
 rw [lH h]; exact lT _ _ _ x
theorem Nz (n : Nat) : (Builtin.zeroCells (Value.agg #[.int .i64 0, .int .i64 0]).cells n).toList.length = n * 2 ∧ ∀ v ∈ (Builtin.zeroCells (Value.agg #[.int .i64 0, .int .i64 0]).cells n).toList, v.oneCell' = true := by
 have hc : (Value.agg #[.int .i64 0, .int .i64 0]).cells = #[.int .i64 0, .int .i64 0] := by kernel_rfl
 rw [hc]
 refine ⟨by simp [Builtin.zeroCells], fun v hv => ?_⟩
 simp only [Builtin.zeroCells, Array.toList_map, List.mem_map] at hv
 obtain ⟨i, _, rfl⟩ := hv
 have : i % 2 = 0 ∨ i % 2 = 1 := by omega
 rcases this with h | h <;> simp [h] <;> rfl
set_option maxHeartbeats 4000000 in
set_option maxRecDepth 100000 in
theorem Cc (g : Nat) (cap : Array Value) (p : gq → Bool) (w0 w : World) (v : Value) (xs : List gq)
    (HO : Kd.R jB 173 w w0.heap.size (fun _ => True) v xs) (HB : Below w0.heap.size w0 w) (hp : xP g cap p w0) (eg : ∀ args w, (callFunc g args).run Try.prog w = .ok (.enter g args) w) :
    Calls Try.prog 134 #[v, .func (.func g) #[] cap] w fun e w' => ∃ v' : Value, e = .returned v' ∧ Kd.R jB 173 w' w0.heap.size (fun _ => True) v' (xs.filter (fun x => !p x)) ∧ Below w0.heap.size w0 w' := by
  have hu := Try.underlying173
  obtain ⟨A, c, rfl, hlc, hC⟩ := Kd.qy HO
  have hm : xs.length ≤ 9223372036854775807 := hC.2.1
  have HI := xA g cap p A c xs w hC hlc hm (fun W x hb => hp W x (aG HB HB.size hb)) eg
  have HX := Eh p xs
  have HP := ah hp
  clear hp
  generalize vI p xs = ix at HI HX
  rcases HX with ⟨rfl, hfil⟩ | ⟨i0, hi0, rfl, hhit, hbef⟩
  · rw [hfil]
    have HI := ah HI
    have HO := ah HO
    have HB := ah HB
    clear hC hfil
    go_enter Try.func134, Try.ntmps134
    go_wp2_with (go_at_call 170; refine HI.out.mono ?_; rintro e w' ⟨rfl, hb'⟩)
    go_ret
    exact ⟨_, rfl, Kd.eU HO.out hb', aG HB.out HB.out.size hb'⟩
  · obtain ⟨gb, cp, hv, hbg, hgl, cells, hcells⟩ := Kd.qC HO (by omega)
    injection hv with hA _ hcp
    subst hA; subst hcp
    have hne : (((i0 : Int)) == -1) = false := beq_eq_false_iff_ne.2 (by omega)
    have HS := DelInv.start hi0 hhit hbef
    have HI := ah HI
    have HO := ah HO
    have HB := ah HB
    have HS := ah HS
    have HM := ah hm
    have hi0' : i0 + 1 ≤ xs.length := hi0
    clear hC hhit hbef hcells
    go_enter Try.func134, Try.ntmps134
    go_wp2_with (go_at_call 170; refine HI.out.mono ?_; rintro e w' ⟨rfl, hb'⟩; have KR := ah (Kd.eU HO.out hb'); have HB1 := ah (aG HB.out HB.out.size hb'); clear hb' HI HO HB)
    go_loopg [5, 6] xs.length (fun gg s5 s6 wr => ∃ (i j : Nat) (ys : List gq), s5 = .int .i64 i ∧ s6 = .int .i64 j ∧ j ≤ xs.length ∧ xs.length - j ≤ gg ∧ aj (DelInv p xs i j ys) ∧ aj (Kd.R jB 173 wr w0.heap.size (fun _ => True) (.slice (some ⟨gb, 0, none⟩) xs.length c) ys) ∧ aj (Below w0.heap.size w0 wr))
    case atStart => exact ⟨i0, i0 + 1, xs, rfl, by go_num, by omega, by omega, HS, KR, HB1⟩
    case round =>
      obtain ⟨i, j, ys, rfl, rfl, hj, hg, HD, HO, HB⟩ := hrel
      clear HS KR HB1
      have hlen := HD.out.len
      have hij := HD.out.lt
      by_cases hlt : j < xs.length
      · have hlti : (j : Int) < (xs.length : Int) := by omega
        have hii : (i : Int) < (xs.length : Int) := by omega
        obtain ⟨hj2, hyx⟩ := HD.out.at_ hlt
        have hC := (Kd.bF HO.out).2.2
        obtain ⟨ad, e1, hx0, hx1⟩ := qH hC j (by omega) (by omega)
        cases e1
        rw [AV ys j hj2, Int.toNat_natCast, hyx] at hx0 hx1
        rw [add_plain] at hx0 hx1
        dsimp only at hx1
        have hcall := HP.out (wr.alloc (.cells #[.int .i64 xs[j].f0, .int .i64 xs[j].f1] 173)) xs[j] (aG HB.out HB.out.size (ak (Below.refl _ _) _))
        clear hC
        cases hq : p xs[j] with
        | true =>
          rw [hq] at hcall
          have HD' := ah (HD.out.skip hlt hq)
          have HC := ah hcall
          clear hcall hq hyx
          generalize xs[j] = y at hx0 hx1 HC
          go_wp2_with (go_at_fn g; refine HC.out.mono ?_; rintro e w' ⟨rfl, hb'⟩; have HB1 := ah (aG (aG HB.out HB.out.size (ak (Below.refl _ _) _)) (by have := HB.out.size; simp; omega) hb'); have KR := ah (Kd.eU (Kd.eU HO.out (ak (Below.refl _ _) _)) hb'); clear hb' HO HB)
          go_roundg (xs.length - (j + 1))
          case measure => omega
          case rel => exact ⟨i, j + 1, ys, rfl, by go_num, by omega, by omega, HD', KR, HB1⟩
        | false =>
          rw [hq] at hcall
          have HD' := ah (HD.out.keep hlt hq)
          have HC := ah hcall
          clear hcall hq hyx
          generalize xs[j] = y at hx0 hx1 HC HD'
          go_wp2_with (first | (go_at_fn g; refine HC.out.mono ?_; rintro e w' ⟨rfl, hb'⟩; have hv0 : w'.cell? ⟨wr.heap.size, 0, none⟩ = some (.int .i64 y.f0) := (hb'.cell (p := ⟨wr.heap.size, 0, none⟩) (by simp)).trans (by simp); have hv1 : w'.cell? ⟨wr.heap.size, 1, none⟩ = some (.int .i64 y.f1) := (hb'.cell (p := ⟨wr.heap.size, 1, none⟩) (by simp)).trans (by simp); have HB1 := ah (aG (aG HB.out HB.out.size (ak (Below.refl _ _) _)) (by have := HB.out.size; simp; omega) hb'); have KR := ah (Kd.eU (Kd.eU HO.out (ak (Below.refl _ _) _)) hb'); clear hb' HO HB) | ((with_reducible refine Vk (.store 173 (.tmp 33) (.tmp 32)) rfl ?_); obtain ⟨ce, hcl, hcM, hcc, hcf⟩ := Kd.jC KR.out z173 (i : Int) (by omega) (by omega); refine Kd.Ol jB (w0 := w0) w0.heap.size rfl rfl 173 (.tmp 33) (.tmp 32) rfl 173 (i : Int) 0 ys y (.agg #[.int .i64 y.f0, .int .i64 y.f1]) [.int .i64 y.f0, .int .i64 y.f1] ce (fun _ => True) (fun _ => False) (by first | rfl | simp) rfl rfl rfl (by kernel_rfl) (by intro q hq; simp at hq; rcases hq with rfl | rfl <;> rfl) KR.out (by omega) (by omega) hcl hcc (by show 0 + 2 ≤ 2; omega) (by rw [show ce.drop (0 + [Value.int .i64 y.f0, Value.int .i64 y.f1].length) = [] from List.drop_eq_nil_of_le (by rw [hcl]; exact Nat.le_refl 2)]; exact lT _ _ _ y) (fun _ h => h.elim) HB1.out ?_; intro w1 ho hb hg; rw [Int.toNat_natCast] at ho; have EF := ah ho; have HB2 := ah hb; clear ho hb hg hcl hcM hcc hcf KR HB1))
          go_roundg (xs.length - (j + 1))
          case measure => omega
          case rel => exact ⟨i + 1, j + 1, ys.set i y, by go_num, by go_num, by omega, by omega, HD', EF, HB2⟩
      · have hjx : j = xs.length := by omega
        subst hjx
        have hlti : ¬ (xs.length : Int) < (xs.length : Int) := by omega
        have hii : (i : Int) < (xs.length : Int) := by omega
        obtain ⟨inner, hown⟩ := Kd.GL HO.out
        obtain ⟨cur, hcur, hcs, hnc⟩ : ∃ cur, wr.heap[gb]? = some (.cells cur 173 (0, 0)) ∧ cur.size = c * 2 ∧ xs.length ≤ c := by
          rcases hown.2 with ⟨hv, _⟩ | ⟨g', cap', cur, hv, hb, hh, hnc, hcm, hcs, ht⟩
          · cases hv
          · injection hv with ha _ hc
            injection ha with ha
            injection ha with hg'
            subst hg'; subst hc
            exact ⟨cur, hh, hcs, by omega⟩
        have hzl := Nz (xs.length - i)
        have hpc := Dc hcur (i * 2) (Builtin.zeroCells (Value.agg #[.int .i64 0, .int .i64 0]).cells (xs.length - i)).toList.length (by rw [hzl.1]; omega)
        have hcl : ∀ ty, (Builtin.clear_ #[91] ty #[.slice (some ⟨gb, i * 2, none⟩) (xs.length - i) (c - i)]).run Try.prog wr = .ok (.tuple #[]) (wr.setCells gb (i * 2) (Builtin.zeroCells (Value.agg #[.int .i64 0, .int .i64 0]).cells (xs.length - i)).toList) := fun ty =>
          wX wr _ _ ty (Value.agg #[.int .i64 0, .int .i64 0]) Try.underlying91 (fun w => by kernel_rfl) gb (i * 2) _ _ (by omega) hzl.2 hpc.1 hpc.2
        have HF := ah HD.out.done
        have HR2 : aj (Kd.R jB 173 (wr.setCells gb (i * 2) (Builtin.zeroCells (Value.agg #[.int .i64 0, .int .i64 0]).cells (xs.length - i)).toList) w0.heap.size (fun _ => True) (.slice (some ⟨gb, 0, none⟩) i c) (ys.take i)) := ⟨JV Ny (Kd.Qx HO.out (by omega)) _ _ (by show i * 2 ≤ i * 2; omega) (by rw [hzl.1]; show i * 2 + (xs.length - i) * 2 ≤ c * 2; omega)⟩
        have HB2 : aj (Below w0.heap.size w0 (wr.setCells gb (i * 2) (Builtin.zeroCells (Value.agg #[.int .i64 0, .int .i64 0]).cells (xs.length - i)).toList)) := ⟨by
          obtain ⟨h1, h2, h3, h4⟩ := rZ gb (Builtin.zeroCells (Value.agg #[.int .i64 0, .int .i64 0]).cells (xs.length - i)).toList (i * 2) wr
          refine HB.out.trans ⟨h1, h2, h3, by rw [h4]; exact Nat.le_refl _, fun k hk => qE _ _ k (by omega)⟩⟩
        have hic : (c = i) = False := by simp; omega
        clear HO HB hpc hzl hcur hcs hown HD
        generalize (Builtin.zeroCells (Value.agg #[.int .i64 0, .int .i64 0]).cells (xs.length - i)).toList = seg at hcl HR2 HB2
        go_wp2
        go_ret
        exact ⟨_, rfl, by rw [← HF.out]; exact HR2.out, HB2.out⟩
set_option maxRecDepth 100000 in
theorem EJ (W : World) (x : gq) (B : Nat) (pl : Int) (hc : W.cell? ⟨B, 0, none⟩ = some (.int .i64 pl)) :
  Calls Try.prog 136 #[.agg #[.int .i64 x.f0, .int .i64 x.f1], .pointer (some ⟨B, 0, none⟩)] W fun e w' => e = .returned (.bool (x.f1 == pl)) ∧ Below W.heap.size W w' := by
 have hu := Try.underlying173
 have hB : B < W.heap.size := World.block_lt_of_cell? W ⟨B, 0, none⟩ hc
 have hc2 : (W.alloc (.cells #[.int .i64 x.f0, .int .i64 x.f1] 173)).cell? ⟨B, 0, none⟩ = some (.int .i64 pl) := ((ak (Below.refl _ _) _).cell (p := ⟨B, 0, none⟩) hB).trans hc
 go_enter Try.func136, Try.ntmps136
 go_wp2
 go_ret
 exact ⟨rfl, (Below.refl _ _).alloc (Nat.le_refl _) _⟩
def pairs_Without_int64.f (l0 : List gq) (a1 : Int) : Option (List gq) :=
 if l0.length < 8796093022208 then some (l0.filter (fun x => !(x.f1 == a1))) else none
set_option maxHeartbeats 2000000 in
set_option maxRecDepth 100000 in
theorem pairs_Without_int64.calls (A0 : Option Addr) (c0 : Nat) (l0 : List gq) (a1 : Int) (r : List gq) (w : World) (hr0 : Kd.C jB w A0 l0.length l0) (hc0 : l0.length ≤ c0) (h : pairs_Without_int64.f l0 a1 = some r) :
  Calls Try.prog 71 #[.slice A0 l0.length c0, .int .i64 a1] w fun e w' => ∃ mW : Value, e = .returned (mW) ∧ Kd.R jB 173 w' w.heap.size (fun _ => True) mW r ∧ Below w.heap.size w w' := by
 obtain ⟨hm, h2⟩ := lC h
 subst h2
 clear h
 have HC := ah (slices_Clone_pair.calls A0 c0 l0 l0 (w.alloc (.cells #[.int .i64 a1] 2)) (Kd.bT hr0 (ak (Below.refl _ _) _)) hc0 (by unfold slices_Clone_pair.f; rw [if_pos hm]))
 have hp : xP 136 #[.pointer (some ⟨w.heap.size, 0, none⟩)] (fun x => x.f1 == a1) (w.alloc (.cells #[.int .i64 a1] 2)) :=
  fun W x hb => EJ W x w.heap.size a1 ((hb.cell (p := ⟨w.heap.size, 0, none⟩) (by simp)).trans (by simp))
 have HD := ah (fun w1 v ho hb => Cc 136 #[.pointer (some ⟨w.heap.size, 0, none⟩)] (fun x => x.f1 == a1) (w.alloc (.cells #[.int .i64 a1] 2)) w1 v l0 ho hb hp (enters_of Try.func136 (by kernel_rfl) rfl))
 clear hp hm hr0 hc0
 go_enter Try.func71, Try.ntmps71
 go_wp2_with (first | (go_at_call 135; refine HC.out.mono ?_; rintro e w' ⟨v, rfl, ho, hb⟩; have HO := ah ho; have HB := ah hb; clear ho hb HC) | (go_at_call 134; refine (HD.out _ _ HO.out HB.out).mono ?_; rintro e w' ⟨v', rfl, ho, hb⟩; have EF := ah ho; have HB2 := ah hb; clear ho hb HD))
 go_ret
 refine ⟨_, rfl, Kd.dh EF.out (by simp), aG (ak (Below.refl _ _) _) (by simp) HB2.out⟩
def EK (l : List Pr) : List Pr := l.filter (fun x => !(x.f1 == 0))
theorem Ho (l : List Pr) (hl : l.length ≤ 4611686018427) (w : World) (v : Value) (hv : SI kPr w v l) : Calls Try.prog 71 #[v, .int .i64 0] w fun e w' =>
  ∃ v', e = .returned v' ∧ SI kPr w' v' (EK l) ∧ Below w.heap.size w w' := by
 obtain ⟨A, c, rfl, hc, hr⟩ := hv
 refine (pairs_Without_int64.calls A c l 0 (EK l) w hr hc (if_pos (by omega))).mono ?_
 rintro e w1 ⟨v0, rfl, h0, hb⟩
 exact ⟨v0, rfl, .rC h0, hb⟩
theorem KT {l : List Pr} (h : xq l) : xq (EK l) := ⟨fun s hs => h.1 s (List.mem_filter.1 hs).1, Nat.lt_of_le_of_lt (List.length_filter_le _ _) h.2⟩
structure RowOK (l : List Pr) : Prop where
 wf : xq l
 len : l.length ≤ 4096
 cnt : cnts l
 ups : DI (fun p : Pr => p.f0) l
theorem yQ : ∀ (l : List Int) (e : Int), rises e l = true → l.Pairwise (· < ·) ∧ ∀ x ∈ l, e ≤ x
  | [], _, _ => ⟨List.Pairwise.nil, fun x hx => by simp at hx⟩
  | p :: l, e, h => by
    simp only [rises, Bool.and_eq_true, decide_eq_true_eq] at h
    obtain ⟨h1, h2⟩ := yQ l (p + 1) h.2
    refine ⟨List.pairwise_cons.2 ⟨fun x hx => by have := h2 x hx; omega, h1⟩, fun x hx => ?_⟩
    rcases List.mem_cons.1 hx with rfl | hx
    · exact h.1.1
    · have := h2 x hx; omega
theorem OH : ∀ (ps v : List Int), ps.Pairwise (· < ·) → DI (fun p : Pr => p.f0) (List.zipWith (fun p x => (⟨p, x⟩ : Pr)) ps v)
  | [], _, _ => by simp [DI]
  | p :: ps, [], _ => by simp [DI]
  | p :: ps, x :: v, h => by
    have h1 := List.pairwise_cons.1 h
    refine List.pairwise_cons.2 ⟨fun y hy => ?_, OH ps v h1.2⟩
    have : y.f0 ∈ ps := by
      obtain ⟨i, hi, rfl⟩ := List.mem_iff_getElem.1 hy
      simp only [List.getElem_zipWith]; exact List.getElem_mem _
    exact h1.1 _ this
theorem RowOK.nil : RowOK [] := ⟨⟨fun s hs => by simp at hs, by simp⟩, by simp, fun s hs => by simp at hs, DI.nil⟩
theorem Dn {l : List Sp} {d : List Int} (hd : Gj d) : RowOK (jP l d).1 := by
  by_cases h0 : (jP l d).2 = 0
  · obtain ⟨hc, hl⟩ := zF hd h0
    unfold jP at h0 hc hl ⊢
    by_cases c1 : fU l = 0
    rotate_left
    · rw [if_neg c1] at h0; exact absurd h0 c1
    rw [if_pos c1] at h0 hc hl ⊢
    by_cases c2 : nK l = d.length
    rotate_left
    · rw [if_neg c2] at h0; cases h0
    rw [if_pos c2] at h0 hc hl ⊢
    cases hs : gJ 0 d with
    | none => rw [hs] at h0; cases h0
    | some c =>
      rw [hs] at h0 hc hl
      simp only at h0 hc hl ⊢
      by_cases c3 : c.any (fun x => decide (x < 0)) = true
      · rw [if_pos c3] at h0; cases h0
      rw [if_neg c3] at hc hl ⊢
      have hr := um c1
      have hf : ∀ p ∈ List.zipWith (fun p x => (⟨p, x⟩ : Pr)) (uN 0 l) c, -1048576 ≤ p.f0 ∧ p.f0 ≤ 1048576 := by
        intro y hy
        have : y.f0 ∈ uN 0 l := by
          obtain ⟨i, hi, rfl⟩ := List.mem_iff_getElem.1 hy
          simp only [List.getElem_zipWith]; exact List.getElem_mem _
        exact yO hr _ this
      refine ⟨⟨fun p hp => ?_, by omega⟩, hl, fun p hp => ?_, OH _ _ (yQ _ _ hr).1⟩
      · have h1 := hf p hp; have h2 := hc p hp; exact ⟨⟨by omega, by omega⟩, ⟨by omega, by omega⟩⟩
      · have h1 := hf p hp; have h2 := hc p hp; exact ⟨⟨by omega, by omega⟩, h2⟩
  · have : (jP l d).1 = [] := by
      unfold jP at h0 ⊢
      by_cases c1 : fU l = 0
      · rw [if_pos c1] at h0 ⊢
        by_cases c2 : nK l = d.length
        · rw [if_pos c2] at h0 ⊢
          cases hs : gJ 0 d with
          | none => rfl
          | some c =>
            rw [hs] at h0
            simp only at h0 ⊢
            by_cases c3 : c.any (fun x => decide (x < 0)) = true
            · rw [if_pos c3]
            · rw [if_neg c3] at h0; exact absurd rfl h0
        · rw [if_neg c2]
      · rw [if_neg c1]
    rw [this]; exact RowOK.nil
theorem Hq {h : Hi} (hw : Ql h) : RowOK (lK h).1 ∧ RowOK (lK h).2.1 := by
 obtain ⟨-, -, -, -, -, -, -, h7, h8, -⟩ := hw
 have a := Dn (l := h.f5) h7
 have b := Dn (l := h.f6) h8
 unfold lK AU
 repeat' split
 all_goals first | exact ⟨a, b⟩ | exact ⟨RowOK.nil, RowOK.nil⟩
theorem RU {α : Type} (f : α → Int) {l : List α} {i : Nat} (h : i < l.length) : rd (l.map f) (i : Int) = f l[i] := by rw [sK (by simpa using h)]; simp
def KU (a b : Hi) : Prop := a.f0 = b.f0 ∧ a.f1 = b.f1 ∧ a.f2 = b.f2 ∧ a.f3 = b.f3 ∧ a.f4 = b.f4
instance (a b : Hi) : Decidable (KU a b) := by unfold KU; exact inferInstance
def rD (w : World) (g : Nat) (cs : Array Value) (t : TypeId) : Prop := w.heap[g]? = some (.cells cs t (0, 0))
theorem rD.below {w w' : World} {g : Nat} {cs : Array Value} {t : TypeId} (h : rD w g cs t) (hb : Below w.heap.size w w') : rD w' g cs t := bD h hb
theorem rD.cell {w : World} {g : Nat} {cs : Array Value} {t : TypeId} (h : rD w g cs t) (i : Nat) : w.cell? ⟨g, i, none⟩ = cs[i]? := au h i
theorem rD.new (w : World) (cs : Array Value) (t : TypeId) : rD (w.alloc (.cells cs t)) w.heap.size cs t := iL w _
theorem rD.alloc {w : World} {g : Nat} {cs : Array Value} {t : TypeId} (h : rD w g cs t) (o : Obj) : rD (w.alloc o) g cs t := nZ h o
theorem rD.RV {w : World} (o : Obj) (cs : Array Value) (t : TypeId) : rD ((w.alloc o).alloc (.cells cs t)) (w.heap.size + 1) cs t := by have := rD.new (w.alloc o) cs t; simpa using this
abbrev kRsp := mV
def HR (w : World) (v : Value) (h : Hi) : Prop :=
 ∃ v5 v6 v7 v8, v = .agg #[.int .i64 h.f0, .int .u64 h.f1, .int .u64 h.f2, .int .u64 h.f3, .int .u64 h.f4, v5, v6, v7, v8] ∧ SI kRsp w v5 (h.f5.map toR) ∧ SI kRsp w v6 (h.f6.map toR) ∧ SI (Kd.int .i64) w v7 h.f7 ∧ SI (Kd.int .i64) w v8 h.f8
theorem HR.below {w w' : World} {v : Value} {h : Hi} (x : HR w v h) (hb : Below w.heap.size w w') : HR w' v h := by
 obtain ⟨v5, v6, v7, v8, e, h5, h6, h7, h8⟩ := x
 exact ⟨v5, v6, v7, v8, e, h5.below hb, h6.below hb, h7.below hb, h8.below hb⟩
theorem HR.open_ {w : World} {v : Value} {h : Hi} (x : HR w v h) : ∃ A5 c5 A6 c6 A7 c7 A8 c8, v = .agg #[.int .i64 h.f0, .int .u64 h.f1, .int .u64 h.f2, .int .u64 h.f3, .int .u64 h.f4, .slice A5 h.f5.length c5, .slice A6 h.f6.length c6, .slice A7 h.f7.length c7, .slice A8 h.f8.length c8] ∧
  SI kRsp w (.slice A5 h.f5.length c5) (h.f5.map toR) ∧ SI kRsp w (.slice A6 h.f6.length c6) (h.f6.map toR) ∧ SI (Kd.int .i64) w (.slice A7 h.f7.length c7) h.f7 ∧ SI (Kd.int .i64) w (.slice A8 h.f8.length c8) h.f8 := by
 obtain ⟨v5, v6, v7, v8, rfl, h5, h6, h7, h8⟩ := x
 obtain ⟨A5, c5, rfl, KG, KH⟩ := h5
 obtain ⟨A6, c6, rfl, KI, KJ⟩ := h6
 obtain ⟨A7, c7, rfl, KL, h72⟩ := h7
 obtain ⟨A8, c8, rfl, KO, KP⟩ := h8
 rw [List.length_map]
 rw [List.length_map]
 refine ⟨A5, c5, A6, c6, A7, c7, A8, c8, rfl, ⟨A5, c5, by rw [List.length_map], KG, KH⟩, ⟨A6, c6, by rw [List.length_map], KI, KJ⟩, .of h72 KL, .of KP KO⟩
theorem SI.V {w : World} {e : Nat} {A : Option Addr} {c : Nat} {l : List Int} (hc : l.length ≤ c) (hr : (Kd.int .i64).C w A l.length l) : Kd.V (Kd.int .i64) e w w.heap.size (fun k_ => (fun k => k < w.heap.size) k_) (.slice A l.length c) l := ⟨_, _, rfl, hc, Kd.C_F (Kd.JO .i64) hr⟩
attribute [local go_sem] iV iW jH jI gW gX iY iZ
def scale_wrong.f (a0 : Int) (a1 : Int) : Option (Bool) := if a1 < (-4) then (some true) else (some (decide (a1 > a0)))
set_option maxHeartbeats 8000000 in
set_option maxRecDepth 100000 in
theorem scale_wrong.calls (a0 : Int) (a1 : Int) (r : Bool) (w : World) (h : scale_wrong.f a0 a1 = some r) :
  Calls Try.prog 79 #[.int .i64 a0, .int .i64 a1] w fun e w' => e = .returned (.bool r) ∧ cZ w w' := by
 have H : (if a1 < (-4) then (some true) else (some (decide (a1 > a0)))) = some r := h
 clear h
 by_cases c3 : a1 < (-4)
 ·rw [if_pos c3] at H
  have c3b0 : decide (a1 < (-4)) = true := ahG c3
  clear c3
  obtain rfl := Option.some.inj H
  go_enter Try.func79, Try.ntmps79
  go_wp2
  go_ret
  exact ⟨by first | rfl | (simp; done) | (simp [*]; done), by repeat (first | exact cZ.refl _ | apply cZ.step)⟩
 rw [if_neg c3] at H
 have c3b0 : decide (a1 < (-4)) = false := ahH c3
 clear c3
 obtain rfl := Option.some.inj H
 go_enter Try.func79, Try.ntmps79
 go_wp2
 go_ret
 exact ⟨by first | rfl | (simp; done) | (simp [*]; done), by repeat (first | exact cZ.refl _ | apply cZ.step)⟩
def scale_Place.j0 : Nat → Int → Int → Bool → Option (Int)
 | 0, _, _, _ => none
 | k + 1, x0, x1, x11 => if x11 = true then (some x0) else (if 0 ≤ x1 then (if (shl .i64 (shr .i64 x0 x1) x1) = x0 then (some (shr .i64 x0 x1)) else (some (wrap64 ((shr .i64 x0 x1) + 1)))) else (none))
def scale_Place.f (k : Nat) (a0 : Int) (a1 : Int) : Option (Int) := if a1 < 0 then (scale_Place.j0 k a0 a1 true) else (scale_Place.j0 k a0 a1 (decide (a1 > 62)))
set_option maxHeartbeats 8000000 in
set_option maxRecDepth 100000 in
theorem scale_Place.calls (k : Nat) (a0 : Int) (a1 : Int) (r : Int) (w : World) (h : scale_Place.f k a0 a1 = some r) :
  Calls Try.prog 77 #[.int .i64 a0, .int .i64 a1] w fun e w' => e = .returned (.int .i64 r) ∧ cZ w w' := by
 have H : (if a1 < 0 then (scale_Place.j0 k a0 a1 true) else (scale_Place.j0 k a0 a1 (decide (a1 > 62)))) = some r := h
 clear h
 have Gl := ah H
 clear H
 go_enter Try.func77, Try.ntmps77
 go_upto_region 1 with (fail)
 go_cut [11] (fun v11 wc => ∃ (kq : Nat) (OI : Bool), v11 = .bool OI ∧ aj (scale_Place.j0 kq a0 a1 OI = some r) ∧ aj (kq ≤ k) ∧ cZ w wc)
 case first =>
  have H := Gl.out
  clear Gl
  by_cases c4 : a1 < 0
  ·rw [if_pos c4] at H
   have c4b0 : decide (a1 < 0) = true := ahG c4
   clear c4
   (first | rw [c4b0] | (simp only [bI, bM]; rw [c4b0]) | skip)
   have H' := ah H
   clear H
   go_wp2
   go_meet
   case rel => exact ⟨_, (true), (by first | rfl | (simp; done) | (simp [*]; done)), H', ⟨by first | omega | exact Nat.le_refl _⟩, by repeat (first | exact cZ.refl _ | apply cZ.step)⟩
  rw [if_neg c4] at H
  have c4b0 : decide (a1 < 0) = false := ahH c4
  clear c4
  (first | rw [c4b0] | (simp only [bI, bM]; rw [c4b0]) | skip)
  have H' := ah H
  clear H
  go_wp2
  go_meet
  case rel => exact ⟨_, (decide (a1 > 62)), (by first | rfl | (simp; done) | (simp [*]; done)), H', ⟨by first | omega | exact Nat.le_refl _⟩, by repeat (first | exact cZ.refl _ | apply cZ.step)⟩
 case rest =>
  clear Gl
  try clear p2
  try clear c4
  try clear c4b0
  obtain ⟨kq, OI, rfl, HA, HJ2, ⟨mc2, rfl⟩⟩ := hcut
  cases kq with
  | zero => exact absurd HA.out (by simp [scale_Place.j0])
  | succ Zt =>
   have H := HA.out
   clear HA
   simp only [scale_Place.j0] at H
   by_cases c5 : OI = true
   ·subst c5
    have H1 : (some a0) = some r := by rw [if_pos rfl] at H; exact H
    clear H
    have H := H1
    clear H1
    obtain rfl := Option.some.inj H
    go_wp2
    go_ret
    exact ⟨by first | rfl | (simp; done) | (simp [*]; done), by repeat (first | exact cZ.refl _ | apply cZ.step)⟩
   replace c5 := Bool.eq_false_iff.mpr c5
   subst c5
   have H1 : (if 0 ≤ a1 then (if (shl .i64 (shr .i64 a0 a1) a1) = a0 then (some (shr .i64 a0 a1)) else (some (wrap64 ((shr .i64 a0 a1) + 1)))) else (none)) = some r := by rw [if_neg (show ¬ (false = true) by decide)] at H; exact H
   clear H
   have H := H1
   clear H1
   by_cases c6 : 0 ≤ a1
   ·rw [if_pos c6] at H
    have c6b0 := eq_true c6
    have c6b1 : decide (0 ≤ a1) = true := ahG c6
    clear c6
    obtain ⟨Qm, PU⟩ : ∃ j_ : Int, (shr .i64 a0 a1) = j_ := ⟨_, rfl⟩
    replace H : (if (shl .i64 (Qm) a1) = a0 then (some Qm) else (some (wrap64 ((Qm) + 1)))) = some r := by first | (rw [PU] at H; exact H) | (simp only [PU] at H ⊢; exact H)
    have aex : (a0 / 2 ^ min a1.toNat 64) = Qm := PU
    have hji7z : a1 ≤ 64 → (a0 / 2 ^ a1.toNat) = Qm := Po PU
    have c8b0 := eq_true (ahF (by assumption) : 0 ≤ a1)
    obtain ⟨TQ, PV⟩ : ∃ j_ : Int, (shl .i64 (Qm) a1) = j_ := ⟨_, rfl⟩
    replace H : (if (TQ) = a0 then (some Qm) else (some (wrap64 ((Qm) + 1)))) = some r := by first | (rw [PV] at H; exact H) | (simp only [PV] at H ⊢; exact H)
    have Zu : (IntKind.i64.wrap ((Qm) * 2 ^ min a1.toNat 64)) = TQ := PV
    have hji9z : a1 ≤ 64 → (IntKind.i64.wrap ((Qm) * 2 ^ a1.toNat)) = TQ := Pn PV
    have hji9y : (wrap64 ((Qm) * 2 ^ min a1.toNat 64)) = TQ := (bI _).symm.trans Zu
    have hji9x : a1 ≤ 64 → (wrap64 ((Qm) * 2 ^ a1.toNat)) = TQ := fun h_ => (bI _).symm.trans (hji9z h_)
    by_cases c10 : (TQ) = a0
    ·rw [if_pos c10] at H
     have c10b0 : ((TQ) == a0) = true := beq_iff_eq.mpr c10
     have c10b1 : ((TQ) != a0) = false := bne_eq_false_iff_eq.mpr c10
     clear c10
     obtain rfl := Option.some.inj H
     go_wp2
     go_ret
     exact ⟨by first | rfl | (simp; done) | (simp only [← PU, ← PV] <;> (first | rfl | simp)) | (simp [*]; done), by repeat (first | exact cZ.refl _ | apply cZ.step)⟩
    rw [if_neg c10] at H
    have c10b0 : ((TQ) == a0) = false := beq_eq_false_iff_ne.mpr c10
    have c10b1 : ((TQ) != a0) = true := bne_iff_ne.mpr c10
    obtain rfl := Option.some.inj H
    go_wp2
    go_ret
    exact ⟨by first | rfl | (simp; done) | (simp only [← PU, ← PV] <;> (first | rfl | simp)) | (simp [*]; done), by repeat (first | exact cZ.refl _ | apply cZ.step)⟩
   rw [if_neg c6] at H
   exact absurd H (by simp)
def scale_whole.f (a0 : Int) (a1 : Int) : Option (Int × Bool) := some (wrap64 (a0 + a1), decide (a0 ≤ (wrap64 (9223372036854775807 - a1))))
set_option maxHeartbeats 8000000 in
set_option maxRecDepth 100000 in
theorem scale_whole.calls (a0 : Int) (a1 : Int) (r1 : Int) (r2 : Bool) (w : World) (h : scale_whole.f a0 a1 = some (r1, r2)) :
  Calls Try.prog 81 #[.int .i64 a0, .int .i64 a1] w fun e w' => e = .returned (.tuple #[.int .i64 r1, .bool r2]) ∧ cZ w w' := by
 have H : (some (wrap64 (a0 + a1), decide (a0 ≤ (wrap64 (9223372036854775807 - a1))))) = some (r1, r2) := h
 clear h
 simp only [Option.some.injEq, Prod.mk.injEq] at H
 obtain ⟨rfl, rfl⟩ := H
 go_enter Try.func81, Try.ntmps81
 go_wp2
 go_ret2
 exact ⟨by first | rfl | (simp; done) | (simp [*]; done), by repeat (first | exact cZ.refl _ | apply cZ.step)⟩
end Go.Proofs.Ytooiccpmngmapaa.P
namespace Go.Proofs.Ytooiccpmngmapaa.P
open Go.RowKit Go.Proofs.YtooiccpmngmapaaW.PrintWords Go.Proofs.YtooiccpmngmapaaW.PrintLast Go.Proofs.YtooiccpmngmapaaW.PrintMore
attribute [local go_sem] iV iW jH jI gW gX iY iZ
mutual
def tidepoleref25_Place.j0 : Nat → Int → Int → Bool → Option (Int)
 | 0, _, _, _ => none
 | k + 1, x0, x1, wE => if wE = true then (some x0) else (tidepoleref25_Place.l0 k x0 x1 1 0)
def tidepoleref25_Place.l0 : Nat → Int → Int → Int → Int → Option (Int)
 | 0, _, _, _, _ => none
 | k + 1, x0, x1, x5, x6 => if x6 < x1 then (tidepoleref25_Place.l0 k x0 x1 (wrap64 (x5 * 2)) (wrap64 (x6 + 1))) else (if x5 = 0 then (none) else (if x0 > 0 then (if (wrap64 ((wrap64 (Int.tdiv x0 x5)) * x5)) = x0 then (some (wrap64 (Int.tdiv x0 x5))) else (some (wrap64 ((wrap64 (Int.tdiv x0 x5)) + 1)))) else (some (wrap64 (Int.tdiv x0 x5)))))
end
def tidepoleref25_Place.f (k : Nat) (a0 : Int) (a1 : Int) : Option (Int) := if a1 < 0 then (tidepoleref25_Place.j0 k a0 a1 true) else (tidepoleref25_Place.j0 k a0 a1 (decide (a1 > 62)))
set_option maxHeartbeats 8000000 in
set_option maxRecDepth 100000 in
theorem tidepoleref25_Place.calls (k : Nat) (a0 : Int) (a1 : Int) (r : Int) (w : World) (h : tidepoleref25_Place.f k a0 a1 = some r) :
  Calls Try.prog 144 #[.int .i64 a0, .int .i64 a1] w fun e w' => e = .returned (.int .i64 r) ∧ cZ w w' := by
 have H : (if a1 < 0 then (tidepoleref25_Place.j0 k a0 a1 true) else (tidepoleref25_Place.j0 k a0 a1 (decide (a1 > 62)))) = some r := h
 clear h
 have Gl := ah H
 clear H
 go_enter Try.func144, Try.ntmps144
 go_upto_region 1 with (fail)
 go_cut [13] (fun v13 wc => ∃ (kq : Nat) (jv : Bool), v13 = .bool jv ∧ aj (tidepoleref25_Place.j0 kq a0 a1 jv = some r) ∧ aj (kq ≤ k) ∧ cZ w wc)
 case first =>
  have H := Gl.out
  clear Gl
  by_cases c4 : a1 < 0
  ·rw [if_pos c4] at H
   have c4b0 : decide (a1 < 0) = true := ahG c4
   clear c4
   (first | rw [c4b0] | (simp only [bI, bM]; rw [c4b0]) | skip)
   have H' := ah H
   clear H
   go_wp2
   go_meet
   case rel => exact ⟨_, (true), (by first | rfl | (simp; done) | (simp [*]; done)), H', ⟨by first | omega | exact Nat.le_refl _⟩, by repeat (first | exact cZ.refl _ | apply cZ.step)⟩
  rw [if_neg c4] at H
  have c4b0 : decide (a1 < 0) = false := ahH c4
  clear c4
  (first | rw [c4b0] | (simp only [bI, bM]; rw [c4b0]) | skip)
  have H' := ah H
  clear H
  go_wp2
  go_meet
  case rel => exact ⟨_, (decide (a1 > 62)), (by first | rfl | (simp; done) | (simp [*]; done)), H', ⟨by first | omega | exact Nat.le_refl _⟩, by repeat (first | exact cZ.refl _ | apply cZ.step)⟩
 case rest =>
  clear Gl
  try clear c1
  try clear p2
  try clear c4
  try clear c4b0
  obtain ⟨kq, jv, rfl, HA, HJ2, ⟨mc2, rfl⟩⟩ := hcut
  cases kq with
  | zero => exact absurd HA.out (by simp [tidepoleref25_Place.j0])
  | succ Zt =>
   have H := HA.out
   clear HA
   simp only [tidepoleref25_Place.j0] at H
   by_cases c5 : jv = true
   ·subst c5
    have H1 : (some a0) = some r := by rw [if_pos rfl] at H; exact H
    clear H
    have H := H1
    clear H1
    obtain rfl := Option.some.inj H
    go_wp2
    go_ret
    exact ⟨by first | rfl | (simp; done) | (simp [*]; done), by repeat (first | exact cZ.refl _ | apply cZ.step)⟩
   replace c5 := Bool.eq_false_iff.mpr c5
   subst c5
   have H1 : (tidepoleref25_Place.l0 Zt a0 a1 1 0) = some r := by rw [if_neg (show ¬ (false = true) by decide)] at H; exact H
   clear H
   have H := H1
   clear H1
   have H' := ah H
   clear H
   go_wp2
   go_loopg [5, 6] Zt (fun kq v5 v6 w' => ∃ (xQ : Int) (yV : Int), v5 = .int .i64 xQ ∧ v6 = .int .i64 yV ∧ aj (tidepoleref25_Place.l0 kq a0 a1 xQ yV = some r) ∧ aj (kq ≤ Zt) ∧ cZ w w')
   case atStart => exact ⟨(1), (0), (by first | rfl | (simp; done) | (simp [*]; done)), (by first | rfl | (simp; done) | (simp [*]; done)), H', ⟨Nat.le_refl _⟩, by repeat (first | exact cZ.refl _ | apply cZ.step)⟩
   case round =>
    clear H'
    try clear c1
    try clear c2
    try clear p2
    try clear c4
    try clear c4b0
    try clear c5
    try clear p2
    obtain ⟨xQ, yV, rfl, rfl, HA, ML, ⟨m2, rfl⟩⟩ := hrel
    cases gk with
    | zero => exact absurd HA.out (by simp [tidepoleref25_Place.l0])
    | succ k2 =>
     have H := HA.out
     clear HA
     simp only [tidepoleref25_Place.l0] at H
     by_cases c6 : yV < a1
     ·rw [if_pos c6] at H
      have c6b0 : decide (yV < a1) = true := ahG c6
      clear c6
      have H' := ah H
      clear H
      go_wp2
      go_roundg k2
      case measure => have := HJ2.out; have := ML.out; omega
      case rel => exact ⟨(wrap64 (xQ * 2)), (wrap64 (yV + 1)), (by first | rfl | (simp; done) | (simp [*]; done)), (by first | rfl | (simp; done) | (simp [*]; done)), H', ⟨by have := HJ2.out; have := ML.out; omega⟩, by repeat (first | exact cZ.refl _ | apply cZ.step)⟩
     rw [if_neg c6] at H
     have c6b0 : decide (yV < a1) = false := ahH c6
     clear c6
     by_cases c7 : xQ = 0
     ·rw [if_pos c7] at H
      exact absurd H (by simp)
     rw [if_neg c7] at H
     have c7b0 : (xQ == 0) = false := beq_eq_false_iff_ne.mpr c7
     have c7b1 : (xQ != 0) = true := bne_iff_ne.mpr c7
     by_cases c8 : a0 > 0
     ·rw [if_pos c8] at H
      have c8b0 : decide (0 < a0) = true := ahG c8
      clear c8
      by_cases c9 : (wrap64 ((wrap64 (Int.tdiv a0 xQ)) * xQ)) = a0
      ·rw [if_pos c9] at H
       have c9b0 : ((wrap64 ((wrap64 (Int.tdiv a0 xQ)) * xQ)) == a0) = true := beq_iff_eq.mpr c9
       have c9b1 : ((wrap64 ((wrap64 (Int.tdiv a0 xQ)) * xQ)) != a0) = false := bne_eq_false_iff_eq.mpr c9
       clear c9
       obtain rfl := Option.some.inj H
       go_wp2
       go_ret
       exact ⟨by first | rfl | (simp; done) | (simp [*]; done), by repeat (first | exact cZ.refl _ | apply cZ.step)⟩
      rw [if_neg c9] at H
      have c9b0 : ((wrap64 ((wrap64 (Int.tdiv a0 xQ)) * xQ)) == a0) = false := beq_eq_false_iff_ne.mpr c9
      have c9b1 : ((wrap64 ((wrap64 (Int.tdiv a0 xQ)) * xQ)) != a0) = true := bne_iff_ne.mpr c9
      obtain rfl := Option.some.inj H
      go_wp2
      go_ret
      exact ⟨by first | rfl | (simp; done) | (simp [*]; done), by repeat (first | exact cZ.refl _ | apply cZ.step)⟩
     rw [if_neg c8] at H
     have c8b0 : decide (0 < a0) = false := ahH c8
     clear c8
     obtain rfl := Option.some.inj H
     go_wp2
     go_ret
     exact ⟨by first | rfl | (simp; done) | (simp [*]; done), by repeat (first | exact cZ.refl _ | apply cZ.step)⟩
def tidepoleref25_wide.l0 : Nat → List Int → Int → List Int → Int → Option (List Int)
 | 0, _, _, _, _ => none
 | k + 1, x0, x1, x5, x6 => if x6 < (x0.length : Int) then (if 0 ≤ x6 then ((tidepoleref25_Place.f k (rd x0 x6) x1).bind fun fH => (if (x5.length : Int) = 0 then (if x5.length < 17592186044416 then (tidepoleref25_wide.l0 k x0 x1 (x5 ++ [fH]) (wrap64 (x6 + 1))) else (none)) else (if 0 ≤ (wrap64 ((x5.length : Int) - 1)) then (if (wrap64 ((x5.length : Int) - 1)) < (x5.length : Int) then (if (rd x5 (wrap64 ((x5.length : Int) - 1))) = fH then (tidepoleref25_wide.l0 k x0 x1 x5 (wrap64 (x6 + 1))) else (if x5.length < 17592186044416 then (tidepoleref25_wide.l0 k x0 x1 (x5 ++ [fH]) (wrap64 (x6 + 1))) else (none))) else (none)) else (none)))) else (none)) else (some x5)
def tidepoleref25_wide.f (k : Nat) (l0 : List Int) (a1 : Int) : Option (List Int) := tidepoleref25_wide.l0 k l0 a1 ([] : List Int) 0
set_option maxHeartbeats 8000000 in
set_option maxRecDepth 100000 in
theorem tidepoleref25_wide.calls (k : Nat) (A0 : Option Addr) (c0 : Nat) (l0 : List Int) (a1 : Int) (r : List Int) (w : World) (hr0 : Kd.C (Kd.int .i64) w A0 l0.length l0) (hc0 : l0.length ≤ c0) (h : tidepoleref25_wide.f k l0 a1 = some r) :
  Calls Try.prog 103 #[.slice A0 l0.length c0, .int .i64 a1] w fun e w' => ∃ mW : Value, e = .returned (mW) ∧ Kd.R (Kd.int .i64) 3 w' w.heap.size (fun _ => True) mW r ∧ Below w.heap.size w w' := by
 have HR0 := ah hr0
 have uH := ah hc0
 clear hr0 hc0
 have HB := ah (Below.refl w.heap.size w)
 have H : (tidepoleref25_wide.l0 k l0 a1 ([] : List Int) 0) = some r := h
 clear h
 have H' := ah H
 clear H
 go_enter Try.func103, Try.ntmps103
 go_wp2
 go_loopg [5, 6] k (fun kq v5 v6 w' => ∃ (bG : List Int) (fP : Int), v6 = .int .i64 fP ∧ aj (tidepoleref25_wide.l0 kq l0 a1 bG fP = some r) ∧ aj (kq ≤ k) ∧ aj (Kd.R (Kd.int .i64) 3 w' w.heap.size (fun _ => True) v5 bG) ∧ aj (Below w.heap.size w w'))
 case atStart => exact ⟨(([] : List Int)), (0), (by first | rfl | (simp; done) | (simp [*]; done)), H', ⟨Nat.le_refl _⟩, ⟨by first | exact Kd.eY _ _ _ _ _ | exact Kd.ig _ _ _ _ _ | exact Kd.iq _ _ _ _ _ | exact Kd.gY _ _ _ _ _ | exact Kd.gZ _ _ _ _ _⟩, ⟨by repeat (first | (with_reducible first | exact HB.out | apply ak | apply ay | apply aH) | exact HB.out)⟩⟩
 case round =>
  clear H'
  try clear c1
  try clear p2
  obtain ⟨bG, fP, rfl, HA, jy, HO_5, HB⟩ := hrel
  cases gk with
  | zero => exact absurd HA.out (by simp [tidepoleref25_wide.l0])
  | succ k1 =>
   have H := HA.out
   clear HA
   simp only [tidepoleref25_wide.l0] at H
   by_cases c3 : fP < (l0.length : Int)
   ·rw [if_pos c3] at H
    have c3b0 : decide (fP < (l0.length : Int)) = true := ahG c3
    clear c3
    by_cases c4 : 0 ≤ fP
    ·rw [if_pos c4] at H
     have c4b0 : decide (0 ≤ fP) = true := ahG c4
     clear c4
     replace H := Option.bind_eq_some_iff.mp H
     obtain ⟨fH, Kt, H⟩ := H
     replace H : (if (bG.length : Int) = 0 then (if bG.length < 17592186044416 then (tidepoleref25_wide.l0 k1 l0 a1 (bG ++ [fH]) (wrap64 (fP + 1))) else (none)) else (if 0 ≤ (wrap64 ((bG.length : Int) - 1)) then (if (wrap64 ((bG.length : Int) - 1)) < (bG.length : Int) then (if (rd bG (wrap64 ((bG.length : Int) - 1))) = fH then (tidepoleref25_wide.l0 k1 l0 a1 bG (wrap64 (fP + 1))) else (if bG.length < 17592186044416 then (tidepoleref25_wide.l0 k1 l0 a1 (bG ++ [fH]) (wrap64 (fP + 1))) else (none))) else (none)) else (none))) = some r := H
     have A5 := ah Kt
     clear Kt
     by_cases c6 : (bG.length : Int) = 0
     ·rw [if_pos c6] at H
      have c6b0 : ((bG.length : Int) == 0) = true := beq_iff_eq.mpr c6
      have c6b1 : ((bG.length : Int) != 0) = false := bne_eq_false_iff_eq.mpr c6
      clear c6
      by_cases c7 : bG.length < 17592186044416
      ·rw [if_pos c7] at H
       have Nb := ah c7
       clear c7
       obtain ⟨gy, jY⟩ : ∃ y_ : List Int, y_ = (bG ++ [fH]) := ⟨_, rfl⟩
       replace H : (tidepoleref25_wide.l0 k1 l0 a1 gy (wrap64 (fP + 1))) = some r := by first | (rw [jY]; with_reducible exact H) | (have jA := (Option.bind_some _ _).symm.trans H; rw [jY]; with_reducible exact jA) | (have jA := (Option.bind_some _ _).symm.trans H; with_reducible exact jA) | with_reducible exact H | (rw [jY]; exact H) | exact H
       have sN := ah jY
       clear jY
       have H' := ah H
       clear H
       have fC : 0 ≤ (fP : Int) := ahF (by assumption)
       have fD : fP < (l0.length : Int) := ahF (by assumption)
       obtain ⟨kE, jM, bW⟩ := Kd.gB HR0.out fP fC fD
       cases jM
       replace bW := (HB.out.cell (World.block_lt_of_cell? w _ bW)).trans bW
       replace fC := eq_true fC
       replace fD := eq_true fD
       go_wp2_with (first | ((with_reducible refine bP (f := 144) rfl ?_); refine gU (some 19) Try.func144 #[.int .i64 (rd l0 fP), .int .i64 a1] ?_; (with_reducible refine (tidepoleref25_Place.calls k1 (rd l0 fP) a1 fH _ A5.out).mono ?_); rintro e w' ⟨rfl, ⟨nd, rfl⟩⟩; refine ⟨_, rfl, ?_⟩; clear A5; obtain ⟨Ao8, co8, eo8⟩ := Kd.dw HO_5.out; subst eo8) | ((with_reducible refine eG (b := .append) (xs := #[.tmp 33, .tmp 35]) rfl ?_); (try (refine uf (by rfl) ?_; dsimp only)); at_builtin; refine Kd.je (Kd.int .i64) (w0 := w) w.heap.size rfl (.tmp 33) (.tmp 35) 30 3 (.int .i64 0) 8 rfl Try.underlying30 info3 rfl (by decide) (by omega) (.slice Ao8 bG.length co8) bG fH [.int .i64 fH] (fun _ => True) (fun _ => False) rfl rfl ?aP (fun _ hk => hk.elim) ?aF ?aO ?aB ?aS ?aL ?_; (case aP => exact rfl); (case aB => exact (bg HB.out)); (case aF => exact (fun _ _ => trivial)); (case aO => exact (Kd.fJ HO_5.out)); (case aS => exact (aQ (bg HB.out))); (case aL => have := Nb.out; omega); intro xH w9 ho hb hg hat; rw [← sN.out] at ho; have eF := ah (ho); replace HB := ah (hb); clear HO_5 ho hb hg hat))
       go_roundg k1
       case measure => have := jy.out; omega
       case rel => exact ⟨(gy), (wrap64 (fP + 1)), (by first | rfl | (simp; done) | (simp [*]; done)), H', ⟨by have := jy.out; omega⟩, ⟨by (repeat with_reducible refine Kd.kQ ?_); exact eF.out⟩, ⟨by repeat (first | (with_reducible first | exact HB.out | apply ak | apply ay | apply aH) | exact HB.out)⟩⟩
      rw [if_neg c7] at H
      exact absurd H (by simp)
     rw [if_neg c6] at H
     have c6b0 : ((bG.length : Int) == 0) = false := beq_eq_false_iff_ne.mpr c6
     have c6b1 : ((bG.length : Int) != 0) = true := bne_iff_ne.mpr c6
     have c6b2 : ¬ (bG = []) := fun h_ => c6 (by rw [h_]; rfl)
     obtain ⟨wF, OJ⟩ : ∃ j_ : Int, (wrap64 ((bG.length : Int) - 1)) = j_ := ⟨_, rfl⟩
     replace H : (if 0 ≤ (wF) then (if (wF) < (bG.length : Int) then (if (rd bG (wF)) = fH then (tidepoleref25_wide.l0 k1 l0 a1 bG (wrap64 (fP + 1))) else (if bG.length < 17592186044416 then (tidepoleref25_wide.l0 k1 l0 a1 (bG ++ [fH]) (wrap64 (fP + 1))) else (none))) else (none)) else (none)) = some r := by first | (rw [OJ] at H; exact H) | (simp only [OJ] at H ⊢; exact H)
     (try rw [OJ] at A5)
     have hji10w : (IntKind.i64.wrap ((bG.length : Int) - 1)) = wF := (bI _).trans OJ
     by_cases c11 : 0 ≤ (wF)
     ·rw [if_pos c11] at H
      have c11b0 : decide (0 ≤ (wF)) = true := ahG c11
      clear c11
      by_cases c12 : (wF) < (bG.length : Int)
      ·rw [if_pos c12] at H
       have c12b0 : decide ((wF) < (bG.length : Int)) = true := ahG c12
       clear c12
       by_cases c13 : (rd bG (wF)) = fH
       ·rw [if_pos c13] at H
        have c13b0 : ((rd bG (wF)) == fH) = true := beq_iff_eq.mpr c13
        have c13b1 : ((rd bG (wF)) != fH) = false := bne_eq_false_iff_eq.mpr c13
        clear c13
        have H' := ah H
        clear H
        have fC : 0 ≤ (fP : Int) := ahF (by assumption)
        have fD : fP < (l0.length : Int) := ahF (by assumption)
        obtain ⟨kE, jM, bW⟩ := Kd.gB HR0.out fP fC fD
        cases jM
        replace bW := (HB.out.cell (World.block_lt_of_cell? w _ bW)).trans bW
        replace fC := eq_true fC
        replace fD := eq_true fD
        go_wp2_with (first | ((with_reducible refine bP (f := 144) rfl ?_); refine gU (some 19) Try.func144 #[.int .i64 (rd l0 fP), .int .i64 a1] ?_; (with_reducible refine (tidepoleref25_Place.calls k1 (rd l0 fP) a1 fH _ A5.out).mono ?_); rintro e w' ⟨rfl, ⟨nd, rfl⟩⟩; refine ⟨_, rfl, ?_⟩; clear A5; obtain ⟨af2, af4, acX⟩ := Kd.dw HO_5.out; subst acX; have vY : 0 ≤ ((wF) : Int) := ahF (by assumption); have vZ : (wF) < (bG.length : Int) := ahF (by assumption); obtain ⟨JX, IQ, qJ⟩ := Kd.gB (Kd.bF HO_5.out).2.2 (wF) vY vZ; cases IQ; replace vY := eq_true vY; replace vZ := eq_true vZ))
        go_roundg k1
        case measure => have := jy.out; omega
        case rel => exact ⟨(bG), (wrap64 (fP + 1)), (by first | rfl | (simp; done) | (simp [*]; done)), H', ⟨by have := jy.out; omega⟩, ⟨by (repeat with_reducible refine Kd.kQ ?_); exact HO_5.out⟩, ⟨by repeat (first | (with_reducible first | exact HB.out | apply ak | apply ay | apply aH) | exact HB.out)⟩⟩
       rw [if_neg c13] at H
       have c13b0 : ((rd bG (wF)) == fH) = false := beq_eq_false_iff_ne.mpr c13
       have c13b1 : ((rd bG (wF)) != fH) = true := bne_iff_ne.mpr c13
       by_cases c15 : bG.length < 17592186044416
       ·rw [if_pos c15] at H
        have Zv := ah c15
        clear c15
        obtain ⟨Dz, nI⟩ : ∃ y_ : List Int, y_ = (bG ++ [fH]) := ⟨_, rfl⟩
        replace H : (tidepoleref25_wide.l0 k1 l0 a1 Dz (wrap64 (fP + 1))) = some r := by first | (rw [nI]; with_reducible exact H) | (have jA := (Option.bind_some _ _).symm.trans H; rw [nI]; with_reducible exact jA) | (have jA := (Option.bind_some _ _).symm.trans H; with_reducible exact jA) | with_reducible exact H | (rw [nI]; exact H) | exact H
        have Ei := ah nI
        clear nI
        have H' := ah H
        clear H
        have fC : 0 ≤ (fP : Int) := ahF (by assumption)
        have fD : fP < (l0.length : Int) := ahF (by assumption)
        obtain ⟨kE, jM, bW⟩ := Kd.gB HR0.out fP fC fD
        cases jM
        replace bW := (HB.out.cell (World.block_lt_of_cell? w _ bW)).trans bW
        replace fC := eq_true fC
        replace fD := eq_true fD
        go_wp2_with (first | ((with_reducible refine bP (f := 144) rfl ?_); refine gU (some 19) Try.func144 #[.int .i64 (rd l0 fP), .int .i64 a1] ?_; (with_reducible refine (tidepoleref25_Place.calls k1 (rd l0 fP) a1 fH _ A5.out).mono ?_); rintro e w' ⟨rfl, ⟨nd, rfl⟩⟩; refine ⟨_, rfl, ?_⟩; clear A5; obtain ⟨Nq, Kw, Jd⟩ := Kd.dw HO_5.out; subst Jd; have vY : 0 ≤ ((wF) : Int) := ahF (by assumption); have vZ : (wF) < (bG.length : Int) := ahF (by assumption); obtain ⟨JX, IQ, qJ⟩ := Kd.gB (Kd.bF HO_5.out).2.2 (wF) vY vZ; cases IQ; replace vY := eq_true vY; replace vZ := eq_true vZ) | ((with_reducible refine eG (b := .append) (xs := #[.tmp 33, .tmp 35]) rfl ?_); (try (refine uf (by rfl) ?_; dsimp only)); at_builtin; refine Kd.je (Kd.int .i64) (w0 := w) w.heap.size rfl (.tmp 33) (.tmp 35) 30 3 (.int .i64 0) 8 rfl Try.underlying30 info3 rfl (by decide) (by omega) (.slice (some JX) bG.length Kw) bG fH [.int .i64 fH] (fun _ => True) (fun _ => False) rfl rfl ?aP (fun _ hk => hk.elim) ?aF ?aO ?aB ?aS ?aL ?_; (case aP => exact rfl); (case aB => exact (bg HB.out)); (case aF => exact (fun _ _ => trivial)); (case aO => exact (Kd.fJ HO_5.out)); (case aS => exact (aQ (bg HB.out))); (case aL => have := Zv.out; omega); intro Zj VG ho hb hg hat; rw [← Ei.out] at ho; have Ku := ah (ho); replace HB := ah (hb); clear HO_5 ho hb hg hat))
        go_roundg k1
        case measure => have := jy.out; omega
        case rel => exact ⟨(Dz), (wrap64 (fP + 1)), (by first | rfl | (simp; done) | (simp [*]; done)), H', ⟨by have := jy.out; omega⟩, ⟨by (repeat with_reducible refine Kd.kQ ?_); exact Ku.out⟩, ⟨by repeat (first | (with_reducible first | exact HB.out | apply ak | apply ay | apply aH) | exact HB.out)⟩⟩
       rw [if_neg c15] at H
       exact absurd H (by simp)
      rw [if_neg c12] at H
      exact absurd H (by simp)
     rw [if_neg c11] at H
     exact absurd H (by simp)
    rw [if_neg c4] at H
    exact absurd H (by simp)
   rw [if_neg c3] at H
   have c3b0 : decide (fP < (l0.length : Int)) = false := ahH c3
   clear c3
   obtain rfl := Option.some.inj H
   go_wp2
   go_ret
   exact ⟨_, by first | rfl | (simp [aU, aV] <;> rfl) | (simp [*, aU, aV] <;> rfl), by (repeat with_reducible refine Kd.kQ ?_); exact HO_5.out, by repeat (first | (with_reducible first | exact HB.out | apply ak | apply ay | apply aH) | exact HB.out)⟩
end Go.Proofs.Ytooiccpmngmapaa.P
namespace Go.Proofs.Ytooiccpmngmapaa.P
open Go.RowKit Go.Proofs.YtooiccpmngmapaaW.PrintWords Go.Proofs.YtooiccpmngmapaaW.PrintLast Go.Proofs.YtooiccpmngmapaaW.PrintMore
def dW (i s : Int) : Int := if s < 0 ∨ s > 62 then i else -((-i) / 2 ^ s.toNat)
theorem uS {i D q : Int} (hD : 0 < D) (h1 : D * (q - 1) < i) (h2 : i ≤ D * q) : -((-i) / D) = q := by
 rw [Int.mul_sub, Int.mul_one] at h1
 have := ((Int.ediv_emod_unique (a := -i) (b := D) (r := D * q - i) (q := -q) hD).2 ⟨by rw [Int.mul_neg]; omega, by omega, by omega⟩).1
 rw [this, Int.neg_neg]
theorem KW {n : Nat} (h : n ≤ 62) : (0 : Int) < 2 ^ n ∧ (2 : Int) ^ n ≤ 4611686018427387904 ∧ ∃ c : Int, 9223372036854775808 = 2 ^ n * c := by
 refine ⟨Int.pow_pos (by decide), ?_, ⟨2 ^ (63 - n), ?_⟩⟩
 ·have h1 : (2 : Nat) ^ n ≤ 2 ^ 62 := Nat.pow_le_pow_right (by decide) h
  have h2 : ((2 ^ n : Nat) : Int) ≤ ((2 ^ 62 : Nat) : Int) := Int.ofNat_le.2 h1
  rw [Int.natCast_pow, Int.natCast_pow] at h2
  exact h2
 ·rw [← Int.pow_add, show n + (63 - n) = 63 by omega]; rfl
theorem zH {i : Int} (hi : i64 i) {n : Nat} (h : n ≤ 62) : -9223372036854775808 ≤ i / 2 ^ n * 2 ^ n ∧ i / 2 ^ n * 2 ^ n ≤ i ∧ i < i / 2 ^ n * 2 ^ n + 2 ^ n ∧ -9223372036854775808 ≤ i / 2 ^ n ∧ i / 2 ^ n ≤ 9223372036854775807 ∧ (i / 2 ^ n * 2 ^ n < i → i / 2 ^ n < 9223372036854775807) := by
 obtain ⟨h0, h1, c, hc⟩ := KW h
 generalize (2 : Int) ^ n = D at *
 obtain ⟨i1, i2⟩ := hi
 have e := Int.mul_ediv_add_emod i D
 have m0 := Int.emod_nonneg i (by omega : D ≠ 0)
 have m1 := Int.emod_lt_of_pos i h0
 have hq : -c ≤ i / D := by
  rw [Int.le_ediv_iff_mul_le h0, Int.neg_mul, Int.mul_comm c D, ← hc]; omega
 have hcD := Int.mul_le_mul_of_nonneg_right hq (by omega : 0 ≤ D)
 rw [Int.neg_mul, Int.mul_comm c D, ← hc] at hcD
 rw [Int.mul_comm D] at e
 generalize i / D = q at *
 have hneg : q ≤ 0 → q * D ≤ q := fun hq => by
  have := Int.mul_le_mul_of_nonneg_left (a := 1) (b := D) (c := -q) (by omega) (by omega)
  rw [Int.neg_mul, Int.neg_mul] at this
  omega
 have hpos : 0 ≤ q → q ≤ q * D := fun hq => by
  have := Int.mul_le_mul_of_nonneg_left (a := 1) (b := D) (c := q) (by omega) hq
  omega
 rcases Int.le_total q 0 with hq0 | hq0
 ·have := hneg hq0
  refine ⟨by omega, by omega, by omega, by omega, by omega, by omega⟩
 ·have := hpos hq0
  refine ⟨by omega, by omega, by omega, by omega, by omega, by omega⟩
theorem sH (k : Nat) (i s : Int) (hi : i64 i) : scale_Place.f (k + 1) i s = some (dW i s) := by
 unfold scale_Place.f dW
 by_cases h0 : s < 0
 ·rw [if_pos h0, if_pos (.inl h0)]; rfl
 rw [if_neg h0]
 simp only [scale_Place.j0]
 by_cases h1 : s > 62
 ·rw [if_pos (by simpa using h1), if_pos (.inr h1)]
 rw [if_neg (by simpa using h1), if_pos (by omega), if_neg (show ¬ (s < 0 ∨ s > 62) by omega)]
 have hn : s.toNat ≤ 62 := by omega
 have acY : min s.toNat (IntKind.i64).bits = s.toNat := Nat.min_eq_left (by have : IntKind.i64.bits = 64 := rfl; omega)
 simp only [shl, shr, acY, bI]
 generalize s.toNat = n at hn
 have hb := zH hi hn
 obtain ⟨h0, -, -⟩ := KW hn
 generalize (2 : Int) ^ n = D at *
 have hc := Int.mul_comm (i / D) D
 obtain ⟨i1, i2⟩ := hi
 rw [eX (x := i / D * D) (by omega) (by omega)]
 by_cases he : i / D * D = i
 ·rw [if_pos he, uS h0 (q := i / D) (by rw [Int.mul_sub]; omega) (by omega)]
 ·rw [if_neg he, eX (x := i / D + 1) (by omega) (by omega), uS h0 (q := i / D + 1) (by rw [Int.add_sub_cancel]; omega) (by rw [Int.mul_add]; omega)]
theorem wG {i s : Int} (hi : i64 i) : i64 (dW i s) := by
 unfold dW
 by_cases h : s < 0 ∨ s > 62
 ·rw [if_pos h]; exact hi
 rw [if_neg h]
 have hn : s.toNat ≤ 62 := by omega
 generalize s.toNat = n at hn
 have hb := zH hi hn
 obtain ⟨h0, -, -⟩ := KW hn
 generalize (2 : Int) ^ n = D at *
 have hc := Int.mul_comm (i / D) D
 obtain ⟨i1, i2⟩ := hi
 by_cases he : i / D * D = i
 ·rw [uS h0 (q := i / D) (by rw [Int.mul_sub]; omega) (by omega)]; exact ⟨by omega, by omega⟩
 ·rw [uS h0 (q := i / D + 1) (by rw [Int.add_sub_cancel]; omega) (by rw [Int.mul_add]; omega)]; exact ⟨by omega, by omega⟩
theorem Gm (i : Int) (hi : i64 i) (n : Nat) (hn : n ≤ 62) : ∀ (d k j : Nat), n - j = d → d < k → j ≤ n → tidepoleref25_Place.l0 k i (n : Int) (2 ^ j : Int) (j : Int) = some (-((-i) / 2 ^ n)) := by
  intro d
  induction d with
  | zero =>
    intro k j hd hk hj
    obtain ⟨k, rfl⟩ : ∃ m, k = m + 1 := ⟨k - 1, by omega⟩
    obtain rfl : j = n := by omega
    simp only [tidepoleref25_Place.l0]
    have hb := zH hi hn
    obtain ⟨h0, -, -⟩ := KW hn
    generalize (2 : Int) ^ j = D at *
    have hc := Int.mul_comm (i / D) D
    obtain ⟨i1, i2⟩ := hi
    rw [if_neg (by omega), if_neg (by omega)]
    by_cases hp : i > 0
    · rw [if_pos hp, Int.tdiv_eq_ediv_of_nonneg (by omega), eX (x := i / D) (by omega) (by omega), eX (x := i / D * D) (by omega) (by omega)]
      by_cases he : i / D * D = i
      · rw [if_pos he, uS h0 (q := i / D) (by rw [Int.mul_sub]; omega) (by omega)]
      · rw [if_neg he, eX (x := i / D + 1) (by omega) (by omega), uS h0 (q := i / D + 1) (by rw [Int.add_sub_cancel]; omega) (by rw [Int.mul_add]; omega)]
    · rw [if_neg hp]
      have : Int.tdiv i D = -((-i) / D) := by
        rw [← Int.tdiv_eq_ediv_of_nonneg (a := -i) (by omega), Int.neg_tdiv, Int.neg_neg]
      rw [this]
      have hR : i64 (-((-i) / D)) := by
        by_cases he : i / D * D = i
        · rw [uS h0 (q := i / D) (by rw [Int.mul_sub]; omega) (by omega)]; exact ⟨by omega, by omega⟩
        · rw [uS h0 (q := i / D + 1) (by rw [Int.add_sub_cancel]; omega) (by rw [Int.mul_add]; omega)]; exact ⟨by omega, by omega⟩
      rw [xB hR]
  | succ d ih =>
    intro k j hd hk hj
    obtain ⟨k, rfl⟩ : ∃ m, k = m + 1 := ⟨k - 1, by omega⟩
    simp only [tidepoleref25_Place.l0]
    obtain ⟨h0, h1, -⟩ := KW (n := j + 1) (by omega)
    rw [if_pos (by omega), wrap_succ (by omega), ← Int.pow_succ, eX (by omega) (by omega)]
    exact ih k (j + 1) (by omega) (by omega) (by omega)
theorem zI (k : Nat) (hk : 66 ≤ k) (i s : Int) (hi : i64 i) : tidepoleref25_Place.f k i s = some (dW i s) := by
 obtain ⟨k, rfl⟩ : ∃ m, k = m + 1 := ⟨k - 1, by omega⟩
 unfold tidepoleref25_Place.f dW
 by_cases h0 : s < 0
 ·rw [if_pos h0, if_pos (.inl h0)]; simp only [tidepoleref25_Place.j0, if_true]
 rw [if_neg h0]
 simp only [tidepoleref25_Place.j0]
 by_cases h1 : s > 62
 ·rw [if_pos (by simpa using h1), if_pos (.inr h1)]
 rw [if_neg (by simpa using h1), if_neg (show ¬ (s < 0 ∨ s > 62) by omega)]
 obtain ⟨n, rfl⟩ : ∃ n : Nat, s = n := ⟨s.toNat, by omega⟩
 exact Gm i hi n (by omega) n k 0 (by omega) (by omega) (by omega)
theorem wH {i j s : Int} (h : i ≤ j) : dW i s ≤ dW j s := by
 unfold dW
 by_cases hs : s < 0 ∨ s > 62
 ·rw [if_pos hs, if_pos hs]; exact h
 rw [if_neg hs, if_neg hs]
 have := Int.ediv_le_ediv (a := -j) (b := -i) (c := 2 ^ s.toNat) (Int.pow_pos (by decide)) (by omega)
 omega
attribute [local go_sem] iV iW jH jI gW gX iY iZ
mutual
def scale_widen_int64.l0 : Nat → Int → List (gq) → List (gq) → Int → Int → Option ((List (gq)) × Bool)
 | 0, _, _, _, _, _ => none
 | k + 1, x1, x8, x15, x16, x17 => if x17 < x16 then (if 0 ≤ x17 then (if x17 < (x15.length : Int) then ((scale_Place.f k ((aX x15 x17).f0) x1).bind fun dZ => (if (x8.length : Int) > 0 then (if 0 ≤ (wrap64 ((x8.length : Int) - 1)) then (if (wrap64 ((x8.length : Int) - 1)) < (x8.length : Int) then (scale_widen_int64.j1 k x1 x8 dZ (x8.length : Int) x15 x16 x17 (((aX x8 (wrap64 ((x8.length : Int) - 1))).f0) == dZ) ((aX x15 x17).f0) ((aX x15 x17).f1)) else (none)) else (none)) else (scale_widen_int64.j1 k x1 x8 dZ (x8.length : Int) x15 x16 x17 false ((aX x15 x17).f0) ((aX x15 x17).f1)))) else (none)) else (none)) else (some (x8, true))
def scale_widen_int64.j1 : Nat → Int → List (gq) → Int → Int → List (gq) → Int → Int → Bool → Int → Int → Option ((List (gq)) × Bool)
 | 0, _, _, _, _, _, _, _, _, _, _ => none
 | k + 1, x1, x8, x11, x12, x15, x16, x17, x38, lN, lg => if x38 = true then (if 0 ≤ (wrap64 (x12 - 1)) then (if (wrap64 (x12 - 1)) < (x8.length : Int) then ((scale_whole.f ((aX x8 (wrap64 (x12 - 1))).f1) lg).bind fun nR => (if nR.2 = true then (scale_widen_int64.l0 k x1 (x8.set ((wrap64 (x12 - 1)) : Int).toNat (⟨(aX x8 (wrap64 (x12 - 1))).f0, nR.1⟩ : gq)) x15 x16 (wrap64 (x17 + 1))) else (some (([] : List (gq)), false)))) else (none)) else (none)) else (if x8.length < 8796093022208 then (scale_widen_int64.l0 k x1 (x8 ++ [(⟨x11, lg⟩ : gq)]) x15 x16 (wrap64 (x17 + 1))) else (none))
end
def scale_widen_int64.f (k : Nat) (l0 : List (gq)) (a1 : Int) : Option ((List (gq)) × Bool) := scale_widen_int64.l0 k a1 ([] : List (gq)) l0 (l0.length : Int) 0
set_option maxHeartbeats 8000000 in
set_option maxRecDepth 100000 in
theorem scale_widen_int64.calls (k : Nat) (A0 : Option Addr) (c0 : Nat) (l0 : List (gq)) (a1 : Int) (r1 : List (gq)) (r2 : Bool) (w : World) (hr0 : Kd.C jB w A0 l0.length l0) (hc0 : l0.length ≤ c0) (h : scale_widen_int64.f k l0 a1 = some (r1, r2)) :
  Calls Try.prog 80 #[.slice A0 l0.length c0, .int .i64 a1, .func (.func 81) #[] #[]] w fun e w' => ∃ mW : Value, e = .returned (.tuple #[mW, .bool r2]) ∧ Kd.R jB 173 w' w.heap.size (fun _ => True) mW r1 ∧ Below w.heap.size w w' := by
 have Ro := Try.underlying173
 have HR0 := ah hr0
 have uH := ah hc0
 clear hr0 hc0
 have HB := ah (Below.refl w.heap.size w)
 have H : (scale_widen_int64.l0 k a1 ([] : List (gq)) l0 (l0.length : Int) 0) = some (r1, r2) := h
 clear h
 have H' := ah H
 clear H
 go_enter Try.func80, Try.ntmps80
 go_wp2
 repeat (go_quiet (fail); try go_wp2)
 go_loopg [8, 17] k (fun kq v8 v17 w' => ∃ (bK : List (gq)) (bY : Int), v17 = .int .i64 bY ∧ aj (scale_widen_int64.l0 kq a1 bK l0 (l0.length : Int) bY = some (r1, r2)) ∧ aj (kq ≤ k) ∧ aj (Kd.R jB 173 w' w.heap.size (fun _ => True) v8 bK) ∧ aj (Below w.heap.size w w'))
 case atStart => exact ⟨(([] : List (gq))), (0), (by first | rfl | (simp; done) | (simp [*]; done)), H', ⟨Nat.le_refl _⟩, ⟨by first | exact Kd.eY _ _ _ _ _ | exact Kd.ig _ _ _ _ _ | exact Kd.iq _ _ _ _ _ | exact Kd.gY _ _ _ _ _ | exact Kd.gZ _ _ _ _ _⟩, ⟨by repeat (first | (with_reducible first | exact HB.out | apply ak | apply ay | apply aH) | exact HB.out)⟩⟩
 case round =>
  clear H'
  try clear p2
  obtain ⟨bK, bY, rfl, HA, jy, HO_8, HB⟩ := hrel
  cases gk with
  | zero => exact absurd HA.out (by simp [scale_widen_int64.l0])
  | succ k1 =>
   have H := HA.out
   clear HA
   simp only [scale_widen_int64.l0] at H
   by_cases c4 : bY < (l0.length : Int)
   ·rw [if_pos c4] at H
    have c4b0 : decide (bY < (l0.length : Int)) = true := ahG c4
    clear c4
    by_cases c5 : 0 ≤ bY
    ·rw [if_pos c5] at H
     have c5b0 : decide (0 ≤ bY) = true := ahG c5
     clear c5
     by_cases c6 : bY < (l0.length : Int)
     ·rw [if_pos c6] at H
      have c6b0 : decide (bY < (l0.length : Int)) = true := ahG c6
      clear c6
      replace H := Option.bind_eq_some_iff.mp H
      obtain ⟨dZ, RX, H⟩ := H
      replace H : (if (bK.length : Int) > 0 then (if 0 ≤ (wrap64 ((bK.length : Int) - 1)) then (if (wrap64 ((bK.length : Int) - 1)) < (bK.length : Int) then (scale_widen_int64.j1 k1 a1 bK dZ (bK.length : Int) l0 (l0.length : Int) bY (((aX bK (wrap64 ((bK.length : Int) - 1))).f0) == dZ) ((aX l0 bY).f0) ((aX l0 bY).f1)) else (none)) else (none)) else (scale_widen_int64.j1 k1 a1 bK dZ (bK.length : Int) l0 (l0.length : Int) bY false ((aX l0 bY).f0) ((aX l0 bY).f1))) = some (r1, r2) := H
      have A7 := ah RX
      clear RX
      have Xh := ah H
      clear H
      have fC : 0 ≤ (bY : Int) := ahF (by assumption)
      have fD : bY < (l0.length : Int) := ahF (by assumption)
      obtain ⟨kE, jM, bW, dS⟩ := qH HR0.out bY fC fD
      cases jM
      replace bW := (HB.out.cell (World.block_lt_of_cell? w _ bW)).trans bW
      replace dS := (HB.out.cell (World.block_lt_of_cell? w _ dS)).trans dS
      replace fC := eq_true fC
      replace fD := eq_true fD
      go_upto_region 7 with (first | ((with_reducible refine fK (N := 10) rfl ?_); refine fA ?hg (N := 10) ?hd (cs := #[.int .i64 0, .int .i64 0]) (t := 173) ?hr ?_; (case hd => rfl); (case hg => rfl); (case hr => first | (go_simp; done) | (go_simp; rfl)); intro aI hg w9 hbox hb; have aJ := ah (hbox); have oN := ah ((by rw [hg]; exact (aQ (bg HB.out)) : w.heap.size ≤ aI)); have bU := ah ((by rw [hg]; exact (aQ (bg HB.out)) : w.heap.size ≤ aI)); replace HO_8 := ah (Kd.eU (Kd.vF (Kd.fJ HO_8.out) aI (Nat.le_of_eq hg.symm)) hb); replace HB := ah (aZ (bg HB.out) hb); clear hb hbox hg; have wI := au aJ.out; have wJ := aC aJ.out) | (go_at_call 77; (with_reducible refine (scale_Place.calls k1 ((aX l0 bY).f0) a1 dZ _ A7.out).mono ?_); rintro e w' ⟨rfl, ⟨nd, rfl⟩⟩; (try first | exact ⟨rfl, _, World.drewN_drewN _ _ _⟩ | exact ⟨rfl, _, Eq.trans (World.drewN_drewN _ _ _) (congrArg (World.drewN _) (Nat.add_assoc _ _ _))⟩); clear A7; obtain ⟨AX, oz, Ce⟩ := Kd.dw HO_8.out; subst Ce))
      repeat (go_quiet (first | ((with_reducible refine fK (N := 10) rfl ?_); refine fA ?hg (N := 10) ?hd (cs := #[.int .i64 0, .int .i64 0]) (t := 173) ?hr ?_; (case hd => rfl); (case hg => rfl); (case hr => first | (go_simp; done) | (go_simp; rfl)); intro aI hg w9 hbox hb; have aJ := ah (hbox); have oN := ah ((by rw [hg]; exact (aQ (bg HB.out)) : w.heap.size ≤ aI)); have bU := ah ((by rw [hg]; exact (aQ (bg HB.out)) : w.heap.size ≤ aI)); replace HO_8 := ah (Kd.eU (Kd.vF (Kd.fJ HO_8.out) aI (Nat.le_of_eq hg.symm)) hb); replace HB := ah (aZ (bg HB.out) hb); clear hb hbox hg; have wI := au aJ.out; have wJ := aC aJ.out) | (go_at_call 77; (with_reducible refine (scale_Place.calls k1 ((aX l0 bY).f0) a1 dZ _ A7.out).mono ?_); rintro e w' ⟨rfl, ⟨nd, rfl⟩⟩; (try first | exact ⟨rfl, _, World.drewN_drewN _ _ _⟩ | exact ⟨rfl, _, Eq.trans (World.drewN_drewN _ _ _) (congrArg (World.drewN _) (Nat.add_assoc _ _ _))⟩); clear A7; obtain ⟨AX, oz, Ce⟩ := Kd.dw HO_8.out; subst Ce)); go_upto_region 7 with (first | ((with_reducible refine fK (N := 10) rfl ?_); refine fA ?hg (N := 10) ?hd (cs := #[.int .i64 0, .int .i64 0]) (t := 173) ?hr ?_; (case hd => rfl); (case hg => rfl); (case hr => first | (go_simp; done) | (go_simp; rfl)); intro aI hg w9 hbox hb; have aJ := ah (hbox); have oN := ah ((by rw [hg]; exact (aQ (bg HB.out)) : w.heap.size ≤ aI)); have bU := ah ((by rw [hg]; exact (aQ (bg HB.out)) : w.heap.size ≤ aI)); replace HO_8 := ah (Kd.eU (Kd.vF (Kd.fJ HO_8.out) aI (Nat.le_of_eq hg.symm)) hb); replace HB := ah (aZ (bg HB.out) hb); clear hb hbox hg; have wI := au aJ.out; have wJ := aC aJ.out) | (go_at_call 77; (with_reducible refine (scale_Place.calls k1 ((aX l0 bY).f0) a1 dZ _ A7.out).mono ?_); rintro e w' ⟨rfl, ⟨nd, rfl⟩⟩; (try first | exact ⟨rfl, _, World.drewN_drewN _ _ _⟩ | exact ⟨rfl, _, Eq.trans (World.drewN_drewN _ _ _) (congrArg (World.drewN _) (Nat.add_assoc _ _ _))⟩); clear A7; obtain ⟨AX, oz, Ce⟩ := Kd.dw HO_8.out; subst Ce)))
      (try simp only [Act.put, List.setIfInBounds_toArray, List.set_cons_zero, List.set_cons_succ])
      go_cut [38] (fun v38 wc => ∃ (kq : Nat) (AY : Bool), v38 = .bool AY ∧ aj (scale_widen_int64.j1 kq a1 bK dZ (bK.length : Int) l0 (l0.length : Int) bY AY ((aX l0 bY).f0) ((aX l0 bY).f1) = some (r1, r2)) ∧ aj (kq ≤ k1) ∧ aj (Kd.R jB 173 wc w.heap.size (fun k_ => k_ ≠ aI) (.slice AX bK.length oz) bK) ∧ aj (wc.heap[aI]? = some (.cells #[.int .i64 ((aX l0 bY).f0), .int .i64 ((aX l0 bY).f1)] 173 (0, 0))) ∧ aj (Below w.heap.size w wc))
      case first =>
       have H := Xh.out
       clear Xh
       by_cases c12 : (bK.length : Int) > 0
       ·rw [if_pos c12] at H
        have c12b0 : decide (0 < (bK.length : Int)) = true := ahG c12
        have c12b1 : decide (0 < bK.length) = true := ahG (by omega)
        clear c12
        (first | rw [c12b0] | (simp only [bI, bM]; rw [c12b0]) | skip)
        obtain ⟨sV, AZ⟩ : ∃ j_ : Int, (wrap64 ((bK.length : Int) - 1)) = j_ := ⟨_, rfl⟩
        replace H : (if 0 ≤ (sV) then (if (sV) < (bK.length : Int) then (scale_widen_int64.j1 k1 a1 bK dZ (bK.length : Int) l0 (l0.length : Int) bY (((aX bK (sV)).f0) == dZ) ((aX l0 bY).f0) ((aX l0 bY).f1)) else (none)) else (none)) = some (r1, r2) := by first | (rw [AZ] at H; exact H) | (simp only [AZ] at H ⊢; exact H)
        have hji13w : (IntKind.i64.wrap ((bK.length : Int) - 1)) = sV := (bI _).trans AZ
        by_cases c14 : 0 ≤ (sV)
        ·rw [if_pos c14] at H
         have c14b0 : decide (0 ≤ (sV)) = true := ahG c14
         clear c14
         by_cases c15 : (sV) < (bK.length : Int)
         ·rw [if_pos c15] at H
          have c15b0 : decide ((sV) < (bK.length : Int)) = true := ahG c15
          clear c15
          have H' := ah H
          clear H
          have Ci : 0 ≤ ((sV) : Int) := ahF (by assumption)
          have Cj : (sV) < (bK.length : Int) := ahF (by assumption)
          obtain ⟨Ba, RZ, mY, oC⟩ := qH (Kd.bF HO_8.out).2.2 (sV) Ci Cj
          cases RZ
          have mg : Ba.block ≠ aI := Kd.zU (by first | exact Kd.BI HO_8.out aJ.out (by decide) | exact Kd.o7 HO_8.out (fun _ hk => hk.2))
          have mD : Ba.block ≠ aI := Kd.zU (by first | exact Kd.BI HO_8.out aJ.out (by decide) | exact Kd.o7 HO_8.out (fun _ hk => hk.2))
          replace mY := (cell_far (p := ⟨aI, 0, none⟩) (by first | (rw [add_block]; exact mg) | (show (Addr.add _ _).block ≠ _; rw [add_block]; exact mg) | exact mg) (.int .i64 ((aX l0 bY).f0))).trans mY
          replace oC := (cell_far (p := ⟨aI, 0, none⟩) (by first | (rw [add_block]; exact mg) | (show (Addr.add _ _).block ≠ _; rw [add_block]; exact mg) | exact mg) (.int .i64 ((aX l0 bY).f0))).trans oC
          replace mY := (cell_far (p := ⟨aI, 1, none⟩) (by first | (rw [add_block]; exact mD) | (show (Addr.add _ _).block ≠ _; rw [add_block]; exact mD) | exact mD) (.int .i64 ((aX l0 bY).f1))).trans mY
          replace oC := (cell_far (p := ⟨aI, 1, none⟩) (by first | (rw [add_block]; exact mD) | (show (Addr.add _ _).block ≠ _; rw [add_block]; exact mD) | exact mD) (.int .i64 ((aX l0 bY).f1))).trans oC
          (try have UG := fun (n_ : Nat) => (show ((((w9.drewN n_).setCell ⟨aI, 0, none⟩ (.int .i64 ((aX l0 bY).f0))).setCell ⟨aI, 1, none⟩ (.int .i64 ((aX l0 bY).f1)))).cell? _ = some _ from mY))
          (try have UH := fun (n_ : Nat) => (show ((((w9.drewN n_).setCell ⟨aI, 0, none⟩ (.int .i64 ((aX l0 bY).f0))).setCell ⟨aI, 1, none⟩ (.int .i64 ((aX l0 bY).f1)))).cell? _ = some _ from oC))
          clear mg
          clear mD
          replace Ci := eq_true Ci
          replace Cj := eq_true Cj
          go_wp2
          repeat (go_quiet (fail); try go_wp2)
          go_meet
          case rel => exact ⟨_, ((((aX bK (sV)).f0) == dZ)), (by first | rfl | (simp; done) | (simp only [← AZ] <;> (first | rfl | simp)) | (simp [*]; done)), H', ⟨by have := jy.out; first | omega | exact Nat.le_refl _⟩, ⟨by (repeat with_reducible refine Kd.kQ ?_); exact Kd.bZ (Kd.cu (p := ⟨aI, 1, none⟩) (Kd.cu (p := ⟨aI, 0, none⟩) (Kd.bZ HO_8.out (fun k_ hk => (⟨hk, hk.2⟩ : _ ∧ k_ ≠ aI))) (fun _ hk => hk.2) (.int .i64 ((aX l0 bY).f0))) (fun _ hk => hk.2) (.int .i64 ((aX l0 bY).f1))) (fun _ hk => hk.1.2)⟩, ⟨by (repeat with_reducible refine bQ ?_); refine bC (cs := #[.int .i64 ((aX l0 bY).f0), .int .i64 0]) ?_ 1 _ rfl; (repeat with_reducible refine bQ ?_); refine bC (cs := #[.int .i64 0, .int .i64 0]) ?_ 0 _ rfl; (repeat with_reducible refine bQ ?_); exact aJ.out⟩, ⟨by repeat (first | (with_reducible first | exact HB.out | apply ak | apply ay | apply aH | refine aA ?_ bU.out) | exact HB.out)⟩⟩
         rw [if_neg c15] at H
         exact absurd H (by simp)
        rw [if_neg c14] at H
        exact absurd H (by simp)
       rw [if_neg c12] at H
       have c12b0 : decide (0 < (bK.length : Int)) = false := ahH c12
       have c12b1 : decide (0 < bK.length) = false := ahH (by omega)
       clear c12
       (first | rw [c12b0] | (simp only [bI, bM]; rw [c12b0]) | skip)
       have H' := ah H
       clear H
       go_wp2
       repeat (go_quiet (fail); try go_wp2)
       go_meet
       case rel => exact ⟨_, (false), (by first | rfl | (simp; done) | (simp [*]; done)), H', ⟨by have := jy.out; first | omega | exact Nat.le_refl _⟩, ⟨by (repeat with_reducible refine Kd.kQ ?_); exact Kd.bZ (Kd.cu (p := ⟨aI, 1, none⟩) (Kd.cu (p := ⟨aI, 0, none⟩) (Kd.bZ HO_8.out (fun k_ hk => (⟨hk, hk.2⟩ : _ ∧ k_ ≠ aI))) (fun _ hk => hk.2) (.int .i64 ((aX l0 bY).f0))) (fun _ hk => hk.2) (.int .i64 ((aX l0 bY).f1))) (fun _ hk => hk.1.2)⟩, ⟨by (repeat with_reducible refine bQ ?_); refine bC (cs := #[.int .i64 ((aX l0 bY).f0), .int .i64 0]) ?_ 1 _ rfl; (repeat with_reducible refine bQ ?_); refine bC (cs := #[.int .i64 0, .int .i64 0]) ?_ 0 _ rfl; (repeat with_reducible refine bQ ?_); exact aJ.out⟩, ⟨by repeat (first | (with_reducible first | exact HB.out | apply ak | apply ay | apply aH | refine aA ?_ bU.out) | exact HB.out)⟩⟩
      case rest =>
       clear Xh
       try clear c1
       try clear p1
       try clear q1
       try clear hx1
       try clear p2
       try clear c4
       try clear c4b0
       try clear c5
       try clear c5b0
       try clear c6
       try clear c6b0
       try clear p6
       try clear c8
       try clear p10
       try clear q10
       try clear QK
       try clear c12
       try clear c12b0
       try clear c12b1
       try clear c14
       try clear c14b0
       try clear c15
       try clear c15b0
       try clear wI
       try clear wJ
       try clear bW
       try clear dS
       try clear mY
       try clear oC
       try clear fC
       try clear Ci
       try clear p2
       try clear fD
       try clear Cj
       obtain ⟨kq, AY, rfl, HA, UJ, HO_8, aJ, HB⟩ := hcut
       cases kq with
       | zero => exact absurd HA.out (by simp [scale_widen_int64.j1])
       | succ Jh =>
        have H := HA.out
        clear HA
        simp only [scale_widen_int64.j1] at H
        by_cases c16 : AY = true
        ·subst c16
         have H1 : (if 0 ≤ (wrap64 ((bK.length : Int) - 1)) then (if (wrap64 ((bK.length : Int) - 1)) < (bK.length : Int) then ((scale_whole.f ((aX bK (wrap64 ((bK.length : Int) - 1))).f1) ((aX l0 bY).f1)).bind fun nR => (if nR.2 = true then (scale_widen_int64.l0 Jh a1 (bK.set ((wrap64 ((bK.length : Int) - 1)) : Int).toNat (⟨(aX bK (wrap64 ((bK.length : Int) - 1))).f0, nR.1⟩ : gq)) l0 (l0.length : Int) (wrap64 (bY + 1))) else (some (([] : List (gq)), false)))) else (none)) else (none)) = some (r1, r2) := by rw [if_pos rfl] at H; exact H
         clear H
         have H := H1
         clear H1
         obtain ⟨dN, Bc⟩ : ∃ j_ : Int, (wrap64 ((bK.length : Int) - 1)) = j_ := ⟨_, rfl⟩
         replace H : (if 0 ≤ (dN) then (if (dN) < (bK.length : Int) then ((scale_whole.f ((aX bK (dN)).f1) ((aX l0 bY).f1)).bind fun nR => (if nR.2 = true then (scale_widen_int64.l0 Jh a1 (bK.set ((dN) : Int).toNat (⟨(aX bK (dN)).f0, nR.1⟩ : gq)) l0 (l0.length : Int) (wrap64 (bY + 1))) else (some (([] : List (gq)), false)))) else (none)) else (none)) = some (r1, r2) := by first | (rw [Bc] at H; exact H) | (simp only [Bc] at H ⊢; exact H)
         have hji17w : (IntKind.i64.wrap ((bK.length : Int) - 1)) = dN := (bI _).trans Bc
         by_cases c18 : 0 ≤ (dN)
         ·rw [if_pos c18] at H
          have c18b0 : decide (0 ≤ (dN)) = true := ahG c18
          clear c18
          by_cases c19 : (dN) < (bK.length : Int)
          ·rw [if_pos c19] at H
           have c19b0 : decide ((dN) < (bK.length : Int)) = true := ahG c19
           clear c19
           replace H := Option.bind_eq_some_iff.mp H
           obtain ⟨⟨fQ, t107⟩, EL, H⟩ := H
           replace H : (if t107 = true then (scale_widen_int64.l0 Jh a1 (bK.set ((dN) : Int).toNat (⟨(aX bK (dN)).f0, fQ⟩ : gq)) l0 (l0.length : Int) (wrap64 (bY + 1))) else (some (([] : List (gq)), false))) = some (r1, r2) := H
           have tC := ah EL
           clear EL
           by_cases c21 : t107 = true
           ·subst c21
            have H1 : (scale_widen_int64.l0 Jh a1 (bK.set ((dN) : Int).toNat (⟨(aX bK (dN)).f0, fQ⟩ : gq)) l0 (l0.length : Int) (wrap64 (bY + 1))) = some (r1, r2) := by rw [if_pos rfl] at H; exact H
            clear H
            have H := H1
            clear H1
            obtain ⟨jm, nJ⟩ : ∃ y_ : List (gq), y_ = (bK.set ((dN) : Int).toNat (⟨(aX bK (dN)).f0, fQ⟩ : gq)) := ⟨_, rfl⟩
            replace H : (scale_widen_int64.l0 Jh a1 jm l0 (l0.length : Int) (wrap64 (bY + 1))) = some (r1, r2) := by first | (rw [nJ]; with_reducible exact H) | (have jA := (Option.bind_some _ _).symm.trans H; rw [nJ]; with_reducible exact jA) | (have jA := (Option.bind_some _ _).symm.trans H; with_reducible exact jA) | with_reducible exact H | (rw [nJ]; exact H) | exact H
            have vJ := ah nJ
            clear nJ
            have H' := ah H
            clear H
            have nN : 0 ≤ ((dN) : Int) := ahF (by assumption)
            have nO : (dN) < (bK.length : Int) := ahF (by assumption)
            obtain ⟨Dj, xI, jW, qN⟩ := qH (Kd.bF HO_8.out).2.2 (dN) nN nO
            cases xI
            replace nN := eq_true nN
            replace nO := eq_true nO
            have yK := au aJ.out
            have yL := aC aJ.out
            go_wp2_with (first | (go_at_call 81; (with_reducible refine (scale_whole.calls ((aX bK (dN)).f1) ((aX l0 bY).f1) fQ true _ tC.out).mono ?_); rintro e w' ⟨rfl, ⟨nd, rfl⟩⟩; (try first | exact ⟨rfl, _, World.drewN_drewN _ _ _⟩ | exact ⟨rfl, _, Eq.trans (World.drewN_drewN _ _ _) (congrArg (World.drewN _) (Nat.add_assoc _ _ _))⟩); clear tC; have EM : 0 ≤ ((dN) : Int) := ahF (by assumption); have q22 : ((dN) : Int) < ((bK.length : Int) : Int) := ahF (by assumption); obtain ⟨jQ, Cm, vO, xR, EN, Si, xU⟩ := Kd.qC HO_8.out (by omega); (first | cases vO | (injection vO with ea_ en_ ec_; (first | subst ea_ | (injection ea_ with ea_; subst ea_)); subst ec_; clear en_)); have EO := ah xR; have Sj := ah xU; clear xR EN xU; (first | simp only [add_plain] at jW | skip); (first | simp only [add_plain] at qN | skip); obtain ⟨Sl, xW, xX, nS, nT⟩ := Kd.jC HO_8.out z173 ((dN) : Int) EM q22; obtain rfl := lH xX; have EP : wc.cell? ⟨jQ, ((dN) : Int).toNat * 2, none⟩ = some (.int .i64 ((aX bK (dN)).f0)) := nS 0 _ rfl; have ER : wc.cell? ⟨jQ, ((dN) : Int).toNat * 2 + 1, none⟩ = some (.int .i64 ((aX bK (dN)).f1)) := nS 1 _ rfl; have ES : wc.frozen? ⟨jQ, ((dN) : Int).toNat * 2, none⟩ = false := nT 0; have ET : wc.frozen? ⟨jQ, ((dN) : Int).toNat * 2 + 1, none⟩ = false := nT 1; clear xW nS nT xX; replace EM := eq_true EM; replace q22 := eq_true q22; have nU := ah (show Kd.R jB 173 wc w.heap.size (fun k_ => k_ ≠ aI) (.slice (some ⟨jQ, 0, none⟩) bK.length oz) bK from (Kd.fJ HO_8.out)); obtain ⟨EU, jZ, nV, jk, ku⟩ := Kd.jC nU.out z173 ((dN) : Int) (ahF (by assumption)) (by have h_ : ((dN) : Int) < ((bK.length : Int) : Int) := ahF (by assumption); first | exact h_ | (have e_ := (Kd.bF HO_8.out).1; omega) | simpa using h_); obtain rfl := lH nV; have qO := Kd.qF nU.out ((dN) : Int) (ahF (by assumption)) (by have h_ : ((dN) : Int) < ((bK.length : Int) : Int) := ahF (by assumption); first | exact h_ | (have e_ := (Kd.bF HO_8.out).1; omega) | simpa using h_) (seg := [.int .i64 fQ]) (j := 1) jZ jk (show 2 ≤ 2 from by decide) (x' := (⟨(aX bK (dN)).f0, fQ⟩ : gq)) (lT _ _ _ (⟨(aX bK (dN)).f0, fQ⟩ : gq) ) (fun _ hk => hk); have kX := jk 1 _ rfl; (try simp only [show (jB).sz = 2 from rfl, Nat.mul_one, Nat.add_zero] at kX); have kY := ku 1; (try simp only [show (jB).sz = 2 from rfl, Nat.mul_one, Nat.add_zero] at kY); clear jZ jk ku nV) | ((with_reducible refine kK (t := 2) (p := 59) rfl ?_); (try (rw [rF wc]; generalize hq_ : World.drewN wc _ = wc; have fZ := ah (Kd.Pm hq_ HO_8.out); have gG := ah (BM hq_ aJ.out); have iC := ah (vG hq_ HB.out); clear hq_ HO_8 aJ HB; have HO_8 := fZ; have aJ := gG; have HB := iC; clear fZ gG iC; (try (have nU := ah (show Kd.R jB 173 wc w.heap.size (fun k_ => k_ ≠ aI) (.slice (some ⟨jQ, 0, none⟩) bK.length oz) bK from (Kd.fJ HO_8.out)))); (try (obtain ⟨EU, jZ, nV, jk, ku⟩ := Kd.jC nU.out z173 ((dN) : Int) (ahF (by assumption)) (by have h_ : ((dN) : Int) < ((bK.length : Int) : Int) := ahF (by assumption); first | exact h_ | (have e_ := (Kd.bF HO_8.out).1; omega) | simpa using h_))); (try (obtain rfl := lH nV)); (try (have qO := Kd.qF nU.out ((dN) : Int) (ahF (by assumption)) (by have h_ : ((dN) : Int) < ((bK.length : Int) : Int) := ahF (by assumption); first | exact h_ | (have e_ := (Kd.bF HO_8.out).1; omega) | simpa using h_) (seg := [.int .i64 fQ]) (j := 1) jZ jk (show 2 ≤ 2 from by decide) (x' := (⟨(aX bK (dN)).f0, fQ⟩ : gq)) (lT _ _ _ (⟨(aX bK (dN)).f0, fQ⟩ : gq) ) (fun _ hk => hk))); (try (have kX := jk 1 _ rfl)); (try (try simp only [show (jB).sz = 2 from rfl, Nat.mul_one, Nat.add_zero] at kX)); (try (have kY := ku 1)); (try (try simp only [show (jB).sz = 2 from rfl, Nat.mul_one, Nat.add_zero] at kY)); (try (clear jZ jk ku nV)))); refine jS (t := 2) (p := 59) (v := ?vo_w25) (w1 := (wc.setCell ⟨jQ, ((dN) : Int).toNat * 2 + 1, none⟩ (.int .i64 fQ))) ?hg ?ho ?hn ?hr ?_; (case ho => rfl); (case hg => rfl); (case hn => rfl); (case hr => first | (go_simp; done) | (go_simp; rfl)); intro BZ hw; have hg : wc.grownBy BZ (some jQ) := (by rw [hw]; exact qO.2); have hp_ : Kd.R jB 173 BZ w.heap.size (fun k_ => k_ ≠ aI) (.slice (some ⟨jQ, 0, none⟩) bK.length oz) jm := (by rw [hw, vJ.out]; exact qO.1); clear qO; have gG := ah (jc (g := aI) (o := .cells #[.int .i64 ((aX l0 bY).f0), .int .i64 ((aX l0 bY).f1)] 173 (0, 0)) (jJ aJ.out) hg (Kd.o7 HO_8.out (fun _ hk => hk))); replace HO_8 := ah (hp_); replace HB := ah ((by rw [hw]; exact aA (HB.out) EO.out : Below w.heap.size w BZ)); clear aJ; have aJ := gG; clear gG hg hw hp_))
            repeat (go_quiet (first | (go_at_call 81; (with_reducible refine (scale_whole.calls ((aX bK (dN)).f1) ((aX l0 bY).f1) fQ true _ tC.out).mono ?_); rintro e w' ⟨rfl, ⟨nd, rfl⟩⟩; (try first | exact ⟨rfl, _, World.drewN_drewN _ _ _⟩ | exact ⟨rfl, _, Eq.trans (World.drewN_drewN _ _ _) (congrArg (World.drewN _) (Nat.add_assoc _ _ _))⟩); clear tC; have EM : 0 ≤ ((dN) : Int) := ahF (by assumption); have q22 : ((dN) : Int) < ((bK.length : Int) : Int) := ahF (by assumption); obtain ⟨jQ, Cm, vO, xR, EN, Si, xU⟩ := Kd.qC HO_8.out (by omega); (first | cases vO | (injection vO with ea_ en_ ec_; (first | subst ea_ | (injection ea_ with ea_; subst ea_)); subst ec_; clear en_)); have EO := ah xR; have Sj := ah xU; clear xR EN xU; (first | simp only [add_plain] at jW | skip); (first | simp only [add_plain] at qN | skip); obtain ⟨Sl, xW, xX, nS, nT⟩ := Kd.jC HO_8.out z173 ((dN) : Int) EM q22; obtain rfl := lH xX; have EP : wc.cell? ⟨jQ, ((dN) : Int).toNat * 2, none⟩ = some (.int .i64 ((aX bK (dN)).f0)) := nS 0 _ rfl; have ER : wc.cell? ⟨jQ, ((dN) : Int).toNat * 2 + 1, none⟩ = some (.int .i64 ((aX bK (dN)).f1)) := nS 1 _ rfl; have ES : wc.frozen? ⟨jQ, ((dN) : Int).toNat * 2, none⟩ = false := nT 0; have ET : wc.frozen? ⟨jQ, ((dN) : Int).toNat * 2 + 1, none⟩ = false := nT 1; clear xW nS nT xX; replace EM := eq_true EM; replace q22 := eq_true q22; have nU := ah (show Kd.R jB 173 wc w.heap.size (fun k_ => k_ ≠ aI) (.slice (some ⟨jQ, 0, none⟩) bK.length oz) bK from (Kd.fJ HO_8.out)); obtain ⟨EU, jZ, nV, jk, ku⟩ := Kd.jC nU.out z173 ((dN) : Int) (ahF (by assumption)) (by have h_ : ((dN) : Int) < ((bK.length : Int) : Int) := ahF (by assumption); first | exact h_ | (have e_ := (Kd.bF HO_8.out).1; omega) | simpa using h_); obtain rfl := lH nV; have qO := Kd.qF nU.out ((dN) : Int) (ahF (by assumption)) (by have h_ : ((dN) : Int) < ((bK.length : Int) : Int) := ahF (by assumption); first | exact h_ | (have e_ := (Kd.bF HO_8.out).1; omega) | simpa using h_) (seg := [.int .i64 fQ]) (j := 1) jZ jk (show 2 ≤ 2 from by decide) (x' := (⟨(aX bK (dN)).f0, fQ⟩ : gq)) (lT _ _ _ (⟨(aX bK (dN)).f0, fQ⟩ : gq) ) (fun _ hk => hk); have kX := jk 1 _ rfl; (try simp only [show (jB).sz = 2 from rfl, Nat.mul_one, Nat.add_zero] at kX); have kY := ku 1; (try simp only [show (jB).sz = 2 from rfl, Nat.mul_one, Nat.add_zero] at kY); clear jZ jk ku nV) | ((with_reducible refine kK (t := 2) (p := 59) rfl ?_); (try (rw [rF wc]; generalize hq_ : World.drewN wc _ = wc; have fZ := ah (Kd.Pm hq_ HO_8.out); have gG := ah (BM hq_ aJ.out); have iC := ah (vG hq_ HB.out); clear hq_ HO_8 aJ HB; have HO_8 := fZ; have aJ := gG; have HB := iC; clear fZ gG iC; (try (have nU := ah (show Kd.R jB 173 wc w.heap.size (fun k_ => k_ ≠ aI) (.slice (some ⟨jQ, 0, none⟩) bK.length oz) bK from (Kd.fJ HO_8.out)))); (try (obtain ⟨EU, jZ, nV, jk, ku⟩ := Kd.jC nU.out z173 ((dN) : Int) (ahF (by assumption)) (by have h_ : ((dN) : Int) < ((bK.length : Int) : Int) := ahF (by assumption); first | exact h_ | (have e_ := (Kd.bF HO_8.out).1; omega) | simpa using h_))); (try (obtain rfl := lH nV)); (try (have qO := Kd.qF nU.out ((dN) : Int) (ahF (by assumption)) (by have h_ : ((dN) : Int) < ((bK.length : Int) : Int) := ahF (by assumption); first | exact h_ | (have e_ := (Kd.bF HO_8.out).1; omega) | simpa using h_) (seg := [.int .i64 fQ]) (j := 1) jZ jk (show 2 ≤ 2 from by decide) (x' := (⟨(aX bK (dN)).f0, fQ⟩ : gq)) (lT _ _ _ (⟨(aX bK (dN)).f0, fQ⟩ : gq) ) (fun _ hk => hk))); (try (have kX := jk 1 _ rfl)); (try (try simp only [show (jB).sz = 2 from rfl, Nat.mul_one, Nat.add_zero] at kX)); (try (have kY := ku 1)); (try (try simp only [show (jB).sz = 2 from rfl, Nat.mul_one, Nat.add_zero] at kY)); (try (clear jZ jk ku nV)))); refine jS (t := 2) (p := 59) (v := ?vo_w25) (w1 := (wc.setCell ⟨jQ, ((dN) : Int).toNat * 2 + 1, none⟩ (.int .i64 fQ))) ?hg ?ho ?hn ?hr ?_; (case ho => rfl); (case hg => rfl); (case hn => rfl); (case hr => first | (go_simp; done) | (go_simp; rfl)); intro BZ hw; have hg : wc.grownBy BZ (some jQ) := (by rw [hw]; exact qO.2); have hp_ : Kd.R jB 173 BZ w.heap.size (fun k_ => k_ ≠ aI) (.slice (some ⟨jQ, 0, none⟩) bK.length oz) jm := (by rw [hw, vJ.out]; exact qO.1); clear qO; have gG := ah (jc (g := aI) (o := .cells #[.int .i64 ((aX l0 bY).f0), .int .i64 ((aX l0 bY).f1)] 173 (0, 0)) (jJ aJ.out) hg (Kd.o7 HO_8.out (fun _ hk => hk))); replace HO_8 := ah (hp_); replace HB := ah ((by rw [hw]; exact aA (HB.out) EO.out : Below w.heap.size w BZ)); clear aJ; have aJ := gG; clear gG hg hw hp_)); try go_wp2_with (first | (go_at_call 81; (with_reducible refine (scale_whole.calls ((aX bK (dN)).f1) ((aX l0 bY).f1) fQ true _ tC.out).mono ?_); rintro e w' ⟨rfl, ⟨nd, rfl⟩⟩; (try first | exact ⟨rfl, _, World.drewN_drewN _ _ _⟩ | exact ⟨rfl, _, Eq.trans (World.drewN_drewN _ _ _) (congrArg (World.drewN _) (Nat.add_assoc _ _ _))⟩); clear tC; have EM : 0 ≤ ((dN) : Int) := ahF (by assumption); have q22 : ((dN) : Int) < ((bK.length : Int) : Int) := ahF (by assumption); obtain ⟨jQ, Cm, vO, xR, EN, Si, xU⟩ := Kd.qC HO_8.out (by omega); (first | cases vO | (injection vO with ea_ en_ ec_; (first | subst ea_ | (injection ea_ with ea_; subst ea_)); subst ec_; clear en_)); have EO := ah xR; have Sj := ah xU; clear xR EN xU; (first | simp only [add_plain] at jW | skip); (first | simp only [add_plain] at qN | skip); obtain ⟨Sl, xW, xX, nS, nT⟩ := Kd.jC HO_8.out z173 ((dN) : Int) EM q22; obtain rfl := lH xX; have EP : wc.cell? ⟨jQ, ((dN) : Int).toNat * 2, none⟩ = some (.int .i64 ((aX bK (dN)).f0)) := nS 0 _ rfl; have ER : wc.cell? ⟨jQ, ((dN) : Int).toNat * 2 + 1, none⟩ = some (.int .i64 ((aX bK (dN)).f1)) := nS 1 _ rfl; have ES : wc.frozen? ⟨jQ, ((dN) : Int).toNat * 2, none⟩ = false := nT 0; have ET : wc.frozen? ⟨jQ, ((dN) : Int).toNat * 2 + 1, none⟩ = false := nT 1; clear xW nS nT xX; replace EM := eq_true EM; replace q22 := eq_true q22; have nU := ah (show Kd.R jB 173 wc w.heap.size (fun k_ => k_ ≠ aI) (.slice (some ⟨jQ, 0, none⟩) bK.length oz) bK from (Kd.fJ HO_8.out)); obtain ⟨EU, jZ, nV, jk, ku⟩ := Kd.jC nU.out z173 ((dN) : Int) (ahF (by assumption)) (by have h_ : ((dN) : Int) < ((bK.length : Int) : Int) := ahF (by assumption); first | exact h_ | (have e_ := (Kd.bF HO_8.out).1; omega) | simpa using h_); obtain rfl := lH nV; have qO := Kd.qF nU.out ((dN) : Int) (ahF (by assumption)) (by have h_ : ((dN) : Int) < ((bK.length : Int) : Int) := ahF (by assumption); first | exact h_ | (have e_ := (Kd.bF HO_8.out).1; omega) | simpa using h_) (seg := [.int .i64 fQ]) (j := 1) jZ jk (show 2 ≤ 2 from by decide) (x' := (⟨(aX bK (dN)).f0, fQ⟩ : gq)) (lT _ _ _ (⟨(aX bK (dN)).f0, fQ⟩ : gq) ) (fun _ hk => hk); have kX := jk 1 _ rfl; (try simp only [show (jB).sz = 2 from rfl, Nat.mul_one, Nat.add_zero] at kX); have kY := ku 1; (try simp only [show (jB).sz = 2 from rfl, Nat.mul_one, Nat.add_zero] at kY); clear jZ jk ku nV) | ((with_reducible refine kK (t := 2) (p := 59) rfl ?_); (try (rw [rF wc]; generalize hq_ : World.drewN wc _ = wc; have fZ := ah (Kd.Pm hq_ HO_8.out); have gG := ah (BM hq_ aJ.out); have iC := ah (vG hq_ HB.out); clear hq_ HO_8 aJ HB; have HO_8 := fZ; have aJ := gG; have HB := iC; clear fZ gG iC; (try (have nU := ah (show Kd.R jB 173 wc w.heap.size (fun k_ => k_ ≠ aI) (.slice (some ⟨jQ, 0, none⟩) bK.length oz) bK from (Kd.fJ HO_8.out)))); (try (obtain ⟨EU, jZ, nV, jk, ku⟩ := Kd.jC nU.out z173 ((dN) : Int) (ahF (by assumption)) (by have h_ : ((dN) : Int) < ((bK.length : Int) : Int) := ahF (by assumption); first | exact h_ | (have e_ := (Kd.bF HO_8.out).1; omega) | simpa using h_))); (try (obtain rfl := lH nV)); (try (have qO := Kd.qF nU.out ((dN) : Int) (ahF (by assumption)) (by have h_ : ((dN) : Int) < ((bK.length : Int) : Int) := ahF (by assumption); first | exact h_ | (have e_ := (Kd.bF HO_8.out).1; omega) | simpa using h_) (seg := [.int .i64 fQ]) (j := 1) jZ jk (show 2 ≤ 2 from by decide) (x' := (⟨(aX bK (dN)).f0, fQ⟩ : gq)) (lT _ _ _ (⟨(aX bK (dN)).f0, fQ⟩ : gq) ) (fun _ hk => hk))); (try (have kX := jk 1 _ rfl)); (try (try simp only [show (jB).sz = 2 from rfl, Nat.mul_one, Nat.add_zero] at kX)); (try (have kY := ku 1)); (try (try simp only [show (jB).sz = 2 from rfl, Nat.mul_one, Nat.add_zero] at kY)); (try (clear jZ jk ku nV)))); refine jS (t := 2) (p := 59) (v := ?vo_w25) (w1 := (wc.setCell ⟨jQ, ((dN) : Int).toNat * 2 + 1, none⟩ (.int .i64 fQ))) ?hg ?ho ?hn ?hr ?_; (case ho => rfl); (case hg => rfl); (case hn => rfl); (case hr => first | (go_simp; done) | (go_simp; rfl)); intro BZ hw; have hg : wc.grownBy BZ (some jQ) := (by rw [hw]; exact qO.2); have hp_ : Kd.R jB 173 BZ w.heap.size (fun k_ => k_ ≠ aI) (.slice (some ⟨jQ, 0, none⟩) bK.length oz) jm := (by rw [hw, vJ.out]; exact qO.1); clear qO; have gG := ah (jc (g := aI) (o := .cells #[.int .i64 ((aX l0 bY).f0), .int .i64 ((aX l0 bY).f1)] 173 (0, 0)) (jJ aJ.out) hg (Kd.o7 HO_8.out (fun _ hk => hk))); replace HO_8 := ah (hp_); replace HB := ah ((by rw [hw]; exact aA (HB.out) EO.out : Below w.heap.size w BZ)); clear aJ; have aJ := gG; clear gG hg hw hp_)))
            go_roundg Jh
            case measure => have := jy.out; have := UJ.out; omega
            case rel => exact ⟨(jm), (wrap64 (bY + 1)), (by first | rfl | (simp; done) | (simp [*]; done)), H', ⟨by have := jy.out; have := UJ.out; omega⟩, ⟨by (repeat with_reducible refine Kd.kQ ?_); exact Kd.bZ HO_8.out (fun _ hk => trivial)⟩, ⟨by repeat (first | (with_reducible first | exact HB.out | apply ak | apply ay | apply aH | refine aA ?_ bU.out) | exact HB.out)⟩⟩
           replace c21 := Bool.eq_false_iff.mpr c21
           subst c21
           have H1 : (some (([] : List (gq)), false)) = some (r1, r2) := by rw [if_neg (show ¬ (false = true) by decide)] at H; exact H
           clear H
           have H := H1
           clear H1
           simp only [Option.some.injEq, Prod.mk.injEq] at H
           obtain ⟨rfl, rfl⟩ := H
           have nN : 0 ≤ ((dN) : Int) := ahF (by assumption)
           have nO : (dN) < (bK.length : Int) := ahF (by assumption)
           obtain ⟨Dj, xI, jW, qN⟩ := qH (Kd.bF HO_8.out).2.2 (dN) nN nO
           cases xI
           replace nN := eq_true nN
           replace nO := eq_true nO
           have Ak := au aJ.out
           have Am := aC aJ.out
           go_wp2_with (first | (go_at_call 81; (with_reducible refine (scale_whole.calls ((aX bK (dN)).f1) ((aX l0 bY).f1) fQ false _ tC.out).mono ?_); rintro e w' ⟨rfl, ⟨nd, rfl⟩⟩; (try first | exact ⟨rfl, _, World.drewN_drewN _ _ _⟩ | exact ⟨rfl, _, Eq.trans (World.drewN_drewN _ _ _) (congrArg (World.drewN _) (Nat.add_assoc _ _ _))⟩); clear tC))
           repeat (go_quiet (first | (go_at_call 81; (with_reducible refine (scale_whole.calls ((aX bK (dN)).f1) ((aX l0 bY).f1) fQ false _ tC.out).mono ?_); rintro e w' ⟨rfl, ⟨nd, rfl⟩⟩; (try first | exact ⟨rfl, _, World.drewN_drewN _ _ _⟩ | exact ⟨rfl, _, Eq.trans (World.drewN_drewN _ _ _) (congrArg (World.drewN _) (Nat.add_assoc _ _ _))⟩); clear tC)); try go_wp2_with (first | (go_at_call 81; (with_reducible refine (scale_whole.calls ((aX bK (dN)).f1) ((aX l0 bY).f1) fQ false _ tC.out).mono ?_); rintro e w' ⟨rfl, ⟨nd, rfl⟩⟩; (try first | exact ⟨rfl, _, World.drewN_drewN _ _ _⟩ | exact ⟨rfl, _, Eq.trans (World.drewN_drewN _ _ _) (congrArg (World.drewN _) (Nat.add_assoc _ _ _))⟩); clear tC)))
           go_ret2
           exact ⟨_, by first | rfl | (simp [aU, aV] <;> rfl) | (simp only [← Bc]; first | rfl | (simp [aU, aV] <;> rfl)) | (simp [*, aU, aV] <;> rfl), by first | exact Kd.eY _ _ _ _ _ | exact Kd.ig _ _ _ _ _ | exact Kd.iq _ _ _ _ _ | exact Kd.gY _ _ _ _ _ | exact Kd.gZ _ _ _ _ _, by repeat (first | (with_reducible first | exact HB.out | apply ak | apply ay | apply aH | refine aA ?_ bU.out) | exact HB.out)⟩
          rw [if_neg c19] at H
          exact absurd H (by simp)
         rw [if_neg c18] at H
         exact absurd H (by simp)
        replace c16 := Bool.eq_false_iff.mpr c16
        subst c16
        have H1 : (if bK.length < 8796093022208 then (scale_widen_int64.l0 Jh a1 (bK ++ [(⟨dZ, ((aX l0 bY).f1)⟩ : gq)]) l0 (l0.length : Int) (wrap64 (bY + 1))) else (none)) = some (r1, r2) := by rw [if_neg (show ¬ (false = true) by decide)] at H; exact H
        clear H
        have H := H1
        clear H1
        by_cases I5 : bK.length < 8796093022208
        ·rw [if_pos I5] at H
         have EW := ah I5
         clear I5
         obtain ⟨lV, nP⟩ : ∃ y_ : List (gq), y_ = (bK ++ [(⟨dZ, ((aX l0 bY).f1)⟩ : gq)]) := ⟨_, rfl⟩
         replace H : (scale_widen_int64.l0 Jh a1 lV l0 (l0.length : Int) (wrap64 (bY + 1))) = some (r1, r2) := by first | (rw [nP]; with_reducible exact H) | (have jA := (Option.bind_some _ _).symm.trans H; rw [nP]; with_reducible exact jA) | (have jA := (Option.bind_some _ _).symm.trans H; with_reducible exact jA) | with_reducible exact H | (rw [nP]; exact H) | exact H
         have pF := ah nP
         clear nP
         have H' := ah H
         clear H
         have yI := au aJ.out
         have yJ := aC aJ.out
         go_wp2_with (first | ((with_reducible refine eG (b := .append) (xs := #[.tmp 60, .tmp 65]) rfl ?_); at_builtin; refine Kd.je jB (w0 := w) w.heap.size rfl (.tmp 60) (.tmp 65) 91 173 (.agg #[(.int .i64 0), (.int .i64 0)]) 16 rfl Try.underlying91 zZ rfl (by decide) (by omega) (.slice AX bK.length oz) bK (⟨dZ, ((aX l0 bY).f1)⟩ : gq) [.int .i64 dZ, .int .i64 ((aX l0 bY).f1)] (fun k_ => k_ ≠ aI) (fun _ => False) rfl rfl ?aP (fun _ hk => hk.elim) ?aF ?aO ?aB ?aS ?aL ?_; (case aP => exact lT _ _ _ (⟨dZ, ((aX l0 bY).f1)⟩ : gq)); (case aB => exact (by repeat (first | (with_reducible first | exact HB.out | refine bJ ?_ | refine aA ?_ bU.out) | exact HB.out))); (case aF => exact (fun k_ hk => Kd.BJ (g := aI) (o := .cells #[.int .i64 ((aX l0 bY).f0), .int .i64 ((aX l0 bY).f1)] 173 (0, 0)) (jJ aJ.out) k_ hk)); (case aO => exact (Kd.fJ HO_8.out)); (case aS => exact (aQ (by repeat (first | (with_reducible first | exact HB.out | refine bJ ?_ | refine aA ?_ bU.out) | exact HB.out)))); (case aL => have := EW.out; omega); intro qw TM ho hb hg hat; rw [← pF.out] at ho; have fZ := ah (jc (g := aI) (o := .cells #[.int .i64 ((aX l0 bY).f0), .int .i64 ((aX l0 bY).f1)] 173 (0, 0)) (jJ aJ.out) hg (Kd.o7 HO_8.out (fun _ hk => hk))); have eu := ah (ho); replace HB := ah (hb); clear HO_8 aJ; have aJ := fZ; clear fZ ho hb hg hat))
         repeat (go_quiet (first | ((with_reducible refine eG (b := .append) (xs := #[.tmp 60, .tmp 65]) rfl ?_); at_builtin; refine Kd.je jB (w0 := w) w.heap.size rfl (.tmp 60) (.tmp 65) 91 173 (.agg #[(.int .i64 0), (.int .i64 0)]) 16 rfl Try.underlying91 zZ rfl (by decide) (by omega) (.slice AX bK.length oz) bK (⟨dZ, ((aX l0 bY).f1)⟩ : gq) [.int .i64 dZ, .int .i64 ((aX l0 bY).f1)] (fun k_ => k_ ≠ aI) (fun _ => False) rfl rfl ?aP (fun _ hk => hk.elim) ?aF ?aO ?aB ?aS ?aL ?_; (case aP => exact lT _ _ _ (⟨dZ, ((aX l0 bY).f1)⟩ : gq)); (case aB => exact (by repeat (first | (with_reducible first | exact HB.out | refine bJ ?_ | refine aA ?_ bU.out) | exact HB.out))); (case aF => exact (fun k_ hk => Kd.BJ (g := aI) (o := .cells #[.int .i64 ((aX l0 bY).f0), .int .i64 ((aX l0 bY).f1)] 173 (0, 0)) (jJ aJ.out) k_ hk)); (case aO => exact (Kd.fJ HO_8.out)); (case aS => exact (aQ (by repeat (first | (with_reducible first | exact HB.out | refine bJ ?_ | refine aA ?_ bU.out) | exact HB.out)))); (case aL => have := EW.out; omega); intro qw TM ho hb hg hat; rw [← pF.out] at ho; have fZ := ah (jc (g := aI) (o := .cells #[.int .i64 ((aX l0 bY).f0), .int .i64 ((aX l0 bY).f1)] 173 (0, 0)) (jJ aJ.out) hg (Kd.o7 HO_8.out (fun _ hk => hk))); have eu := ah (ho); replace HB := ah (hb); clear HO_8 aJ; have aJ := fZ; clear fZ ho hb hg hat)); try go_wp2_with (first | ((with_reducible refine eG (b := .append) (xs := #[.tmp 60, .tmp 65]) rfl ?_); at_builtin; refine Kd.je jB (w0 := w) w.heap.size rfl (.tmp 60) (.tmp 65) 91 173 (.agg #[(.int .i64 0), (.int .i64 0)]) 16 rfl Try.underlying91 zZ rfl (by decide) (by omega) (.slice AX bK.length oz) bK (⟨dZ, ((aX l0 bY).f1)⟩ : gq) [.int .i64 dZ, .int .i64 ((aX l0 bY).f1)] (fun k_ => k_ ≠ aI) (fun _ => False) rfl rfl ?aP (fun _ hk => hk.elim) ?aF ?aO ?aB ?aS ?aL ?_; (case aP => exact lT _ _ _ (⟨dZ, ((aX l0 bY).f1)⟩ : gq)); (case aB => exact (by repeat (first | (with_reducible first | exact HB.out | refine bJ ?_ | refine aA ?_ bU.out) | exact HB.out))); (case aF => exact (fun k_ hk => Kd.BJ (g := aI) (o := .cells #[.int .i64 ((aX l0 bY).f0), .int .i64 ((aX l0 bY).f1)] 173 (0, 0)) (jJ aJ.out) k_ hk)); (case aO => exact (Kd.fJ HO_8.out)); (case aS => exact (aQ (by repeat (first | (with_reducible first | exact HB.out | refine bJ ?_ | refine aA ?_ bU.out) | exact HB.out)))); (case aL => have := EW.out; omega); intro qw TM ho hb hg hat; rw [← pF.out] at ho; have fZ := ah (jc (g := aI) (o := .cells #[.int .i64 ((aX l0 bY).f0), .int .i64 ((aX l0 bY).f1)] 173 (0, 0)) (jJ aJ.out) hg (Kd.o7 HO_8.out (fun _ hk => hk))); have eu := ah (ho); replace HB := ah (hb); clear HO_8 aJ; have aJ := fZ; clear fZ ho hb hg hat)))
         go_roundg Jh
         case measure => have := jy.out; have := UJ.out; omega
         case rel => exact ⟨(lV), (wrap64 (bY + 1)), (by first | rfl | (simp; done) | (simp [*]; done)), H', ⟨by have := jy.out; have := UJ.out; omega⟩, ⟨by (repeat with_reducible refine Kd.kQ ?_); exact Kd.bZ eu.out (fun _ hk => trivial)⟩, ⟨by repeat (first | (with_reducible first | exact HB.out | apply ak | apply ay | apply aH | refine aA ?_ bU.out) | exact HB.out)⟩⟩
        rw [if_neg I5] at H
        exact absurd H (by simp)
     rw [if_neg c6] at H
     exact absurd H (by simp)
    rw [if_neg c5] at H
    exact absurd H (by simp)
   rw [if_neg c4] at H
   have c4b0 : decide (bY < (l0.length : Int)) = false := ahH c4
   clear c4
   simp only [Option.some.injEq, Prod.mk.injEq] at H
   obtain ⟨rfl, rfl⟩ := H
   go_wp2
   repeat (go_quiet (fail); try go_wp2)
   go_ret2
   exact ⟨_, by first | rfl | (simp [aU, aV] <;> rfl) | (simp [*, aU, aV] <;> rfl), by (repeat with_reducible refine Kd.kQ ?_); exact HO_8.out, by repeat (first | (with_reducible first | exact HB.out | apply ak | apply ay | apply aH) | exact HB.out)⟩
end Go.Proofs.Ytooiccpmngmapaa.P
namespace Go.Proofs.Ytooiccpmngmapaa.P
open Go.RowKit Go.Proofs.YtooiccpmngmapaaW.PrintWords Go.Proofs.YtooiccpmngmapaaW.PrintLast Go.Proofs.YtooiccpmngmapaaW.PrintMore
attribute [local go_sem] iV iW jH jI gW gX iY iZ
def hist_Check.f (cO : Int) (dF : Int) (dO : Int) (dP : Int) (dM : Int) (dJ : List (dQ)) (dG : List (dQ)) (dB : List Int) (dA : List Int) : Option (Int) := (hist_open.f cO dF dO dP dM dJ dG dB dA).bind fun lJ => (some lJ.2.2)
set_option maxHeartbeats 8000000 in
set_option maxRecDepth 100000 in
theorem hist_Check.calls (cO : Int) (dF : Int) (dO : Int) (dP : Int) (dM : Int) (iO : Option Addr) (iP : Nat) (dJ : List (dQ)) (iJ : Option Addr) (iK : Nat) (dG : List (dQ)) (iw : Option Addr) (iy : Nat) (dB : List Int) (iD : Option Addr) (iE : Nat) (dA : List Int) (r : Int) (w : World) (oP : Kd.C jq w iO dJ.length dJ) (oQ : dJ.length ≤ iP) (oU : Kd.C jq w iJ dG.length dG) (oV : dG.length ≤ iK) (qP : Kd.C (Kd.int .i64) w iw dB.length dB) (qQ : dB.length ≤ iy) (qR : Kd.C (Kd.int .i64) w iD dA.length dA) (qU : dA.length ≤ iE) (h : hist_Check.f cO dF dO dP dM dJ dG dB dA = some r) :
  Calls Try.prog 31 #[.agg #[.int .i64 cO, .int .u64 dF, .int .u64 dO, .int .u64 dP, .int .u64 dM, .slice iO dJ.length iP, .slice iJ dG.length iK, .slice iw dB.length iy, .slice iD dA.length iE]] w fun e w' => e = .returned (.int .i64 r) ∧ Below w.heap.size w w' := by
 have UK := Try.underlying29
 have nX := ah oP
 have nY := ah oQ
 clear oP oQ
 have oW := ah oU
 have oZ := ah oV
 clear oU oV
 have pK := ah qP
 have pO := ah qQ
 clear qP qQ
 have qm := ah qR
 have qo := ah qU
 clear qR qU
 have HB := ah (Below.refl w.heap.size w)
 have H : ((hist_open.f cO dF dO dP dM dJ dG dB dA).bind fun lJ => (some lJ.2.2)) = some r := h
 clear h
 replace H := Option.bind_eq_some_iff.mp H
 obtain ⟨⟨fH, t105, lM⟩, tC, H⟩ := H
 replace H : (some lM) = some r := H
 have A2 := ah tC
 clear tC
 obtain rfl := Option.some.inj H
 go_enter Try.func31, Try.ntmps31
 go_wp2_with (first | ((with_reducible refine fK (N := 1) rfl ?_); refine fA ?hg (N := 1) ?hd (cs := #[.int .i64 cO, .int .u64 dF, .int .u64 dO, .int .u64 dP, .int .u64 dM, .slice iO dJ.length iP, .slice iJ dG.length iK, .slice iw dB.length iy, .slice iD dA.length iE]) (t := 29) ?hr ?_; (case hd => rfl); (case hg => rfl); (case hr => first | (go_simp; done) | (go_simp; rfl)); intro bV hg w3 hbox hb; have aN := ah (hbox); have xY := ah ((by rw [hg]; exact (aQ (bg HB.out)) : w.heap.size ≤ bV)); have dH := ah ((by rw [hg]; exact (aQ (bg HB.out)) : w.heap.size ≤ bV)); replace HB := ah (aZ (bg HB.out) hb); clear hb hbox hg; have acZ := au aN.out; have ac0 := aC aN.out) | ((with_reducible refine bP (f := 70) rfl ?_); refine lG (some 8) rfl rfl Try.func70 (by kernel_rfl) rfl #[.agg #[.int .i64 cO, .int .u64 dF, .int .u64 dO, .int .u64 dP, .int .u64 dM, .slice iO dJ.length iP, .slice iJ dG.length iK, .slice iw dB.length iy, .slice iD dA.length iE]] rfl (by (try simp only [List.map_toArray, List.map_cons, List.map_nil]); first | done | rfl | (simp only [List.length_drop, List.length_take]; rfl)) ?_; (with_reducible refine (hist_open.calls cO dF dO dP dM _ _ dJ _ _ dG _ _ dB _ _ dA fH t105 lM _ ?dK ?dL ?kC ?kD ?pR ?pU ?pV ?pW A2.out).mono ?_); (case dK => exact Kd.jV (Kd.bT nX.out HB.out)); (case dL => exact nY.out); (case kC => exact Kd.jV (Kd.bT oW.out HB.out)); (case kD => exact oZ.out); (case pR => exact Kd.jV (Kd.bT pK.out HB.out)); (case pU => exact pO.out); (case pV => exact Kd.jV (Kd.bT qm.out HB.out)); (case pW => exact qo.out); rintro e w5 ⟨zD, Jf, rfl, ho0, ho1, hb⟩; refine ⟨_, rfl, ?_⟩; have jf := ah (Kd.dh ho0 (aQ (by repeat (first | (with_reducible first | exact HB.out | refine bJ ?_ | refine aA ?_ dH.out) | exact HB.out)))); have kG := ah (Kd.dh ho1 (aQ (by repeat (first | (with_reducible first | exact HB.out | refine bJ ?_ | refine aA ?_ dH.out) | exact HB.out)))); replace aN := ah (eH aN.out hb); replace HB := ah (aZ (by repeat (first | (with_reducible first | exact HB.out | refine bJ ?_ | refine aA ?_ dH.out) | exact HB.out)) hb); (try clear hb); (try clear hb2); (try clear hk); (try clear hi); (try clear ho0); (try clear ho1); clear A2))
 go_ret
 exact ⟨by first | rfl | (simp [aU, aV] <;> rfl) | (simp [*, aU, aV] <;> rfl), by repeat (first | (with_reducible first | exact HB.out | apply ak | apply ay | apply aH | refine aA ?_ dH.out) | exact HB.out)⟩
def hist_Pairs.j0 : Nat → Int → Bool → Int → Int → Int → Int → Int → List (dQ) → List (dQ) → List Int → List Int → Option ((List (gq)) × Int)
 | 0, _, _, _, _, _, _, _, _, _, _, _ => none
 | k + 1, x1, x14, mF, oD, oG, oH, pY, oI, oJ, oK, oL => if x14 = true then (some (([] : List (gq)), 11)) else ((hist_open.f mF oD oG oH pY oI oJ oK oL).bind fun lJ => (if x1 = 0 then (some (lJ.1, lJ.2.2)) else (some (lJ.2.1, lJ.2.2))))
def hist_Pairs.f (k : Nat) (cO : Int) (dF : Int) (dO : Int) (dP : Int) (dM : Int) (dJ : List (dQ)) (dG : List (dQ)) (dB : List Int) (dA : List Int) (a1 : Int) : Option ((List (gq)) × Int) := if a1 = 0 then (hist_Pairs.j0 k a1 false cO dF dO dP dM dJ dG dB dA) else (hist_Pairs.j0 k a1 (a1 != 1) cO dF dO dP dM dJ dG dB dA)
set_option maxHeartbeats 8000000 in
set_option maxRecDepth 100000 in
theorem hist_Pairs.calls (k : Nat) (cO : Int) (dF : Int) (dO : Int) (dP : Int) (dM : Int) (iO : Option Addr) (iP : Nat) (dJ : List (dQ)) (iJ : Option Addr) (iK : Nat) (dG : List (dQ)) (iw : Option Addr) (iy : Nat) (dB : List Int) (iD : Option Addr) (iE : Nat) (dA : List Int) (a1 : Int) (r1 : List (gq)) (r2 : Int) (w : World) (oP : Kd.C jq w iO dJ.length dJ) (oQ : dJ.length ≤ iP) (oU : Kd.C jq w iJ dG.length dG) (oV : dG.length ≤ iK) (qP : Kd.C (Kd.int .i64) w iw dB.length dB) (qQ : dB.length ≤ iy) (qR : Kd.C (Kd.int .i64) w iD dA.length dA) (qU : dA.length ≤ iE) (h : hist_Pairs.f k cO dF dO dP dM dJ dG dB dA a1 = some (r1, r2)) :
  Calls Try.prog 78 #[.agg #[.int .i64 cO, .int .u64 dF, .int .u64 dO, .int .u64 dP, .int .u64 dM, .slice iO dJ.length iP, .slice iJ dG.length iK, .slice iw dB.length iy, .slice iD dA.length iE], .int .i64 a1] w fun e w' => ∃ mW : Value, e = .returned (.tuple #[mW, .int .i64 r2]) ∧ Kd.R jB 173 w' w.heap.size (fun _ => True) mW r1 ∧ Below w.heap.size w w' := by
 have UK := Try.underlying29
 have nX := ah oP
 have nY := ah oQ
 clear oP oQ
 have oW := ah oU
 have oZ := ah oV
 clear oU oV
 have pK := ah qP
 have pO := ah qQ
 clear qP qQ
 have qm := ah qR
 have qo := ah qU
 clear qR qU
 have HB := ah (Below.refl w.heap.size w)
 have H : (if a1 = 0 then (hist_Pairs.j0 k a1 false cO dF dO dP dM dJ dG dB dA) else (hist_Pairs.j0 k a1 (a1 != 1) cO dF dO dP dM dJ dG dB dA)) = some (r1, r2) := h
 clear h
 have Gl := ah H
 clear H
 go_enter Try.func78, Try.ntmps78
 go_upto_region 1 with (first | ((with_reducible refine fK (N := 2) rfl ?_); refine fA ?hg (N := 2) ?hd (cs := #[.int .i64 cO, .int .u64 dF, .int .u64 dO, .int .u64 dP, .int .u64 dM, .slice iO dJ.length iP, .slice iJ dG.length iK, .slice iw dB.length iy, .slice iD dA.length iE]) (t := 29) ?hr ?_; (case hd => rfl); (case hg => rfl); (case hr => first | (go_simp; done) | (go_simp; rfl)); intro bV hg w4 hbox hb; have aN := ah (hbox); have xY := ah ((by rw [hg]; exact (aQ (bg HB.out)) : w.heap.size ≤ bV)); have dH := ah ((by rw [hg]; exact (aQ (bg HB.out)) : w.heap.size ≤ bV)); replace HB := ah (aZ (bg HB.out) hb); clear hb hbox hg))
 (try simp only [Act.put, List.setIfInBounds_toArray, List.set_cons_zero, List.set_cons_succ])
 go_cut [14] (fun v14 wc => ∃ (kq : Nat) (iR : Bool), v14 = .bool iR ∧ aj (hist_Pairs.j0 kq a1 iR cO dF dO dP dM dJ dG dB dA = some (r1, r2)) ∧ aj (kq ≤ k) ∧ aj (wc.heap[bV]? = some (.cells #[.int .i64 cO, .int .u64 dF, .int .u64 dO, .int .u64 dP, .int .u64 dM, (.slice iO dJ.length iP), (.slice iJ dG.length iK), (.slice iw dB.length iy), (.slice iD dA.length iE)] 29 (0, 0))) ∧ aj (Below w.heap.size w wc))
 case first =>
  have H := Gl.out
  clear Gl
  by_cases c5 : a1 = 0
  ·rw [if_pos c5] at H
   have c5b0 : (a1 == 0) = true := beq_iff_eq.mpr c5
   have c5b1 : (a1 != 0) = false := bne_eq_false_iff_eq.mpr c5
   clear c5
   (first | rw [c5b0] | (simp only [bI, bM]; rw [c5b0]) | skip)
   have H' := ah H
   clear H
   go_wp2
   go_meet
   case rel => exact ⟨_, (false), (by first | rfl | (simp; done) | (simp [*]; done)), H', ⟨by first | omega | exact Nat.le_refl _⟩, ⟨by (repeat with_reducible refine bQ ?_); exact aN.out⟩, ⟨by repeat (first | (with_reducible first | exact HB.out | apply ak | apply ay | apply aH | refine aA ?_ dH.out) | exact HB.out)⟩⟩
  rw [if_neg c5] at H
  have c5b0 : (a1 == 0) = false := beq_eq_false_iff_ne.mpr c5
  have c5b1 : (a1 != 0) = true := bne_iff_ne.mpr c5
  (first | rw [c5b0] | (simp only [bI, bM]; rw [c5b0]) | skip)
  have H' := ah H
  clear H
  go_wp2
  go_meet
  case rel => exact ⟨_, ((a1 != 1)), (by first | rfl | (simp; done) | (simp [*]; done)), H', ⟨by first | omega | exact Nat.le_refl _⟩, ⟨by (repeat with_reducible refine bQ ?_); exact aN.out⟩, ⟨by repeat (first | (with_reducible first | exact HB.out | apply ak | apply ay | apply aH | refine aA ?_ dH.out) | exact HB.out)⟩⟩
 case rest =>
  clear Gl
  try clear p2
  try clear c5
  try clear c5b0
  try clear c5b1
  obtain ⟨kq, iR, rfl, HA, HJ2, aN, HB⟩ := hcut
  cases kq with
  | zero => exact absurd HA.out (by simp [hist_Pairs.j0])
  | succ Zt =>
   have H := HA.out
   clear HA
   simp only [hist_Pairs.j0] at H
   by_cases c6 : iR = true
   ·subst c6
    have H1 : (some (([] : List (gq)), 11)) = some (r1, r2) := by rw [if_pos rfl] at H; exact H
    clear H
    have H := H1
    clear H1
    simp only [Option.some.injEq, Prod.mk.injEq] at H
    obtain ⟨rfl, rfl⟩ := H
    go_wp2
    go_ret2
    exact ⟨_, by first | rfl | (simp [aU, aV] <;> rfl) | (simp [*, aU, aV] <;> rfl), by first | exact Kd.eY _ _ _ _ _ | exact Kd.ig _ _ _ _ _ | exact Kd.iq _ _ _ _ _ | exact Kd.gY _ _ _ _ _ | exact Kd.gZ _ _ _ _ _, by repeat (first | (with_reducible first | exact HB.out | apply ak | apply ay | apply aH | refine aA ?_ dH.out) | exact HB.out)⟩
   replace c6 := Bool.eq_false_iff.mpr c6
   subst c6
   have H1 : ((hist_open.f cO dF dO dP dM dJ dG dB dA).bind fun lJ => (if a1 = 0 then (some (lJ.1, lJ.2.2)) else (some (lJ.2.1, lJ.2.2)))) = some (r1, r2) := by rw [if_neg (show ¬ (false = true) by decide)] at H; exact H
   clear H
   have H := H1
   clear H1
   replace H := Option.bind_eq_some_iff.mp H
   obtain ⟨⟨fH, t105, lM⟩, RX, H⟩ := H
   replace H : (if a1 = 0 then (some (fH, lM)) else (some (t105, lM))) = some (r1, r2) := H
   have A7 := ah RX
   clear RX
   by_cases c8 : a1 = 0
   ·rw [if_pos c8] at H
    have c8b0 : (a1 == 0) = true := beq_iff_eq.mpr c8
    have c8b1 : (a1 != 0) = false := bne_eq_false_iff_eq.mpr c8
    clear c8
    simp only [Option.some.injEq, Prod.mk.injEq] at H
    obtain ⟨rfl, rfl⟩ := H
    have rJ := au aN.out
    have rM := aC aN.out
    go_wp2_with (first | ((with_reducible refine bP (f := 70) rfl ?_); refine lG (some 17) rfl rfl Try.func70 (by kernel_rfl) rfl #[.agg #[.int .i64 cO, .int .u64 dF, .int .u64 dO, .int .u64 dP, .int .u64 dM, .slice iO dJ.length iP, .slice iJ dG.length iK, .slice iw dB.length iy, .slice iD dA.length iE]] rfl (by (try simp only [List.map_toArray, List.map_cons, List.map_nil]); first | done | rfl | (simp only [List.length_drop, List.length_take]; rfl)) ?_; (with_reducible refine (hist_open.calls cO dF dO dP dM _ _ dJ _ _ dG _ _ dB _ _ dA fH t105 lM _ ?dK ?dL ?kC ?kD ?pR ?pU ?pV ?pW A7.out).mono ?_); (case dK => exact Kd.jV (Kd.bT nX.out HB.out)); (case dL => exact nY.out); (case kC => exact Kd.jV (Kd.bT oW.out HB.out)); (case kD => exact oZ.out); (case pR => exact Kd.jV (Kd.bT pK.out HB.out)); (case pU => exact pO.out); (case pV => exact Kd.jV (Kd.bT qm.out HB.out)); (case pW => exact qo.out); rintro e w10 ⟨zD, Jf, rfl, ho0, ho1, hb⟩; refine ⟨_, rfl, ?_⟩; have jf := ah (Kd.dh ho0 (aQ (by repeat (first | (with_reducible first | exact HB.out | refine bJ ?_ | refine aA ?_ dH.out) | exact HB.out)))); have kG := ah (Kd.dh ho1 (aQ (by repeat (first | (with_reducible first | exact HB.out | refine bJ ?_ | refine aA ?_ dH.out) | exact HB.out)))); replace aN := ah (eH aN.out hb); replace HB := ah (aZ (by repeat (first | (with_reducible first | exact HB.out | refine bJ ?_ | refine aA ?_ dH.out) | exact HB.out)) hb); (try clear hb); (try clear hb2); (try clear hk); (try clear hi); (try clear ho0); (try clear ho1); clear A7))
    go_ret2
    exact ⟨_, by first | rfl | (simp [aU, aV] <;> rfl) | (simp [*, aU, aV] <;> rfl), by (repeat with_reducible refine Kd.kQ ?_); exact Kd.bZ jf.out (fun _ hk => trivial), by repeat (first | (with_reducible first | exact HB.out | apply ak | apply ay | apply aH | refine aA ?_ dH.out) | exact HB.out)⟩
   rw [if_neg c8] at H
   have c8b0 : (a1 == 0) = false := beq_eq_false_iff_ne.mpr c8
   have c8b1 : (a1 != 0) = true := bne_iff_ne.mpr c8
   simp only [Option.some.injEq, Prod.mk.injEq] at H
   obtain ⟨rfl, rfl⟩ := H
   have tq := au aN.out
   have tu := aC aN.out
   go_wp2_with (first | ((with_reducible refine bP (f := 70) rfl ?_); refine lG (some 17) rfl rfl Try.func70 (by kernel_rfl) rfl #[.agg #[.int .i64 cO, .int .u64 dF, .int .u64 dO, .int .u64 dP, .int .u64 dM, .slice iO dJ.length iP, .slice iJ dG.length iK, .slice iw dB.length iy, .slice iD dA.length iE]] rfl (by (try simp only [List.map_toArray, List.map_cons, List.map_nil]); first | done | rfl | (simp only [List.length_drop, List.length_take]; rfl)) ?_; (with_reducible refine (hist_open.calls cO dF dO dP dM _ _ dJ _ _ dG _ _ dB _ _ dA fH t105 lM _ ?dK ?dL ?kC ?kD ?pR ?pU ?pV ?pW A7.out).mono ?_); (case dK => exact Kd.jV (Kd.bT nX.out HB.out)); (case dL => exact nY.out); (case kC => exact Kd.jV (Kd.bT oW.out HB.out)); (case kD => exact oZ.out); (case pR => exact Kd.jV (Kd.bT pK.out HB.out)); (case pU => exact pO.out); (case pV => exact Kd.jV (Kd.bT qm.out HB.out)); (case pW => exact qo.out); rintro e w12 ⟨zD, Jf, rfl, ho0, ho1, hb⟩; refine ⟨_, rfl, ?_⟩; have jf := ah (Kd.dh ho0 (aQ (by repeat (first | (with_reducible first | exact HB.out | refine bJ ?_ | refine aA ?_ dH.out) | exact HB.out)))); have kG := ah (Kd.dh ho1 (aQ (by repeat (first | (with_reducible first | exact HB.out | refine bJ ?_ | refine aA ?_ dH.out) | exact HB.out)))); replace aN := ah (eH aN.out hb); replace HB := ah (aZ (by repeat (first | (with_reducible first | exact HB.out | refine bJ ?_ | refine aA ?_ dH.out) | exact HB.out)) hb); (try clear hb); (try clear hb2); (try clear hk); (try clear hi); (try clear ho0); (try clear ho1); clear A7))
   go_ret2
   exact ⟨_, by first | rfl | (simp [aU, aV] <;> rfl) | (simp [*, aU, aV] <;> rfl), by (repeat with_reducible refine Kd.kQ ?_); exact Kd.bZ kG.out (fun _ hk => trivial), by repeat (first | (with_reducible first | exact HB.out | apply ak | apply ay | apply aH | refine aA ?_ dH.out) | exact HB.out)⟩
end Go.Proofs.Ytooiccpmngmapaa.P
namespace Go.Proofs.Ytooiccpmngmapaa.P
open Go.RowKit Go.Shelf Go.Proofs.YtooiccpmngmapaaW.PrintWords Go.Proofs.YtooiccpmngmapaaW.PrintLast Go.Proofs.YtooiccpmngmapaaW.PrintMore
def qc (s : Int) : Pr → List Pr → Option (List Pr)
 | cur, [] => some [cur]
 | cur, p :: t => if dW p.f0 s = cur.f0 then (if cur.f1 + p.f1 ≤ 9223372036854775807 then qc s ⟨cur.f0, cur.f1 + p.f1⟩ t else none) else (qc s ⟨dW p.f0 s, p.f1⟩ t).map (cur :: ·)
def zJ (s : Int) : List Pr → Option (List Pr)
 | [] => some []
 | p :: t => qc s ⟨dW p.f0 s, p.f1⟩ t
def mX (s : Int) (l : List Pr) : List Pr × Bool := match zJ s l with | some r => (r, true) | none => ([], false)
def Sm (l : List Pr) : Prop := ∀ p ∈ l, i64 p.f0 ∧ 0 ≤ p.f1 ∧ p.f1 ≤ 9223372036854775807
theorem NC (s : Int) (l : List Pr) (hl : l.length < 4398046511104) (hn : Sm l) : ∀ (d k i : Nat) (done : List Pr) (cur : Pr), l.length - i = d → 2 * d + 2 < k → i ≤ l.length → done.length < i → 0 ≤ cur.f1 → cur.f1 ≤ 9223372036854775807 →
    scale_widen_int64.l0 k s (done ++ [cur]) l (l.length : Int) (i : Int) = some (match qc s cur (l.drop i) with | some r => (done ++ r, true) | none => ([], false)) := by
  intro d
  induction d with
  | zero =>
    intro k i done cur hd hk hi hdl h0 h1
    obtain ⟨k, rfl⟩ : ∃ m, k = m + 1 := ⟨k - 1, by omega⟩
    simp only [scale_widen_int64.l0]
    rw [if_neg (by omega), List.drop_eq_nil_of_le (by omega)]
    rfl
  | succ d ih =>
    intro k i done cur hd hk hi hdl h0 h1
    obtain ⟨k, rfl⟩ : ∃ m, k = m + 1 + 1 + 1 := ⟨k - 3, by omega⟩
    have hlt : i < l.length := by omega
    obtain ⟨p0, p1, p2⟩ := hn l[i] (List.getElem_mem hlt)
    have hlast : aX (done ++ [cur]) (wrap64 (((done ++ [cur]).length : Nat) - 1 : Int)) = cur := by
      rw [eX (by simp <;> omega) (by simp <;> omega), show (((done ++ [cur]).length : Nat) - 1 : Int) = ((done.length : Nat) : Int) by simp, AO (by simp)]
      simp
    have hw : wrap64 (((done ++ [cur]).length : Nat) - 1 : Int) = (done.length : Int) := by rw [eX (by simp <;> omega) (by simp <;> omega)]; simp
    have hlen : (((done ++ [cur]).length : Nat) : Int) = (done.length : Int) + 1 := by simp
    rw [scale_widen_int64.l0]
    rw [if_pos (by omega), if_pos (by omega), if_pos (by omega), AO hlt, sH _ _ _ p0]
    simp only [Option.bind_some]
    rw [if_pos (by rw [hlen]; omega), hlast, hw, if_pos (by omega), if_pos (by rw [hlen]; omega)]
    rw [List.drop_eq_getElem_cons hlt]
    generalize l[i] = p at *
    simp only [scale_widen_int64.j1, qc]
    by_cases he : dW p.f0 s = cur.f0
    · rw [if_pos (by simp [he]), if_pos he, hw, if_pos (by omega), if_pos (by rw [hlen]; omega)]
      rw [show aX (done ++ [cur]) (done.length : Int) = cur from by rw [AO (by simp)]; simp]
      simp only [scale_whole.f, Option.bind_some]
      by_cases ho : cur.f1 + p.f1 ≤ 9223372036854775807
      · rw [eX (x := 9223372036854775807 - p.f1) (by omega) (by omega), if_pos (by simp <;> omega), eX (x := cur.f1 + p.f1) (by omega) (by omega), if_pos ho, wrap_succ (by omega)]
        rw [show (done ++ [cur]).set ((done.length : Int)).toNat ⟨cur.f0, cur.f1 + p.f1⟩ = done ++ [⟨cur.f0, cur.f1 + p.f1⟩] from by rw [Int.toNat_natCast]; simp]
        exact ih (k + 1) (i + 1) done _ (by omega) (by omega) (by omega) (by omega) (by show 0 ≤ cur.f1 + p.f1; omega) ho
      · rw [eX (x := 9223372036854775807 - p.f1) (by omega) (by omega), if_neg (by simp <;> omega), if_neg ho]
    · rw [if_neg (by simp; intro h; exact he h.symm), if_neg he, if_pos (by simp <;> omega), wrap_succ (by omega)]
      rw [ih (k + 1) (i + 1) (done ++ [cur]) ⟨dW p.f0 s, p.f1⟩ (by omega) (by omega) (by omega) (by simp <;> omega) p1 p2]
      cases qc s ⟨dW p.f0 s, p.f1⟩ (l.drop (i + 1)) with
      | none => rfl
      | some r => simp
theorem UL (s : Int) (l : List Pr) (hl : l.length < 4398046511104) (hn : Sm l) (k : Nat) (hk : 2 * l.length + 4 < k) : scale_widen_int64.f k l s = some (mX s l) := by
  unfold scale_widen_int64.f mX
  obtain ⟨k, rfl⟩ : ∃ m, k = m + 1 + 1 + 1 := ⟨k - 3, by omega⟩
  cases l with
  | nil => simp only [scale_widen_int64.l0]; rfl
  | cons p t =>
    rw [scale_widen_int64.l0, if_pos (by simp <;> omega), if_pos (by omega), if_pos (by simp <;> omega)]
    obtain ⟨p0, p1, p2⟩ := hn p (by simp)
    have hr : aX (p :: t) 0 = p := rfl
    rw [hr, sH _ _ _ p0]
    simp only [Option.bind_some]
    rw [if_neg (by simp)]
    simp only [scale_widen_int64.j1]
    rw [if_neg (by simp), if_pos (by simp), show wrap64 (0 + 1) = ((1 : Nat) : Int) from by unfold wrap64; omega]
    have := NC s (p :: t) hl hn t.length (k + 1) 1 [] ⟨dW p.f0 s, p.f1⟩ (by simp) (by simp at hk; omega) (by simp) (by simp) p1 p2
    rw [List.nil_append] at this ⊢
    rw [this]
    rfl
theorem Ji {i s B : Int} (hB : 0 ≤ B) (h0 : -B ≤ i) (h1 : i ≤ B) : -B ≤ dW i s ∧ dW i s ≤ B := by
 unfold dW
 by_cases h : s < 0 ∨ s > 62
 ·rw [if_pos h]; exact ⟨h0, h1⟩
 rw [if_neg h]
 have hD : (0 : Int) < 2 ^ s.toNat := Int.pow_pos (by decide)
 generalize (2 : Int) ^ s.toNat = D at *
 have e := Int.mul_ediv_add_emod (-i) D
 have m0 := Int.emod_nonneg (-i) (by omega : D ≠ 0)
 have m1 := Int.emod_lt_of_pos (-i) hD
 generalize (-i) / D = q at *
 have a1 : q ≤ B := by
  rcases Int.le_total q 0 with hq | hq
  ·omega
  ·have := Int.mul_le_mul_of_nonneg_right (a := 1) (b := D) (c := q) (by omega) hq
   omega
 have a2 : -B ≤ q := by
  rcases Int.le_total 0 (q + 1) with hq | hq
  ·rcases Int.lt_or_le (q + 1) 1 with h2 | h2
   ·obtain rfl : q = -1 := by omega
    rw [Int.mul_neg, Int.mul_one] at e
    omega
   ·omega
  ·have := Int.mul_le_mul_of_nonneg_right (a := 1) (b := D) (c := -(q + 1)) (by omega) (by omega)
   rw [Int.one_mul, Int.mul_neg, Int.mul_add, Int.mul_one] at this
   omega
 omega
theorem yR (p : Pr) (l : List Pr) : rY (p :: l) = p.f1 + rY l := by simp [rY]
theorem Bd (s : Int) : ∀ (l : List Pr) (cur : Pr) (r : List Pr), qc s cur l = some r → (∀ p ∈ l, 0 ≤ p.f1 ∧ p.f1 ≤ 9223372036854775807) → 0 ≤ cur.f1 → cur.f1 ≤ 9223372036854775807 →
    r.length ≤ l.length + 1 ∧ rY r = cur.f1 + rY l ∧ (∀ p ∈ r, 0 ≤ p.f1 ∧ p.f1 ≤ 9223372036854775807) ∧ (∀ p ∈ r, p.f0 = cur.f0 ∨ ∃ q ∈ l, p.f0 = dW q.f0 s) := by
  intro l
  induction l with
  | nil =>
    intro cur r h hn h0 h1
    cases h
    refine ⟨by simp, by simp [rY], fun p hp => ?_, fun p hp => ?_⟩
    · obtain rfl : p = cur := by simpa using hp
      exact ⟨h0, h1⟩
    · obtain rfl : p = cur := by simpa using hp
      exact .inl rfl
  | cons p t ih =>
    intro cur r h hn h0 h1
    have hp := hn p (by simp)
    have hn' : ∀ q ∈ t, 0 ≤ q.f1 ∧ q.f1 ≤ 9223372036854775807 := fun q hq => hn q (List.mem_cons_of_mem _ hq)
    simp only [qc] at h
    split at h
    · rename_i he
      split at h
      · rename_i ho
        obtain ⟨a, b, c, d⟩ := ih _ _ h hn' (by show 0 ≤ cur.f1 + p.f1; omega) ho
        refine ⟨by simp; omega, by rw [b, yR]; simp only; omega, c, fun q hq => ?_⟩
        rcases d q hq with d | ⟨q', hq', d⟩
        · exact .inl d
        · exact .inr ⟨q', List.mem_cons_of_mem _ hq', d⟩
      · cases h
    · cases hr : qc s ⟨dW p.f0 s, p.f1⟩ t with
      | none => rw [hr] at h; cases h
      | some r' =>
        rw [hr] at h
        cases h
        obtain ⟨a, b, c, d⟩ := ih _ _ hr hn' hp.1 hp.2
        refine ⟨by simp; omega, by rw [yR, b, yR], fun q hq => ?_, fun q hq => ?_⟩
        · rcases List.mem_cons.1 hq with rfl | hq
          · exact ⟨h0, h1⟩
          · exact c q hq
        · rcases List.mem_cons.1 hq with rfl | hq
          · exact .inl rfl
          · rcases d q hq with d | ⟨q', hq', d⟩
            · exact .inr ⟨p, by simp, d⟩
            · exact .inr ⟨q', List.mem_cons_of_mem _ hq', d⟩
theorem KX (s : Int) : ∀ (l : List Pr) (cur : Pr) (r : List Pr), qc s cur l = some r → DI (fun p : Pr => p.f0) l → (∀ q ∈ l, cur.f0 ≤ dW q.f0 s) → (∀ p ∈ l, 0 ≤ p.f1 ∧ p.f1 ≤ 9223372036854775807) → 0 ≤ cur.f1 → cur.f1 ≤ 9223372036854775807 → DI (fun p : Pr => p.f0) r := by
  intro l
  induction l with
  | nil => intro cur r h _ _ _ _ _; cases h; exact List.pairwise_cons.2 ⟨fun y hy => by simp at hy, List.Pairwise.nil⟩
  | cons p t ih =>
    intro cur r h hu hle hn h0 h1
    have hp := hn p (by simp)
    have hn' : ∀ q ∈ t, 0 ≤ q.f1 ∧ q.f1 ≤ 9223372036854775807 := fun q hq => hn q (List.mem_cons_of_mem _ hq)
    simp only [qc] at h
    split at h
    · rename_i he
      split at h
      · rename_i ho
        exact ih _ _ h hu.tail (fun q hq => hle q (List.mem_cons_of_mem _ hq)) hn' (by show 0 ≤ cur.f1 + p.f1; omega) ho
      · cases h
    · rename_i he
      cases hr : qc s ⟨dW p.f0 s, p.f1⟩ t with
      | none => rw [hr] at h; cases h
      | some r' =>
        rw [hr] at h
        cases h
        have hm : ∀ q ∈ t, dW p.f0 s ≤ dW q.f0 s := fun q hq => wH (Int.le_of_lt (hu.head q hq))
        have := ih _ _ hr hu.tail hm hn' hp.1 hp.2
        refine List.pairwise_cons.2 ⟨fun y hy => ?_, this⟩
        have hlt : cur.f0 < dW p.f0 s := by have := hle p (by simp); omega
        obtain ⟨_, _, _, d⟩ := Bd s _ _ _ hr hn' hp.1 hp.2
        rcases d y hy with d | ⟨q', hq', d⟩
        · show cur.f0 < y.f0; rw [d]; exact hlt
        · have := hm q' hq'
          show cur.f0 < y.f0; omega
theorem Hr {s : Int} {l r : List Pr} (h : RowOK l) (hr : zJ s l = some r) : RowOK r ∧ r.length ≤ l.length ∧ rY r = rY l ∧ ∀ p ∈ r, ∃ q ∈ l, p.f0 = dW q.f0 s := by
  have hc : ∀ q ∈ l, 0 ≤ q.f1 ∧ q.f1 ≤ 9223372036854775807 := fun q hq => (h.cnt q hq).2
  cases l with
  | nil => cases hr; exact ⟨RowOK.nil, by simp, rfl, fun p hp => by simp at hp⟩
  | cons p t =>
    have hp := hc p (by simp)
    have hn : ∀ q ∈ t, 0 ≤ q.f1 ∧ q.f1 ≤ 9223372036854775807 := fun q hq => hc q (List.mem_cons_of_mem _ hq)
    obtain ⟨a, b, c, d⟩ := Bd s t _ r hr hn hp.1 hp.2
    have hu := KX s t _ r hr h.ups.tail (fun q hq => wH (Int.le_of_lt (h.ups.head q hq))) hn hp.1 hp.2
    have d' : ∀ q ∈ r, ∃ q' ∈ p :: t, q.f0 = dW q'.f0 s := fun q hq => by
      rcases d q hq with d | ⟨q', hq', d⟩
      · exact ⟨p, by simp, d⟩
      · exact ⟨q', List.mem_cons_of_mem _ hq', d⟩
    have hl : r.length ≤ (p :: t).length := by simp; omega
    refine ⟨⟨⟨fun q hq => ⟨?_, ?_⟩, Nat.lt_of_le_of_lt hl h.wf.2⟩, Nat.le_trans hl h.len, fun q hq => ⟨?_, c q hq⟩, hu⟩, hl, by rw [b, yR], d'⟩
    · obtain ⟨q', hq', e⟩ := d' q hq
      rw [e]; exact wG (h.wf.1 q' hq').1
    · have := c q hq
      unfold i64; omega
    · obtain ⟨q', hq', e⟩ := d' q hq
      rw [e]; exact wG (h.wf.1 q' hq').1
def PW (h : Hi) (tt : Int) : Hi := ⟨tt, h.f1, h.f2, h.f3, h.f4, h.f5, h.f6, h.f7, h.f8⟩
def CB (h : Hi) (tt : Int) : Hi × Int :=
 if qM h ≠ 0 then (xO, qM h) else if tt < -4 ∨ tt > h.f0 then (xO, 21)
 else match zJ (h.f0 - tt) (lK h).1, zJ (h.f0 - tt) (lK h).2.1 with
  | some p, some n => EG (PW h tt) (EK p) (EK n)
  | _, _ => (xO, 28)
theorem Xi {l : List Pr} (h : RowOK l) : Sm l := h.cnt
theorem EX (s : Int) {l : List Pr} (h : RowOK l) : RowOK (mX s l).1 ∧ (mX s l).1.length ≤ l.length := by
 unfold mX
 cases hr : zJ s l with
 | none => exact ⟨RowOK.nil, by simp⟩
 | some r => exact ⟨(Hr h hr).1, (Hr h hr).2.1⟩
theorem Gn {h : Hi} (hc : qM h = 0) : -4 ≤ h.f0 ∧ h.f0 ≤ 8 := by
 unfold qM lK AU at hc
 split at hc
 ·cases hc
 ·omega
theorem Dp {W : World} {g g' : Nat} {o : Obj} (h : W.heap[g]? = some o) (hne : g ≠ g') (j : Nat) (u : Value) : (W.setCell ⟨g', j, none⟩ u).heap[g]? = some o := (Below.heap_setCell W ⟨g', j, none⟩ u g hne).trans h
theorem rD.Qn {w : World} {g : Nat} {cs : Array Value} {t : TypeId} (h : rD w g cs t) : g + 1 ≤ w.heap.size := jX h
def FJ {α : Type} (d : Kd α) (base : Nat) (w : World) (v : Value) (l : List α) : Prop := FI d base w v l
theorem FJ.below {α : Type} {d : Kd α} {base : Nat} {w w' : World} {v : Value} {l : List α} (h : FJ d base w v l) (hb : Below w.heap.size w w') : FJ d base w' v l := FI.step h (KA.below hb)
theorem FJ.step {α : Type} {d : Kd α} {base : Nat} {w w' : World} {v : Value} {l : List α} (h : FJ d base w v l) (k : KA base w w') : FJ d base w' v l := FI.step h k
theorem FJ.now {α : Type} {d : Kd α} {base : Nat} {w : World} {v : Value} {l : List α} (h : FJ d base w v l) : SI d w v l := FI.now h
theorem OL (base : Nat) (s : Int) (l : List Pr) (hr : RowOK l) (w : World) (v : Value) (hv : SI kPr w v l) (hbase : base ≤ w.heap.size) : Calls Try.prog 80 #[v, .int .i64 s, .func (.func 81) #[] #[]] w fun e w' =>
  ∃ v0, e = .returned (.tuple #[v0, .bool (mX s l).2]) ∧ FJ kPr base w' v0 (mX s l).1 ∧ Below w.heap.size w w' := by
 obtain ⟨A, c, rfl, hc, hr'⟩ := hv
 have hl := hr.wf.2
 refine (scale_widen_int64.calls (2 * l.length + 5) A c l s (mX s l).1 (mX s l).2 w hr' hc (UL s l hl (Xi hr) _ (by omega))).mono ?_
 rintro e w1 ⟨v0, rfl, h0, hb⟩
 exact ⟨v0, rfl, FI.rC h0 hbase, hb⟩
set_option maxHeartbeats 16000000 in
set_option maxRecDepth 100000 in
theorem EY (h : Hi) (hw : Ql h) (tt : Int) (ht : i64 tt) (w : World) (v : Value) (hv : HI w v h) : Calls Try.prog 27 #[v, .int .i64 tt] w fun e w' =>
    ∃ v', e = .returned (.tuple #[v', .int .i64 (CB h tt).2]) ∧ HF w.heap.size w' v' (CB h tt).1 ∧ Below w.heap.size w w' := by
  have hu := Try.underlying29
  obtain ⟨A5, c5, A6, c6, A7, c7, A8, c8, e, s5, s6, s7, s8⟩ := hv.open_
  subst e
  have HV := ah hv
  have p0 := OG h hw 0
  have p1 := OG h hw 1
  have ND := (Hq hw).1
  have NG := (Hq hw).2
  rw [show zG h 0 = ((lK h).1, qM h) from by unfold zG; rw [if_pos rfl]; rfl] at p0
  rw [show zG h 1 = ((lK h).2.1, qM h) from by unfold zG; rw [if_neg (by decide), if_pos rfl]; rfl] at p1
  unfold CB
  generalize hce : qM h = ce at *
  by_cases c0 : ce = 0
  rotate_left
  · rw [if_pos c0]
    have c0a : (ce != 0) = true := bne_iff_ne.2 c0
    simp only at p0
    have P0 := ah p0
    clear c0 hce p0 p1 ND NG hv hw
    have X := ah ((rD.new w #[.int .i64 h.f0, .int .u64 h.f1, .int .u64 h.f2, .int .u64 h.f3, .int .u64 h.f4, .slice A5 h.f5.length c5, .slice A6 h.f6.length c6, .slice A7 h.f7.length c7, .slice A8 h.f8.length c8] 29).alloc (.cells #[.int .i64 0, .int .u64 0, .int .u64 0, .int .u64 0, .int .u64 0, .slice none 0 0, .slice none 0 0, .slice none 0 0, .slice none 0 0] 29)); have hx := fun i => X.out.cell i; have zx := fun i => aC X.out i
    have Y := ah (rD.RV (w := w) (.cells #[.int .i64 h.f0, .int .u64 h.f1, .int .u64 h.f2, .int .u64 h.f3, .int .u64 h.f4, .slice A5 h.f5.length c5, .slice A6 h.f6.length c6, .slice A7 h.f7.length c7, .slice A8 h.f8.length c8] 29) #[.int .i64 0, .int .u64 0, .int .u64 0, .int .u64 0, .int .u64 0, .slice none 0 0, .slice none 0 0, .slice none 0 0, .slice none 0 0] 29); have hy := fun i => Y.out.cell i; have zy := fun i => aC Y.out i
    have B := ah (ak (ak (Below.refl w.heap.size w) (.cells #[.int .i64 h.f0, .int .u64 h.f1, .int .u64 h.f2, .int .u64 h.f3, .int .u64 h.f4, .slice A5 h.f5.length c5, .slice A6 h.f6.length c6, .slice A7 h.f7.length c7, .slice A8 h.f8.length c8] 29)) (.cells #[.int .i64 0, .int .u64 0, .int .u64 0, .int .u64 0, .int .u64 0, .slice none 0 0, .slice none 0 0, .slice none 0 0, .slice none 0 0] 29))
    replace HV := ah ((HV.out.below (ak (Below.refl _ _) (.cells #[.int .i64 h.f0, .int .u64 h.f1, .int .u64 h.f2, .int .u64 h.f3, .int .u64 h.f4, .slice A5 h.f5.length c5, .slice A6 h.f6.length c6, .slice A7 h.f7.length c7, .slice A8 h.f8.length c8] 29))).below (ak (Below.refl _ _) (.cells #[.int .i64 0, .int .u64 0, .int .u64 0, .int .u64 0, .int .u64 0, .slice none 0 0, .slice none 0 0, .slice none 0 0, .slice none 0 0] 29)))
    go_enter Try.func27, Try.ntmps27
    go_wp2_with (first | (go_at_call 78; (with_reducible refine (P0.out _ _ HV.out).mono ?_); rintro e W1 ⟨v0, rfl, hs, hb⟩; replace B := ah (aG B.out B.out.size hb); replace HV := ah (HV.out.below hb); replace X := ah (X.out.below hb); replace hx := fun i => X.out.cell i; replace zx := fun i => aC X.out i; replace Y := ah (Y.out.below hb); replace hy := fun i => Y.out.cell i; replace zy := fun i => aC Y.out i; have S0 := ah hs; clear P0 hs hb))
    refine bodyPost_ret (gu rfl _ _ (w.heap.size + 1) 29 #[.int .i64 0, .int .u64 0, .int .u64 0, .int .u64 0, .int .u64 0, .slice none 0 0, .slice none 0 0, .slice none 0 0, .slice none 0 0] (0, 0) _ rfl (nine Y.out _ _ _ _ _ _ _ _ _) Try.underlying29 rfl (by kernel_rfl)) rfl ?_
    exact ⟨_, rfl, HF.empty _ _, jd B.out (by omega) _ _ _ _ _ _ _ _ _⟩
  rw [if_neg (by simp [c0])]
  have hs := Gn (show qM h = 0 by rw [hce]; exact c0)
  subst c0
  have sw : scale_wrong.f h.f0 tt = some (decide (tt < -4 ∨ tt > h.f0)) := by
    unfold scale_wrong.f
    by_cases c1 : tt < -4
    · rw [if_pos c1]; simp [c1]
    · rw [if_neg c1]; simp [c1]
  have wr : ∀ w : World, Calls Try.prog 79 #[.int .i64 h.f0, .int .i64 tt] w fun e w' => e = .returned (.bool (decide (tt < -4 ∨ tt > h.f0))) ∧ Below w.heap.size w w' := fun w => (scale_wrong.calls h.f0 tt _ w sw).mono fun e w1 h => ⟨h.1, h.2.below⟩
  have P0 := ah p0
  have P1 := ah p1
  clear hce p0 p1 hv
  by_cases c1 : tt < -4 ∨ tt > h.f0
  · rw [if_pos c1]
    rw [ahG c1] at wr
    have WR := ah wr
    clear c1 wr sw hs hw ND NG ht
    have X := ah ((rD.new w #[.int .i64 h.f0, .int .u64 h.f1, .int .u64 h.f2, .int .u64 h.f3, .int .u64 h.f4, .slice A5 h.f5.length c5, .slice A6 h.f6.length c6, .slice A7 h.f7.length c7, .slice A8 h.f8.length c8] 29).alloc (.cells #[.int .i64 0, .int .u64 0, .int .u64 0, .int .u64 0, .int .u64 0, .slice none 0 0, .slice none 0 0, .slice none 0 0, .slice none 0 0] 29)); have hx := fun i => X.out.cell i; have zx := fun i => aC X.out i
    have Y := ah (rD.RV (w := w) (.cells #[.int .i64 h.f0, .int .u64 h.f1, .int .u64 h.f2, .int .u64 h.f3, .int .u64 h.f4, .slice A5 h.f5.length c5, .slice A6 h.f6.length c6, .slice A7 h.f7.length c7, .slice A8 h.f8.length c8] 29) #[.int .i64 0, .int .u64 0, .int .u64 0, .int .u64 0, .int .u64 0, .slice none 0 0, .slice none 0 0, .slice none 0 0, .slice none 0 0] 29); have hy := fun i => Y.out.cell i; have zy := fun i => aC Y.out i
    have B := ah (ak (ak (Below.refl w.heap.size w) (.cells #[.int .i64 h.f0, .int .u64 h.f1, .int .u64 h.f2, .int .u64 h.f3, .int .u64 h.f4, .slice A5 h.f5.length c5, .slice A6 h.f6.length c6, .slice A7 h.f7.length c7, .slice A8 h.f8.length c8] 29)) (.cells #[.int .i64 0, .int .u64 0, .int .u64 0, .int .u64 0, .int .u64 0, .slice none 0 0, .slice none 0 0, .slice none 0 0, .slice none 0 0] 29))
    replace HV := ah ((HV.out.below (ak (Below.refl _ _) (.cells #[.int .i64 h.f0, .int .u64 h.f1, .int .u64 h.f2, .int .u64 h.f3, .int .u64 h.f4, .slice A5 h.f5.length c5, .slice A6 h.f6.length c6, .slice A7 h.f7.length c7, .slice A8 h.f8.length c8] 29))).below (ak (Below.refl _ _) (.cells #[.int .i64 0, .int .u64 0, .int .u64 0, .int .u64 0, .int .u64 0, .slice none 0 0, .slice none 0 0, .slice none 0 0, .slice none 0 0] 29)))
    go_enter Try.func27, Try.ntmps27
    go_wp2_with (first | (go_at_call 78; (with_reducible refine (P0.out _ _ HV.out).mono ?_); rintro e W1 ⟨v0, rfl, hs, hb⟩; replace B := ah (aG B.out B.out.size hb); replace HV := ah (HV.out.below hb); replace X := ah (X.out.below hb); replace hx := fun i => X.out.cell i; replace zx := fun i => aC X.out i; replace Y := ah (Y.out.below hb); replace hy := fun i => Y.out.cell i; replace zy := fun i => aC Y.out i; have S0 := ah hs; clear P0 hs hb) | (go_at_call 78; (with_reducible refine (P1.out _ _ HV.out).mono ?_); rintro e W2 ⟨v1, rfl, hs, hb⟩; replace B := ah (aG B.out B.out.size hb); replace HV := ah (HV.out.below hb); replace S0 := ah (S0.out.below hb); replace X := ah (X.out.below hb); replace hx := fun i => X.out.cell i; replace zx := fun i => aC X.out i; replace Y := ah (Y.out.below hb); replace hy := fun i => Y.out.cell i; replace zy := fun i => aC Y.out i; have S1 := ah hs; clear P1 hs hb) | (go_at_call 79; (with_reducible refine (WR.out _).mono ?_); rintro e W3 ⟨rfl, hb⟩; replace B := ah (aG B.out B.out.size hb); replace HV := ah (HV.out.below hb); replace S0 := ah (S0.out.below hb); replace S1 := ah (S1.out.below hb); replace X := ah (X.out.below hb); replace hx := fun i => X.out.cell i; replace zx := fun i => aC X.out i; replace Y := ah (Y.out.below hb); replace hy := fun i => Y.out.cell i; replace zy := fun i => aC Y.out i; clear  hb))
    refine bodyPost_ret (gu rfl _ _ (w.heap.size + 1) 29 #[.int .i64 0, .int .u64 0, .int .u64 0, .int .u64 0, .int .u64 0, .slice none 0 0, .slice none 0 0, .slice none 0 0, .slice none 0 0] (0, 0) _ rfl (nine Y.out _ _ _ _ _ _ _ _ _) Try.underlying29 rfl (by kernel_rfl)) rfl ?_
    exact ⟨_, rfl, HF.empty _ _, jd B.out (by omega) _ _ _ _ _ _ _ _ _⟩
  rw [if_neg c1]
  rw [ahH c1] at wr
  have WR := ah wr
  obtain ⟨dd, hdd⟩ : ∃ dd, dd = h.f0 - tt := ⟨_, rfl⟩
  have hd : IntKind.i64.wrap (h.f0 - tt) = dd := by rw [bI, hdd]; exact eX (by omega) (by omega)
  rw [← hdd]
  have hwl : Ql (PW h tt) := by
    obtain ⟨_, w⟩ := hw
    exact ⟨ht, w⟩
  have q0 := OL (w.heap.size + 1 + 1) dd (lK h).1 ND
  have q1 := OL (w.heap.size + 1 + 1) dd (lK h).2.1 NG
  have ok0 := EX dd ND
  have ok1 := EX dd NG
  clear wr sw hs hw
  cases hA : zJ dd (lK h).1 with
  | none =>
    rw [show mX dd (lK h).1 = ([], false) from by unfold mX; rw [hA]] at q0
    generalize mX dd (lK h).2.1 = b1 at q1
    simp only at q0 ⊢
    have Q0 := ah q0
    have Q1 := ah q1
    clear q0 q1 ok0 ok1 ND NG hwl ht c1 hdd hA
    have X := ah ((rD.new w #[.int .i64 h.f0, .int .u64 h.f1, .int .u64 h.f2, .int .u64 h.f3, .int .u64 h.f4, .slice A5 h.f5.length c5, .slice A6 h.f6.length c6, .slice A7 h.f7.length c7, .slice A8 h.f8.length c8] 29).alloc (.cells #[.int .i64 0, .int .u64 0, .int .u64 0, .int .u64 0, .int .u64 0, .slice none 0 0, .slice none 0 0, .slice none 0 0, .slice none 0 0] 29)); have hx := fun i => X.out.cell i; have zx := fun i => aC X.out i
    have Y := ah (rD.RV (w := w) (.cells #[.int .i64 h.f0, .int .u64 h.f1, .int .u64 h.f2, .int .u64 h.f3, .int .u64 h.f4, .slice A5 h.f5.length c5, .slice A6 h.f6.length c6, .slice A7 h.f7.length c7, .slice A8 h.f8.length c8] 29) #[.int .i64 0, .int .u64 0, .int .u64 0, .int .u64 0, .int .u64 0, .slice none 0 0, .slice none 0 0, .slice none 0 0, .slice none 0 0] 29); have hy := fun i => Y.out.cell i; have zy := fun i => aC Y.out i
    have B := ah (ak (ak (Below.refl w.heap.size w) (.cells #[.int .i64 h.f0, .int .u64 h.f1, .int .u64 h.f2, .int .u64 h.f3, .int .u64 h.f4, .slice A5 h.f5.length c5, .slice A6 h.f6.length c6, .slice A7 h.f7.length c7, .slice A8 h.f8.length c8] 29)) (.cells #[.int .i64 0, .int .u64 0, .int .u64 0, .int .u64 0, .int .u64 0, .slice none 0 0, .slice none 0 0, .slice none 0 0, .slice none 0 0] 29))
    replace HV := ah ((HV.out.below (ak (Below.refl _ _) (.cells #[.int .i64 h.f0, .int .u64 h.f1, .int .u64 h.f2, .int .u64 h.f3, .int .u64 h.f4, .slice A5 h.f5.length c5, .slice A6 h.f6.length c6, .slice A7 h.f7.length c7, .slice A8 h.f8.length c8] 29))).below (ak (Below.refl _ _) (.cells #[.int .i64 0, .int .u64 0, .int .u64 0, .int .u64 0, .int .u64 0, .slice none 0 0, .slice none 0 0, .slice none 0 0, .slice none 0 0] 29)))
    go_enter Try.func27, Try.ntmps27
    go_wp2_with (first | (go_at_call 78; (with_reducible refine (P0.out _ _ HV.out).mono ?_); rintro e W1 ⟨v0, rfl, hs, hb⟩; replace B := ah (aG B.out B.out.size hb); replace HV := ah (HV.out.below hb); replace X := ah (X.out.below hb); replace hx := fun i => X.out.cell i; replace zx := fun i => aC X.out i; replace Y := ah (Y.out.below hb); replace hy := fun i => Y.out.cell i; replace zy := fun i => aC Y.out i; have S0 := ah hs; clear P0 hs hb) | (go_at_call 78; (with_reducible refine (P1.out _ _ HV.out).mono ?_); rintro e W2 ⟨v1, rfl, hs, hb⟩; replace B := ah (aG B.out B.out.size hb); replace HV := ah (HV.out.below hb); replace S0 := ah (S0.out.below hb); replace X := ah (X.out.below hb); replace hx := fun i => X.out.cell i; replace zx := fun i => aC X.out i; replace Y := ah (Y.out.below hb); replace hy := fun i => Y.out.cell i; replace zy := fun i => aC Y.out i; have S1 := ah hs; clear P1 hs hb) | (go_at_call 79; (with_reducible refine (WR.out _).mono ?_); rintro e W3 ⟨rfl, hb⟩; replace B := ah (aG B.out B.out.size hb); replace HV := ah (HV.out.below hb); replace S0 := ah (S0.out.below hb); replace S1 := ah (S1.out.below hb); replace X := ah (X.out.below hb); replace hx := fun i => X.out.cell i; replace zx := fun i => aC X.out i; replace Y := ah (Y.out.below hb); replace hy := fun i => Y.out.cell i; replace zy := fun i => aC Y.out i; clear  hb) | (go_at_call 80; (with_reducible refine (Q0.out _ _ S0.out Y.out.Qn).mono ?_); rintro e W4 ⟨u0, rfl, hs, hb⟩; replace B := ah (aG B.out B.out.size hb); replace HV := ah (HV.out.below hb); replace S0 := ah (S0.out.below hb); replace S1 := ah (S1.out.below hb); replace X := ah (X.out.below hb); replace hx := fun i => X.out.cell i; replace zx := fun i => aC X.out i; replace Y := ah (Y.out.below hb); replace hy := fun i => Y.out.cell i; replace zy := fun i => aC Y.out i; have U0 := ah hs; clear Q0 hs hb) | (go_at_call 80; (with_reducible refine (Q1.out _ _ S1.out Y.out.Qn).mono ?_); rintro e W5 ⟨u1, rfl, hs, hb⟩; replace B := ah (aG B.out B.out.size hb); replace HV := ah (HV.out.below hb); replace S0 := ah (S0.out.below hb); replace S1 := ah (S1.out.below hb); replace U0 := ah (U0.out.below hb); replace X := ah (X.out.below hb); replace hx := fun i => X.out.cell i; replace zx := fun i => aC X.out i; replace Y := ah (Y.out.below hb); replace hy := fun i => Y.out.cell i; replace zy := fun i => aC Y.out i; have U1 := ah hs; clear Q1 hs hb))
    refine bodyPost_ret (gu rfl _ _ (w.heap.size + 1) 29 #[.int .i64 0, .int .u64 0, .int .u64 0, .int .u64 0, .int .u64 0, .slice none 0 0, .slice none 0 0, .slice none 0 0, .slice none 0 0] (0, 0) _ rfl (nine Y.out _ _ _ _ _ _ _ _ _) Try.underlying29 rfl (by kernel_rfl)) rfl ?_
    exact ⟨_, rfl, HF.empty _ _, jd B.out (by omega) _ _ _ _ _ _ _ _ _⟩
  | some p =>
  rw [show mX dd (lK h).1 = (p, true) from by unfold mX; rw [hA]] at q0 ok0
  cases hB : zJ dd (lK h).2.1 with
  | none =>
    rw [show mX dd (lK h).2.1 = ([], false) from by unfold mX; rw [hB]] at q1
    simp only at q0 q1 ⊢
    have Q0 := ah q0
    have Q1 := ah q1
    clear q0 q1 ok0 ok1 ND NG hwl ht c1 hdd hA hB
    have X := ah ((rD.new w #[.int .i64 h.f0, .int .u64 h.f1, .int .u64 h.f2, .int .u64 h.f3, .int .u64 h.f4, .slice A5 h.f5.length c5, .slice A6 h.f6.length c6, .slice A7 h.f7.length c7, .slice A8 h.f8.length c8] 29).alloc (.cells #[.int .i64 0, .int .u64 0, .int .u64 0, .int .u64 0, .int .u64 0, .slice none 0 0, .slice none 0 0, .slice none 0 0, .slice none 0 0] 29)); have hx := fun i => X.out.cell i; have zx := fun i => aC X.out i
    have Y := ah (rD.RV (w := w) (.cells #[.int .i64 h.f0, .int .u64 h.f1, .int .u64 h.f2, .int .u64 h.f3, .int .u64 h.f4, .slice A5 h.f5.length c5, .slice A6 h.f6.length c6, .slice A7 h.f7.length c7, .slice A8 h.f8.length c8] 29) #[.int .i64 0, .int .u64 0, .int .u64 0, .int .u64 0, .int .u64 0, .slice none 0 0, .slice none 0 0, .slice none 0 0, .slice none 0 0] 29); have hy := fun i => Y.out.cell i; have zy := fun i => aC Y.out i
    have B := ah (ak (ak (Below.refl w.heap.size w) (.cells #[.int .i64 h.f0, .int .u64 h.f1, .int .u64 h.f2, .int .u64 h.f3, .int .u64 h.f4, .slice A5 h.f5.length c5, .slice A6 h.f6.length c6, .slice A7 h.f7.length c7, .slice A8 h.f8.length c8] 29)) (.cells #[.int .i64 0, .int .u64 0, .int .u64 0, .int .u64 0, .int .u64 0, .slice none 0 0, .slice none 0 0, .slice none 0 0, .slice none 0 0] 29))
    replace HV := ah ((HV.out.below (ak (Below.refl _ _) (.cells #[.int .i64 h.f0, .int .u64 h.f1, .int .u64 h.f2, .int .u64 h.f3, .int .u64 h.f4, .slice A5 h.f5.length c5, .slice A6 h.f6.length c6, .slice A7 h.f7.length c7, .slice A8 h.f8.length c8] 29))).below (ak (Below.refl _ _) (.cells #[.int .i64 0, .int .u64 0, .int .u64 0, .int .u64 0, .int .u64 0, .slice none 0 0, .slice none 0 0, .slice none 0 0, .slice none 0 0] 29)))
    go_enter Try.func27, Try.ntmps27
    go_wp2_with (first | (go_at_call 78; (with_reducible refine (P0.out _ _ HV.out).mono ?_); rintro e W1 ⟨v0, rfl, hs, hb⟩; replace B := ah (aG B.out B.out.size hb); replace HV := ah (HV.out.below hb); replace X := ah (X.out.below hb); replace hx := fun i => X.out.cell i; replace zx := fun i => aC X.out i; replace Y := ah (Y.out.below hb); replace hy := fun i => Y.out.cell i; replace zy := fun i => aC Y.out i; have S0 := ah hs; clear P0 hs hb) | (go_at_call 78; (with_reducible refine (P1.out _ _ HV.out).mono ?_); rintro e W2 ⟨v1, rfl, hs, hb⟩; replace B := ah (aG B.out B.out.size hb); replace HV := ah (HV.out.below hb); replace S0 := ah (S0.out.below hb); replace X := ah (X.out.below hb); replace hx := fun i => X.out.cell i; replace zx := fun i => aC X.out i; replace Y := ah (Y.out.below hb); replace hy := fun i => Y.out.cell i; replace zy := fun i => aC Y.out i; have S1 := ah hs; clear P1 hs hb) | (go_at_call 79; (with_reducible refine (WR.out _).mono ?_); rintro e W3 ⟨rfl, hb⟩; replace B := ah (aG B.out B.out.size hb); replace HV := ah (HV.out.below hb); replace S0 := ah (S0.out.below hb); replace S1 := ah (S1.out.below hb); replace X := ah (X.out.below hb); replace hx := fun i => X.out.cell i; replace zx := fun i => aC X.out i; replace Y := ah (Y.out.below hb); replace hy := fun i => Y.out.cell i; replace zy := fun i => aC Y.out i; clear  hb) | (go_at_call 80; (with_reducible refine (Q0.out _ _ S0.out Y.out.Qn).mono ?_); rintro e W4 ⟨u0, rfl, hs, hb⟩; replace B := ah (aG B.out B.out.size hb); replace HV := ah (HV.out.below hb); replace S0 := ah (S0.out.below hb); replace S1 := ah (S1.out.below hb); replace X := ah (X.out.below hb); replace hx := fun i => X.out.cell i; replace zx := fun i => aC X.out i; replace Y := ah (Y.out.below hb); replace hy := fun i => Y.out.cell i; replace zy := fun i => aC Y.out i; have U0 := ah hs; clear Q0 hs hb) | (go_at_call 80; (with_reducible refine (Q1.out _ _ S1.out Y.out.Qn).mono ?_); rintro e W5 ⟨u1, rfl, hs, hb⟩; replace B := ah (aG B.out B.out.size hb); replace HV := ah (HV.out.below hb); replace S0 := ah (S0.out.below hb); replace S1 := ah (S1.out.below hb); replace U0 := ah (U0.out.below hb); replace X := ah (X.out.below hb); replace hx := fun i => X.out.cell i; replace zx := fun i => aC X.out i; replace Y := ah (Y.out.below hb); replace hy := fun i => Y.out.cell i; replace zy := fun i => aC Y.out i; have U1 := ah hs; clear Q1 hs hb))
    refine bodyPost_ret (gu rfl _ _ (w.heap.size + 1) 29 #[.int .i64 0, .int .u64 0, .int .u64 0, .int .u64 0, .int .u64 0, .slice none 0 0, .slice none 0 0, .slice none 0 0, .slice none 0 0] (0, 0) _ rfl (nine Y.out _ _ _ _ _ _ _ _ _) Try.underlying29 rfl (by kernel_rfl)) rfl ?_
    exact ⟨_, rfl, HF.empty _ _, jd B.out (by omega) _ _ _ _ _ _ _ _ _⟩
  | some n =>
  rw [show mX dd (lK h).2.1 = (n, true) from by unfold mX; rw [hB]] at q1 ok1
  simp only at q0 q1 ok0 ok1 ⊢
  have h1 := Ho p (by have := ok0.1.len; omega)
  have h2 := Ho n (by have := ok1.1.len; omega)
  have hm := fun w v vp vn => Xg (PW h tt) hwl _ _ (KT ok0.1.wf) (KT ok1.1.wf) w v vp vn
  generalize EG (PW h tt) (EK p) (EK n) = mr at *
  obtain ⟨mh, me⟩ := mr
  simp only at hm ⊢
  have Q0 := ah q0
  have Q1 := ah q1
  have H1 := ah h1
  have H2 := ah h2
  have HM := ah hm
  clear q0 q1 ok0 ok1 ND NG hwl ht c1 h1 h2 hm hdd hA hB
  have X := ah ((rD.new w #[.int .i64 h.f0, .int .u64 h.f1, .int .u64 h.f2, .int .u64 h.f3, .int .u64 h.f4, .slice A5 h.f5.length c5, .slice A6 h.f6.length c6, .slice A7 h.f7.length c7, .slice A8 h.f8.length c8] 29).alloc (.cells #[.int .i64 0, .int .u64 0, .int .u64 0, .int .u64 0, .int .u64 0, .slice none 0 0, .slice none 0 0, .slice none 0 0, .slice none 0 0] 29)); have hx := fun i => X.out.cell i; have zx := fun i => aC X.out i
  have Y := ah (rD.RV (w := w) (.cells #[.int .i64 h.f0, .int .u64 h.f1, .int .u64 h.f2, .int .u64 h.f3, .int .u64 h.f4, .slice A5 h.f5.length c5, .slice A6 h.f6.length c6, .slice A7 h.f7.length c7, .slice A8 h.f8.length c8] 29) #[.int .i64 0, .int .u64 0, .int .u64 0, .int .u64 0, .int .u64 0, .slice none 0 0, .slice none 0 0, .slice none 0 0, .slice none 0 0] 29); have hy := fun i => Y.out.cell i; have zy := fun i => aC Y.out i
  have B := ah (ak (ak (Below.refl w.heap.size w) (.cells #[.int .i64 h.f0, .int .u64 h.f1, .int .u64 h.f2, .int .u64 h.f3, .int .u64 h.f4, .slice A5 h.f5.length c5, .slice A6 h.f6.length c6, .slice A7 h.f7.length c7, .slice A8 h.f8.length c8] 29)) (.cells #[.int .i64 0, .int .u64 0, .int .u64 0, .int .u64 0, .int .u64 0, .slice none 0 0, .slice none 0 0, .slice none 0 0, .slice none 0 0] 29))
  replace HV := ah ((HV.out.below (ak (Below.refl _ _) (.cells #[.int .i64 h.f0, .int .u64 h.f1, .int .u64 h.f2, .int .u64 h.f3, .int .u64 h.f4, .slice A5 h.f5.length c5, .slice A6 h.f6.length c6, .slice A7 h.f7.length c7, .slice A8 h.f8.length c8] 29))).below (ak (Below.refl _ _) (.cells #[.int .i64 0, .int .u64 0, .int .u64 0, .int .u64 0, .int .u64 0, .slice none 0 0, .slice none 0 0, .slice none 0 0, .slice none 0 0] 29)))
  go_enter Try.func27, Try.ntmps27
  go_upto_region 12 with (first | (go_at_call 78; (with_reducible refine (P0.out _ _ HV.out).mono ?_); rintro e W1 ⟨v0, rfl, hs, hb⟩; replace B := ah (aG B.out B.out.size hb); replace HV := ah (HV.out.below hb); replace X := ah (X.out.below hb); replace hx := fun i => X.out.cell i; replace zx := fun i => aC X.out i; replace Y := ah (Y.out.below hb); replace hy := fun i => Y.out.cell i; replace zy := fun i => aC Y.out i; have S0 := ah hs; clear P0 hs hb) | (go_at_call 78; (with_reducible refine (P1.out _ _ HV.out).mono ?_); rintro e W2 ⟨v1, rfl, hs, hb⟩; replace B := ah (aG B.out B.out.size hb); replace HV := ah (HV.out.below hb); replace S0 := ah (S0.out.below hb); replace X := ah (X.out.below hb); replace hx := fun i => X.out.cell i; replace zx := fun i => aC X.out i; replace Y := ah (Y.out.below hb); replace hy := fun i => Y.out.cell i; replace zy := fun i => aC Y.out i; have S1 := ah hs; clear P1 hs hb) | (go_at_call 79; (with_reducible refine (WR.out _).mono ?_); rintro e W3 ⟨rfl, hb⟩; replace B := ah (aG B.out B.out.size hb); replace HV := ah (HV.out.below hb); replace S0 := ah (S0.out.below hb); replace S1 := ah (S1.out.below hb); replace X := ah (X.out.below hb); replace hx := fun i => X.out.cell i; replace zx := fun i => aC X.out i; replace Y := ah (Y.out.below hb); replace hy := fun i => Y.out.cell i; replace zy := fun i => aC Y.out i; clear  hb) | (go_at_call 80; (with_reducible refine (Q0.out _ _ S0.out Y.out.Qn).mono ?_); rintro e W4 ⟨u0, rfl, hs, hb⟩; replace B := ah (aG B.out B.out.size hb); replace HV := ah (HV.out.below hb); replace S0 := ah (S0.out.below hb); replace S1 := ah (S1.out.below hb); replace X := ah (X.out.below hb); replace hx := fun i => X.out.cell i; replace zx := fun i => aC X.out i; replace Y := ah (Y.out.below hb); replace hy := fun i => Y.out.cell i; replace zy := fun i => aC Y.out i; have U0 := ah hs; clear Q0 hs hb) | (go_at_call 80; (with_reducible refine (Q1.out _ _ S1.out Y.out.Qn).mono ?_); rintro e W5 ⟨u1, rfl, hs, hb⟩; replace B := ah (aG B.out B.out.size hb); replace HV := ah (HV.out.below hb); replace S0 := ah (S0.out.below hb); replace S1 := ah (S1.out.below hb); replace U0 := ah (U0.out.below hb); replace X := ah (X.out.below hb); replace hx := fun i => X.out.cell i; replace zx := fun i => aC X.out i; replace Y := ah (Y.out.below hb); replace hy := fun i => Y.out.cell i; replace zy := fun i => aC Y.out i; have U1 := ah hs; clear Q1 hs hb))
  have hW2 := jX Y.out
  have HX0 := bC X.out 0 (.int .i64 tt) rfl
  have Zw := Dp Y.out (show w.heap.size + 1 ≠ w.heap.size by omega) 0 (.int .i64 tt)
  have HB0 := B.out.setCell (p := ⟨w.heap.size, 0, none⟩) (Nat.le_refl _) (.int .i64 tt)
  have Zx := And.intro ((U0.out.step (KA.set _ (by omega : w.heap.size < w.heap.size + 1 + 1) (i := 0) (.int .i64 tt))).now) ((U1.out.step (KA.set _ (by omega : w.heap.size < w.heap.size + 1 + 1) (i := 0) (.int .i64 tt))).now)
  clear hx zx hy zy X Y B HV S0 S1 U0 U1
  generalize (World.setCell _ ⟨w.heap.size, 0, none⟩ (.int .i64 tt)) = w1 at *
  have oO := ah HX0
  have qh := ah Zw
  have HB := ah HB0
  have HO := ah Zx
  have HVL := ah (show HI w1 (.agg #[.int .i64 tt, .int .u64 h.f1, .int .u64 h.f2, .int .u64 h.f3, .int .u64 h.f4, .slice A5 h.f5.length c5, .slice A6 h.f6.length c6, .slice A7 h.f7.length c7, .slice A8 h.f8.length c8]) (PW h tt) from HI.mk (h := PW h tt) (s5.below HB0) (s6.below HB0) (s7.below HB0) (s8.below HB0))
  clear HX0 Zw HB0 Zx s5 s6 s7 s8
  have hfx := fun i => au oO.out i; have hzx := fun i => aC oO.out i; have hfy := fun i => au qh.out i; have hzy := fun i => aC qh.out i
  go_region_with (first | (go_at_call 71; (with_reducible refine (H1.out _ u0 (HO.out.1.below (gV (Below.refl _ _)))).mono ?_); rintro e w2 ⟨vp, rfl, hs, hb⟩; have HS2 := ah hs; have HB2 := ah (aG (gV (Below.refl w1.heap.size w1)) (Nat.le_refl _) hb); have hX2 := fun i => au (bD oO.out HB2.out) i; have hY2 := fun i => au (bD qh.out HB2.out) i; have hZ2 := fun i => aC (bD qh.out HB2.out) i; clear hs hb) | (go_at_call 71; (with_reducible refine (H2.out _ u1 (HO.out.2.below (gV (Below.refl _ _)))).mono ?_); rintro e w3 ⟨vn, rfl, hs, hb⟩; have Zh := ah hs; have HB3 := ah (aG (gV (Below.refl w1.heap.size w1)) (Nat.le_refl _) hb); have hX3 := fun i => au (bD oO.out HB3.out) i; have hY3 := fun i => au (bD qh.out HB3.out) i; have hZ3 := fun i => aC (bD qh.out HB3.out) i; clear hs hb) | (go_at_call 71; (with_reducible refine (H2.out w2 u1 (HO.out.2.below HB2.out)).mono ?_); rintro e w4 ⟨vn, rfl, hs, hb⟩; have Xj := ah (And.intro (HS2.out.below hb) hs); have HB4 := ah (aG HB2.out HB2.out.size hb); have hX4 := fun i => au (bD oO.out HB4.out) i; have hY4 := fun i => au (bD qh.out HB4.out) i; have hZ4 := fun i => aC (bD qh.out HB4.out) i; clear hs hb) | (go_at_call 71; (with_reducible refine (H1.out w3 u0 (HO.out.1.below HB3.out)).mono ?_); rintro e w4 ⟨vp, rfl, hs, hb⟩; have Xj := ah (And.intro hs (Zh.out.below hb)); have HB4 := ah (aG HB3.out HB3.out.size hb); have hX4 := fun i => au (bD oO.out HB4.out) i; have hY4 := fun i => au (bD qh.out HB4.out) i; have hZ4 := fun i => aC (bD qh.out HB4.out) i; clear hs hb) | (go_at_call 64; (with_reducible refine (HM.out w4 _ vp vn (HVL.out.below HB4.out) Xj.out.1 Xj.out.2).mono ?_); rintro e w5 ⟨v5, rfl, hs, hb⟩; have KE := ah (aG (aG HB.out HB.out.size HB4.out) (aG HB.out HB.out.size HB4.out).size hb); have HI5 := ah hs; obtain ⟨D5, g5, D6, g6, D7, g7, D8, g8, e5⟩ := hs.open_; subst e5; have hX5 := fun i => au (bD (bD oO.out HB4.out) hb) i; have EI := ah (bD (bD qh.out HB4.out) hb); have hY5 := fun i => au EI.out i; have hZ5 := fun i => aC EI.out i; clear hs hb))
  all_goals (go_wp2; have hsz := jX qh.out; have ac5 := HB4.out.size; refine bodyPost_ret (gu rfl _ _ (w.heap.size + 1) 29 #[.int .i64 mh.f0, .int .u64 mh.f1, .int .u64 mh.f2, .int .u64 mh.f3, .int .u64 mh.f4, .slice D5 mh.f5.length g5, .slice D6 mh.f6.length g6, .slice D7 mh.f7.length g7, .slice D8 mh.f8.length g8] (0, 0) _ rfl (nine EI.out _ _ _ _ _ _ _ _ _) Try.underlying29 rfl (by kernel_rfl)) rfl ?_; exact ⟨_, rfl, (HI5.out.step (sG (KA.refl _ _) (by omega) _ _ _ _ _ _ _ _ _)).lower (by omega), jd KE.out (by omega) _ _ _ _ _ _ _ _ _⟩)
end Go.Proofs.Ytooiccpmngmapaa.P