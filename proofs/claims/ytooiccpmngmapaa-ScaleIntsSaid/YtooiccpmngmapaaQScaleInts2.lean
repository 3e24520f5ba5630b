/- ScaleInts: the part that this text bears of the proof that the statement answers true for every input. No condition. -/
import Derived.Test.YtooiccpmngmapaaQScaleInts1
import Derived.RegionIn
import Derived.Sort.QuietTacIn
import Derived.Deep.RegionWith
import Derived.Laws.BitsAllLaws
set_option linter.unusedVariables false
set_option linter.unusedSimpArgs false
namespace Go.Proofs.Ytooiccpmngmapaa.P
open Go.RowKit Go.Shelf Go.Proofs.YtooiccpmngmapaaW.PrintWords Go.Proofs.YtooiccpmngmapaaW.PrintLast Go.Proofs.YtooiccpmngmapaaW.PrintMore
def nan (v : Int) : Bool := decide ((Go.bits .andNot .u64 v 9223372036854775808) > 9218868437227405312)
def fits (zc ct sm : Int) (p n : List Pr) : Bool := (nC zc [p, n]).2 && decide ((nC zc [p, n]).1 ≤ ct) && (decide (¬ (nC zc [p, n]).1 < ct) || nan sm)
def xJ (s z zc ct sm : Int) (l5 l6 : List Sp) (l7 l8 : List Int) : List Pr × List Pr × Int :=
 if s < -4 ∨ s > 8 then ([], [], 21) else if ¬ z < 9218868437227405312 then ([], [], 11)
 else if (dU l5 l7).2 ≠ 0 then ([], [], (dU l5 l7).2) else if (dU l6 l8).2 ≠ 0 then ([], [], (dU l6 l8).2)
 else if fits zc ct sm (dU l5 l7).1 (dU l6 l8).1 = true then ((dU l5 l7).1, (dU l6 l8).1, 0) else ([], [], 22)
def VI (s z zc ct sm : Int) (l5 l6 : List Sp) (l7 l8 : List Int) : Prop := i64 s ∧ u64 z ∧ u64 zc ∧ u64 ct ∧ u64 sm ∧ lK l5 ∧ lK l6 ∧ FW l7 ∧ FW l8 ∧ l7.length < 4398046511104 ∧ l8.length < 4398046511104
instance (s z zc ct sm : Int) (l5 l6 : List Sp) (l7 l8 : List Int) : Decidable (VI s z zc ct sm l5 l6 l7 l8) := by unfold VI; exact inferInstance
def hist_open.f (s z zc ct sm : Int) (l5 l6 : List Sp) (l7 l8 : List Int) : Option (List Pr × List Pr × Int) := if VI s z zc ct sm l5 l6 l7 l8 then some (xJ s z zc ct sm l5 l6 l7 l8) else none
theorem Ar {l : List Sp} {d : List Int} (hd : FW d) (h : (dU l d).2 = 0) : (∀ p ∈ (dU l d).1, 0 ≤ p.f1 ∧ p.f1 ≤ 9223372036854775807) ∧ (dU l d).1.length ≤ 4096 := by
  unfold dU at h ⊢
  by_cases c1 : fZ l = 0
  rotate_left
  · rw [if_neg c1] at h; exact absurd h c1
  rw [if_pos c1] at h ⊢
  by_cases c2 : nT l = d.length
  rotate_left
  · rw [if_neg c2] at h; cases h
  rw [if_pos c2] at h ⊢
  cases hs : fF 0 d with
  | none => rw [hs] at h; cases h
  | some c =>
    rw [hs] at h
    simp only at h ⊢
    by_cases c3 : c.any (fun x => decide (x < 0)) = true
    · rw [if_pos c3] at h; cases h
    rw [if_neg c3]
    have hi := BQ d 0 c hs
    refine ⟨fun p hp => ?_, by have := pW c1; simp; omega⟩
    have : p.f1 ∈ c := by
      obtain ⟨i, hi2, rfl⟩ := List.mem_iff_getElem.1 hp
      simp only [List.getElem_zipWith]
      exact List.getElem_mem _
    have h1 := hi _ this
    refine ⟨?_, h1.2⟩
    by_cases hneg : p.f1 < 0
    · exact absurd (List.any_eq_true.2 ⟨_, this, aiJ hneg⟩) c3
    · omega
theorem uD {w : World} {b1 b2 : Nat} {ok1 ok2 : Nat → Prop} {A B : Option Addr} {c d : Nat} {p n : List Pr} (h1 : Kd.R jI 173 w b1 ok1 (.slice A p.length c) p) (h2 : Kd.R jI 173 w b2 ok2 (.slice B n.length d) n) :
  TP (w.alloc (.cells #[.slice A p.length c, .slice B n.length d] 91)) w.heap.size [p, n] := by
 have hb := iM w (.cells #[.slice A p.length c, .slice B n.length d] 91)
 intro i hi
 match i, hi with
 | 0, _ => exact ⟨A, c, (ay hb 0).trans rfl, (Kd.bD h1).2.1, Kd.bM (Kd.bD h1).2.2 (ak (Below.refl _ _) _)⟩
 | 1, _ => exact ⟨B, d, (ay hb 1).trans rfl, (Kd.bD h2).2.1, Kd.bM (Kd.bD h2).2.2 (ak (Below.refl _ _) _)⟩
theorem vw {w : World} {b1 b2 m b0 : Nat} {v1 v2 : Value} {p n : List Pr} (h1 : Kd.R jI 173 w b1 (fun k => k < m ∧ b0 ≤ k) v1 p) (h2 : Kd.R jI 173 w b2 (fun k => m ≤ k ∧ b0 ≤ k) v2 n) :
  Kd.R jI 173 w b1 (fun k_ => (b0 ≤ k_) ∧ some k_ ≠ v2.ownBlock) v1 p ∧ Kd.R jI 173 w b2 (fun k_ => (b0 ≤ k_) ∧ some k_ ≠ v1.ownBlock) v2 n := by
 refine ⟨Kd.cu h1 (fun k hk => ⟨hk.2, fun e => ?_⟩), Kd.cu h2 (fun k hk => ⟨hk.2, fun e => ?_⟩)⟩
 ·have := h2.1 k e.symm; omega
 ·have := h1.1 k e.symm; omega
set_option maxHeartbeats 8000000 in
set_option maxRecDepth 100000 in
theorem hist_open.calls (s z zc ct sm : Int) (A5 : Option Addr) (c5 : Nat) (l5 : List Sp) (A6 : Option Addr) (c6 : Nat) (l6 : List Sp) (A7 : Option Addr) (c7 : Nat) (l7 : List Int) (A8 : Option Addr) (c8 : Nat) (l8 : List Int) (r1 r2 : List Pr) (r3 : Int) (w : World)
    (hr5 : Kd.C jE w A5 l5.length l5) (hc5 : l5.length ≤ c5) (hr6 : Kd.C jE w A6 l6.length l6) (hc6 : l6.length ≤ c6) (hr7 : Kd.C (Kd.int .i64) w A7 l7.length l7) (UY : l7.length ≤ c7) (hr8 : Kd.C (Kd.int .i64) w A8 l8.length l8) (hc8 : l8.length ≤ c8)
    (h : hist_open.f s z zc ct sm l5 l6 l7 l8 = some (r1, r2, r3)) :
    Calls Try.prog 70 #[.agg #[.int .i64 s, .int .u64 z, .int .u64 zc, .int .u64 ct, .int .u64 sm, .slice A5 l5.length c5, .slice A6 l6.length c6, .slice A7 l7.length c7, .slice A8 l8.length c8]] w fun e w' => ∃ lY KL : Value, e = .returned (.tuple #[lY, KL, .int .i64 r3]) ∧ Kd.R jI 173 w' w.heap.size (fun k_ => (w.heap.size ≤ k_) ∧ some k_ ≠ (KL : Value).ownBlock) lY r1 ∧ Kd.R jI 173 w' w.heap.size (fun k_ => (w.heap.size ≤ k_) ∧ some k_ ≠ (lY : Value).ownBlock) KL r2 ∧ Below w.heap.size w w' := by
  obtain ⟨hw, h2⟩ := lN h
  clear h
  obtain ⟨hs, hz, hzc, hct, hsm, hw5, hw6, hi7, hi8, hm7, hm8⟩ := hw
  have hu := Try.underlying29
  have HRA := ah (And.intro hr5 (And.intro hr6 (And.intro hr7 hr8)))
  have HCA := ah (And.intro hc5 (And.intro hc6 (And.intro UY hc8)))
  have H := ah h2
  have hs5 : hist_side.f l5 l7 = some (dU l5 l7) := if_pos ⟨hw5, hi7, hm7⟩
  have hs6 : hist_side.f l6 l8 = some (dU l6 l8) := if_pos ⟨hw6, hi8, hm8⟩
  have VJ := Ar (l := l5) hi7
  have VK := Ar (l := l6) hi8
  clear h2 hr5 hr6 hr7 hr8 hc5 hc6 UY hc8 hw5 hw6 hi7 hi8 hm7 hm8
  unfold xJ at H
  generalize dU l5 l7 = q5 at H hs5 VJ
  generalize dU l6 l8 = q6 at H hs6 VK
  obtain ⟨p, e5⟩ := q5
  obtain ⟨n, e6⟩ := q6
  simp only at H VJ VK
  have Yf := ah hs5
  have Zq := ah hs6
  have HOK := ah (And.intro VJ VK)
  have HU := ah (And.intro hzc (And.intro hct hsm))
  clear hs5 hs6 VJ VK hzc hct hsm hs hz
  by_cases c1 : s < -4
  · have H := H.out
    rw [if_pos (Or.inl c1)] at H
    injection H with h4 h5; injection h5 with h5 h6
    subst h4; subst h5; subst h6
    have c1b : decide (s < -4) = true := aiJ c1
    clear c1
    go_enter Try.func70, Try.ntmps70
    go_wp2
    go_ret3
    exact ⟨_, _, rfl, Kd.dY _ _ _ _ _, Kd.dY _ _ _ _ _, ak (Below.refl _ _) _⟩
  by_cases c2 : s > 8
  · have H := H.out
    rw [if_pos (Or.inr c2)] at H
    injection H with h4 h5; injection h5 with h5 h6
    subst h4; subst h5; subst h6
    have c1b : decide (s < -4) = false := aiK c1
    have c2b : decide (8 < s) = true := aiJ c2
    clear c1 c2
    go_enter Try.func70, Try.ntmps70
    go_wp2
    go_ret3
    exact ⟨_, _, rfl, Kd.dY _ _ _ _ _, Kd.dY _ _ _ _ _, ak (Below.refl _ _) _⟩
  have c1b : decide (s < -4) = false := aiK c1
  have c2b : decide (8 < s) = false := aiK c2
  rw [if_neg (by omega)] at H
  clear c1 c2
  obtain ⟨tz, htz⟩ : ∃ b, b = decide (z < 9218868437227405312) := ⟨_, rfl⟩
  have HTh := ah (show hist_Threshold.f z = some tz by rw [htz]; rfl)
  by_cases c3 : z < 9218868437227405312
  rotate_left
  · have H := H.out
    rw [if_pos c3] at H
    injection H with h4 h5; injection h5 with h5 h6
    subst h4; subst h5; subst h6
    rw [aiK c3] at htz
    subst htz
    clear c3
    go_enter Try.func70, Try.ntmps70
    go_wp2_with (first | (go_at_call 131; (with_reducible refine (hist_Threshold.calls z _ _ HTh.out).mono ?_); rintro e w1 ⟨rfl, hb⟩; have HB1 := ah (aH (ak (Below.refl w.heap.size w) (.cells #[.int .i64 s, .int .u64 z, .int .u64 zc, .int .u64 ct, .int .u64 sm, .slice A5 l5.length c5, .slice A6 l6.length c6, .slice A7 l7.length c7, .slice A8 l8.length c8] 29)) (by simp) hb.below); have oN := ah (bG (iM w (.cells #[.int .i64 s, .int .u64 z, .int .u64 zc, .int .u64 ct, .int .u64 sm, .slice A5 l5.length c5, .slice A6 l6.length c6, .slice A7 l7.length c7, .slice A8 l8.length c8] 29)) hb.below); have hf := fun i => ay oN.out i; clear hb))
    go_ret3
    exact ⟨_, _, rfl, Kd.dY _ _ _ _ _, Kd.dY _ _ _ _ _, HB1.out⟩
  rw [aiJ c3] at htz
  subst htz
  rw [if_neg (by omega)] at H
  clear c3
  by_cases c4 : e5 = 0
  rotate_left
  · have H := H.out
    rw [if_pos c4] at H
    injection H with h4 h5; injection h5 with h5 h6
    subst h4; subst h5; subst h6
    have c4b : (e5 == 0) = false := beq_eq_false_iff_ne.2 c4
    have c4c : (e5 != 0) = true := bne_iff_ne.2 c4
    clear c4
    go_enter Try.func70, Try.ntmps70
    go_wp2_with (first | (go_at_call 131; (with_reducible refine (hist_Threshold.calls z _ _ HTh.out).mono ?_); rintro e w1 ⟨rfl, hb⟩; have HB1 := ah (aH (ak (Below.refl w.heap.size w) (.cells #[.int .i64 s, .int .u64 z, .int .u64 zc, .int .u64 ct, .int .u64 sm, .slice A5 l5.length c5, .slice A6 l6.length c6, .slice A7 l7.length c7, .slice A8 l8.length c8] 29)) (by simp) hb.below); have oN := ah (bG (iM w (.cells #[.int .i64 s, .int .u64 z, .int .u64 zc, .int .u64 ct, .int .u64 sm, .slice A5 l5.length c5, .slice A6 l6.length c6, .slice A7 l7.length c7, .slice A8 l8.length c8] 29)) hb.below); have hf := fun i => ay oN.out i; clear hb) | (go_at_call 132; (with_reducible refine (hist_side.calls _ _ l5 _ _ l7 p _ _ (Kd.bM HRA.out.1 HB1.out) HCA.out.1 (Kd.bM HRA.out.2.2.1 HB1.out) HCA.out.2.2.1 Yf.out).mono ?_); rintro e w2 ⟨v2, rfl, ho2, hb⟩; have HB2 := ah (aH HB1.out HB1.out.size hb); have JV := ah (bG oN.out hb); have hf2 := fun i => ay JV.out i; have FZ := ah (Kd.cu (ok' := fun k => k < w2.heap.size ∧ w.heap.size ≤ k) (Kd.bV (Kd.jL ho2) HB1.out.size) (fun k hk => ⟨hk.2.2.1, Nat.le_trans HB1.out.size hk.2.1⟩)); obtain ⟨B2, d2, QG⟩ := Kd.bY ho2; subst QG; clear ho2 hb))
    go_ret3
    exact ⟨_, _, rfl, Kd.dY _ _ _ _ _, Kd.dY _ _ _ _ _, HB2.out⟩
  subst c4
  rw [if_neg (by simp)] at H
  by_cases c5' : e6 = 0
  rotate_left
  · have H := H.out
    rw [if_pos c5'] at H
    injection H with h4 h5; injection h5 with h5 h6
    subst h4; subst h5; subst h6
    have c4b : (e6 == 0) = false := beq_eq_false_iff_ne.2 c5'
    have c4c : (e6 != 0) = true := bne_iff_ne.2 c5'
    clear c5'
    go_enter Try.func70, Try.ntmps70
    go_wp2_with (first | (go_at_call 131; (with_reducible refine (hist_Threshold.calls z _ _ HTh.out).mono ?_); rintro e w1 ⟨rfl, hb⟩; have HB1 := ah (aH (ak (Below.refl w.heap.size w) (.cells #[.int .i64 s, .int .u64 z, .int .u64 zc, .int .u64 ct, .int .u64 sm, .slice A5 l5.length c5, .slice A6 l6.length c6, .slice A7 l7.length c7, .slice A8 l8.length c8] 29)) (by simp) hb.below); have oN := ah (bG (iM w (.cells #[.int .i64 s, .int .u64 z, .int .u64 zc, .int .u64 ct, .int .u64 sm, .slice A5 l5.length c5, .slice A6 l6.length c6, .slice A7 l7.length c7, .slice A8 l8.length c8] 29)) hb.below); have hf := fun i => ay oN.out i; clear hb) | (go_at_call 132; (with_reducible refine (hist_side.calls _ _ l5 _ _ l7 p _ _ (Kd.bM HRA.out.1 HB1.out) HCA.out.1 (Kd.bM HRA.out.2.2.1 HB1.out) HCA.out.2.2.1 Yf.out).mono ?_); rintro e w2 ⟨v2, rfl, ho2, hb⟩; have HB2 := ah (aH HB1.out HB1.out.size hb); have JV := ah (bG oN.out hb); have hf2 := fun i => ay JV.out i; have FZ := ah (Kd.cu (ok' := fun k => k < w2.heap.size ∧ w.heap.size ≤ k) (Kd.bV (Kd.jL ho2) HB1.out.size) (fun k hk => ⟨hk.2.2.1, Nat.le_trans HB1.out.size hk.2.1⟩)); obtain ⟨B2, d2, QG⟩ := Kd.bY ho2; subst QG; clear ho2 hb) | (go_at_call 132; (with_reducible refine (hist_side.calls _ _ l6 _ _ l8 n _ _ (Kd.bM HRA.out.2.1 HB2.out) HCA.out.2.1 (Kd.bM HRA.out.2.2.2 HB2.out) HCA.out.2.2.2 Zq.out).mono ?_); rintro e w3 ⟨v3, rfl, ho3, hb⟩; have HB3 := ah (aH HB2.out HB2.out.size hb); have yw := ah (bG JV.out hb); have hf3 := fun i => ay yw.out i; have BU := ah (And.intro (Kd.fC FZ.out hb) (Kd.cu (ok' := fun k => w2.heap.size ≤ k ∧ w.heap.size ≤ k) (Kd.bV (Kd.jL ho3) HB2.out.size) (fun k hk => ⟨hk.2.1, Nat.le_trans HB2.out.size hk.2.1⟩))); obtain ⟨B3, d3, TQ⟩ := Kd.bY ho3; subst TQ; clear ho3 hb))
    go_ret3
    exact ⟨_, _, rfl, Kd.dY _ _ _ _ _, Kd.dY _ _ _ _ _, HB3.out⟩
  subst c5'
  rw [if_neg (by simp)] at H
  have HV := ah (show u64 zc ∧ (∀ r ∈ [p, n], ∀ q ∈ r, 0 ≤ q.f1 ∧ q.f1 ≤ 9223372036854775807) ∧ (∀ r ∈ [p, n], r.length ≤ 4611686018427387904) by
    have h1 := HOK.out.1 rfl
    have h2 := HOK.out.2 rfl
    refine ⟨HU.out.1, fun r hr => ?_, fun r hr => ?_⟩
    · simp at hr; rcases hr with rfl | rfl
      · exact h1.1
      · exact h2.1
    · simp at hr; rcases hr with rfl | rfl <;> omega)
  obtain ⟨⟨tt, tb⟩, htt⟩ : ∃ t, t = nC zc [p, n] := ⟨_, rfl⟩
  have HTot := ah htt.symm
  obtain ⟨bn, hbn⟩ : ∃ b, b = nan sm := ⟨_, rfl⟩
  have HNa := ah (show hist_NaN.f sm = some bn by rw [hbn]; rfl)
  unfold fits at H
  rw [← htt, ← hbn] at H
  simp only at H
  clear htt hbn
  cases tb with
  | false =>
    have H := H.out
    rw [if_neg (by simp)] at H
    injection H with h4 h5; injection h5 with h5 h6
    subst h4; subst h5; subst h6
    go_enter Try.func70, Try.ntmps70
    go_wp2_with (first | (go_at_call 131; (with_reducible refine (hist_Threshold.calls z _ _ HTh.out).mono ?_); rintro e w1 ⟨rfl, hb⟩; have HB1 := ah (aH (ak (Below.refl w.heap.size w) (.cells #[.int .i64 s, .int .u64 z, .int .u64 zc, .int .u64 ct, .int .u64 sm, .slice A5 l5.length c5, .slice A6 l6.length c6, .slice A7 l7.length c7, .slice A8 l8.length c8] 29)) (by simp) hb.below); have oN := ah (bG (iM w (.cells #[.int .i64 s, .int .u64 z, .int .u64 zc, .int .u64 ct, .int .u64 sm, .slice A5 l5.length c5, .slice A6 l6.length c6, .slice A7 l7.length c7, .slice A8 l8.length c8] 29)) hb.below); have hf := fun i => ay oN.out i; clear hb) | (go_at_call 132; (with_reducible refine (hist_side.calls _ _ l5 _ _ l7 p _ _ (Kd.bM HRA.out.1 HB1.out) HCA.out.1 (Kd.bM HRA.out.2.2.1 HB1.out) HCA.out.2.2.1 Yf.out).mono ?_); rintro e w2 ⟨v2, rfl, ho2, hb⟩; have HB2 := ah (aH HB1.out HB1.out.size hb); have JV := ah (bG oN.out hb); have hf2 := fun i => ay JV.out i; have FZ := ah (Kd.cu (ok' := fun k => k < w2.heap.size ∧ w.heap.size ≤ k) (Kd.bV (Kd.jL ho2) HB1.out.size) (fun k hk => ⟨hk.2.2.1, Nat.le_trans HB1.out.size hk.2.1⟩)); obtain ⟨B2, d2, QG⟩ := Kd.bY ho2; subst QG; clear ho2 hb) | (go_at_call 132; (with_reducible refine (hist_side.calls _ _ l6 _ _ l8 n _ _ (Kd.bM HRA.out.2.1 HB2.out) HCA.out.2.1 (Kd.bM HRA.out.2.2.2 HB2.out) HCA.out.2.2.2 Zq.out).mono ?_); rintro e w3 ⟨v3, rfl, ho3, hb⟩; have HB3 := ah (aH HB2.out HB2.out.size hb); have yw := ah (bG JV.out hb); have hf3 := fun i => ay yw.out i; have BU := ah (And.intro (Kd.fC FZ.out hb) (Kd.cu (ok' := fun k => w2.heap.size ≤ k ∧ w.heap.size ≤ k) (Kd.bV (Kd.jL ho3) HB2.out.size) (fun k hk => ⟨hk.2.1, Nat.le_trans HB2.out.size hk.2.1⟩))); obtain ⟨B3, d3, TQ⟩ := Kd.bY ho3; subst TQ; clear ho3 hb) | (go_at_call 133; refine (uz s z zc ct sm _ _ _ _ _ _ _ _ _ _ _ _ w3.heap.size _ [p, n] _ HV.out.1 HV.out.2.1 HV.out.2.2 (by simp) (by simp) (uD BU.out.1 BU.out.2)).mono ?_; rintro e w4 ⟨rfl, hb⟩; rw [HTot.out]; have HB4 := ah (aH HB3.out HB3.out.size (aH (ak (Below.refl _ _) _) (by simp) hb)); have TR := ah (bG yw.out (aH (ak (Below.refl _ _) _) (by simp) hb)); have hf4 := fun i => ay TR.out i; have PK := ah (And.intro (Kd.fC BU.out.1 (aH (ak (Below.refl _ _) _) (by simp) hb)) (Kd.fC BU.out.2 (aH (ak (Below.refl _ _) _) (by simp) hb))); clear hb))
    go_ret3
    exact ⟨_, _, rfl, Kd.dY _ _ _ _ _, Kd.dY _ _ _ _ _, HB4.out⟩
  | true =>
    by_cases d1 : ct < tt
    · have d1b : decide (ct < tt) = true := aiJ d1
      have H := H.out
      rw [if_neg (by simp; omega)] at H
      injection H with h4 h5; injection h5 with h5 h6
      subst h4; subst h5; subst h6
      clear d1
      go_enter Try.func70, Try.ntmps70
      go_wp2_with (first | (go_at_call 131; (with_reducible refine (hist_Threshold.calls z _ _ HTh.out).mono ?_); rintro e w1 ⟨rfl, hb⟩; have HB1 := ah (aH (ak (Below.refl w.heap.size w) (.cells #[.int .i64 s, .int .u64 z, .int .u64 zc, .int .u64 ct, .int .u64 sm, .slice A5 l5.length c5, .slice A6 l6.length c6, .slice A7 l7.length c7, .slice A8 l8.length c8] 29)) (by simp) hb.below); have oN := ah (bG (iM w (.cells #[.int .i64 s, .int .u64 z, .int .u64 zc, .int .u64 ct, .int .u64 sm, .slice A5 l5.length c5, .slice A6 l6.length c6, .slice A7 l7.length c7, .slice A8 l8.length c8] 29)) hb.below); have hf := fun i => ay oN.out i; clear hb) | (go_at_call 132; (with_reducible refine (hist_side.calls _ _ l5 _ _ l7 p _ _ (Kd.bM HRA.out.1 HB1.out) HCA.out.1 (Kd.bM HRA.out.2.2.1 HB1.out) HCA.out.2.2.1 Yf.out).mono ?_); rintro e w2 ⟨v2, rfl, ho2, hb⟩; have HB2 := ah (aH HB1.out HB1.out.size hb); have JV := ah (bG oN.out hb); have hf2 := fun i => ay JV.out i; have FZ := ah (Kd.cu (ok' := fun k => k < w2.heap.size ∧ w.heap.size ≤ k) (Kd.bV (Kd.jL ho2) HB1.out.size) (fun k hk => ⟨hk.2.2.1, Nat.le_trans HB1.out.size hk.2.1⟩)); obtain ⟨B2, d2, QG⟩ := Kd.bY ho2; subst QG; clear ho2 hb) | (go_at_call 132; (with_reducible refine (hist_side.calls _ _ l6 _ _ l8 n _ _ (Kd.bM HRA.out.2.1 HB2.out) HCA.out.2.1 (Kd.bM HRA.out.2.2.2 HB2.out) HCA.out.2.2.2 Zq.out).mono ?_); rintro e w3 ⟨v3, rfl, ho3, hb⟩; have HB3 := ah (aH HB2.out HB2.out.size hb); have yw := ah (bG JV.out hb); have hf3 := fun i => ay yw.out i; have BU := ah (And.intro (Kd.fC FZ.out hb) (Kd.cu (ok' := fun k => w2.heap.size ≤ k ∧ w.heap.size ≤ k) (Kd.bV (Kd.jL ho3) HB2.out.size) (fun k hk => ⟨hk.2.1, Nat.le_trans HB2.out.size hk.2.1⟩))); obtain ⟨B3, d3, TQ⟩ := Kd.bY ho3; subst TQ; clear ho3 hb) | (go_at_call 133; refine (uz s z zc ct sm _ _ _ _ _ _ _ _ _ _ _ _ w3.heap.size _ [p, n] _ HV.out.1 HV.out.2.1 HV.out.2.2 (by simp) (by simp) (uD BU.out.1 BU.out.2)).mono ?_; rintro e w4 ⟨rfl, hb⟩; rw [HTot.out]; have HB4 := ah (aH HB3.out HB3.out.size (aH (ak (Below.refl _ _) _) (by simp) hb)); have TR := ah (bG yw.out (aH (ak (Below.refl _ _) _) (by simp) hb)); have hf4 := fun i => ay TR.out i; have PK := ah (And.intro (Kd.fC BU.out.1 (aH (ak (Below.refl _ _) _) (by simp) hb)) (Kd.fC BU.out.2 (aH (ak (Below.refl _ _) _) (by simp) hb))); clear hb))
      go_ret3
      exact ⟨_, _, rfl, Kd.dY _ _ _ _ _, Kd.dY _ _ _ _ _, HB4.out⟩
    have d1b : decide (ct < tt) = false := aiK d1
    by_cases d2 : tt < ct
    · have d2b : decide (tt < ct) = true := aiJ d2
      cases bn with
      | false =>
        have H := H.out
        rw [if_neg (by simp; omega)] at H
        injection H with h4 h5; injection h5 with h5 h6
        subst h4; subst h5; subst h6
        clear d1 d2
        go_enter Try.func70, Try.ntmps70
        go_wp2_with (first | (go_at_call 131; (with_reducible refine (hist_Threshold.calls z _ _ HTh.out).mono ?_); rintro e w1 ⟨rfl, hb⟩; have HB1 := ah (aH (ak (Below.refl w.heap.size w) (.cells #[.int .i64 s, .int .u64 z, .int .u64 zc, .int .u64 ct, .int .u64 sm, .slice A5 l5.length c5, .slice A6 l6.length c6, .slice A7 l7.length c7, .slice A8 l8.length c8] 29)) (by simp) hb.below); have oN := ah (bG (iM w (.cells #[.int .i64 s, .int .u64 z, .int .u64 zc, .int .u64 ct, .int .u64 sm, .slice A5 l5.length c5, .slice A6 l6.length c6, .slice A7 l7.length c7, .slice A8 l8.length c8] 29)) hb.below); have hf := fun i => ay oN.out i; clear hb) | (go_at_call 132; (with_reducible refine (hist_side.calls _ _ l5 _ _ l7 p _ _ (Kd.bM HRA.out.1 HB1.out) HCA.out.1 (Kd.bM HRA.out.2.2.1 HB1.out) HCA.out.2.2.1 Yf.out).mono ?_); rintro e w2 ⟨v2, rfl, ho2, hb⟩; have HB2 := ah (aH HB1.out HB1.out.size hb); have JV := ah (bG oN.out hb); have hf2 := fun i => ay JV.out i; have FZ := ah (Kd.cu (ok' := fun k => k < w2.heap.size ∧ w.heap.size ≤ k) (Kd.bV (Kd.jL ho2) HB1.out.size) (fun k hk => ⟨hk.2.2.1, Nat.le_trans HB1.out.size hk.2.1⟩)); obtain ⟨B2, d2, QG⟩ := Kd.bY ho2; subst QG; clear ho2 hb) | (go_at_call 132; (with_reducible refine (hist_side.calls _ _ l6 _ _ l8 n _ _ (Kd.bM HRA.out.2.1 HB2.out) HCA.out.2.1 (Kd.bM HRA.out.2.2.2 HB2.out) HCA.out.2.2.2 Zq.out).mono ?_); rintro e w3 ⟨v3, rfl, ho3, hb⟩; have HB3 := ah (aH HB2.out HB2.out.size hb); have yw := ah (bG JV.out hb); have hf3 := fun i => ay yw.out i; have BU := ah (And.intro (Kd.fC FZ.out hb) (Kd.cu (ok' := fun k => w2.heap.size ≤ k ∧ w.heap.size ≤ k) (Kd.bV (Kd.jL ho3) HB2.out.size) (fun k hk => ⟨hk.2.1, Nat.le_trans HB2.out.size hk.2.1⟩))); obtain ⟨B3, d3, TQ⟩ := Kd.bY ho3; subst TQ; clear ho3 hb) | (go_at_call 133; refine (uz s z zc ct sm _ _ _ _ _ _ _ _ _ _ _ _ w3.heap.size _ [p, n] _ HV.out.1 HV.out.2.1 HV.out.2.2 (by simp) (by simp) (uD BU.out.1 BU.out.2)).mono ?_; rintro e w4 ⟨rfl, hb⟩; rw [HTot.out]; have HB4 := ah (aH HB3.out HB3.out.size (aH (ak (Below.refl _ _) _) (by simp) hb)); have TR := ah (bG yw.out (aH (ak (Below.refl _ _) _) (by simp) hb)); have hf4 := fun i => ay TR.out i; have PK := ah (And.intro (Kd.fC BU.out.1 (aH (ak (Below.refl _ _) _) (by simp) hb)) (Kd.fC BU.out.2 (aH (ak (Below.refl _ _) _) (by simp) hb))); clear hb) | (go_at_call 130; (with_reducible refine (hist_NaN.calls sm _ _ HNa.out).mono ?_); rintro e w5 ⟨rfl, hb⟩; have LW := ah (aH HB4.out HB4.out.size hb.below); have NW := ah (bG TR.out hb.below); have hf5 := fun i => ay NW.out i; have Ye := ah (And.intro (Kd.fC PK.out.1 hb.below) (Kd.fC PK.out.2 hb.below)); clear hb))
        go_ret3
        exact ⟨_, _, rfl, Kd.dY _ _ _ _ _, Kd.dY _ _ _ _ _, LW.out⟩
      | true =>
        have H := H.out
        rw [if_pos (by simp; omega)] at H
        injection H with h4 h5; injection h5 with h5 h6
        subst h4; subst h5; subst h6
        clear d1 d2
        go_enter Try.func70, Try.ntmps70
        go_wp2_with (first | (go_at_call 131; (with_reducible refine (hist_Threshold.calls z _ _ HTh.out).mono ?_); rintro e w1 ⟨rfl, hb⟩; have HB1 := ah (aH (ak (Below.refl w.heap.size w) (.cells #[.int .i64 s, .int .u64 z, .int .u64 zc, .int .u64 ct, .int .u64 sm, .slice A5 l5.length c5, .slice A6 l6.length c6, .slice A7 l7.length c7, .slice A8 l8.length c8] 29)) (by simp) hb.below); have oN := ah (bG (iM w (.cells #[.int .i64 s, .int .u64 z, .int .u64 zc, .int .u64 ct, .int .u64 sm, .slice A5 l5.length c5, .slice A6 l6.length c6, .slice A7 l7.length c7, .slice A8 l8.length c8] 29)) hb.below); have hf := fun i => ay oN.out i; clear hb) | (go_at_call 132; (with_reducible refine (hist_side.calls _ _ l5 _ _ l7 p _ _ (Kd.bM HRA.out.1 HB1.out) HCA.out.1 (Kd.bM HRA.out.2.2.1 HB1.out) HCA.out.2.2.1 Yf.out).mono ?_); rintro e w2 ⟨v2, rfl, ho2, hb⟩; have HB2 := ah (aH HB1.out HB1.out.size hb); have JV := ah (bG oN.out hb); have hf2 := fun i => ay JV.out i; have FZ := ah (Kd.cu (ok' := fun k => k < w2.heap.size ∧ w.heap.size ≤ k) (Kd.bV (Kd.jL ho2) HB1.out.size) (fun k hk => ⟨hk.2.2.1, Nat.le_trans HB1.out.size hk.2.1⟩)); obtain ⟨B2, d2, QG⟩ := Kd.bY ho2; subst QG; clear ho2 hb) | (go_at_call 132; (with_reducible refine (hist_side.calls _ _ l6 _ _ l8 n _ _ (Kd.bM HRA.out.2.1 HB2.out) HCA.out.2.1 (Kd.bM HRA.out.2.2.2 HB2.out) HCA.out.2.2.2 Zq.out).mono ?_); rintro e w3 ⟨v3, rfl, ho3, hb⟩; have HB3 := ah (aH HB2.out HB2.out.size hb); have yw := ah (bG JV.out hb); have hf3 := fun i => ay yw.out i; have BU := ah (And.intro (Kd.fC FZ.out hb) (Kd.cu (ok' := fun k => w2.heap.size ≤ k ∧ w.heap.size ≤ k) (Kd.bV (Kd.jL ho3) HB2.out.size) (fun k hk => ⟨hk.2.1, Nat.le_trans HB2.out.size hk.2.1⟩))); obtain ⟨B3, d3, TQ⟩ := Kd.bY ho3; subst TQ; clear ho3 hb) | (go_at_call 133; refine (uz s z zc ct sm _ _ _ _ _ _ _ _ _ _ _ _ w3.heap.size _ [p, n] _ HV.out.1 HV.out.2.1 HV.out.2.2 (by simp) (by simp) (uD BU.out.1 BU.out.2)).mono ?_; rintro e w4 ⟨rfl, hb⟩; rw [HTot.out]; have HB4 := ah (aH HB3.out HB3.out.size (aH (ak (Below.refl _ _) _) (by simp) hb)); have TR := ah (bG yw.out (aH (ak (Below.refl _ _) _) (by simp) hb)); have hf4 := fun i => ay TR.out i; have PK := ah (And.intro (Kd.fC BU.out.1 (aH (ak (Below.refl _ _) _) (by simp) hb)) (Kd.fC BU.out.2 (aH (ak (Below.refl _ _) _) (by simp) hb))); clear hb) | (go_at_call 130; (with_reducible refine (hist_NaN.calls sm _ _ HNa.out).mono ?_); rintro e w5 ⟨rfl, hb⟩; have LW := ah (aH HB4.out HB4.out.size hb.below); have NW := ah (bG TR.out hb.below); have hf5 := fun i => ay NW.out i; have Ye := ah (And.intro (Kd.fC PK.out.1 hb.below) (Kd.fC PK.out.2 hb.below)); clear hb))
        go_ret3
        exact ⟨_, _, rfl, (vw Ye.out.1 Ye.out.2).1, (vw Ye.out.1 Ye.out.2).2, LW.out⟩
    · have d2b : decide (tt < ct) = false := aiK d2
      have H := H.out
      rw [if_pos (by simp; omega)] at H
      injection H with h4 h5; injection h5 with h5 h6
      subst h4; subst h5; subst h6
      clear d1 d2
      go_enter Try.func70, Try.ntmps70
      go_wp2_with (first | (go_at_call 131; (with_reducible refine (hist_Threshold.calls z _ _ HTh.out).mono ?_); rintro e w1 ⟨rfl, hb⟩; have HB1 := ah (aH (ak (Below.refl w.heap.size w) (.cells #[.int .i64 s, .int .u64 z, .int .u64 zc, .int .u64 ct, .int .u64 sm, .slice A5 l5.length c5, .slice A6 l6.length c6, .slice A7 l7.length c7, .slice A8 l8.length c8] 29)) (by simp) hb.below); have oN := ah (bG (iM w (.cells #[.int .i64 s, .int .u64 z, .int .u64 zc, .int .u64 ct, .int .u64 sm, .slice A5 l5.length c5, .slice A6 l6.length c6, .slice A7 l7.length c7, .slice A8 l8.length c8] 29)) hb.below); have hf := fun i => ay oN.out i; clear hb) | (go_at_call 132; (with_reducible refine (hist_side.calls _ _ l5 _ _ l7 p _ _ (Kd.bM HRA.out.1 HB1.out) HCA.out.1 (Kd.bM HRA.out.2.2.1 HB1.out) HCA.out.2.2.1 Yf.out).mono ?_); rintro e w2 ⟨v2, rfl, ho2, hb⟩; have HB2 := ah (aH HB1.out HB1.out.size hb); have JV := ah (bG oN.out hb); have hf2 := fun i => ay JV.out i; have FZ := ah (Kd.cu (ok' := fun k => k < w2.heap.size ∧ w.heap.size ≤ k) (Kd.bV (Kd.jL ho2) HB1.out.size) (fun k hk => ⟨hk.2.2.1, Nat.le_trans HB1.out.size hk.2.1⟩)); obtain ⟨B2, d2, QG⟩ := Kd.bY ho2; subst QG; clear ho2 hb) | (go_at_call 132; (with_reducible refine (hist_side.calls _ _ l6 _ _ l8 n _ _ (Kd.bM HRA.out.2.1 HB2.out) HCA.out.2.1 (Kd.bM HRA.out.2.2.2 HB2.out) HCA.out.2.2.2 Zq.out).mono ?_); rintro e w3 ⟨v3, rfl, ho3, hb⟩; have HB3 := ah (aH HB2.out HB2.out.size hb); have yw := ah (bG JV.out hb); have hf3 := fun i => ay yw.out i; have BU := ah (And.intro (Kd.fC FZ.out hb) (Kd.cu (ok' := fun k => w2.heap.size ≤ k ∧ w.heap.size ≤ k) (Kd.bV (Kd.jL ho3) HB2.out.size) (fun k hk => ⟨hk.2.1, Nat.le_trans HB2.out.size hk.2.1⟩))); obtain ⟨B3, d3, TQ⟩ := Kd.bY ho3; subst TQ; clear ho3 hb) | (go_at_call 133; refine (uz s z zc ct sm _ _ _ _ _ _ _ _ _ _ _ _ w3.heap.size _ [p, n] _ HV.out.1 HV.out.2.1 HV.out.2.2 (by simp) (by simp) (uD BU.out.1 BU.out.2)).mono ?_; rintro e w4 ⟨rfl, hb⟩; rw [HTot.out]; have HB4 := ah (aH HB3.out HB3.out.size (aH (ak (Below.refl _ _) _) (by simp) hb)); have TR := ah (bG yw.out (aH (ak (Below.refl _ _) _) (by simp) hb)); have hf4 := fun i => ay TR.out i; have PK := ah (And.intro (Kd.fC BU.out.1 (aH (ak (Below.refl _ _) _) (by simp) hb)) (Kd.fC BU.out.2 (aH (ak (Below.refl _ _) _) (by simp) hb))); clear hb))
      go_ret3
      exact ⟨_, _, rfl, (vw PK.out.1 PK.out.2).1, (vw PK.out.1 PK.out.2).2, HB4.out⟩
section
variable {α : Type} (key val : α → Int)
def Dc (l : List α) : Prop := l.Pairwise (fun a b => key a < key b)
def look (l : List α) (p : Int) : Int := match l.find? (fun x => decide (key x = p)) with | some x => val x | none => 0
variable {key val}
theorem Dc.nil : Dc key ([] : List α) := List.Pairwise.nil
theorem Dc.tail {x : α} {l : List α} (h : Dc key (x :: l)) : Dc key l := (List.pairwise_cons.1 h).2
theorem Dc.head {x : α} {l : List α} (h : Dc key (x :: l)) : ∀ y ∈ l, key x < key y := (List.pairwise_cons.1 h).1
theorem Dc.filter {l : List α} (p : α → Bool) (h : Dc key l) : Dc key (l.filter p) := List.Pairwise.filter p h
theorem wL (x : α) (l : List α) (p : Int) : look key val (x :: l) p = if key x = p then val x else look key val l p := by
 unfold look
 rw [List.find?_cons]
 by_cases h : key x = p
 ·simp [h]
 ·simp [h]
theorem TS {l : List α} (hu : Dc key l) {x : α} (hx : x ∈ l) : look key val l (key x) = val x := by
  induction l with
  | nil => cases hx
  | cons y l ih =>
    rw [wL]
    rcases List.mem_cons.1 hx with rfl | hx
    · rw [if_pos rfl]
    · have := hu.head x hx
      rw [if_neg (by omega), ih hu.tail hx]
theorem VL (l : List α) (p : Int) : (∃ x ∈ l, key x = p ∧ look key val l p = val x) ∨ ((∀ x ∈ l, key x ≠ p) ∧ look key val l p = 0) := by
  induction l with
  | nil => exact .inr ⟨fun x hx => (by cases hx), rfl⟩
  | cons y l ih =>
    by_cases h : key y = p
    · exact .inl ⟨y, List.mem_cons_self .., h, by rw [wL, if_pos h]⟩
    · rcases ih with ⟨x, hx, h1, h2⟩ | ⟨h1, h2⟩
      · exact .inl ⟨x, List.mem_cons_of_mem _ hx, h1, by rw [wL, if_neg h, h2]⟩
      · refine .inr ⟨fun x hx => ?_, by rw [wL, if_neg h, h2]⟩
        rcases List.mem_cons.1 hx with rfl | hx
        · exact h
        · exact h1 x hx
theorem Dc.inj {l : List α} (hu : Dc key l) {x y : α} (hx : x ∈ l) (hy : y ∈ l) (h : key x = key y) : x = y := by
  induction l with
  | nil => cases hx
  | cons z l ih =>
    rcases List.mem_cons.1 hx with e1 | hx1
    · rcases List.mem_cons.1 hy with e2 | hy1
      · rw [e1, e2]
      · have := hu.head y hy1; rw [e1] at h; omega
    · rcases List.mem_cons.1 hy with e2 | hy1
      · have := hu.head x hx1; rw [e2] at h; omega
      · exact ih hu.tail hx1 hy1
end
section
variable {α : Type}
variable {key : α → Int} {join : α → α → α}
end
def SI {α : Type} (d : Kd α) (w : World) (v : Value) (l : List α) : Prop := ∃ A c, v = .slice A l.length c ∧ l.length ≤ c ∧ d.C w A l.length l
theorem SI.below {α : Type} {d : Kd α} {w w' : World} {v : Value} {l : List α} (h : SI d w v l) (hb : Below w.heap.size w w') : SI d w' v l := by
 obtain ⟨A, c, e, h1, h2⟩ := h
 exact ⟨A, c, e, h1, Kd.bM h2 hb⟩
theorem SI.of {α : Type} {d : Kd α} {w : World} {A : Option Addr} {c : Nat} {l : List α} (h2 : d.C w A l.length l) (h1 : l.length ≤ c) : SI d w (.slice A l.length c) l := ⟨A, c, rfl, h1, h2⟩
theorem SI.qR {α : Type} {d : Kd α} {e : Nat} {w : World} {base : Nat} {ok : Nat → Prop} {v : Value} {l : List α} (h : d.R e w base ok v l) : SI d w v l := Kd.qo h
theorem SI.nil {α : Type} (d : Kd α) (w : World) : SI d w (.slice none 0 0) [] := ⟨none, 0, rfl, Nat.le_refl _, Kd.RJ d w⟩
abbrev Hi := WU
abbrev kSp := jE
abbrev kPr := jI
def HI (w : World) (v : Value) (h : Hi) : Prop :=
 ∃ v5 v6 v7 v8, v = .agg #[.int .i64 h.f0, .int .u64 h.f1, .int .u64 h.f2, .int .u64 h.f3, .int .u64 h.f4, v5, v6, v7, v8] ∧ SI kSp w v5 h.f5 ∧ SI kSp w v6 h.f6 ∧ SI (Kd.int .i64) w v7 h.f7 ∧ SI (Kd.int .i64) w v8 h.f8
theorem HI.below {w w' : World} {v : Value} {h : Hi} (x : HI w v h) (hb : Below w.heap.size w w') : HI w' v h := by
 obtain ⟨v5, v6, v7, v8, e, h5, h6, h7, h8⟩ := x
 exact ⟨v5, v6, v7, v8, e, h5.below hb, h6.below hb, h7.below hb, h8.below hb⟩
theorem HI.open_ {w : World} {v : Value} {h : Hi} (x : HI w v h) : ∃ A5 c5 A6 c6 A7 c7 A8 c8, v = .agg #[.int .i64 h.f0, .int .u64 h.f1, .int .u64 h.f2, .int .u64 h.f3, .int .u64 h.f4, .slice A5 h.f5.length c5, .slice A6 h.f6.length c6, .slice A7 h.f7.length c7, .slice A8 h.f8.length c8] ∧
  SI kSp w (.slice A5 h.f5.length c5) h.f5 ∧ SI kSp w (.slice A6 h.f6.length c6) h.f6 ∧ SI (Kd.int .i64) w (.slice A7 h.f7.length c7) h.f7 ∧ SI (Kd.int .i64) w (.slice A8 h.f8.length c8) h.f8 := by
 obtain ⟨v5, v6, v7, v8, rfl, h5, h6, h7, h8⟩ := x
 obtain ⟨A5, c5, rfl, NY, NZ⟩ := h5
 obtain ⟨A6, c6, rfl, N7, N8⟩ := h6
 obtain ⟨A7, c7, rfl, N9, h72⟩ := h7
 obtain ⟨A8, c8, rfl, Oa, Ob⟩ := h8
 exact ⟨A5, c5, A6, c6, A7, c7, A8, c8, rfl, .of NZ NY, .of N8 N7, .of h72 N9, .of Ob Oa⟩
theorem HI.mk {w : World} {h : Hi} {v5 v6 v7 v8 : Value} (h5 : SI kSp w v5 h.f5) (h6 : SI kSp w v6 h.f6) (h7 : SI (Kd.int .i64) w v7 h.f7) (h8 : SI (Kd.int .i64) w v8 h.f8) :
 HI w (.agg #[.int .i64 h.f0, .int .u64 h.f1, .int .u64 h.f2, .int .u64 h.f3, .int .u64 h.f4, v5, v6, v7, v8]) h := ⟨v5, v6, v7, v8, rfl, h5, h6, h7, h8⟩
def yQ (h : Hi) : Prop := VI h.f0 h.f1 h.f2 h.f3 h.f4 h.f5 h.f6 h.f7 h.f8
def iy (h : Hi) : List Pr × List Pr × Int := xJ h.f0 h.f1 h.f2 h.f3 h.f4 h.f5 h.f6 h.f7 h.f8
def jD (h : Hi) : Int := (iy h).2.2
theorem Oc (h : Hi) (hw : yQ h) (w : World) (v : Value) (hv : HI w v h) : Calls Try.prog 70 #[v] w fun e w' =>
  ∃ v0 v1 : Value, e = .returned (.tuple #[v0, v1, .int .i64 (iy h).2.2]) ∧ SI kPr w' v0 (iy h).1 ∧ SI kPr w' v1 (iy h).2.1 ∧ Below w.heap.size w w' := by
 obtain ⟨A5, c5, A6, c6, A7, c7, A8, c8, rfl, ⟨_, _, e5, NY, NZ⟩, ⟨_, _, e6, N7, N8⟩, ⟨_, _, e7, N9, h72⟩, ⟨_, _, e8, Oa, Ob⟩⟩ := hv.open_
 cases e5; cases e6; cases e7; cases e8
 refine (hist_open.calls h.f0 h.f1 h.f2 h.f3 h.f4 A5 c5 h.f5 A6 c6 h.f6 A7 c7 h.f7 A8 c8 h.f8 (iy h).1 (iy h).2.1 (iy h).2.2 w NZ NY N8 N7 h72 N9 Ob Oa (if_pos hw)).mono ?_
 rintro e w1 ⟨v0, v1, rfl, h0, h1, hb⟩
 exact ⟨v0, v1, rfl, .qR h0, .qR h1, hb⟩
set_option maxHeartbeats 4000000 in
set_option maxRecDepth 100000 in
theorem JW (h : Hi) (hw : yQ h) (w : World) (v : Value) (hv : HI w v h) : Calls Try.prog 31 #[v] w fun e w' =>
  e = .returned (.int .i64 (jD h)) ∧ Below w.heap.size w w' := by
 have hu := Try.underlying29
 obtain ⟨A5, c5, A6, c6, A7, c7, A8, c8, e, -⟩ := hv.open_
 subst e
 have HV := ah hv
 have HW := ah hw
 clear hv hw
 go_enter Try.func31, Try.ntmps31
 go_wp2_with (go_at_call 70; (with_reducible refine (Oc h HW.out _ _ (HV.out.below (ak (Below.refl _ _) _))).mono ?_); rintro e w1 ⟨v0, v1, rfl, h0, h1, hb⟩; have HB := ah (aH (ak (Below.refl w.heap.size w) _) (by simp) hb); clear h0 h1 hb)
 go_ret
 exact ⟨rfl, HB.out⟩
def Au (h : Hi) (side : Int) : List Pr × Int := if side = 0 then ((iy h).1, (iy h).2.2) else if side = 1 then ((iy h).2.1, (iy h).2.2) else ([], 11)
set_option maxHeartbeats 4000000 in
set_option maxRecDepth 100000 in
theorem PL (h : Hi) (hw : yQ h) (side : Int) (w : World) (v : Value) (hv : HI w v h) : Calls Try.prog 78 #[v, .int .i64 side] w fun e w' =>
  ∃ v0, e = .returned (.tuple #[v0, .int .i64 (Au h side).2]) ∧ SI kPr w' v0 (Au h side).1 ∧ Below w.heap.size w w' := by
 have hu := Try.underlying29
 obtain ⟨A5, c5, A6, c6, A7, c7, A8, c8, e, -⟩ := hv.open_
 subst e
 have HV := ah hv
 have HW := ah hw
 clear hv hw
 unfold Au
 by_cases c0 : side = 0
 ·subst c0
  rw [if_pos rfl]
  go_enter Try.func78, Try.ntmps78
  go_wp2_with (go_at_call 70; (with_reducible refine (Oc h HW.out _ _ (HV.out.below (ak (Below.refl _ _) _))).mono ?_); rintro e w1 ⟨v0, v1, rfl, h0, h1, hb⟩; have HO := ah h0; have HB := ah (aH (ak (Below.refl w.heap.size w) _) (by simp) hb); clear h0 h1 hb)
  go_ret2
  exact ⟨_, rfl, HO.out, HB.out⟩
 ·rw [if_neg c0]
  have c0a : (side == 0) = false := beq_eq_false_iff_ne.2 c0
  have c0b : (side != 0) = true := bne_iff_ne.2 c0
  by_cases c1 : side = 1
  ·subst c1
   rw [if_pos rfl]
   clear c0
   go_enter Try.func78, Try.ntmps78
   go_wp2_with (go_at_call 70; (with_reducible refine (Oc h HW.out _ _ (HV.out.below (ak (Below.refl _ _) _))).mono ?_); rintro e w1 ⟨v0, v1, rfl, h0, h1, hb⟩; have HO := ah h1; have HB := ah (aH (ak (Below.refl w.heap.size w) _) (by simp) hb); clear h0 h1 hb)
   go_ret2
   exact ⟨_, rfl, HO.out, HB.out⟩
  ·rw [if_neg c1]
   have c1a : (side == 1) = false := beq_eq_false_iff_ne.2 c1
   have c1b : (side != 1) = true := bne_iff_ne.2 c1
   clear c0 c1
   go_enter Try.func78, Try.ntmps78
   go_wp2
   go_ret2
   exact ⟨_, rfl, SI.nil _ _, ak (Below.refl _ _) _⟩
def KA (base : Nat) (w w' : World) : Prop := w.heap.size ≤ w'.heap.size ∧ ∀ k, base ≤ k → k < w.heap.size → w'.heap[k]? = w.heap[k]?
theorem KA.refl (base : Nat) (w : World) : KA base w w := ⟨Nat.le_refl _, fun _ _ _ => rfl⟩
theorem KA.trans {base : Nat} {a b c : World} (h : KA base a b) (k : KA base b c) : KA base a c := ⟨Nat.le_trans h.1 k.1, fun i h0 h1 => (k.2 i h0 (Nat.lt_of_lt_of_le h1 h.1)).trans (h.2 i h0 h1)⟩
theorem KA.below {base : Nat} {w w' : World} (h : Below w.heap.size w w') : KA base w w' := ⟨h.size, fun k _ h1 => h.block k h1⟩
theorem KA.set {base b i : Nat} (w : World) (hb : b < base) (u : Value) : KA base w (w.setCell ⟨b, i, none⟩ u) := ⟨by simp [World.setCell], fun k h0 _ => Below.heap_setCell w ⟨b, i, none⟩ u k (by show k ≠ b; omega)⟩
def FI {α : Type} (d : Kd α) (base : Nat) (w : World) (v : Value) (l : List α) : Prop := ∀ w', KA base w w' → SI d w' v l
theorem FI.now {α : Type} {d : Kd α} {base : Nat} {w : World} {v : Value} {l : List α} (h : FI d base w v l) : SI d w v l := h w (KA.refl _ _)
theorem FI.at_ {α : Type} {d : Kd α} {base : Nat} {w w' : World} {v : Value} {l : List α} (h : FI d base w v l) (k : KA base w w') : SI d w' v l := h w' k
theorem FI.step {α : Type} {d : Kd α} {base : Nat} {w w' : World} {v : Value} {l : List α} (h : FI d base w v l) (k : KA base w w') : FI d base w' v l := fun w2 h2 => h w2 (k.trans h2)
theorem FI.qR {α : Type} {d : Kd α} {e : Nat} {w : World} {base b : Nat} {ok : Nat → Prop} {v : Value} {l : List α} (h : d.R e w b ok v l) (hb : base ≤ b) : FI d base w v l := fun w' hk =>
 .qR (Kd.Jm (Kd.jL h) (fun k ho hlt => hk.2 k (Nat.le_trans hb ho.2.1) hlt))
theorem FI.slice {α : Type} {d : Kd α} {base : Nat} {w : World} {v : Value} {l : List α} (h : FI d base w v l) : ∃ A c, v = .slice A l.length c := by obtain ⟨A, c, e, _⟩ := h.now; exact ⟨A, c, e⟩
set_option maxHeartbeats 1000000 in
theorem nine {W : World} {g : Nat} {t : TypeId} {a0 a1 a2 a3 a4 a5 a6 a7 a8 : Value} (h : W.heap[g]? = some (.cells #[a0, a1, a2, a3, a4, a5, a6, a7, a8] t (0, 0))) (v0 v1 v2 v3 v4 v5 v6 v7 v8 : Value) :
  (((((((((W.setCell ⟨g, 0, none⟩ v0).setCell ⟨g, 1, none⟩ v1).setCell ⟨g, 2, none⟩ v2).setCell ⟨g, 3, none⟩ v3).setCell ⟨g, 4, none⟩ v4).setCell ⟨g, 5, none⟩ v5).setCell ⟨g, 6, none⟩ v6).setCell ⟨g, 7, none⟩ v7).setCell ⟨g, 8, none⟩ v8).heap[g]? = some (.cells #[v0, v1, v2, v3, v4, v5, v6, v7, v8] t (0, 0)) := by
 refine bC (cs := #[v0, v1, v2, v3, v4, v5, v6, v7, a8]) ?_ 8 _ rfl
 refine bC (cs := #[v0, v1, v2, v3, v4, v5, v6, a7, a8]) ?_ 7 _ rfl
 refine bC (cs := #[v0, v1, v2, v3, v4, v5, a6, a7, a8]) ?_ 6 _ rfl
 refine bC (cs := #[v0, v1, v2, v3, v4, a5, a6, a7, a8]) ?_ 5 _ rfl
 refine bC (cs := #[v0, v1, v2, v3, a4, a5, a6, a7, a8]) ?_ 4 _ rfl
 refine bC (cs := #[v0, v1, v2, a3, a4, a5, a6, a7, a8]) ?_ 3 _ rfl
 refine bC (cs := #[v0, v1, a2, a3, a4, a5, a6, a7, a8]) ?_ 2 _ rfl
 refine bC (cs := #[v0, a1, a2, a3, a4, a5, a6, a7, a8]) ?_ 1 _ rfl
 refine bC (cs := #[a0, a1, a2, a3, a4, a5, a6, a7, a8]) ?_ 0 _ rfl
 exact h
theorem FI.lower {α : Type} {d : Kd α} {base b : Nat} {w : World} {v : Value} {l : List α} (h : FI d b w v l) (hb : base ≤ b) : FI d base w v l := fun w' k => h w' ⟨k.1, fun i h0 h1 => k.2 i (Nat.le_trans hb h0) h1⟩
theorem mJ {B : Nat} {w W : World} {g i j : Nat} {u u' : Value} (_ : w.heap.size ≤ W.heap.size) (h : Below B w W) (hg : B ≤ g := by exact Nat.le_refl _) : Below B w ((W.setCell ⟨g, i, none⟩ u).setCell ⟨g, j, none⟩ u') := (h.setCell (p := ⟨g, i, none⟩) hg u).setCell (p := ⟨g, j, none⟩) hg u'
theorem jd {B : Nat} {w W : World} {g : Nat} (h : Below B w W) (hg : B ≤ g) (v0 v1 v2 v3 v4 v5 v6 v7 v8 : Value) :
  Below B w (((((((((W.setCell ⟨g, 0, none⟩ v0).setCell ⟨g, 1, none⟩ v1).setCell ⟨g, 2, none⟩ v2).setCell ⟨g, 3, none⟩ v3).setCell ⟨g, 4, none⟩ v4).setCell ⟨g, 5, none⟩ v5).setCell ⟨g, 6, none⟩ v6).setCell ⟨g, 7, none⟩ v7).setCell ⟨g, 8, none⟩ v8) :=
 (((((((((h.setCell (p := ⟨g, 0, none⟩) hg v0).setCell (p := ⟨g, 1, none⟩) hg v1).setCell (p := ⟨g, 2, none⟩) hg v2).setCell (p := ⟨g, 3, none⟩) hg v3).setCell (p := ⟨g, 4, none⟩) hg v4).setCell (p := ⟨g, 5, none⟩) hg v5).setCell (p := ⟨g, 6, none⟩) hg v6).setCell (p := ⟨g, 7, none⟩) hg v7).setCell (p := ⟨g, 8, none⟩) hg v8)
theorem rV {base : Nat} {w W : World} {g : Nat} (h : KA base w W) (hg : g < base) (v0 v1 v2 v3 v4 v5 v6 v7 v8 : Value) :
  KA base w (((((((((W.setCell ⟨g, 0, none⟩ v0).setCell ⟨g, 1, none⟩ v1).setCell ⟨g, 2, none⟩ v2).setCell ⟨g, 3, none⟩ v3).setCell ⟨g, 4, none⟩ v4).setCell ⟨g, 5, none⟩ v5).setCell ⟨g, 6, none⟩ v6).setCell ⟨g, 7, none⟩ v7).setCell ⟨g, 8, none⟩ v8) :=
 h.trans (((((((((KA.set _ hg _).trans (KA.set _ hg _)).trans (KA.set _ hg _)).trans (KA.set _ hg _)).trans (KA.set _ hg _)).trans (KA.set _ hg _)).trans (KA.set _ hg _)).trans (KA.set _ hg _)).trans (KA.set _ hg _))
def sN (l : List Pr) : List Sp × List Int × Int := if (kH l).2.2 ≠ 0 then ([], [], (kH l).2.2) else match jc 0 (l.map (·.f1)) with | none => ([], [], 28) | some d => ((kH l).1, d, 0)
def uF (l : List Pr) : Prop := TJ l ∧ l.length < 4398046511104
theorem Yg (l : List Pr) (hw : uF l) (k : Nat) (hk : 3 * l.length + 1 < k) : hist_lay.f k l = some (sN l) := by
 unfold hist_lay.f sN
 rw [TK l hw.1 hw.2 k hk]
 simp only [Option.bind_some]
 by_cases h : (kH l).2.2 = 0
 ·rw [if_pos h, if_neg (by simp [h])]
  have h1 : (kH l).2.1 = l.map (·.f1) := by
   unfold kH at h ⊢
   split
   ·rfl
   ·rename_i hc; rw [if_neg hc] at h; exact absurd h hc
  rw [h1, QC _ (by intro x hx; obtain ⟨s, hs, rfl⟩ := List.mem_map.1 hx; exact (hw.1 s hs).2) (by simp; have := hw.2; omega) k (by simp; omega)]
  cases jc 0 (l.map (·.f1)) with
  | none => simp
  | some d => simp
 ·rw [if_neg h, if_pos h]
theorem Xi (l : List Pr) (hw : uF l) (w : World) (v : Value) (hv : SI kPr w v l) : Calls Try.prog 125 #[v] w fun e w' =>
  ∃ v0 v1 : Value, e = .returned (.tuple #[v0, v1, .int .i64 (sN l).2.2]) ∧ FI kSp w.heap.size w' v0 (sN l).1 ∧ FI (Kd.int .i64) w.heap.size w' v1 (sN l).2.1 ∧ Below w.heap.size w w' := by
 obtain ⟨A, c, rfl, hc, hr⟩ := hv
 refine (hist_lay.calls (3 * l.length + 2) A c l (sN l).1 (sN l).2.1 (sN l).2.2 w hr hc (Yg l hw _ (by omega))).mono ?_
 rintro e w1 ⟨v0, v1, rfl, h0, h1, hb⟩
 exact ⟨v0, v1, rfl, .qR h0 (Nat.le_refl _), .qR h1 (Nat.le_refl _), hb⟩
theorem zW {l : List Pr} (hw : uF l) : lK (sN l).1 ∧ FW (sN l).2.1 ∧ (sN l).2.1.length < 4398046511104 := by
  unfold sN
  by_cases h : (kH l).2.2 = 0
  · rw [if_neg (by simp [h])]
    cases hd : jc 0 (l.map (·.f1)) with
    | none => exact ⟨fun s hs => by simp at hs, fun s hs => by simp at hs, by simp⟩
    | some d =>
      have h0 : (jO (l.map (·.f0))).2 = 0 := by
        unfold kH at h
        by_cases hc : (jO (l.map (·.f0))).2 = 0
        · exact hc
        · rw [if_neg hc] at h; exact absurd h hc
      have h1 : (kH l).1 = (jO (l.map (·.f0))).1 := by unfold kH; rw [if_pos h0]
      obtain ⟨hr, hl, hl2, he⟩ := FN h0
      have hdl : ∀ (l : List Int) (a : Int) (o : List Int), jc a l = some o → o.length = l.length ∧ ∀ x ∈ o, i64 x := by
        intro l
        induction l with
        | nil => intro a o h; cases h; exact ⟨rfl, fun x hx => by simp at hx⟩
        | cons x l ih =>
          intro a o h
          simp only [jc] at h
          split at h
          · rename_i hx
            cases hq : jc x l with
            | none => rw [hq] at h; simp at h
            | some o' =>
              rw [hq] at h; simp at h; subst h
              obtain ⟨i1, i2⟩ := ih x o' hq
              refine ⟨by simp [i1], fun y hy => ?_⟩
              rcases List.mem_cons.1 hy with rfl | hy
              · exact hx
              · exact i2 y hy
          · cases h
      obtain ⟨i1, i2⟩ := hdl _ _ _ hd
      have := hw.2
      refine ⟨by rw [h1, he]; exact FP hr hl, i2, by simp only; rw [i1]; simpa using this⟩
  · rw [if_pos h]; exact ⟨fun s hs => by simp at hs, fun s hs => by simp at hs, by simp⟩
def wM (h : Hi) (p n : List Pr) : Hi := ⟨h.f0, h.f1, h.f2, h.f3, h.f4, (sN p).1, (sN n).1, (sN p).2.1, (sN n).2.1⟩
def qH : Hi := ⟨0, 0, 0, 0, 0, [], [], [], []⟩
def vC (h : Hi) (p n : List Pr) : Hi × Int := if (sN p).2.2 ≠ 0 then (qH, (sN p).2.2) else if (sN n).2.2 ≠ 0 then (qH, (sN n).2.2) else if jD (wM h p n) ≠ 0 then (qH, jD (wM h p n)) else (wM h p n, 0)
theorem F5 {h : Hi} {p n : List Pr} (hw : yQ h) (hp : uF p) (hn : uF n) : yQ (wM h p n) := by
 obtain ⟨a0, a1, a2, a3, a4, -⟩ := hw
 exact ⟨a0, a1, a2, a3, a4, (zW hp).1, (zW hn).1, (zW hp).2.1, (zW hn).2.1, (zW hp).2.2, (zW hn).2.2⟩
def HF (base : Nat) (w : World) (v : Value) (h : Hi) : Prop :=
 ∃ v5 v6 v7 v8, v = .agg #[.int .i64 h.f0, .int .u64 h.f1, .int .u64 h.f2, .int .u64 h.f3, .int .u64 h.f4, v5, v6, v7, v8] ∧ FI kSp base w v5 h.f5 ∧ FI kSp base w v6 h.f6 ∧ FI (Kd.int .i64) base w v7 h.f7 ∧ FI (Kd.int .i64) base w v8 h.f8
theorem HF.now {base : Nat} {w : World} {v : Value} {h : Hi} (x : HF base w v h) : HI w v h := by
 obtain ⟨v5, v6, v7, v8, e, h5, h6, h7, h8⟩ := x
 exact ⟨v5, v6, v7, v8, e, h5.now, h6.now, h7.now, h8.now⟩
theorem HF.step {base : Nat} {w w' : World} {v : Value} {h : Hi} (x : HF base w v h) (k : KA base w w') : HF base w' v h := by
 obtain ⟨v5, v6, v7, v8, e, h5, h6, h7, h8⟩ := x
 exact ⟨v5, v6, v7, v8, e, h5.step k, h6.step k, h7.step k, h8.step k⟩
theorem HF.lower {base b : Nat} {w : World} {v : Value} {h : Hi} (x : HF b w v h) (hb : base ≤ b) : HF base w v h := by
 obtain ⟨v5, v6, v7, v8, e, h5, h6, h7, h8⟩ := x
 exact ⟨v5, v6, v7, v8, e, h5.lower hb, h6.lower hb, h7.lower hb, h8.lower hb⟩
theorem HF.mk {base : Nat} {w : World} {h : Hi} {v5 v6 v7 v8 : Value} (h5 : FI kSp base w v5 h.f5) (h6 : FI kSp base w v6 h.f6) (h7 : FI (Kd.int .i64) base w v7 h.f7) (h8 : FI (Kd.int .i64) base w v8 h.f8) :
 HF base w (.agg #[.int .i64 h.f0, .int .u64 h.f1, .int .u64 h.f2, .int .u64 h.f3, .int .u64 h.f4, v5, v6, v7, v8]) h := ⟨v5, v6, v7, v8, rfl, h5, h6, h7, h8⟩
theorem HF.empty (base : Nat) (w : World) : HF base w (.agg #[.int .i64 0, .int .u64 0, .int .u64 0, .int .u64 0, .int .u64 0, .slice none 0 0, .slice none 0 0, .slice none 0 0, .slice none 0 0]) qH :=
 HF.mk (h := qH) (fun w _ => SI.nil _ w) (fun w _ => SI.nil _ w) (fun w _ => SI.nil _ w) (fun w _ => SI.nil _ w)
theorem HF.open_ {base : Nat} {w : World} {v : Value} {h : Hi} (x : HF base w v h) : ∃ A5 c5 A6 c6 A7 c7 A8 c8, v = .agg #[.int .i64 h.f0, .int .u64 h.f1, .int .u64 h.f2, .int .u64 h.f3, .int .u64 h.f4, .slice A5 h.f5.length c5, .slice A6 h.f6.length c6, .slice A7 h.f7.length c7, .slice A8 h.f8.length c8] := by
 obtain ⟨A5, c5, A6, c6, A7, c7, A8, c8, e, -⟩ := x.now.open_
 exact ⟨A5, c5, A6, c6, A7, c7, A8, c8, e⟩
set_option maxHeartbeats 8000000 in
set_option maxRecDepth 100000 in
theorem Yh (h : Hi) (p n : List Pr) (hw : yQ (wM h p n)) (hp : uF p) (hn : uF n) (w : World) (v vp vn : Value) (hv : HI w v h) (hvp : SI kPr w vp p) (hvn : SI kPr w vn n) : Calls Try.prog 64 #[v, vp, vn] w fun e w' =>
  ∃ v', e = .returned (.tuple #[v', .int .i64 (vC h p n).2]) ∧ HF w.heap.size w' v' (vC h p n).1 ∧ Below w.heap.size w w' := by
 have hu := Try.underlying29
 obtain ⟨A5, c5, A6, c6, A7, c7, A8, c8, e, -⟩ := hv.open_
 subst e
 have HP := ah hvp
 have HN := ah hvn
 have HW := ah hw
 have Fj := fun w hv => Xi p hp w vp hv
 have HC2 := fun w hv => Xi n hn w vn hv
 clear hv hvp hvn hw hp hn
 unfold vC wM at *
 generalize sN p = lp at *
 generalize sN n = ln at *
 obtain ⟨sp, dp, ep⟩ := lp
 obtain ⟨sn, dn, en⟩ := ln
 simp only at HW Fj HC2 ⊢
 replace Fj := ah Fj
 replace HC2 := ah HC2
 by_cases c1 : ep = 0
 rotate_left
 ·rw [if_pos c1]
  have c1a : (ep != 0) = true := bne_iff_ne.2 c1
  clear c1
  go_enter Try.func64, Try.ntmps64
  go_wp2_with (first | (go_at_call 125; (with_reducible refine (Fj.out _ (HP.out.below (ak (ak (Below.refl _ _) _) _))).mono ?_); rintro e w1 ⟨v0, v1, rfl, h0, h1, hb⟩; obtain ⟨B0, d0, rfl⟩ := h0.slice; obtain ⟨B1, d1, rfl⟩ := h1.slice; have QH := ah (show FI kSp (w.heap.size + 1 + 1) w1 (.slice B0 sp.length d0) sp by simpa using h0); have QI := ah (show FI (Kd.int .i64) (w.heap.size + 1 + 1) w1 (.slice B1 dp.length d1) dp by simpa using h1); have HB1 := ah (aH (ak (ak (Below.refl w.heap.size w) (.cells #[.int .i64 h.f0, .int .u64 h.f1, .int .u64 h.f2, .int .u64 h.f3, .int .u64 h.f4, .slice A5 h.f5.length c5, .slice A6 h.f6.length c6, .slice A7 h.f7.length c7, .slice A8 h.f8.length c8] 29)) (.cells #[.int .i64 0, .int .u64 0, .int .u64 0, .int .u64 0, .int .u64 0, .slice none 0 0, .slice none 0 0, .slice none 0 0, .slice none 0 0] 29)) (by simp; omega) hb); have oN := ah (bG (oH (iM w (.cells #[.int .i64 h.f0, .int .u64 h.f1, .int .u64 h.f2, .int .u64 h.f3, .int .u64 h.f4, .slice A5 h.f5.length c5, .slice A6 h.f6.length c6, .slice A7 h.f7.length c7, .slice A8 h.f8.length c8] 29)) (.cells #[.int .i64 0, .int .u64 0, .int .u64 0, .int .u64 0, .int .u64 0, .slice none 0 0, .slice none 0 0, .slice none 0 0, .slice none 0 0] 29)) hb); have qg := ah (show w1.heap[w.heap.size + 1]? = some (.cells #[.int .i64 0, .int .u64 0, .int .u64 0, .int .u64 0, .int .u64 0, .slice none 0 0, .slice none 0 0, .slice none 0 0, .slice none 0 0] 29 (0, 0)) from (bG (show ((w.alloc (.cells #[.int .i64 h.f0, .int .u64 h.f1, .int .u64 h.f2, .int .u64 h.f3, .int .u64 h.f4, .slice A5 h.f5.length c5, .slice A6 h.f6.length c6, .slice A7 h.f7.length c7, .slice A8 h.f8.length c8] 29)).alloc (.cells #[.int .i64 0, .int .u64 0, .int .u64 0, .int .u64 0, .int .u64 0, .slice none 0 0, .slice none 0 0, .slice none 0 0, .slice none 0 0] 29)).heap[w.heap.size + 1]? = _ by simpa using iM (w.alloc (.cells #[.int .i64 h.f0, .int .u64 h.f1, .int .u64 h.f2, .int .u64 h.f3, .int .u64 h.f4, .slice A5 h.f5.length c5, .slice A6 h.f6.length c6, .slice A7 h.f7.length c7, .slice A8 h.f8.length c8] 29)) (.cells #[.int .i64 0, .int .u64 0, .int .u64 0, .int .u64 0, .int .u64 0, .slice none 0 0, .slice none 0 0, .slice none 0 0, .slice none 0 0] 29)) hb)); have hfx := fun i => ay oN.out i; have hzx := fun i => aG oN.out i; have hfy := fun i => ay qg.out i; have hzy := fun i => aG qg.out i; clear h0 h1 hb))
  refine bodyPost_ret (gQ rfl _ _ (w.heap.size + 1) 29 #[.int .i64 0, .int .u64 0, .int .u64 0, .int .u64 0, .int .u64 0, .slice none 0 0, .slice none 0 0, .slice none 0 0, .slice none 0 0] (0, 0) _ rfl (nine (iG (iG qg.out (by show w.heap.size + 1 ≠ w.heap.size; omega) _) (by show w.heap.size + 1 ≠ w.heap.size; omega) _) _ _ _ _ _ _ _ _ _) Try.underlying29 rfl (by kernel_rfl)) rfl ?_
  exact ⟨_, rfl, HF.empty _ _, jd (mJ HB1.out.size HB1.out) (by omega) _ _ _ _ _ _ _ _ _⟩
 subst c1
 rw [if_neg (by simp)]
 by_cases c2 : en = 0
 rotate_left
 ·rw [if_pos c2]
  have c2a : (en != 0) = true := bne_iff_ne.2 c2
  clear c2
  go_enter Try.func64, Try.ntmps64
  go_wp2_with (first | (go_at_call 125; (with_reducible refine (Fj.out _ (HP.out.below (ak (ak (Below.refl _ _) _) _))).mono ?_); rintro e w1 ⟨v0, v1, rfl, h0, h1, hb⟩; obtain ⟨B0, d0, rfl⟩ := h0.slice; obtain ⟨B1, d1, rfl⟩ := h1.slice; have QH := ah (show FI kSp (w.heap.size + 1 + 1) w1 (.slice B0 sp.length d0) sp by simpa using h0); have QI := ah (show FI (Kd.int .i64) (w.heap.size + 1 + 1) w1 (.slice B1 dp.length d1) dp by simpa using h1); have HB1 := ah (aH (ak (ak (Below.refl w.heap.size w) (.cells #[.int .i64 h.f0, .int .u64 h.f1, .int .u64 h.f2, .int .u64 h.f3, .int .u64 h.f4, .slice A5 h.f5.length c5, .slice A6 h.f6.length c6, .slice A7 h.f7.length c7, .slice A8 h.f8.length c8] 29)) (.cells #[.int .i64 0, .int .u64 0, .int .u64 0, .int .u64 0, .int .u64 0, .slice none 0 0, .slice none 0 0, .slice none 0 0, .slice none 0 0] 29)) (by simp; omega) hb); have oN := ah (bG (oH (iM w (.cells #[.int .i64 h.f0, .int .u64 h.f1, .int .u64 h.f2, .int .u64 h.f3, .int .u64 h.f4, .slice A5 h.f5.length c5, .slice A6 h.f6.length c6, .slice A7 h.f7.length c7, .slice A8 h.f8.length c8] 29)) (.cells #[.int .i64 0, .int .u64 0, .int .u64 0, .int .u64 0, .int .u64 0, .slice none 0 0, .slice none 0 0, .slice none 0 0, .slice none 0 0] 29)) hb); have qg := ah (show w1.heap[w.heap.size + 1]? = some (.cells #[.int .i64 0, .int .u64 0, .int .u64 0, .int .u64 0, .int .u64 0, .slice none 0 0, .slice none 0 0, .slice none 0 0, .slice none 0 0] 29 (0, 0)) from (bG (show ((w.alloc (.cells #[.int .i64 h.f0, .int .u64 h.f1, .int .u64 h.f2, .int .u64 h.f3, .int .u64 h.f4, .slice A5 h.f5.length c5, .slice A6 h.f6.length c6, .slice A7 h.f7.length c7, .slice A8 h.f8.length c8] 29)).alloc (.cells #[.int .i64 0, .int .u64 0, .int .u64 0, .int .u64 0, .int .u64 0, .slice none 0 0, .slice none 0 0, .slice none 0 0, .slice none 0 0] 29)).heap[w.heap.size + 1]? = _ by simpa using iM (w.alloc (.cells #[.int .i64 h.f0, .int .u64 h.f1, .int .u64 h.f2, .int .u64 h.f3, .int .u64 h.f4, .slice A5 h.f5.length c5, .slice A6 h.f6.length c6, .slice A7 h.f7.length c7, .slice A8 h.f8.length c8] 29)) (.cells #[.int .i64 0, .int .u64 0, .int .u64 0, .int .u64 0, .int .u64 0, .slice none 0 0, .slice none 0 0, .slice none 0 0, .slice none 0 0] 29)) hb)); have hfx := fun i => ay oN.out i; have hzx := fun i => aG oN.out i; have hfy := fun i => ay qg.out i; have hzy := fun i => aG qg.out i; clear h0 h1 hb) | (go_at_call 125; (with_reducible refine (HC2.out _ (HN.out.below (mJ (HB1.out.size) HB1.out))).mono ?_); rintro e w3 ⟨v2, v3, rfl, h2, h3, hb⟩; obtain ⟨B2, d2, rfl⟩ := h2.slice; obtain ⟨B3, d3, rfl⟩ := h3.slice; have HS2 := ah (show w.heap.size + 1 + 1 ≤ w1.heap.size from by have := kL qg.out; omega); have HF2 := ah (show FI kSp (w.heap.size + 1 + 1) w3 (.slice B2 sn.length d2) sn from FI.lower h2 (by have := HS2.out; simpa [World.setCell] using this)); have HF3 := ah (show FI (Kd.int .i64) (w.heap.size + 1 + 1) w3 (.slice B3 dn.length d3) dn from FI.lower h3 (by have := HS2.out; simpa [World.setCell] using this)); have Hg := ah (show KA (w.heap.size + 1 + 1) w1 w3 from ((KA.set _ (by omega) _).trans (KA.set _ (by omega) _)).trans (KA.below hb)); have HB3 := ah (aH (mJ (HB1.out.size) HB1.out) (by have := HB1.out.size; simpa [World.setCell] using this) hb); have yw := ah (bG (show ((w1.setCell ⟨w.heap.size, 5, none⟩ (.slice B0 sp.length d0)).setCell ⟨w.heap.size, 7, none⟩ (.slice B1 dp.length d1)).heap[w.heap.size]? = some (.cells #[.int .i64 h.f0, .int .u64 h.f1, .int .u64 h.f2, .int .u64 h.f3, .int .u64 h.f4, .slice B0 sp.length d0, .slice A6 h.f6.length c6, .slice B1 dp.length d1, .slice A8 h.f8.length c8] 29 (0, 0)) from bC (bC oN.out 5 _ rfl) 7 _ rfl) hb); have F6 := ah (bG (show ((w1.setCell ⟨w.heap.size, 5, none⟩ (.slice B0 sp.length d0)).setCell ⟨w.heap.size, 7, none⟩ (.slice B1 dp.length d1)).heap[w.heap.size + 1]? = some (.cells #[.int .i64 0, .int .u64 0, .int .u64 0, .int .u64 0, .int .u64 0, .slice none 0 0, .slice none 0 0, .slice none 0 0, .slice none 0 0] 29 (0, 0)) from iG (iG qg.out (by show w.heap.size + 1 ≠ w.heap.size; omega) _) (by show w.heap.size + 1 ≠ w.heap.size; omega) _) hb); clear hfx hzx hfy hzy; have hfx := fun i => ay yw.out i; have hzx := fun i => aG yw.out i; have hfy := fun i => ay F6.out i; have hzy := fun i => aG F6.out i; clear h2 h3 hb))
  refine bodyPost_ret (gQ rfl _ _ (w.heap.size + 1) 29 #[.int .i64 0, .int .u64 0, .int .u64 0, .int .u64 0, .int .u64 0, .slice none 0 0, .slice none 0 0, .slice none 0 0, .slice none 0 0] (0, 0) _ rfl (nine (iG (iG F6.out (by show w.heap.size + 1 ≠ w.heap.size; omega) _) (by show w.heap.size + 1 ≠ w.heap.size; omega) _) _ _ _ _ _ _ _ _ _) Try.underlying29 rfl (by kernel_rfl)) rfl ?_
  exact ⟨_, rfl, HF.empty _ _, jd (mJ HB3.out.size HB3.out) (by omega) _ _ _ _ _ _ _ _ _⟩
 subst c2
 rw [if_neg (by simp)]
 have hck : ∀ w v5 v6 v7 v8, SI kSp w v5 sp → SI kSp w v6 sn → SI (Kd.int .i64) w v7 dp → SI (Kd.int .i64) w v8 dn → Calls Try.prog 31 #[.agg #[.int .i64 h.f0, .int .u64 h.f1, .int .u64 h.f2, .int .u64 h.f3, .int .u64 h.f4, v5, v6, v7, v8]] w fun e w' => e = .returned (.int .i64 (jD ⟨h.f0, h.f1, h.f2, h.f3, h.f4, sp, sn, dp, dn⟩)) ∧ Below w.heap.size w w' :=
  fun w v5 v6 v7 v8 h5 h6 h7 h8 => JW _ HW.out w _ (HI.mk (h := ⟨h.f0, h.f1, h.f2, h.f3, h.f4, sp, sn, dp, dn⟩) h5 h6 h7 h8)
 generalize jD ⟨h.f0, h.f1, h.f2, h.f3, h.f4, sp, sn, dp, dn⟩ = ec at hck ⊢
 have HCK := ah hck
 clear hck
 by_cases c3 : ec = 0
 rotate_left
 ·rw [if_pos c3]
  have c3a : (ec != 0) = true := bne_iff_ne.2 c3
  clear c3
  go_enter Try.func64, Try.ntmps64
  go_wp2_with (first | (go_at_call 125; (with_reducible refine (Fj.out _ (HP.out.below (ak (ak (Below.refl _ _) _) _))).mono ?_); rintro e w1 ⟨v0, v1, rfl, h0, h1, hb⟩; obtain ⟨B0, d0, rfl⟩ := h0.slice; obtain ⟨B1, d1, rfl⟩ := h1.slice; have QH := ah (show FI kSp (w.heap.size + 1 + 1) w1 (.slice B0 sp.length d0) sp by simpa using h0); have QI := ah (show FI (Kd.int .i64) (w.heap.size + 1 + 1) w1 (.slice B1 dp.length d1) dp by simpa using h1); have HB1 := ah (aH (ak (ak (Below.refl w.heap.size w) (.cells #[.int .i64 h.f0, .int .u64 h.f1, .int .u64 h.f2, .int .u64 h.f3, .int .u64 h.f4, .slice A5 h.f5.length c5, .slice A6 h.f6.length c6, .slice A7 h.f7.length c7, .slice A8 h.f8.length c8] 29)) (.cells #[.int .i64 0, .int .u64 0, .int .u64 0, .int .u64 0, .int .u64 0, .slice none 0 0, .slice none 0 0, .slice none 0 0, .slice none 0 0] 29)) (by simp; omega) hb); have oN := ah (bG (oH (iM w (.cells #[.int .i64 h.f0, .int .u64 h.f1, .int .u64 h.f2, .int .u64 h.f3, .int .u64 h.f4, .slice A5 h.f5.length c5, .slice A6 h.f6.length c6, .slice A7 h.f7.length c7, .slice A8 h.f8.length c8] 29)) (.cells #[.int .i64 0, .int .u64 0, .int .u64 0, .int .u64 0, .int .u64 0, .slice none 0 0, .slice none 0 0, .slice none 0 0, .slice none 0 0] 29)) hb); have qg := ah (show w1.heap[w.heap.size + 1]? = some (.cells #[.int .i64 0, .int .u64 0, .int .u64 0, .int .u64 0, .int .u64 0, .slice none 0 0, .slice none 0 0, .slice none 0 0, .slice none 0 0] 29 (0, 0)) from (bG (show ((w.alloc (.cells #[.int .i64 h.f0, .int .u64 h.f1, .int .u64 h.f2, .int .u64 h.f3, .int .u64 h.f4, .slice A5 h.f5.length c5, .slice A6 h.f6.length c6, .slice A7 h.f7.length c7, .slice A8 h.f8.length c8] 29)).alloc (.cells #[.int .i64 0, .int .u64 0, .int .u64 0, .int .u64 0, .int .u64 0, .slice none 0 0, .slice none 0 0, .slice none 0 0, .slice none 0 0] 29)).heap[w.heap.size + 1]? = _ by simpa using iM (w.alloc (.cells #[.int .i64 h.f0, .int .u64 h.f1, .int .u64 h.f2, .int .u64 h.f3, .int .u64 h.f4, .slice A5 h.f5.length c5, .slice A6 h.f6.length c6, .slice A7 h.f7.length c7, .slice A8 h.f8.length c8] 29)) (.cells #[.int .i64 0, .int .u64 0, .int .u64 0, .int .u64 0, .int .u64 0, .slice none 0 0, .slice none 0 0, .slice none 0 0, .slice none 0 0] 29)) hb)); have hfx := fun i => ay oN.out i; have hzx := fun i => aG oN.out i; have hfy := fun i => ay qg.out i; have hzy := fun i => aG qg.out i; clear h0 h1 hb) | (go_at_call 125; (with_reducible refine (HC2.out _ (HN.out.below (mJ (HB1.out.size) HB1.out))).mono ?_); rintro e w3 ⟨v2, v3, rfl, h2, h3, hb⟩; obtain ⟨B2, d2, rfl⟩ := h2.slice; obtain ⟨B3, d3, rfl⟩ := h3.slice; have HS2 := ah (show w.heap.size + 1 + 1 ≤ w1.heap.size from by have := kL qg.out; omega); have HF2 := ah (show FI kSp (w.heap.size + 1 + 1) w3 (.slice B2 sn.length d2) sn from FI.lower h2 (by have := HS2.out; simpa [World.setCell] using this)); have HF3 := ah (show FI (Kd.int .i64) (w.heap.size + 1 + 1) w3 (.slice B3 dn.length d3) dn from FI.lower h3 (by have := HS2.out; simpa [World.setCell] using this)); have Hg := ah (show KA (w.heap.size + 1 + 1) w1 w3 from ((KA.set _ (by omega) _).trans (KA.set _ (by omega) _)).trans (KA.below hb)); have HB3 := ah (aH (mJ (HB1.out.size) HB1.out) (by have := HB1.out.size; simpa [World.setCell] using this) hb); have yw := ah (bG (show ((w1.setCell ⟨w.heap.size, 5, none⟩ (.slice B0 sp.length d0)).setCell ⟨w.heap.size, 7, none⟩ (.slice B1 dp.length d1)).heap[w.heap.size]? = some (.cells #[.int .i64 h.f0, .int .u64 h.f1, .int .u64 h.f2, .int .u64 h.f3, .int .u64 h.f4, .slice B0 sp.length d0, .slice A6 h.f6.length c6, .slice B1 dp.length d1, .slice A8 h.f8.length c8] 29 (0, 0)) from bC (bC oN.out 5 _ rfl) 7 _ rfl) hb); have F6 := ah (bG (show ((w1.setCell ⟨w.heap.size, 5, none⟩ (.slice B0 sp.length d0)).setCell ⟨w.heap.size, 7, none⟩ (.slice B1 dp.length d1)).heap[w.heap.size + 1]? = some (.cells #[.int .i64 0, .int .u64 0, .int .u64 0, .int .u64 0, .int .u64 0, .slice none 0 0, .slice none 0 0, .slice none 0 0, .slice none 0 0] 29 (0, 0)) from iG (iG qg.out (by show w.heap.size + 1 ≠ w.heap.size; omega) _) (by show w.heap.size + 1 ≠ w.heap.size; omega) _) hb); clear hfx hzx hfy hzy; have hfx := fun i => ay yw.out i; have hzx := fun i => aG yw.out i; have hfy := fun i => ay F6.out i; have hzy := fun i => aG F6.out i; clear h2 h3 hb) | (go_at_call 31; (with_reducible refine (HCK.out _ _ _ _ _ (QH.out.at_ (Hg.out.trans ((KA.set _ (by omega) _).trans (KA.set _ (by omega) _)))) (HF2.out.at_ ((KA.set _ (by omega) _).trans (KA.set _ (by omega) _))) (QI.out.at_ (Hg.out.trans ((KA.set _ (by omega) _).trans (KA.set _ (by omega) _)))) (HF3.out.at_ ((KA.set _ (by omega) _).trans (KA.set _ (by omega) _)))).mono ?_); rintro e w5 ⟨rfl, hb⟩; have TT := ah (show KA (w.heap.size + 1 + 1) w3 w5 from ((KA.set _ (by omega) _).trans (KA.set _ (by omega) _)).trans (KA.below hb)); have LW := ah (aH (mJ (HB3.out.size) HB3.out) (by have := HB3.out.size; simpa [World.setCell] using this) hb); have NW := ah (bG (show ((w3.setCell ⟨w.heap.size, 6, none⟩ (.slice B2 sn.length d2)).setCell ⟨w.heap.size, 8, none⟩ (.slice B3 dn.length d3)).heap[w.heap.size]? = some (.cells #[.int .i64 h.f0, .int .u64 h.f1, .int .u64 h.f2, .int .u64 h.f3, .int .u64 h.f4, .slice B0 sp.length d0, .slice B2 sn.length d2, .slice B1 dp.length d1, .slice B3 dn.length d3] 29 (0, 0)) from bC (bC yw.out 6 _ rfl) 8 _ rfl) hb); have F7 := ah (bG (show ((w3.setCell ⟨w.heap.size, 6, none⟩ (.slice B2 sn.length d2)).setCell ⟨w.heap.size, 8, none⟩ (.slice B3 dn.length d3)).heap[w.heap.size + 1]? = some (.cells #[.int .i64 0, .int .u64 0, .int .u64 0, .int .u64 0, .int .u64 0, .slice none 0 0, .slice none 0 0, .slice none 0 0, .slice none 0 0] 29 (0, 0)) from iG (iG F6.out (by show w.heap.size + 1 ≠ w.heap.size; omega) _) (by show w.heap.size + 1 ≠ w.heap.size; omega) _) hb); clear hfx hzx hfy hzy; have hfx := fun i => ay NW.out i; have hzx := fun i => aG NW.out i; have hfy := fun i => ay F7.out i; have hzy := fun i => aG F7.out i; clear hb))
  refine bodyPost_ret (gQ rfl _ _ (w.heap.size + 1) 29 #[.int .i64 0, .int .u64 0, .int .u64 0, .int .u64 0, .int .u64 0, .slice none 0 0, .slice none 0 0, .slice none 0 0, .slice none 0 0] (0, 0) _ rfl (nine (F7.out) _ _ _ _ _ _ _ _ _) Try.underlying29 rfl (by kernel_rfl)) rfl ?_
  exact ⟨_, rfl, HF.empty _ _, jd LW.out (by omega) _ _ _ _ _ _ _ _ _⟩
 subst c3
 rw [if_neg (by simp)]
 go_enter Try.func64, Try.ntmps64
 go_wp2_with (first | (go_at_call 125; (with_reducible refine (Fj.out _ (HP.out.below (ak (ak (Below.refl _ _) _) _))).mono ?_); rintro e w1 ⟨v0, v1, rfl, h0, h1, hb⟩; obtain ⟨B0, d0, rfl⟩ := h0.slice; obtain ⟨B1, d1, rfl⟩ := h1.slice; have QH := ah (show FI kSp (w.heap.size + 1 + 1) w1 (.slice B0 sp.length d0) sp by simpa using h0); have QI := ah (show FI (Kd.int .i64) (w.heap.size + 1 + 1) w1 (.slice B1 dp.length d1) dp by simpa using h1); have HB1 := ah (aH (ak (ak (Below.refl w.heap.size w) (.cells #[.int .i64 h.f0, .int .u64 h.f1, .int .u64 h.f2, .int .u64 h.f3, .int .u64 h.f4, .slice A5 h.f5.length c5, .slice A6 h.f6.length c6, .slice A7 h.f7.length c7, .slice A8 h.f8.length c8] 29)) (.cells #[.int .i64 0, .int .u64 0, .int .u64 0, .int .u64 0, .int .u64 0, .slice none 0 0, .slice none 0 0, .slice none 0 0, .slice none 0 0] 29)) (by simp; omega) hb); have oN := ah (bG (oH (iM w (.cells #[.int .i64 h.f0, .int .u64 h.f1, .int .u64 h.f2, .int .u64 h.f3, .int .u64 h.f4, .slice A5 h.f5.length c5, .slice A6 h.f6.length c6, .slice A7 h.f7.length c7, .slice A8 h.f8.length c8] 29)) (.cells #[.int .i64 0, .int .u64 0, .int .u64 0, .int .u64 0, .int .u64 0, .slice none 0 0, .slice none 0 0, .slice none 0 0, .slice none 0 0] 29)) hb); have qg := ah (show w1.heap[w.heap.size + 1]? = some (.cells #[.int .i64 0, .int .u64 0, .int .u64 0, .int .u64 0, .int .u64 0, .slice none 0 0, .slice none 0 0, .slice none 0 0, .slice none 0 0] 29 (0, 0)) from (bG (show ((w.alloc (.cells #[.int .i64 h.f0, .int .u64 h.f1, .int .u64 h.f2, .int .u64 h.f3, .int .u64 h.f4, .slice A5 h.f5.length c5, .slice A6 h.f6.length c6, .slice A7 h.f7.length c7, .slice A8 h.f8.length c8] 29)).alloc (.cells #[.int .i64 0, .int .u64 0, .int .u64 0, .int .u64 0, .int .u64 0, .slice none 0 0, .slice none 0 0, .slice none 0 0, .slice none 0 0] 29)).heap[w.heap.size + 1]? = _ by simpa using iM (w.alloc (.cells #[.int .i64 h.f0, .int .u64 h.f1, .int .u64 h.f2, .int .u64 h.f3, .int .u64 h.f4, .slice A5 h.f5.length c5, .slice A6 h.f6.length c6, .slice A7 h.f7.length c7, .slice A8 h.f8.length c8] 29)) (.cells #[.int .i64 0, .int .u64 0, .int .u64 0, .int .u64 0, .int .u64 0, .slice none 0 0, .slice none 0 0, .slice none 0 0, .slice none 0 0] 29)) hb)); have hfx := fun i => ay oN.out i; have hzx := fun i => aG oN.out i; have hfy := fun i => ay qg.out i; have hzy := fun i => aG qg.out i; clear h0 h1 hb) | (go_at_call 125; (with_reducible refine (HC2.out _ (HN.out.below (mJ (HB1.out.size) HB1.out))).mono ?_); rintro e w3 ⟨v2, v3, rfl, h2, h3, hb⟩; obtain ⟨B2, d2, rfl⟩ := h2.slice; obtain ⟨B3, d3, rfl⟩ := h3.slice; have HS2 := ah (show w.heap.size + 1 + 1 ≤ w1.heap.size from by have := kL qg.out; omega); have HF2 := ah (show FI kSp (w.heap.size + 1 + 1) w3 (.slice B2 sn.length d2) sn from FI.lower h2 (by have := HS2.out; simpa [World.setCell] using this)); have HF3 := ah (show FI (Kd.int .i64) (w.heap.size + 1 + 1) w3 (.slice B3 dn.length d3) dn from FI.lower h3 (by have := HS2.out; simpa [World.setCell] using this)); have Hg := ah (show KA (w.heap.size + 1 + 1) w1 w3 from ((KA.set _ (by omega) _).trans (KA.set _ (by omega) _)).trans (KA.below hb)); have HB3 := ah (aH (mJ (HB1.out.size) HB1.out) (by have := HB1.out.size; simpa [World.setCell] using this) hb); have yw := ah (bG (show ((w1.setCell ⟨w.heap.size, 5, none⟩ (.slice B0 sp.length d0)).setCell ⟨w.heap.size, 7, none⟩ (.slice B1 dp.length d1)).heap[w.heap.size]? = some (.cells #[.int .i64 h.f0, .int .u64 h.f1, .int .u64 h.f2, .int .u64 h.f3, .int .u64 h.f4, .slice B0 sp.length d0, .slice A6 h.f6.length c6, .slice B1 dp.length d1, .slice A8 h.f8.length c8] 29 (0, 0)) from bC (bC oN.out 5 _ rfl) 7 _ rfl) hb); have F6 := ah (bG (show ((w1.setCell ⟨w.heap.size, 5, none⟩ (.slice B0 sp.length d0)).setCell ⟨w.heap.size, 7, none⟩ (.slice B1 dp.length d1)).heap[w.heap.size + 1]? = some (.cells #[.int .i64 0, .int .u64 0, .int .u64 0, .int .u64 0, .int .u64 0, .slice none 0 0, .slice none 0 0, .slice none 0 0, .slice none 0 0] 29 (0, 0)) from iG (iG qg.out (by show w.heap.size + 1 ≠ w.heap.size; omega) _) (by show w.heap.size + 1 ≠ w.heap.size; omega) _) hb); clear hfx hzx hfy hzy; have hfx := fun i => ay yw.out i; have hzx := fun i => aG yw.out i; have hfy := fun i => ay F6.out i; have hzy := fun i => aG F6.out i; clear h2 h3 hb) | (go_at_call 31; (with_reducible refine (HCK.out _ _ _ _ _ (QH.out.at_ (Hg.out.trans ((KA.set _ (by omega) _).trans (KA.set _ (by omega) _)))) (HF2.out.at_ ((KA.set _ (by omega) _).trans (KA.set _ (by omega) _))) (QI.out.at_ (Hg.out.trans ((KA.set _ (by omega) _).trans (KA.set _ (by omega) _)))) (HF3.out.at_ ((KA.set _ (by omega) _).trans (KA.set _ (by omega) _)))).mono ?_); rintro e w5 ⟨rfl, hb⟩; have TT := ah (show KA (w.heap.size + 1 + 1) w3 w5 from ((KA.set _ (by omega) _).trans (KA.set _ (by omega) _)).trans (KA.below hb)); have LW := ah (aH (mJ (HB3.out.size) HB3.out) (by have := HB3.out.size; simpa [World.setCell] using this) hb); have NW := ah (bG (show ((w3.setCell ⟨w.heap.size, 6, none⟩ (.slice B2 sn.length d2)).setCell ⟨w.heap.size, 8, none⟩ (.slice B3 dn.length d3)).heap[w.heap.size]? = some (.cells #[.int .i64 h.f0, .int .u64 h.f1, .int .u64 h.f2, .int .u64 h.f3, .int .u64 h.f4, .slice B0 sp.length d0, .slice B2 sn.length d2, .slice B1 dp.length d1, .slice B3 dn.length d3] 29 (0, 0)) from bC (bC yw.out 6 _ rfl) 8 _ rfl) hb); have F7 := ah (bG (show ((w3.setCell ⟨w.heap.size, 6, none⟩ (.slice B2 sn.length d2)).setCell ⟨w.heap.size, 8, none⟩ (.slice B3 dn.length d3)).heap[w.heap.size + 1]? = some (.cells #[.int .i64 0, .int .u64 0, .int .u64 0, .int .u64 0, .int .u64 0, .slice none 0 0, .slice none 0 0, .slice none 0 0, .slice none 0 0] 29 (0, 0)) from iG (iG F6.out (by show w.heap.size + 1 ≠ w.heap.size; omega) _) (by show w.heap.size + 1 ≠ w.heap.size; omega) _) hb); clear hfx hzx hfy hzy; have hfx := fun i => ay NW.out i; have hzx := fun i => aG NW.out i; have hfy := fun i => ay F7.out i; have hzy := fun i => aG F7.out i; clear hb))
 refine bodyPost_ret (gQ rfl _ _ (w.heap.size + 1) 29 #[.int .i64 h.f0, .int .u64 h.f1, .int .u64 h.f2, .int .u64 h.f3, .int .u64 h.f4, .slice B0 sp.length d0, .slice B2 sn.length d2, .slice B1 dp.length d1, .slice B3 dn.length d3] (0, 0) _ rfl (nine (F7.out) _ _ _ _ _ _ _ _ _) Try.underlying29 rfl (by kernel_rfl)) rfl ?_
 exact ⟨_, rfl, HF.mk (h := ⟨h.f0, h.f1, h.f2, h.f3, h.f4, sp, sn, dp, dn⟩) ((QH.out.step (Hg.out.trans (rV TT.out (by omega) _ _ _ _ _ _ _ _ _))).lower (by omega)) ((HF2.out.step (rV TT.out (by omega) _ _ _ _ _ _ _ _ _)).lower (by omega)) ((QI.out.step (Hg.out.trans (rV TT.out (by omega) _ _ _ _ _ _ _ _ _))).lower (by omega)) ((HF3.out.step (rV TT.out (by omega) _ _ _ _ _ _ _ _ _)).lower (by omega)), jd LW.out (by omega) _ _ _ _ _ _ _ _ _⟩
theorem Yi (h : Hi) (hw : yQ h) (p n : List Pr) (hp : uF p) (hn : uF n) (w : World) (v vp vn : Value) (hv : HI w v h) (hvp : SI kPr w vp p) (hvn : SI kPr w vn n) : Calls Try.prog 64 #[v, vp, vn] w fun e w' =>
 ∃ v', e = .returned (.tuple #[v', .int .i64 (vC h p n).2]) ∧ HF w.heap.size w' v' (vC h p n).1 ∧ Below w.heap.size w w' := Yh h p n (F5 hw hp hn) hp hn w v vp vn hv hvp hvn
attribute [local go_sem] Oper.semAt_some
def cnts (l : List Pr) : Prop := ∀ p ∈ l, i64 p.f0 ∧ 0 ≤ p.f1 ∧ p.f1 ≤ 9223372036854775807
instance (l : List Pr) : Decidable (cnts l) := by unfold cnts; exact inferInstance
end Go.Proofs.Ytooiccpmngmapaa.P
namespace Go.Proofs.Ytooiccpmngmapaa.P
open Go.RowKit Go.Shelf Go.Proofs.YtooiccpmngmapaaW.PrintWords Go.Proofs.YtooiccpmngmapaaW.PrintLast Go.Proofs.YtooiccpmngmapaaW.PrintMore
def yR (g : Nat) (cap : Array Value) (p : gy → Bool) (w : World) : Prop :=
 ∀ (W : World) (x : gy), Below w.heap.size w W → Calls Try.prog g (#[.agg #[.int .i64 x.f0, .int .i64 x.f1]] ++ cap) W fun e w' => e = .returned (.bool (p x)) ∧ Below W.heap.size W w'
theorem BX (l : List gy) (i : Nat) (h : i < l.length) : aZ l (i : Int) = l[i] := by
 unfold aZ; simp [List.getD, h]
set_option maxHeartbeats 2000000 in
theorem yA (g : Nat) (cap : Array Value) (p : gy → Bool) (A : Option Addr) (c : Nat) (l : List gy) (w : World)
    (hr : Kd.C jI w A l.length l) (hc : l.length ≤ c) (hm : l.length ≤ 9223372036854775807) (hp : yR g cap p w) (eg : ∀ args w, (callFunc g args).run Try.prog w = .ok (.enter g args) w) :
    Calls Try.prog 170 #[.slice A l.length c, .func (.func g) #[] cap] w fun e w' => e = .returned (.int .i64 (wH p l)) ∧ Below w.heap.size w w' := by
  have hu := Try.underlying173
  have HR := ah hr
  have HP := ah hp
  clear hr hp
  go_enter Try.func170, Try.ntmps170
  go_wp2
  go_loopg [5, 8] l.length (fun gg _ s8 wr => ∃ kk : Nat, kk ≤ l.length ∧ l.length - kk ≤ gg ∧ s8 = .int .i64 kk ∧ aj (Below w.heap.size w wr) ∧ aj (∀ j (hj : j < kk) (hj2 : j < l.length), p l[j] = false))
  case atStart => exact ⟨0, Nat.zero_le _, by omega, rfl, ⟨Below.refl _ w⟩, ⟨fun j hj => absurd hj (Nat.not_lt_zero _)⟩⟩
  case round =>
    obtain ⟨kk, hkk, hg, rfl, HB, HA⟩ := hrel
    by_cases hlt : kk < l.length
    · have hlti : (kk : Int) < (l.length : Int) := by omega
      obtain ⟨ad, e1, hx0, hx1⟩ := qA HR.out kk (by omega) (by omega)
      cases e1
      replace hx0 := (HB.out.cell (World.block_lt_of_cell? w _ hx0)).trans hx0
      replace hx1 := (HB.out.cell (World.block_lt_of_cell? w _ hx1)).trans hx1
      rw [BX l kk hlt, Int.toNat_natCast] at hx0 hx1
      have hcall := HP.out wr l[kk] HB.out
      generalize hy : l[kk] = y at hx0 hx1 hcall
      have HY := ah hy
      clear hy
      cases hq : p y with
      | true =>
        rw [hq] at hcall
        have HQ := ah hq
        clear hq
        have HC := ah hcall
        clear hcall
        go_wp2_with (go_at_fn g; refine HC.out.mono ?_; rintro e w' ⟨rfl, hb'⟩)
        go_ret
        refine ⟨?_, HB.out.trans (hb'.mono HB.out.size)⟩
        rw [Bv p l kk hlt (by rw [HY.out]; exact HQ.out) (fun j hj => HA.out j hj (by omega))]; rfl
      | false =>
        rw [hq] at hcall
        have HQ := ah hq
        clear hq
        have HC := ah hcall
        clear hcall
        go_wp2_with (go_at_fn g; refine HC.out.mono ?_; rintro e w' ⟨rfl, hb'⟩)
        go_roundg (l.length - (kk + 1))
        case measure => omega
        case rel =>
          refine ⟨kk + 1, by omega, by omega, by go_num, ⟨HB.out.trans (hb'.mono HB.out.size)⟩, ⟨fun j hj hj2 => ?_⟩⟩
          by_cases e : j = kk
          · subst e
            rw [HY.out]; exact HQ.out
          · exact HA.out j (by omega) hj2
    · have hlti : ¬ (kk : Int) < (l.length : Int) := by omega
      have hk : kk = l.length := by omega
      go_wp2
      go_ret
      refine ⟨?_, HB.out⟩
      rw [zK p l (fun j hj => HA.out j (by omega) hj)]; rfl
def slices_Clone_pair.f (l0 : List gy) : Option (List gy) := if l0.length < 8796093022208 then some l0 else none
set_option maxHeartbeats 2000000 in
set_option maxRecDepth 100000 in
theorem slices_Clone_pair.calls (A0 : Option Addr) (c0 : Nat) (l0 r : List gy) (w : World) (hr0 : Kd.C jI w A0 l0.length l0) (hc0 : l0.length ≤ c0) (h : slices_Clone_pair.f l0 = some r) :
    Calls Try.prog 135 #[.slice A0 l0.length c0] w fun e w' => ∃ lY : Value, e = .returned (lY) ∧ Kd.R jI 173 w' w.heap.size (fun _ => True) lY r ∧ Below w.heap.size w w' := by
  obtain ⟨hm, h2⟩ := lN h
  subst h2
  clear h
  have hu := Try.underlying91
  have HM := ah hm
  clear hm
  cases A0 with
  | none =>
    have hl : l0 = [] := by
      rcases Nat.eq_zero_or_pos l0.length with h | h
      · exact List.length_eq_zero_iff.1 h
      · obtain ⟨ad, e, _⟩ := hr0.2.2 h
        cases e
    subst hl
    have hn : ∀ W n c, (binOp .eql 91 (.slice none n c) (.slice none 0 0)).run Try.prog W = .ok (.bool true) W := fun W n c => by
      exact Lib.run_eql_slice_nil W _ _ none n c 0 0 Try.underlying91
    go_enter Try.func135, Try.ntmps135
    go_wp2
    go_ret
    exact ⟨_, rfl, Kd.dY _ _ _ _ _, Below.refl _ _⟩
  | some ad =>
    have hn : ∀ W n c, (binOp .eql 91 (.slice (some ad) n c) (.slice none 0 0)).run Try.prog W = .ok (.bool false) W := fun W n c => by
      exact Lib.run_eql_slice_nil W _ _ (some ad) n c 0 0 Try.underlying91
    have HR := ah hr0
    clear hr0
    go_enter Try.func135, Try.ntmps135
    go_wp2_with ((with_reducible refine dZ (b := .append) (xs := #[.tmp 5, .tmp 6]) rfl ?_); at_builtin; refine Kd.vZ jI (w0 := w) (Rr := jI.K w) w.heap.size rfl (.tmp 5) (.tmp 6) 91 173 _ 16 rfl Try.underlying91 Bo rfl (by decide) (by omega) (.slice (some ⟨w.heap.size, 0, none⟩) 0 0) [] l0 (some ad) l0.length c0 (fun _ => True) (fun _ => False) rfl rfl ?aO ?aR ?aK (fun _ hk => hk.elim) (fun _ _ => trivial) ?aB ?aS ?aL ?_; (case aO => exact ⟨fun _ _ => trivial, [], ⟨rfl, .inr ⟨w.heap.size, 0, #[], rfl, Nat.le_refl _, by simpa using iM w _, Nat.le_refl _, by unfold maxLen; omega, rfl, rfl⟩⟩, jA.none _ _⟩); (case aR => exact HR.out.qm (ak (Below.refl _ _) _) (fun _ _ h => h)); (case aK => intro x cs hx; rw [IB hx]; exact mD _ _ _ x); (case aB => exact ak (Below.refl _ _) _); (case aS => simp); (case aL => have := HM.out; simp; omega); intro v1 w1 ho hb hg hat; rw [List.nil_append] at ho; have HO := ah ho; have HB := ah hb; clear ho hb hg hat)
    go_ret
    exact ⟨_, rfl, HO.out, HB.out⟩
theorem Oe : ∀ w w1 base ok x cs, jI.M w base ok x cs → jI.M w1 base ok x cs := fun w w1 base ok x cs h => by
 rw [lV h]; exact mD _ _ _ x
theorem Og (n : Nat) : (Builtin.zeroCells (Value.agg #[.int .i64 0, .int .i64 0]).cells n).toList.length = n * 2 ∧ ∀ v ∈ (Builtin.zeroCells (Value.agg #[.int .i64 0, .int .i64 0]).cells n).toList, v.oneCell' = true := by
 have hc : (Value.agg #[.int .i64 0, .int .i64 0]).cells = #[.int .i64 0, .int .i64 0] := by kernel_rfl
 rw [hc]
 refine ⟨by simp [Builtin.zeroCells], fun v hv => ?_⟩
 simp only [Builtin.zeroCells, Array.toList_map, List.mem_map] at hv
 obtain ⟨i, _, rfl⟩ := hv
 have : i % 2 = 0 ∨ i % 2 = 1 := by omega
 rcases this with h | h <;> simp [h] <;> rfl
set_option maxHeartbeats 4000000 in
set_option maxRecDepth 100000 in
theorem Dw (g : Nat) (cap : Array Value) (p : gy → Bool) (w0 w : World) (v : Value) (xs : List gy)
    (HO : Kd.R jI 173 w w0.heap.size (fun _ => True) v xs) (HB : Below w0.heap.size w0 w) (hp : yR g cap p w0) (eg : ∀ args w, (callFunc g args).run Try.prog w = .ok (.enter g args) w) :
    Calls Try.prog 134 #[v, .func (.func g) #[] cap] w fun e w' => ∃ v' : Value, e = .returned v' ∧ Kd.R jI 173 w' w0.heap.size (fun _ => True) v' (xs.filter (fun x => !p x)) ∧ Below w0.heap.size w0 w' := by
  have hu := Try.underlying173
  obtain ⟨A, c, rfl, hlc, hC⟩ := Kd.qo HO
  have hm : xs.length ≤ 9223372036854775807 := hC.2.1
  have HI := yA g cap p A c xs w hC hlc hm (fun W x hb => hp W x (aH HB HB.size hb)) eg
  have HX := EY p xs
  have HP := ah hp
  clear hp
  generalize wH p xs = ix at HI HX
  rcases HX with ⟨rfl, hfil⟩ | ⟨i0, hi0, rfl, hhit, hbef⟩
  · rw [hfil]
    have HI := ah HI
    have HO := ah HO
    have HB := ah HB
    clear hC hfil
    go_enter Try.func134, Try.ntmps134
    go_wp2_with (go_at_call 170; refine HI.out.mono ?_; rintro e w' ⟨rfl, hb'⟩)
    go_ret
    exact ⟨_, rfl, Kd.fC HO.out hb', aH HB.out HB.out.size hb'⟩
  · obtain ⟨gb, cp, hv, hbg, hgl, cells, hcells⟩ := Kd.qw HO (by omega)
    injection hv with hA _ hcp
    subst hA; subst hcp
    have hne : (((i0 : Int)) == -1) = false := beq_eq_false_iff_ne.2 (by omega)
    have HS := DelInv.start hi0 hhit hbef
    have HI := ah HI
    have HO := ah HO
    have HB := ah HB
    have HS := ah HS
    have HM := ah hm
    have hi0' : i0 + 1 ≤ xs.length := hi0
    clear hC hhit hbef hcells
    go_enter Try.func134, Try.ntmps134
    go_wp2_with (go_at_call 170; refine HI.out.mono ?_; rintro e w' ⟨rfl, hb'⟩; have LX := ah (Kd.fC HO.out hb'); have HB1 := ah (aH HB.out HB.out.size hb'); clear hb' HI HO HB)
    go_loopg [5, 6] xs.length (fun gg s5 s6 wr => ∃ (i j : Nat) (ys : List gy), s5 = .int .i64 i ∧ s6 = .int .i64 j ∧ j ≤ xs.length ∧ xs.length - j ≤ gg ∧ aj (DelInv p xs i j ys) ∧ aj (Kd.R jI 173 wr w0.heap.size (fun _ => True) (.slice (some ⟨gb, 0, none⟩) xs.length c) ys) ∧ aj (Below w0.heap.size w0 wr))
    case atStart => exact ⟨i0, i0 + 1, xs, rfl, by go_num, by omega, by omega, HS, LX, HB1⟩
    case round =>
      obtain ⟨i, j, ys, rfl, rfl, hj, hg, HD, HO, HB⟩ := hrel
      clear HS LX HB1
      have hlen := HD.out.len
      have hij := HD.out.lt
      by_cases hlt : j < xs.length
      · have hlti : (j : Int) < (xs.length : Int) := by omega
        have hii : (i : Int) < (xs.length : Int) := by omega
        obtain ⟨hj2, hyx⟩ := HD.out.at_ hlt
        have hC := (Kd.bD HO.out).2.2
        obtain ⟨ad, e1, hx0, hx1⟩ := qA hC j (by omega) (by omega)
        cases e1
        rw [BX ys j hj2, Int.toNat_natCast, hyx] at hx0 hx1
        rw [add_plain] at hx0 hx1
        dsimp only at hx1
        have hcall := HP.out (wr.alloc (.cells #[.int .i64 xs[j].f0, .int .i64 xs[j].f1] 173)) xs[j] (aH HB.out HB.out.size (ak (Below.refl _ _) _))
        clear hC
        cases hq : p xs[j] with
        | true =>
          rw [hq] at hcall
          have HD' := ah (HD.out.skip hlt hq)
          have HC := ah hcall
          clear hcall hq hyx
          generalize xs[j] = y at hx0 hx1 HC
          go_wp2_with (go_at_fn g; refine HC.out.mono ?_; rintro e w' ⟨rfl, hb'⟩; have HB1 := ah (aH (aH HB.out HB.out.size (ak (Below.refl _ _) _)) (by have := HB.out.size; simp; omega) hb'); have LX := ah (Kd.fC (Kd.fC HO.out (ak (Below.refl _ _) _)) hb'); clear hb' HO HB)
          go_roundg (xs.length - (j + 1))
          case measure => omega
          case rel => exact ⟨i, j + 1, ys, rfl, by go_num, by omega, by omega, HD', LX, HB1⟩
        | false =>
          rw [hq] at hcall
          have HD' := ah (HD.out.keep hlt hq)
          have HC := ah hcall
          clear hcall hq hyx
          generalize xs[j] = y at hx0 hx1 HC HD'
          go_wp2_with (first | (go_at_fn g; refine HC.out.mono ?_; rintro e w' ⟨rfl, hb'⟩; have hv0 : w'.cell? ⟨wr.heap.size, 0, none⟩ = some (.int .i64 y.f0) := (hb'.cell (p := ⟨wr.heap.size, 0, none⟩) (by simp)).trans (by simp); have hv1 : w'.cell? ⟨wr.heap.size, 1, none⟩ = some (.int .i64 y.f1) := (hb'.cell (p := ⟨wr.heap.size, 1, none⟩) (by simp)).trans (by simp); have HB1 := ah (aH (aH HB.out HB.out.size (ak (Below.refl _ _) _)) (by have := HB.out.size; simp; omega) hb'); have LX := ah (Kd.fC (Kd.fC HO.out (ak (Below.refl _ _) _)) hb'); clear hb' HO HB) | ((with_reducible refine WM (.store 173 (.tmp 33) (.tmp 32)) rfl ?_); obtain ⟨ce, hcl, hcM, hcc, hcf⟩ := Kd.jJ LX.out z173 (i : Int) (by omega) (by omega); refine Kd.O8 jI (w0 := w0) w0.heap.size rfl rfl 173 (.tmp 33) (.tmp 32) rfl 173 (i : Int) 0 ys y (.agg #[.int .i64 y.f0, .int .i64 y.f1]) [.int .i64 y.f0, .int .i64 y.f1] ce (fun _ => True) (fun _ => False) (by first | rfl | simp) rfl rfl rfl (by kernel_rfl) (by intro q hq; simp at hq; rcases hq with rfl | rfl <;> rfl) LX.out (by omega) (by omega) hcl hcc (by show 0 + 2 ≤ 2; omega) (by rw [show ce.drop (0 + [Value.int .i64 y.f0, Value.int .i64 y.f1].length) = [] from List.drop_eq_nil_of_le (by rw [hcl]; exact Nat.le_refl 2)]; exact mD _ _ _ y) (fun _ h => h.elim) HB1.out ?_; intro w1 ho hb hg; rw [Int.toNat_natCast] at ho; have FZ := ah ho; have HB2 := ah hb; clear ho hb hg hcl hcM hcc hcf LX HB1))
          go_roundg (xs.length - (j + 1))
          case measure => omega
          case rel => exact ⟨i + 1, j + 1, ys.set i y, by go_num, by go_num, by omega, by omega, HD', FZ, HB2⟩
      · have hjx : j = xs.length := by omega
        subst hjx
        have hlti : ¬ (xs.length : Int) < (xs.length : Int) := by omega
        have hii : (i : Int) < (xs.length : Int) := by omega
        obtain ⟨inner, hown⟩ := Kd.Ip HO.out
        obtain ⟨cur, hcur, hcs, hnc⟩ : ∃ cur, wr.heap[gb]? = some (.cells cur 173 (0, 0)) ∧ cur.size = c * 2 ∧ xs.length ≤ c := by
          rcases hown.2 with ⟨hv, _⟩ | ⟨g', cap', cur, hv, hb, hh, hnc, hcm, hcs, ht⟩
          · cases hv
          · injection hv with ha _ hc
            injection ha with ha
            injection ha with hg'
            subst hg'; subst hc
            exact ⟨cur, hh, hcs, by omega⟩
        have hzl := Og (xs.length - i)
        have hpc := DL hcur (i * 2) (Builtin.zeroCells (Value.agg #[.int .i64 0, .int .i64 0]).cells (xs.length - i)).toList.length (by rw [hzl.1]; omega)
        have hcl : ∀ ty, (Builtin.clear_ #[91] ty #[.slice (some ⟨gb, i * 2, none⟩) (xs.length - i) (c - i)]).run Try.prog wr = .ok (.tuple #[]) (wr.setCells gb (i * 2) (Builtin.zeroCells (Value.agg #[.int .i64 0, .int .i64 0]).cells (xs.length - i)).toList) := fun ty =>
          yt wr _ _ ty (Value.agg #[.int .i64 0, .int .i64 0]) Try.underlying91 (fun w => by kernel_rfl) gb (i * 2) _ _ (by omega) hzl.2 hpc.1 hpc.2
        have HF := ah HD.out.done
        have HR2 : aj (Kd.R jI 173 (wr.setCells gb (i * 2) (Builtin.zeroCells (Value.agg #[.int .i64 0, .int .i64 0]).cells (xs.length - i)).toList) w0.heap.size (fun _ => True) (.slice (some ⟨gb, 0, none⟩) i c) (ys.take i)) := ⟨KY Oe (Kd.RQ HO.out (by omega)) _ _ (by show i * 2 ≤ i * 2; omega) (by rw [hzl.1]; show i * 2 + (xs.length - i) * 2 ≤ c * 2; omega)⟩
        have HB2 : aj (Below w0.heap.size w0 (wr.setCells gb (i * 2) (Builtin.zeroCells (Value.agg #[.int .i64 0, .int .i64 0]).cells (xs.length - i)).toList)) := ⟨by
          obtain ⟨h1, h2, h3, h4⟩ := rQ gb (Builtin.zeroCells (Value.agg #[.int .i64 0, .int .i64 0]).cells (xs.length - i)).toList (i * 2) wr
          refine HB.out.trans ⟨h1, h2, h3, by rw [h4]; exact Nat.le_refl _, fun k hk => qx _ _ k (by omega)⟩⟩
        have hic : (c = i) = False := by simp; omega
        clear HO HB hpc hzl hcur hcs hown HD
        generalize (Builtin.zeroCells (Value.agg #[.int .i64 0, .int .i64 0]).cells (xs.length - i)).toList = seg at hcl HR2 HB2
        go_wp2
        go_ret
        exact ⟨_, rfl, by rw [← HF.out]; exact HR2.out, HB2.out⟩
set_option maxRecDepth 100000 in
theorem F8 (W : World) (x : gy) (B : Nat) (pl : Int) (hc : W.cell? ⟨B, 0, none⟩ = some (.int .i64 pl)) :
  Calls Try.prog 136 #[.agg #[.int .i64 x.f0, .int .i64 x.f1], .pointer (some ⟨B, 0, none⟩)] W fun e w' => e = .returned (.bool (x.f1 == pl)) ∧ Below W.heap.size W w' := by
 have hu := Try.underlying173
 have hB : B < W.heap.size := World.block_lt_of_cell? W ⟨B, 0, none⟩ hc
 have hc2 : (W.alloc (.cells #[.int .i64 x.f0, .int .i64 x.f1] 173)).cell? ⟨B, 0, none⟩ = some (.int .i64 pl) := ((ak (Below.refl _ _) _).cell (p := ⟨B, 0, none⟩) hB).trans hc
 go_enter Try.func136, Try.ntmps136
 go_wp2
 go_ret
 exact ⟨rfl, (Below.refl _ _).alloc (Nat.le_refl _) _⟩
def pairs_Without_int64.f (l0 : List gy) (a1 : Int) : Option (List gy) :=
 if l0.length < 8796093022208 then some (l0.filter (fun x => !(x.f1 == a1))) else none
set_option maxHeartbeats 2000000 in
set_option maxRecDepth 100000 in
theorem pairs_Without_int64.calls (A0 : Option Addr) (c0 : Nat) (l0 : List gy) (a1 : Int) (r : List gy) (w : World) (hr0 : Kd.C jI w A0 l0.length l0) (hc0 : l0.length ≤ c0) (h : pairs_Without_int64.f l0 a1 = some r) :
  Calls Try.prog 71 #[.slice A0 l0.length c0, .int .i64 a1] w fun e w' => ∃ lY : Value, e = .returned (lY) ∧ Kd.R jI 173 w' w.heap.size (fun _ => True) lY r ∧ Below w.heap.size w w' := by
 obtain ⟨hm, h2⟩ := lN h
 subst h2
 clear h
 have HC := ah (slices_Clone_pair.calls A0 c0 l0 l0 (w.alloc (.cells #[.int .i64 a1] 2)) (Kd.bM hr0 (ak (Below.refl _ _) _)) hc0 (by unfold slices_Clone_pair.f; rw [if_pos hm]))
 have hp : yR 136 #[.pointer (some ⟨w.heap.size, 0, none⟩)] (fun x => x.f1 == a1) (w.alloc (.cells #[.int .i64 a1] 2)) :=
  fun W x hb => F8 W x w.heap.size a1 ((hb.cell (p := ⟨w.heap.size, 0, none⟩) (by simp)).trans (by simp))
 have HD := ah (fun w1 v ho hb => Dw 136 #[.pointer (some ⟨w.heap.size, 0, none⟩)] (fun x => x.f1 == a1) (w.alloc (.cells #[.int .i64 a1] 2)) w1 v l0 ho hb hp (enters_of Try.func136 (by kernel_rfl) rfl))
 clear hp hm hr0 hc0
 go_enter Try.func71, Try.ntmps71
 go_wp2_with (first | (go_at_call 135; refine HC.out.mono ?_; rintro e w' ⟨v, rfl, ho, hb⟩; have HO := ah ho; have HB := ah hb; clear ho hb HC) | (go_at_call 134; refine (HD.out _ _ HO.out HB.out).mono ?_; rintro e w' ⟨v', rfl, ho, hb⟩; have FZ := ah ho; have HB2 := ah hb; clear ho hb HD))
 go_ret
 refine ⟨_, rfl, Kd.bV FZ.out (by simp), aH (ak (Below.refl _ _) _) (by simp) HB2.out⟩
def jq (l : List Pr) : List Pr := l.filter (fun x => !(x.f1 == 0))
theorem IL (l : List Pr) (hl : l.length ≤ 4611686018427) (w : World) (v : Value) (hv : SI kPr w v l) : Calls Try.prog 71 #[v, .int .i64 0] w fun e w' =>
  ∃ v', e = .returned v' ∧ SI kPr w' v' (jq l) ∧ Below w.heap.size w w' := by
 obtain ⟨A, c, rfl, hc, hr⟩ := hv
 refine (pairs_Without_int64.calls A c l 0 (jq l) w hr hc (if_pos (by omega))).mono ?_
 rintro e w1 ⟨v0, rfl, h0, hb⟩
 exact ⟨v0, rfl, .qR h0, hb⟩
theorem F9 {l : List Pr} (h : uF l) : uF (jq l) := ⟨fun s hs => h.1 s (List.mem_filter.1 hs).1, Nat.lt_of_le_of_lt (List.length_filter_le _ _) h.2⟩
structure RowOK (l : List Pr) : Prop where
 wf : uF l
 len : l.length ≤ 4096
 cnt : cnts l
 ups : Dc (fun p : Pr => p.f0) l
theorem zX : ∀ (l : List Int) (e : Int), rises e l = true → l.Pairwise (· < ·) ∧ ∀ x ∈ l, e ≤ x
  | [], _, _ => ⟨List.Pairwise.nil, fun x hx => by simp at hx⟩
  | p :: l, e, h => by
    simp only [rises, Bool.and_eq_true, decide_eq_true_eq] at h
    obtain ⟨h1, h2⟩ := zX l (p + 1) h.2
    refine ⟨List.pairwise_cons.2 ⟨fun x hx => by have := h2 x hx; omega, h1⟩, fun x hx => ?_⟩
    rcases List.mem_cons.1 hx with rfl | hx
    · exact h.1.1
    · have := h2 x hx; omega
theorem PN : ∀ (ps v : List Int), ps.Pairwise (· < ·) → Dc (fun p : Pr => p.f0) (List.zipWith (fun p x => (⟨p, x⟩ : Pr)) ps v)
  | [], _, _ => by simp [Dc]
  | p :: ps, [], _ => by simp [Dc]
  | p :: ps, x :: v, h => by
    have h1 := List.pairwise_cons.1 h
    refine List.pairwise_cons.2 ⟨fun y hy => ?_, PN ps v h1.2⟩
    have : y.f0 ∈ ps := by
      obtain ⟨i, hi, rfl⟩ := List.mem_iff_getElem.1 hy
      simp only [List.getElem_zipWith]; exact List.getElem_mem _
    exact h1.1 _ this
theorem RowOK.nil : RowOK [] := ⟨⟨fun s hs => by simp at hs, by simp⟩, by simp, fun s hs => by simp at hs, Dc.nil⟩
theorem vF {l : List Sp} {d : List Int} (hd : FW d) : RowOK (dU l d).1 := by
  by_cases h0 : (dU l d).2 = 0
  · obtain ⟨hc, hl⟩ := Ar hd h0
    unfold dU at h0 hc hl ⊢
    by_cases c1 : fZ l = 0
    rotate_left
    · rw [if_neg c1] at h0; exact absurd h0 c1
    rw [if_pos c1] at h0 hc hl ⊢
    by_cases c2 : nT l = d.length
    rotate_left
    · rw [if_neg c2] at h0; cases h0
    rw [if_pos c2] at h0 hc hl ⊢
    cases hs : fF 0 d with
    | none => rw [hs] at h0; cases h0
    | some c =>
      rw [hs] at h0 hc hl
      simp only at h0 hc hl ⊢
      by_cases c3 : c.any (fun x => decide (x < 0)) = true
      · rw [if_pos c3] at h0; cases h0
      rw [if_neg c3] at hc hl ⊢
      have hr := uw c1
      have hf : ∀ p ∈ List.zipWith (fun p x => (⟨p, x⟩ : Pr)) (uP 0 l) c, -1048576 ≤ p.f0 ∧ p.f0 ≤ 1048576 := by
        intro y hy
        have : y.f0 ∈ uP 0 l := by
          obtain ⟨i, hi, rfl⟩ := List.mem_iff_getElem.1 hy
          simp only [List.getElem_zipWith]; exact List.getElem_mem _
        exact zV hr _ this
      refine ⟨⟨fun p hp => ?_, by omega⟩, hl, fun p hp => ?_, PN _ _ (zX _ _ hr).1⟩
      · have h1 := hf p hp; have h2 := hc p hp; exact ⟨⟨by omega, by omega⟩, ⟨by omega, by omega⟩⟩
      · have h1 := hf p hp; have h2 := hc p hp; exact ⟨⟨by omega, by omega⟩, h2⟩
  · have : (dU l d).1 = [] := by
      unfold dU at h0 ⊢
      by_cases c1 : fZ l = 0
      · rw [if_pos c1] at h0 ⊢
        by_cases c2 : nT l = d.length
        · rw [if_pos c2] at h0 ⊢
          cases hs : fF 0 d with
          | none => rfl
          | some c =>
            rw [hs] at h0
            simp only at h0 ⊢
            by_cases c3 : c.any (fun x => decide (x < 0)) = true
            · rw [if_pos c3]
            · rw [if_neg c3] at h0; exact absurd rfl h0
        · rw [if_neg c2]
      · rw [if_neg c1]
    rw [this]; exact RowOK.nil
theorem zY {h : Hi} (hw : yQ h) : RowOK (iy h).1 ∧ RowOK (iy h).2.1 := by
 obtain ⟨-, -, -, -, -, -, -, h7, h8, -⟩ := hw
 have a := vF (l := h.f5) h7
 have b := vF (l := h.f6) h8
 unfold iy xJ
 repeat' split
 all_goals first | exact ⟨a, b⟩ | exact ⟨RowOK.nil, RowOK.nil⟩
attribute [local go_sem] jh ji jR jS iI iJ jk jl
def tidepoleref09_Side.l0 : Nat → List Int → List Int → Int → Option (List Int × List Int × Int)
 | 0, _, _, _ => none
 | k + 1, x8, x9, x11 => if x11 < (x9.length : Int) then (if 0 ≤ x11 then (if (rd x9 x11) < 0 then (some (([] : List Int), ([] : List Int), 22)) else (tidepoleref09_Side.l0 k x8 x9 (wrap64 (x11 + 1)))) else (none)) else (some (x8, x9, 0))
def tidepoleref09_Side.f (k : Nat) (l0 : List (fD)) (l1 : List Int) : Option (List Int × List Int × Int) := (tidepoleref06_Check.f k l0).bind fun dV => (if dV = 0 then ((tidepoleref06_Places.f k l0).bind fun eP => (if (eP.length : Int) = (l1.length : Int) then ((tidepoleref07_Absolute.f k l1).bind fun yS => (if yS.2 = 1 then (some (([] : List Int), ([] : List Int), 28)) else (tidepoleref09_Side.l0 k eP yS.1 0))) else (some (([] : List Int), ([] : List Int), 23)))) else (some (([] : List Int), ([] : List Int), dV)))
set_option maxHeartbeats 8000000 in
set_option maxRecDepth 100000 in
theorem tidepoleref09_Side.calls (k : Nat) (A0 : Option Addr) (c0 : Nat) (l0 : List (fD)) (A1 : Option Addr) (c1 : Nat) (l1 : List Int) (r1 : List Int) (r2 : List Int) (r3 : Int) (w : World) (hr0 : Kd.C nD w A0 l0.length l0) (hc0 : l0.length ≤ c0) (hr1 : Kd.C (Kd.int .i64) w A1 l1.length l1) (hc1 : l1.length ≤ c1) (h : tidepoleref09_Side.f k l0 l1 = some (r1, r2, r3)) :
  Calls Try.prog 82 #[.slice A0 l0.length c0, .slice A1 l1.length c1] w fun e w' => ∃ lY KL : Value, e = .returned (.tuple #[lY, KL, .int .i64 r3]) ∧ Kd.R (Kd.int .i64) 3 w' w.heap.size (fun _ => True) lY r1 ∧ Kd.R (Kd.int .i64) 2 w' w.heap.size (fun _ => True) KL r2 ∧ Below w.heap.size w w' := by
 have HR0 := ah hr0
 have tK := ah hc0
 clear hr0 hc0
 have HR1 := ah hr1
 have Fj := ah hc1
 clear hr1 hc1
 have HB := ah (Below.refl w.heap.size w)
 have H : ((tidepoleref06_Check.f k l0).bind fun dV => (if dV = 0 then ((tidepoleref06_Places.f k l0).bind fun eP => (if (eP.length : Int) = (l1.length : Int) then ((tidepoleref07_Absolute.f k l1).bind fun yS => (if yS.2 = 1 then (some (([] : List Int), ([] : List Int), 28)) else (tidepoleref09_Side.l0 k eP yS.1 0))) else (some (([] : List Int), ([] : List Int), 23)))) else (some (([] : List Int), ([] : List Int), dV)))) = some (r1, r2, r3) := h
 clear h
 replace H := Option.bind_eq_some_iff.mp H
 obtain ⟨dV, IG, H⟩ := H
 replace H : (if dV = 0 then ((tidepoleref06_Places.f k l0).bind fun eP => (if (eP.length : Int) = (l1.length : Int) then ((tidepoleref07_Absolute.f k l1).bind fun yS => (if yS.2 = 1 then (some (([] : List Int), ([] : List Int), 28)) else (tidepoleref09_Side.l0 k eP yS.1 0))) else (some (([] : List Int), ([] : List Int), 23)))) else (some (([] : List Int), ([] : List Int), dV))) = some (r1, r2, r3) := H
 have A3 := ah IG
 clear IG
 by_cases c4 : dV = 0
 ·rw [if_pos c4] at H
  have c4b0 : (dV == 0) = true := beq_iff_eq.mpr c4
  have c4b1 : (dV != 0) = false := bne_eq_false_iff_eq.mpr c4
  clear c4
  replace H := Option.bind_eq_some_iff.mp H
  obtain ⟨eP, JR, H⟩ := H
  replace H : (if (eP.length : Int) = (l1.length : Int) then ((tidepoleref07_Absolute.f k l1).bind fun yS => (if yS.2 = 1 then (some (([] : List Int), ([] : List Int), 28)) else (tidepoleref09_Side.l0 k eP yS.1 0))) else (some (([] : List Int), ([] : List Int), 23))) = some (r1, r2, r3) := H
  have A5 := ah JR
  clear JR
  by_cases c6 : (eP.length : Int) = (l1.length : Int)
  ·rw [if_pos c6] at H
   have c6b0 : ((eP.length : Int) == (l1.length : Int)) = true := beq_iff_eq.mpr c6
   have c6b1 : ((eP.length : Int) != (l1.length : Int)) = false := bne_eq_false_iff_eq.mpr c6
   have c6b2 : (eP.length == l1.length) = true := by first | simpa using c6 | (simp at c6 ⊢; omega)
   clear c6
   replace H := Option.bind_eq_some_iff.mp H
   obtain ⟨⟨t105, fU⟩, PO, H⟩ := H
   replace H : (if fU = 1 then (some (([] : List Int), ([] : List Int), 28)) else (tidepoleref09_Side.l0 k eP t105 0)) = some (r1, r2, r3) := H
   have A7 := ah PO
   clear PO
   by_cases c8 : fU = 1
   ·rw [if_pos c8] at H
    have c8b0 : (fU == 1) = true := beq_iff_eq.mpr c8
    have c8b1 : (fU != 1) = false := bne_eq_false_iff_eq.mpr c8
    clear c8
    simp only [Option.some.injEq, Prod.mk.injEq] at H
    obtain ⟨rfl, rfl, rfl⟩ := H
    go_enter Try.func82, Try.ntmps82
    go_wp2_with (first | ((with_reducible refine bH (f := 142) rfl ?_); refine eH (some 13) Try.func142 #[.slice A0 l0.length c0] ?_; (with_reducible refine (tidepoleref06_Check.calls k _ _ l0 dV _ ?dw ?dA A3.out).mono ?_); (case dw => exact Kd.jT HR0.out); (case dA => exact tK.out); rintro e w9 ⟨rfl, hb⟩; refine ⟨_, rfl, ?_⟩; replace HB := ah (aW (aX HB.out) hb); (try clear hb); (try clear hb2); (try clear hk); (try clear hi); clear A3) | ((with_reducible refine bH (f := 97) rfl ?_); refine eH (some 18) Try.func97 #[.slice A0 l0.length c0] ?_; (with_reducible refine (tidepoleref06_Places.calls k _ _ l0 eP _ ?dw ?dA A5.out).mono ?_); (case dw => exact Kd.jT (Kd.bM HR0.out HB.out)); (case dA => exact tK.out); rintro e w10 ⟨yK, rfl, ho0, hb⟩; refine ⟨_, rfl, ?_⟩; have iq := ah (Kd.bV ho0 (aI (aX HB.out))); replace HB := ah (aW (aX HB.out) hb); (try clear hb); (try clear hb2); (try clear hk); (try clear hi); (try clear ho0); clear A5; obtain ⟨Aw, nY, Az⟩ := Kd.bY iq.out; subst Az) | ((with_reducible refine bH (f := 143) rfl ?_); refine eH (some 26) Try.func143 #[.slice A1 l1.length c1] ?_; (with_reducible refine (tidepoleref07_Absolute.calls k _ _ l1 t105 fU _ ?dw ?dA A7.out).mono ?_); (case dw => exact Kd.jT (Kd.bM HR1.out HB.out)); (case dA => exact Fj.out); rintro e w12 ⟨v107, rfl, ho0, hb⟩; refine ⟨_, rfl, ?_⟩; have fK := ah (Kd.bV ho0 (aI (aX HB.out))); replace iq := ah (Kd.kE iq.out hb); replace HB := ah (aW (aX HB.out) hb); (try clear hb); (try clear hb2); (try clear hk); (try clear hi); (try clear ho0); clear A7))
    go_ret3
    exact ⟨_, _, by first | rfl | (simp [aT, aU] <;> rfl) | (simp [*, aT, aU] <;> rfl), by first | exact Kd.dY _ _ _ _ _ | exact Kd.gI _ _ _ _ _ | exact Kd.gJ _ _ _ _ _ | exact Kd.gB _ _ _ _ _ | exact Kd.gG _ _ _ _ _, by first | exact Kd.dY _ _ _ _ _ | exact Kd.gI _ _ _ _ _ | exact Kd.gJ _ _ _ _ _ | exact Kd.gB _ _ _ _ _ | exact Kd.gG _ _ _ _ _, by repeat (first | (with_reducible first | exact HB.out | apply ak | apply au | apply aC) | exact HB.out)⟩
   rw [if_neg c8] at H
   have c8b0 : (fU == 1) = false := beq_eq_false_iff_ne.mpr c8
   have c8b1 : (fU != 1) = true := bne_iff_ne.mpr c8
   have H' := ah H
   clear H
   go_enter Try.func82, Try.ntmps82
   go_wp2_with (first | ((with_reducible refine bH (f := 142) rfl ?_); refine eH (some 13) Try.func142 #[.slice A0 l0.length c0] ?_; (with_reducible refine (tidepoleref06_Check.calls k _ _ l0 dV _ ?dw ?dA A3.out).mono ?_); (case dw => exact Kd.jT HR0.out); (case dA => exact tK.out); rintro e QA ⟨rfl, hb⟩; refine ⟨_, rfl, ?_⟩; replace HB := ah (aW (aX HB.out) hb); (try clear hb); (try clear hb2); (try clear hk); (try clear hi); clear A3) | ((with_reducible refine bH (f := 97) rfl ?_); refine eH (some 18) Try.func97 #[.slice A0 l0.length c0] ?_; (with_reducible refine (tidepoleref06_Places.calls k _ _ l0 eP _ ?dw ?dA A5.out).mono ?_); (case dw => exact Kd.jT (Kd.bM HR0.out HB.out)); (case dA => exact tK.out); rintro e w14 ⟨yK, rfl, ho0, hb⟩; refine ⟨_, rfl, ?_⟩; have iq := ah (Kd.bV ho0 (aI (aX HB.out))); replace HB := ah (aW (aX HB.out) hb); (try clear hb); (try clear hb2); (try clear hk); (try clear hi); (try clear ho0); clear A5; obtain ⟨NS, Le, Em⟩ := Kd.bY iq.out; subst Em) | ((with_reducible refine bH (f := 143) rfl ?_); refine eH (some 26) Try.func143 #[.slice A1 l1.length c1] ?_; (with_reducible refine (tidepoleref07_Absolute.calls k _ _ l1 t105 fU _ ?dw ?dA A7.out).mono ?_); (case dw => exact Kd.jT (Kd.bM HR1.out HB.out)); (case dA => exact Fj.out); rintro e w16 ⟨v107, rfl, ho0, hb⟩; refine ⟨_, rfl, ?_⟩; have fK := ah (Kd.bV ho0 (aI (aX HB.out))); replace iq := ah (Kd.kE iq.out hb); replace HB := ah (aW (aX HB.out) hb); (try clear hb); (try clear hb2); (try clear hk); (try clear hi); (try clear ho0); clear A7))
   go_loopg [11] k (fun kq v11 w' => ∃ (gU : Int), v11 = .int .i64 gU ∧ aj (tidepoleref09_Side.l0 kq eP t105 gU = some (r1, r2, r3)) ∧ aj (kq ≤ k) ∧ aj (Kd.R (Kd.int .i64) 3 w' w.heap.size (fun _ => True) (.slice NS eP.length Le) eP) ∧ aj (Kd.R (Kd.int .i64) 2 w' w.heap.size (fun _ => True) v107 t105) ∧ aj (Below w.heap.size w w'))
   case atStart => exact ⟨(0), (by first | rfl | (simp; done) | (simp [*]; done)), H', ⟨Nat.le_refl _⟩, ⟨by (repeat with_reducible refine Kd.kJ ?_); exact iq.out⟩, ⟨by (repeat with_reducible refine Kd.kJ ?_); exact fK.out⟩, ⟨by repeat (first | (with_reducible first | exact HB.out | apply ak | apply au | apply aC) | exact HB.out)⟩⟩
   case round =>
    clear H'
    try clear c1
    try clear p2
    try clear c4
    try clear c4b0
    try clear c4b1
    try clear c6
    try clear c6b0
    try clear c6b1
    try clear c6b2
    try clear c8
    try clear c8b0
    try clear c8b1
    try clear c9
    try clear c14
    obtain ⟨gU, rfl, HA, jf, HO_8, HO_9, HB⟩ := hrel
    cases gk with
    | zero => exact absurd HA.out (by simp [tidepoleref09_Side.l0])
    | succ k1 =>
     have H := HA.out
     clear HA
     simp only [tidepoleref09_Side.l0] at H
     by_cases c17 : gU < (t105.length : Int)
     ·rw [if_pos c17] at H
      have c17b0 : decide (gU < (t105.length : Int)) = true := aiJ c17
      clear c17
      by_cases c18 : 0 ≤ gU
      ·rw [if_pos c18] at H
       have c18b0 : decide (0 ≤ gU) = true := aiJ c18
       clear c18
       by_cases c19 : (rd t105 gU) < 0
       ·rw [if_pos c19] at H
        have c19b0 : decide ((rd t105 gU) < 0) = true := aiJ c19
        clear c19
        simp only [Option.some.injEq, Prod.mk.injEq] at H
        obtain ⟨rfl, rfl, rfl⟩ := H
        obtain ⟨Oh, JX, QJ⟩ := Kd.bY HO_9.out
        subst QJ
        have Gf : 0 ≤ (gU : Int) := aiI (by assumption)
        have Gg : gU < (t105.length : Int) := aiI (by assumption)
        obtain ⟨Xj, e109, JY⟩ := Kd.fA (Kd.bD HO_9.out).2.2 gU Gf Gg
        cases e109
        replace Gf := eq_true Gf
        replace Gg := eq_true Gg
        go_wp2
        go_ret3
        exact ⟨_, _, by first | rfl | (simp [aT, aU] <;> rfl) | (simp [*, aT, aU] <;> rfl), by first | exact Kd.dY _ _ _ _ _ | exact Kd.gI _ _ _ _ _ | exact Kd.gJ _ _ _ _ _ | exact Kd.gB _ _ _ _ _ | exact Kd.gG _ _ _ _ _, by first | exact Kd.dY _ _ _ _ _ | exact Kd.gI _ _ _ _ _ | exact Kd.gJ _ _ _ _ _ | exact Kd.gB _ _ _ _ _ | exact Kd.gG _ _ _ _ _, by repeat (first | (with_reducible first | exact HB.out | apply ak | apply au | apply aC) | exact HB.out)⟩
       rw [if_neg c19] at H
       have c19b0 : decide ((rd t105 gU) < 0) = false := aiK c19
       clear c19
       have H' := ah H
       clear H
       obtain ⟨FH, FM, Hy⟩ := Kd.bY HO_9.out
       subst Hy
       have Gf : 0 ≤ (gU : Int) := aiI (by assumption)
       have Gg : gU < (t105.length : Int) := aiI (by assumption)
       obtain ⟨Xj, e109, JY⟩ := Kd.fA (Kd.bD HO_9.out).2.2 gU Gf Gg
       cases e109
       replace Gf := eq_true Gf
       replace Gg := eq_true Gg
       go_wp2
       go_roundg k1
       case measure => have := jf.out; omega
       case rel => exact ⟨(wrap64 (gU + 1)), (by first | rfl | (simp; done) | (simp [*]; done)), H', ⟨by have := jf.out; omega⟩, ⟨by (repeat with_reducible refine Kd.kJ ?_); exact HO_8.out⟩, ⟨by (repeat with_reducible refine Kd.kJ ?_); exact HO_9.out⟩, ⟨by repeat (first | (with_reducible first | exact HB.out | apply ak | apply au | apply aC) | exact HB.out)⟩⟩
      rw [if_neg c18] at H
      exact absurd H (by simp)
     rw [if_neg c17] at H
     have c17b0 : decide (gU < (t105.length : Int)) = false := aiK c17
     clear c17
     simp only [Option.some.injEq, Prod.mk.injEq] at H
     obtain ⟨rfl, rfl, rfl⟩ := H
     obtain ⟨LY, BZ, uQ⟩ := Kd.bY HO_9.out
     subst uQ
     go_wp2
     go_ret3
     exact ⟨_, _, by first | rfl | (simp [aT, aU] <;> rfl) | (simp [*, aT, aU] <;> rfl), by (repeat with_reducible refine Kd.kJ ?_); exact HO_8.out, by (repeat with_reducible refine Kd.kJ ?_); exact HO_9.out, by repeat (first | (with_reducible first | exact HB.out | apply ak | apply au | apply aC) | exact HB.out)⟩
  rw [if_neg c6] at H
  have c6b0 : ((eP.length : Int) == (l1.length : Int)) = false := beq_eq_false_iff_ne.mpr c6
  have c6b1 : ((eP.length : Int) != (l1.length : Int)) = true := bne_iff_ne.mpr c6
  have c6b2 : (eP.length == l1.length) = false := by first | simpa using c6 | (simp at c6 ⊢; omega)
  simp only [Option.some.injEq, Prod.mk.injEq] at H
  obtain ⟨rfl, rfl, rfl⟩ := H
  go_enter Try.func82, Try.ntmps82
  go_wp2_with (first | ((with_reducible refine bH (f := 142) rfl ?_); refine eH (some 13) Try.func142 #[.slice A0 l0.length c0] ?_; (with_reducible refine (tidepoleref06_Check.calls k _ _ l0 dV _ ?dw ?dA A3.out).mono ?_); (case dw => exact Kd.jT HR0.out); (case dA => exact tK.out); rintro e w23 ⟨rfl, hb⟩; refine ⟨_, rfl, ?_⟩; replace HB := ah (aW (aX HB.out) hb); (try clear hb); (try clear hb2); (try clear hk); (try clear hi); clear A3) | ((with_reducible refine bH (f := 97) rfl ?_); refine eH (some 18) Try.func97 #[.slice A0 l0.length c0] ?_; (with_reducible refine (tidepoleref06_Places.calls k _ _ l0 eP _ ?dw ?dA A5.out).mono ?_); (case dw => exact Kd.jT (Kd.bM HR0.out HB.out)); (case dA => exact tK.out); rintro e w24 ⟨yK, rfl, ho0, hb⟩; refine ⟨_, rfl, ?_⟩; have iq := ah (Kd.bV ho0 (aI (aX HB.out))); replace HB := ah (aW (aX HB.out) hb); (try clear hb); (try clear hb2); (try clear hk); (try clear hi); (try clear ho0); clear A5; obtain ⟨agV, adb, Vs⟩ := Kd.bY iq.out; subst Vs))
  go_ret3
  exact ⟨_, _, by first | rfl | (simp [aT, aU] <;> rfl) | (simp [*, aT, aU] <;> rfl), by first | exact Kd.dY _ _ _ _ _ | exact Kd.gI _ _ _ _ _ | exact Kd.gJ _ _ _ _ _ | exact Kd.gB _ _ _ _ _ | exact Kd.gG _ _ _ _ _, by first | exact Kd.dY _ _ _ _ _ | exact Kd.gI _ _ _ _ _ | exact Kd.gJ _ _ _ _ _ | exact Kd.gB _ _ _ _ _ | exact Kd.gG _ _ _ _ _, by repeat (first | (with_reducible first | exact HB.out | apply ak | apply au | apply aC) | exact HB.out)⟩
 rw [if_neg c4] at H
 have c4b0 : (dV == 0) = false := beq_eq_false_iff_ne.mpr c4
 have c4b1 : (dV != 0) = true := bne_iff_ne.mpr c4
 simp only [Option.some.injEq, Prod.mk.injEq] at H
 obtain ⟨rfl, rfl, rfl⟩ := H
 go_enter Try.func82, Try.ntmps82
 go_wp2_with (first | ((with_reducible refine bH (f := 142) rfl ?_); refine eH (some 13) Try.func142 #[.slice A0 l0.length c0] ?_; (with_reducible refine (tidepoleref06_Check.calls k _ _ l0 dV _ ?dw ?dA A3.out).mono ?_); (case dw => exact Kd.jT HR0.out); (case dA => exact tK.out); rintro e SV ⟨rfl, hb⟩; refine ⟨_, rfl, ?_⟩; replace HB := ah (aW (aX HB.out) hb); (try clear hb); (try clear hb2); (try clear hk); (try clear hi); clear A3))
 go_ret3
 exact ⟨_, _, by first | rfl | (simp [aT, aU] <;> rfl) | (simp [*, aT, aU] <;> rfl), by first | exact Kd.dY _ _ _ _ _ | exact Kd.gI _ _ _ _ _ | exact Kd.gJ _ _ _ _ _ | exact Kd.gB _ _ _ _ _ | exact Kd.gG _ _ _ _ _, by first | exact Kd.dY _ _ _ _ _ | exact Kd.gI _ _ _ _ _ | exact Kd.gJ _ _ _ _ _ | exact Kd.gB _ _ _ _ _ | exact Kd.gG _ _ _ _ _, by repeat (first | (with_reducible first | exact HB.out | apply ak | apply au | apply aC) | exact HB.out)⟩
def tidepoleref09_Head.j0 : Nat → Int → Bool → Option (Int)
 | 0, _, _ => none
 | k + 1, x1, x10 => if x10 = true then (some 21) else (if x1 ≥ 9218868437227405312 then (some 11) else (some 0))
def tidepoleref09_Head.f (k : Nat) (a0 : Int) (a1 : Int) : Option (Int) := if a0 < (-4) then (tidepoleref09_Head.j0 k a1 true) else (tidepoleref09_Head.j0 k a1 (decide (a0 > 8)))
set_option maxHeartbeats 8000000 in
set_option maxRecDepth 100000 in
theorem tidepoleref09_Head.calls (k : Nat) (a0 : Int) (a1 : Int) (r : Int) (w : World) (h : tidepoleref09_Head.f k a0 a1 = some r) :
  Calls Try.prog 101 #[.int .i64 a0, .int .u64 a1] w fun e w' => e = .returned (.int .i64 r) ∧ bW w w' := by
 have H : (if a0 < (-4) then (tidepoleref09_Head.j0 k a1 true) else (tidepoleref09_Head.j0 k a1 (decide (a0 > 8)))) = some r := h
 clear h
 have Eo := ah H
 clear H
 go_enter Try.func101, Try.ntmps101
 go_upto_region 1 with (fail)
 go_cut [10] (fun v10 wc => ∃ (kq : Nat) (PS : Bool), v10 = .bool PS ∧ aj (tidepoleref09_Head.j0 kq a1 PS = some r) ∧ aj (kq ≤ k) ∧ bW w wc)
 case first =>
  have H := Eo.out
  clear Eo
  by_cases c4 : a0 < (-4)
  ·rw [if_pos c4] at H
   have c4b0 : decide (a0 < (-4)) = true := aiJ c4
   clear c4
   (first | rw [c4b0] | (simp only [dh, dF]; rw [c4b0]) | skip)
   have H' := ah H
   clear H
   go_wp2
   go_meet
   case rel => exact ⟨_, (true), (by first | rfl | (simp; done) | (simp [*]; done)), H', ⟨by first | omega | exact Nat.le_refl _⟩, by repeat (first | exact bW.refl _ | apply bW.step)⟩
  rw [if_neg c4] at H
  have c4b0 : decide (a0 < (-4)) = false := aiK c4
  clear c4
  (first | rw [c4b0] | (simp only [dh, dF]; rw [c4b0]) | skip)
  have H' := ah H
  clear H
  go_wp2
  go_meet
  case rel => exact ⟨_, (decide (a0 > 8)), (by first | rfl | (simp; done) | (simp [*]; done)), H', ⟨by first | omega | exact Nat.le_refl _⟩, by repeat (first | exact bW.refl _ | apply bW.step)⟩
 case rest =>
  clear Eo
  try clear c1
  try clear p2
  try clear c4
  try clear c4b0
  obtain ⟨kq, PS, rfl, HA, HJ2, ⟨mc2, rfl⟩⟩ := hcut
  cases kq with
  | zero => exact absurd HA.out (by simp [tidepoleref09_Head.j0])
  | succ Zr =>
   have H := HA.out
   clear HA
   simp only [tidepoleref09_Head.j0] at H
   by_cases c5 : PS = true
   ·subst c5
    have H1 : (some 21) = some r := by rw [if_pos rfl] at H; exact H
    clear H
    have H := H1
    clear H1
    obtain rfl := Option.some.inj H
    go_wp2
    go_ret
    exact ⟨by first | rfl | (simp; done) | (simp [*]; done), by repeat (first | exact bW.refl _ | apply bW.step)⟩
   replace c5 := Bool.eq_false_iff.mpr c5
   subst c5
   have H1 : (if a1 ≥ 9218868437227405312 then (some 11) else (some 0)) = some r := by rw [if_neg (show ¬ (false = true) by decide)] at H; exact H
   clear H
   have H := H1
   clear H1
   by_cases c6 : a1 ≥ 9218868437227405312
   ·rw [if_pos c6] at H
    have c6b0 : decide (9218868437227405312 ≤ a1) = true := aiJ c6
    clear c6
    obtain rfl := Option.some.inj H
    go_wp2
    go_ret
    exact ⟨by first | rfl | (simp; done) | (simp [*]; done), by repeat (first | exact bW.refl _ | apply bW.step)⟩
   rw [if_neg c6] at H
   have c6b0 : decide (9218868437227405312 ≤ a1) = false := aiK c6
   clear c6
   obtain rfl := Option.some.inj H
   go_wp2
   go_ret
   exact ⟨by first | rfl | (simp; done) | (simp [*]; done), by repeat (first | exact bW.refl _ | apply bW.step)⟩
def tidepoleref09_NaN.f (a0 : Int) : Option (Bool) := if a0 ≥ 9223372036854775808 then (some (decide ((IntKind.u64.wrap (a0 - 9223372036854775808)) > 9218868437227405312))) else (some (decide (a0 > 9218868437227405312)))
set_option maxHeartbeats 8000000 in
set_option maxRecDepth 100000 in
theorem tidepoleref09_NaN.calls (a0 : Int) (r : Bool) (w : World) (h : tidepoleref09_NaN.f a0 = some r) :
  Calls Try.prog 155 #[.int .u64 a0] w fun e w' => e = .returned (.bool r) ∧ bW w w' := by
 have H : (if a0 ≥ 9223372036854775808 then (some (decide ((IntKind.u64.wrap (a0 - 9223372036854775808)) > 9218868437227405312))) else (some (decide (a0 > 9218868437227405312)))) = some r := h
 clear h
 by_cases c2 : a0 ≥ 9223372036854775808
 ·rw [if_pos c2] at H
  have c2b0 : decide (9223372036854775808 ≤ a0) = true := aiJ c2
  clear c2
  obtain rfl := Option.some.inj H
  go_enter Try.func155, Try.ntmps155
  go_wp2
  go_ret
  exact ⟨by first | rfl | (simp; done) | (simp [*]; done), by repeat (first | exact bW.refl _ | apply bW.step)⟩
 rw [if_neg c2] at H
 have c2b0 : decide (9223372036854775808 ≤ a0) = false := aiK c2
 clear c2
 obtain rfl := Option.some.inj H
 go_enter Try.func155, Try.ntmps155
 go_wp2
 go_ret
 exact ⟨by first | rfl | (simp; done) | (simp [*]; done), by repeat (first | exact bW.refl _ | apply bW.step)⟩
mutual
def tidepoleref09_Fits.l0 : Nat → Int → List Int → List Int → Int → Int → Option (Int)
 | 0, _, _, _, _, _ => none
 | k + 1, x2, x3, x4, x11, x12 => if x12 < 2 then (if x12 = 1 then (tidepoleref09_Fits.j1 k x2 x3 x4 x11 x12 x4) else (tidepoleref09_Fits.j1 k x2 x3 x4 x11 x12 x3)) else (if x11 > 0 then ((tidepoleref09_NaN.f x2).bind fun dV => (if dV = true then (some 0) else (some 22))) else (some 0))
def tidepoleref09_Fits.j1 : Nat → Int → List Int → List Int → Int → Int → List Int → Option (Int)
 | 0, _, _, _, _, _, _ => none
 | k + 1, x2, x3, x4, x11, x12, uy => tidepoleref09_Fits.l1 k x2 x3 x4 x11 x12 uy 0
def tidepoleref09_Fits.l1 : Nat → Int → List Int → List Int → Int → Int → List Int → Int → Option (Int)
 | 0, _, _, _, _, _, _, _ => none
 | k + 1, x2, x3, x4, x11, x12, uy, x14 => if x14 < (uy.length : Int) then (if 0 ≤ x14 then (if (rd uy x14) < 0 then (some 22) else (if (IntKind.u64.wrap (rd uy x14)) > x11 then (some 22) else (tidepoleref09_Fits.l1 k x2 x3 x4 (IntKind.u64.wrap (x11 - (IntKind.u64.wrap (rd uy x14)))) x12 uy (wrap64 (x14 + 1))))) else (none)) else (tidepoleref09_Fits.l0 k x2 x3 x4 x11 (wrap64 (x12 + 1)))
end
def tidepoleref09_Fits.f (k : Nat) (a0 : Int) (a1 : Int) (a2 : Int) (l3 : List Int) (l4 : List Int) : Option (Int) := if a0 > a1 then (some 22) else (tidepoleref09_Fits.l0 k a2 l3 l4 (IntKind.u64.wrap (a1 - a0)) 0)
set_option maxHeartbeats 8000000 in
set_option maxRecDepth 100000 in
theorem tidepoleref09_Fits.calls (k : Nat) (a0 : Int) (a1 : Int) (a2 : Int) (TU : Nat → Prop) (A3 : Option Addr) (c3 : Nat) (l3 : List Int) (TV : Nat → Prop) (A4 : Option Addr) (c4 : Nat) (l4 : List Int) (r : Int) (w : World) (hs3 : Kd.V (Kd.int .i64) 2 w w.heap.size (fun k_ => TU k_) (.slice A3 l3.length c3) l3) (hs4 : Kd.V (Kd.int .i64) 2 w w.heap.size (fun k_ => TV k_) (.slice A4 l4.length c4) l4) (h : tidepoleref09_Fits.f k a0 a1 a2 l3 l4 = some r) :
  Calls Try.prog 102 #[.int .u64 a0, .int .u64 a1, .int .u64 a2, .slice A3 l3.length c3, .slice A4 l4.length c4] w fun e w' => e = .returned (.int .i64 r) ∧ Below w.heap.size w w' := by
 have BU := ah (show Kd.V (Kd.int .i64) 2 w w.heap.size (fun k_ => ((TU k_ ∨ TV k_) ∨ w.heap.size ≤ k_)) (.slice A3 l3.length c3) l3 from Kd.yG hs3 (fun k_ hk => .inl (.inl hk)))
 have PK := ah (show Kd.V (Kd.int .i64) 2 w w.heap.size (fun k_ => ((TU k_ ∨ TV k_) ∨ w.heap.size ≤ k_)) (.slice A4 l4.length c4) l4 from Kd.yG hs4 (fun k_ hk => .inl (.inr hk)))
 have HB := ah (Below.refl w.heap.size w)
 have H : (if a0 > a1 then (some 22) else (tidepoleref09_Fits.l0 k a2 l3 l4 (IntKind.u64.wrap (a1 - a0)) 0)) = some r := h
 clear h
 by_cases c6 : a0 > a1
 ·rw [if_pos c6] at H
  have c6b0 : decide (a1 < a0) = true := aiJ c6
  clear c6
  obtain rfl := Option.some.inj H
  go_enter Try.func102, Try.ntmps102
  go_wp2
  go_ret
  exact ⟨by first | rfl | (simp [aT, aU] <;> rfl) | (simp [*, aT, aU] <;> rfl), by repeat (first | (with_reducible first | exact HB.out | apply ak | apply au | apply aC) | exact HB.out)⟩
 rw [if_neg c6] at H
 have c6b0 : decide (a1 < a0) = false := aiK c6
 clear c6
 have H' := ah H
 clear H
 go_enter Try.func102, Try.ntmps102
 go_wp2
 go_loopg [11, 12] k (fun kq v11 v12 w' => ∃ (gU : Int) (dB : Int), v11 = .int .u64 gU ∧ v12 = .int .i64 dB ∧ aj (tidepoleref09_Fits.l0 kq a2 l3 l4 gU dB = some r) ∧ aj (kq ≤ k) ∧ aj (Kd.V (Kd.int .i64) 2 w' w.heap.size (fun k_ => ((TU k_ ∨ TV k_) ∨ w.heap.size ≤ k_)) (.slice A3 l3.length c3) l3) ∧ aj (Kd.V (Kd.int .i64) 2 w' w.heap.size (fun k_ => ((TU k_ ∨ TV k_) ∨ w.heap.size ≤ k_)) (.slice A4 l4.length c4) l4) ∧ aj (Below w.heap.size w w'))
 case atStart => exact ⟨(IntKind.u64.wrap (a1 - a0)), (0), (by first | rfl | (simp; done) | (simp [*]; done)), (by first | rfl | (simp; done) | (simp [*]; done)), H', ⟨Nat.le_refl _⟩, ⟨by (with_reducible repeat (first | apply Kd.jF | apply Kd.jG | apply Kd.kD)); exact BU.out⟩, ⟨by (with_reducible repeat (first | apply Kd.jF | apply Kd.jG | apply Kd.kD)); exact PK.out⟩, ⟨by repeat (first | (with_reducible first | exact HB.out | apply ak | apply au | apply aC) | exact HB.out)⟩⟩
 case round =>
  clear H'
  try clear c1
  try clear p2
  try clear c3
  try clear c4
  try clear c6
  try clear c6b0
  obtain ⟨gU, dB, rfl, rfl, HA, jf, HO_3, HO_4, HB⟩ := hrel
  cases gk with
  | zero => exact absurd HA.out (by simp [tidepoleref09_Fits.l0])
  | succ k1 =>
   have H := HA.out
   clear HA
   simp only [tidepoleref09_Fits.l0] at H
   by_cases c7 : dB < 2
   ·rw [if_pos c7] at H
    have c7b0 : decide (dB < 2) = true := aiJ c7
    clear c7
    have TW := ah H
    clear H
    go_upto_if 27 with (fail)
    go_cut [13] (fun v13 wc => ∃ (kq : Nat) (pF : List Int), aj (tidepoleref09_Fits.j1 kq a2 l3 l4 gU dB pF = some r) ∧ aj (kq ≤ k1) ∧ aj (Kd.V (Kd.int .i64) 2 wc w.heap.size (fun k_ => ((TU k_ ∨ TV k_) ∨ w.heap.size ≤ k_)) (.slice A3 l3.length c3) l3) ∧ aj (Kd.V (Kd.int .i64) 2 wc w.heap.size (fun k_ => ((TU k_ ∨ TV k_) ∨ w.heap.size ≤ k_)) (.slice A4 l4.length c4) l4) ∧ aj (Kd.V (Kd.int .i64) 2 wc w.heap.size (fun k_ => ((TU k_ ∨ TV k_) ∨ w.heap.size ≤ k_)) v13 pF) ∧ aj (Below w.heap.size w wc))
    case first =>
     have H := TW.out
     clear TW
     by_cases c9 : dB = 1
     ·rw [if_pos c9] at H
      have c9b0 : (dB == 1) = true := beq_iff_eq.mpr c9
      have c9b1 : (dB != 1) = false := bne_eq_false_iff_eq.mpr c9
      clear c9
      (first | rw [c9b0] | (simp only [dh, dF]; rw [c9b0]) | skip)
      have H' := ah H
      clear H
      go_wp2
      go_meet
      case rel => exact ⟨_, (l4), H', ⟨by have := jf.out; first | omega | exact Nat.le_refl _⟩, ⟨by (with_reducible repeat (first | apply Kd.jF | apply Kd.jG | apply Kd.kD)); exact HO_3.out⟩, ⟨by (with_reducible repeat (first | apply Kd.jF | apply Kd.jG | apply Kd.kD)); exact HO_4.out⟩, ⟨by (with_reducible repeat (first | apply Kd.jF | apply Kd.jG | apply Kd.kD)); exact HO_4.out⟩, ⟨by repeat (first | (with_reducible first | exact HB.out | apply ak | apply au | apply aC) | exact HB.out)⟩⟩
     rw [if_neg c9] at H
     have c9b0 : (dB == 1) = false := beq_eq_false_iff_ne.mpr c9
     have c9b1 : (dB != 1) = true := bne_iff_ne.mpr c9
     (first | rw [c9b0] | (simp only [dh, dF]; rw [c9b0]) | skip)
     have H' := ah H
     clear H
     go_wp2
     go_meet
     case rel => exact ⟨_, (l3), H', ⟨by have := jf.out; first | omega | exact Nat.le_refl _⟩, ⟨by (with_reducible repeat (first | apply Kd.jF | apply Kd.jG | apply Kd.kD)); exact HO_3.out⟩, ⟨by (with_reducible repeat (first | apply Kd.jF | apply Kd.jG | apply Kd.kD)); exact HO_4.out⟩, ⟨by (with_reducible repeat (first | apply Kd.jF | apply Kd.jG | apply Kd.kD)); exact HO_3.out⟩, ⟨by repeat (first | (with_reducible first | exact HB.out | apply ak | apply au | apply aC) | exact HB.out)⟩⟩
    case rest =>
     clear TW
     try clear c1
     try clear p2
     try clear c3
     try clear c4
     try clear c6
     try clear c6b0
     try clear c7
     try clear c7b0
     try clear c9
     try clear c9b0
     try clear c9b1
     try clear p2
     obtain ⟨kq, pF, HA, PU, HO_3, HO_4, HO_13, HB⟩ := hcut
     cases kq with
     | zero => exact absurd HA.out (by simp [tidepoleref09_Fits.j1])
     | succ Hl =>
      have H := HA.out
      clear HA
      simp only [tidepoleref09_Fits.j1] at H
      have H' := ah H
      clear H
      go_wp2
      go_loopg [11, 14] Hl (fun kq v11 v14 w' => ∃ (DY : Int) (kR : Int), v11 = .int .u64 DY ∧ v14 = .int .i64 kR ∧ aj (tidepoleref09_Fits.l1 kq a2 l3 l4 DY dB pF kR = some r) ∧ aj (kq ≤ Hl) ∧ aj (Kd.V (Kd.int .i64) 2 w' w.heap.size (fun k_ => ((TU k_ ∨ TV k_) ∨ w.heap.size ≤ k_)) (.slice A3 l3.length c3) l3) ∧ aj (Kd.V (Kd.int .i64) 2 w' w.heap.size (fun k_ => ((TU k_ ∨ TV k_) ∨ w.heap.size ≤ k_)) (.slice A4 l4.length c4) l4) ∧ aj (Kd.V (Kd.int .i64) 2 w' w.heap.size (fun k_ => ((TU k_ ∨ TV k_) ∨ w.heap.size ≤ k_)) u13 pF) ∧ aj (Below w.heap.size w w'))
      case atStart => exact ⟨(gU), (0), (by first | rfl | (simp; done) | (simp [*]; done)), (by first | rfl | (simp; done) | (simp [*]; done)), H', ⟨Nat.le_refl _⟩, ⟨by (with_reducible repeat (first | apply Kd.jF | apply Kd.jG | apply Kd.kD)); exact HO_3.out⟩, ⟨by (with_reducible repeat (first | apply Kd.jF | apply Kd.jG | apply Kd.kD)); exact HO_4.out⟩, ⟨by (with_reducible repeat (first | apply Kd.jF | apply Kd.jG | apply Kd.kD)); exact HO_13.out⟩, ⟨by repeat (first | (with_reducible first | exact HB.out | apply ak | apply au | apply aC) | exact HB.out)⟩⟩
      case round =>
       clear H'
       try clear c1
       try clear p2
       try clear c3
       try clear c4
       try clear c6
       try clear c6b0
       try clear c7
       try clear c7b0
       try clear c9
       try clear c9b0
       try clear c9b1
       try clear p2
       obtain ⟨DY, kR, rfl, rfl, HA, Hg, HO_3, HO_4, HO_13, HB⟩ := hrel
       cases gk with
       | zero => exact absurd HA.out (by simp [tidepoleref09_Fits.l1])
       | succ k3 =>
        have H := HA.out
        clear HA
        simp only [tidepoleref09_Fits.l1] at H
        by_cases c10 : kR < (pF.length : Int)
        ·rw [if_pos c10] at H
         have c10b0 : decide (kR < (pF.length : Int)) = true := aiJ c10
         clear c10
         by_cases c11 : 0 ≤ kR
         ·rw [if_pos c11] at H
          have c11b0 : decide (0 ≤ kR) = true := aiJ c11
          clear c11
          by_cases c12 : (rd pF kR) < 0
          ·rw [if_pos c12] at H
           have c12b0 : decide ((rd pF kR) < 0) = true := aiJ c12
           clear c12
           obtain rfl := Option.some.inj H
           obtain ⟨agW, agX, adz⟩ := Kd.ED HO_13.out
           subst adz
           have lu : 0 ≤ (kR : Int) := aiI (by assumption)
           have lC : kR < (pF.length : Int) := aiI (by assumption)
           obtain ⟨qW, uo, kQ⟩ := Kd.fA (Kd.wF HO_13.out).2.2 kR lu lC
           cases uo
           replace lu := eq_true lu
           replace lC := eq_true lC
           go_wp2
           go_ret
           exact ⟨by first | rfl | (simp [aT, aU] <;> rfl) | (simp [*, aT, aU] <;> rfl), by repeat (first | (with_reducible first | exact HB.out | apply ak | apply au | apply aC) | exact HB.out)⟩
          rw [if_neg c12] at H
          have c12b0 : decide ((rd pF kR) < 0) = false := aiK c12
          clear c12
          by_cases c14 : (IntKind.u64.wrap (rd pF kR)) > DY
          ·rw [if_pos c14] at H
           have c14b0 : decide (DY < (IntKind.u64.wrap (rd pF kR))) = true := aiJ c14
           clear c14
           obtain rfl := Option.some.inj H
           obtain ⟨NS, Le, Em⟩ := Kd.ED HO_13.out
           subst Em
           have lu : 0 ≤ (kR : Int) := aiI (by assumption)
           have lC : kR < (pF.length : Int) := aiI (by assumption)
           obtain ⟨qW, uo, kQ⟩ := Kd.fA (Kd.wF HO_13.out).2.2 kR lu lC
           cases uo
           replace lu := eq_true lu
           replace lC := eq_true lC
           have FQ : 0 ≤ (kR : Int) := aiI (by assumption)
           have FT : kR < (pF.length : Int) := aiI (by assumption)
           obtain ⟨LU, TM, BP⟩ := Kd.fA (Kd.wF HO_13.out).2.2 kR FQ FT
           obtain rfl : qW = LU := (by injection TM)
           replace FQ := eq_true FQ
           replace FT := eq_true FT
           go_wp2
           go_ret
           exact ⟨by first | rfl | (simp [aT, aU] <;> rfl) | (simp [*, aT, aU] <;> rfl), by repeat (first | (with_reducible first | exact HB.out | apply ak | apply au | apply aC) | exact HB.out)⟩
          rw [if_neg c14] at H
          have c14b0 : decide (DY < (IntKind.u64.wrap (rd pF kR))) = false := aiK c14
          clear c14
          have H' := ah H
          clear H
          obtain ⟨Hw, Fv, Fz⟩ := Kd.ED HO_13.out
          subst Fz
          have lu : 0 ≤ (kR : Int) := aiI (by assumption)
          have lC : kR < (pF.length : Int) := aiI (by assumption)
          obtain ⟨qW, uo, kQ⟩ := Kd.fA (Kd.wF HO_13.out).2.2 kR lu lC
          cases uo
          replace lu := eq_true lu
          replace lC := eq_true lC
          have FQ : 0 ≤ (kR : Int) := aiI (by assumption)
          have FT : kR < (pF.length : Int) := aiI (by assumption)
          obtain ⟨LU, TM, BP⟩ := Kd.fA (Kd.wF HO_13.out).2.2 kR FQ FT
          obtain rfl : qW = LU := (by injection TM)
          replace FQ := eq_true FQ
          replace FT := eq_true FT
          have yT : 0 ≤ (kR : Int) := aiI (by assumption)
          have yU : kR < (pF.length : Int) := aiI (by assumption)
          obtain ⟨yV, Oi, ng⟩ := Kd.fA (Kd.wF HO_13.out).2.2 kR yT yU
          obtain rfl : qW = yV := (by injection Oi)
          replace yT := eq_true yT
          replace yU := eq_true yU
          go_wp2
          go_roundg k3
          case measure => have := jf.out; have := PU.out; have := Hg.out; omega
          case rel => exact ⟨(IntKind.u64.wrap (DY - (IntKind.u64.wrap (rd pF kR)))), (wrap64 (kR + 1)), (by first | rfl | (simp; done) | (simp [*]; done)), (by first | rfl | (simp; done) | (simp [*]; done)), H', ⟨by have := jf.out; have := PU.out; have := Hg.out; omega⟩, ⟨by (with_reducible repeat (first | apply Kd.jF | apply Kd.jG | apply Kd.kD)); exact HO_3.out⟩, ⟨by (with_reducible repeat (first | apply Kd.jF | apply Kd.jG | apply Kd.kD)); exact HO_4.out⟩, ⟨by (with_reducible repeat (first | apply Kd.jF | apply Kd.jG | apply Kd.kD)); exact HO_13.out⟩, ⟨by repeat (first | (with_reducible first | exact HB.out | apply ak | apply au | apply aC) | exact HB.out)⟩⟩
         rw [if_neg c11] at H
         exact absurd H (by simp)
        rw [if_neg c10] at H
        have c10b0 : decide (kR < (pF.length : Int)) = false := aiK c10
        clear c10
        have H' := ah H
        clear H
        obtain ⟨XL, SH, SK⟩ := Kd.ED HO_13.out
        subst SK
        go_wp2
        go_roundg k3
        case measure => have := jf.out; have := PU.out; have := Hg.out; omega
        case rel => exact ⟨(DY), (wrap64 (dB + 1)), (by first | rfl | (simp; done) | (simp [*]; done)), (by first | rfl | (simp; done) | (simp [*]; done)), H', ⟨by have := jf.out; have := PU.out; have := Hg.out; omega⟩, ⟨by (with_reducible repeat (first | apply Kd.jF | apply Kd.jG | apply Kd.kD)); exact HO_3.out⟩, ⟨by (with_reducible repeat (first | apply Kd.jF | apply Kd.jG | apply Kd.kD)); exact HO_4.out⟩, ⟨by repeat (first | (with_reducible first | exact HB.out | apply ak | apply au | apply aC) | exact HB.out)⟩⟩
   rw [if_neg c7] at H
   have c7b0 : decide (dB < 2) = false := aiK c7
   clear c7
   by_cases c18 : gU > 0
   ·rw [if_pos c18] at H
    have c18b0 : decide (0 < gU) = true := aiJ c18
    clear c18
    replace H := Option.bind_eq_some_iff.mp H
    obtain ⟨dV, TY, H⟩ := H
    replace H : (if dV = true then (some 0) else (some 22)) = some r := H
    have VN := ah TY
    clear TY
    by_cases c20 : dV = true
    ·subst c20
     have H1 : (some 0) = some r := by rw [if_pos rfl] at H; exact H
     clear H
     have H := H1
     clear H1
     obtain rfl := Option.some.inj H
     go_wp2_with (first | (go_at_call 155; (with_reducible refine (tidepoleref09_NaN.calls a2 true _ VN.out).mono ?_); rintro e w' ⟨rfl, ⟨nd, rfl⟩⟩; clear VN))
     go_ret
     exact ⟨by first | rfl | (simp [aT, aU] <;> rfl) | (simp [*, aT, aU] <;> rfl), by repeat (first | (with_reducible first | exact HB.out | apply ak | apply au | apply aC) | exact HB.out)⟩
    replace c20 := Bool.eq_false_iff.mpr c20
    subst c20
    have H1 : (some 22) = some r := by rw [if_neg (show ¬ (false = true) by decide)] at H; exact H
    clear H
    have H := H1
    clear H1
    obtain rfl := Option.some.inj H
    go_wp2_with (first | (go_at_call 155; (with_reducible refine (tidepoleref09_NaN.calls a2 false _ VN.out).mono ?_); rintro e w' ⟨rfl, ⟨nd, rfl⟩⟩; clear VN))
    go_ret
    exact ⟨by first | rfl | (simp [aT, aU] <;> rfl) | (simp [*, aT, aU] <;> rfl), by repeat (first | (with_reducible first | exact HB.out | apply ak | apply au | apply aC) | exact HB.out)⟩
   rw [if_neg c18] at H
   have c18b0 : decide (0 < gU) = false := aiK c18
   clear c18
   obtain rfl := Option.some.inj H
   go_wp2
   go_ret
   exact ⟨by first | rfl | (simp [aT, aU] <;> rfl) | (simp [*, aT, aU] <;> rfl), by repeat (first | (with_reducible first | exact HB.out | apply ak | apply au | apply aC) | exact HB.out)⟩
def tidepoleref09_Check.f (k : Nat) (dD : Int) (dH : Int) (dQ : Int) (dR : Int) (dO : Int) (dN : List (fD)) (dK : List (fD)) (dJ : List Int) (dI : List Int) : Option (Int) := (tidepoleref09_Head.f k dD dH).bind fun eP => (if eP = 0 then ((tidepoleref09_Side.f k dN dJ).bind fun yX => (if yX.2.2 = 0 then ((tidepoleref09_Side.f k dK dI).bind fun uG => (if uG.2.2 = 0 then ((tidepoleref09_Fits.f k dQ dR dO yX.2.1 uG.2.1).bind fun t117 => (some t117)) else (some uG.2.2))) else (some yX.2.2))) else (some eP))
set_option maxHeartbeats 8000000 in
set_option maxRecDepth 100000 in
theorem tidepoleref09_Check.calls (k : Nat) (dD : Int) (dH : Int) (dQ : Int) (dR : Int) (dO : Int) (iV : Option Addr) (iW : Nat) (dN : List (fD)) (iR : Option Addr) (iT : Nat) (dK : List (fD)) (iC : Option Addr) (iD : Nat) (dJ : List Int) (iE : Option Addr) (iF : Nat) (dI : List Int) (r : Int) (w : World) (oO : Kd.C nD w iV dN.length dN) (oP : dN.length ≤ iW) (oQ : Kd.C nD w iR dK.length dK) (oU : dK.length ≤ iT) (qI : Kd.C (Kd.int .i64) w iC dJ.length dJ) (qJ : dJ.length ≤ iD) (qK : Kd.C (Kd.int .i64) w iE dI.length dI) (qL : dI.length ≤ iF) (h : tidepoleref09_Check.f k dD dH dQ dR dO dN dK dJ dI = some r) :
  Calls Try.prog 39 #[.agg #[.int .i64 dD, .int .u64 dH, .int .u64 dQ, .int .u64 dR, .int .u64 dO, .slice iV dN.length iW, .slice iR dK.length iT, .slice iC dJ.length iD, .slice iE dI.length iF]] w fun e w' => e = .returned (.int .i64 r) ∧ Below w.heap.size w w' := by
 have aan := Try.underlying41
 have nH := ah oO
 have nI := ah oP
 clear oO oP
 have nZ := ah oQ
 have oh := ah oU
 clear oQ oU
 have oV := ah qI
 have oW := ah qJ
 clear qI qJ
 have pG := ah qK
 have pI := ah qL
 clear qK qL
 have HB := ah (Below.refl w.heap.size w)
 have H : ((tidepoleref09_Head.f k dD dH).bind fun eP => (if eP = 0 then ((tidepoleref09_Side.f k dN dJ).bind fun yX => (if yX.2.2 = 0 then ((tidepoleref09_Side.f k dK dI).bind fun uG => (if uG.2.2 = 0 then ((tidepoleref09_Fits.f k dQ dR dO yX.2.1 uG.2.1).bind fun t117 => (some t117)) else (some uG.2.2))) else (some yX.2.2))) else (some eP))) = some r := h
 clear h
 replace H := Option.bind_eq_some_iff.mp H
 obtain ⟨eP, sV, H⟩ := H
 replace H : (if eP = 0 then ((tidepoleref09_Side.f k dN dJ).bind fun yX => (if yX.2.2 = 0 then ((tidepoleref09_Side.f k dK dI).bind fun uG => (if uG.2.2 = 0 then ((tidepoleref09_Fits.f k dQ dR dO yX.2.1 uG.2.1).bind fun t117 => (some t117)) else (some uG.2.2))) else (some yX.2.2))) else (some eP)) = some r := H
 have A2 := ah sV
 clear sV
 by_cases c3 : eP = 0
 ·rw [if_pos c3] at H
  have c3b0 : (eP == 0) = true := beq_iff_eq.mpr c3
  have c3b1 : (eP != 0) = false := bne_eq_false_iff_eq.mpr c3
  clear c3
  replace H := Option.bind_eq_some_iff.mp H
  obtain ⟨⟨eG, lg, t105⟩, PG, H⟩ := H
  replace H : (if t105 = 0 then ((tidepoleref09_Side.f k dK dI).bind fun uG => (if uG.2.2 = 0 then ((tidepoleref09_Fits.f k dQ dR dO lg uG.2.1).bind fun t117 => (some t117)) else (some uG.2.2))) else (some t105)) = some r := H
  have A4 := ah PG
  clear PG
  by_cases c5 : t105 = 0
  ·rw [if_pos c5] at H
   have c5b0 : (t105 == 0) = true := beq_iff_eq.mpr c5
   have c5b1 : (t105 != 0) = false := bne_eq_false_iff_eq.mpr c5
   clear c5
   replace H := Option.bind_eq_some_iff.mp H
   obtain ⟨⟨uS, AA, jQ⟩, Pq, H⟩ := H
   replace H : (if jQ = 0 then ((tidepoleref09_Fits.f k dQ dR dO lg AA).bind fun t117 => (some t117)) else (some jQ)) = some r := H
   have A6 := ah Pq
   clear Pq
   by_cases c7 : jQ = 0
   ·rw [if_pos c7] at H
    have c7b0 : (jQ == 0) = true := beq_iff_eq.mpr c7
    have c7b1 : (jQ != 0) = false := bne_eq_false_iff_eq.mpr c7
    clear c7
    replace H := Option.bind_eq_some_iff.mp H
    obtain ⟨t117, A80, H⟩ := H
    replace H : (some t117) = some r := H
    have A8 := ah A80
    clear A80
    obtain rfl := Option.some.inj H
    go_enter Try.func39, Try.ntmps39
    go_wp2_with (first | ((with_reducible refine fJ (N := 1) rfl ?_); refine eU ?hg (N := 1) ?hd (cs := #[.int .i64 dD, .int .u64 dH, .int .u64 dQ, .int .u64 dR, .int .u64 dO, .slice iV dN.length iW, .slice iR dK.length iT, .slice iC dJ.length iD, .slice iE dI.length iF]) (t := 41) ?hr ?_; (case hd => rfl); (case hg => rfl); (case hr => first | (go_simp; done) | (go_simp; rfl)); intro cO hg w9 hbox hb; have aV := ah (hbox); have vG := ah ((by rw [hg]; exact (aI (aX HB.out)) : w.heap.size ≤ cO)); have bZ := ah ((by rw [hg]; exact (aI (aX HB.out)) : w.heap.size ≤ cO)); replace HB := ah (aW (aX HB.out) hb); clear hb hbox hg; have vH := ay aV.out; have vI := aG aV.out) | ((with_reducible refine bH (f := 101) rfl ?_); refine eH (some 14) Try.func101 #[.int .i64 dD, .int .u64 dH] ?_; (with_reducible refine (tidepoleref09_Head.calls k dD dH eP _ A2.out).mono ?_); rintro e w' ⟨rfl, ⟨nd, rfl⟩⟩; refine ⟨_, rfl, ?_⟩; clear A2) | ((with_reducible refine bH (f := 82) rfl ?_); refine eH (some 23) Try.func82 #[.slice iV dN.length iW, .slice iC dJ.length iD] ?_; (with_reducible refine (tidepoleref09_Side.calls k _ _ dN _ _ dJ eG lg t105 _ ?dw ?dA ?jr ?jv A4.out).mono ?_); (case dw => repeat (first | exact (Kd.bM nH.out (by repeat (first | (with_reducible first | exact HB.out | apply ak | apply au | apply aC | refine aA ?_ bZ.out) | exact HB.out))) | (with_reducible refine Kd.wW ?_ _) | (with_reducible refine Kd.wX ?_ _) | (with_reducible refine Kd.Aj ?_))); (case dA => exact nI.out); (case jr => repeat (first | exact (Kd.bM oV.out (by repeat (first | (with_reducible first | exact HB.out | apply ak | apply au | apply aC | refine aA ?_ bZ.out) | exact HB.out))) | (with_reducible refine Kd.wW ?_ _) | (with_reducible refine Kd.wX ?_ _) | (with_reducible refine Kd.Aj ?_))); (case jv => exact oW.out); rintro e VE ⟨Ep, TA, rfl, ho0, ho1, hb⟩; refine ⟨_, rfl, ?_⟩; have jo := ah (Kd.bV ho0 (aI (by repeat (first | (with_reducible first | exact HB.out | apply ak | apply au | apply aC | refine aA ?_ bZ.out) | exact HB.out)))); have qX := ah (Kd.bV ho1 (aI (by repeat (first | (with_reducible first | exact HB.out | apply ak | apply au | apply aC | refine aA ?_ bZ.out) | exact HB.out)))); replace aV := ah (dX aV.out hb); replace HB := ah (aW (by repeat (first | (with_reducible first | exact HB.out | apply ak | apply au | apply aC | refine aA ?_ bZ.out) | exact HB.out)) hb); (try clear hb); (try clear hb2); (try clear hk); (try clear hi); (try clear ho0); (try clear ho1); clear A4; have VO := ay aV.out; have VP := aG aV.out) | ((with_reducible refine bH (f := 82) rfl ?_); refine eH (some 35) Try.func82 #[.slice iR dK.length iT, .slice iE dI.length iF] ?_; (with_reducible refine (tidepoleref09_Side.calls k _ _ dK _ _ dI uS AA jQ _ ?dw ?dA ?jr ?jv A6.out).mono ?_); (case dw => exact Kd.jT (Kd.bM nZ.out HB.out)); (case dA => exact oh.out); (case jr => exact Kd.jT (Kd.bM pG.out HB.out)); (case jv => exact pI.out); rintro e QA ⟨VF, adA, rfl, ho0, ho1, hb⟩; refine ⟨_, rfl, ?_⟩; have tu := ah (Kd.bV (Kd.gq ho0 (Kd.jH (Kd.fB jo.out))) (aI (by repeat (first | (with_reducible first | exact HB.out | apply ak | apply au | apply aC | refine aA ?_ bZ.out) | exact HB.out)))); have LZ := ah (Kd.bV (Kd.gq ho1 (Kd.jH (Kd.fB qX.out))) (aI (by repeat (first | (with_reducible first | exact HB.out | apply ak | apply au | apply aC | refine aA ?_ bZ.out) | exact HB.out)))); replace jo := ah (Kd.dW (Kd.fB jo.out) (Kd.fP ho0) hb); replace qX := ah (Kd.dW (Kd.fB qX.out) (Kd.fP ho1) hb); replace aV := ah (dX aV.out hb); replace HB := ah (aW (by repeat (first | (with_reducible first | exact HB.out | apply ak | apply au | apply aC | refine aA ?_ bZ.out) | exact HB.out)) hb); (try clear hb); (try clear hb2); (try clear hk); (try clear hi); (try clear ho0); (try clear ho1); clear A6; have zQ := ay aV.out; have zS := aG aV.out; obtain ⟨NS, Le, Em⟩ := Kd.bY qX.out; subst Em; obtain ⟨Hw, Fv, Fz⟩ := Kd.bY LZ.out; subst Fz) | ((with_reducible refine bH (f := 102) rfl ?_); refine eH (some 50) Try.func102 #[.int .u64 dQ, .int .u64 dR, .int .u64 dO, .slice NS lg.length Le, .slice Hw AA.length Fv] ?_; (with_reducible refine (tidepoleref09_Fits.calls k dQ dR dO (fun k_ => some k_ = (.slice NS lg.length Le : Value).ownBlock) _ _ lg (fun k_ => some k_ = (.slice Hw AA.length Fv : Value).ownBlock) _ _ AA t117 _ ?dw ?dA A8.out).mono ?_); (case dw => exact Kd.R_V (Kd.Ph rfl (Kd.gY (Kd.Bc (Kd.Bc (qX.out) (Kd.je jo.out) (by decide)) (Kd.je tu.out) (by decide)) aV.out (by decide)))); (case dA => exact Kd.R_V (Kd.Ph rfl (Kd.gY (Kd.Bc (Kd.Bc (LZ.out) (Kd.je jo.out) (by decide)) (Kd.je tu.out) (by decide)) aV.out (by decide)))); rintro e Xf ⟨rfl, hb⟩; refine ⟨_, rfl, ?_⟩; replace jo := ah (Kd.kE jo.out hb); replace qX := ah (Kd.kE qX.out hb); replace tu := ah (Kd.kE tu.out hb); replace LZ := ah (Kd.kE LZ.out hb); replace aV := ah (dX aV.out hb); replace HB := ah (aW (by repeat (first | (with_reducible first | exact HB.out | apply ak | apply au | apply aC | refine aA ?_ bZ.out) | exact HB.out)) hb); (try clear hb); (try clear hb2); (try clear hk); (try clear hi); clear A8))
    go_ret
    exact ⟨by first | rfl | (simp [aT, aU] <;> rfl) | (simp [*, aT, aU] <;> rfl), by repeat (first | (with_reducible first | exact HB.out | apply ak | apply au | apply aC | refine aA ?_ bZ.out) | exact HB.out)⟩
   rw [if_neg c7] at H
   have c7b0 : (jQ == 0) = false := beq_eq_false_iff_ne.mpr c7
   have c7b1 : (jQ != 0) = true := bne_iff_ne.mpr c7
   obtain rfl := Option.some.inj H
   go_enter Try.func39, Try.ntmps39
   go_wp2_with (first | ((with_reducible refine fJ (N := 1) rfl ?_); refine eU ?hg (N := 1) ?hd (cs := #[.int .i64 dD, .int .u64 dH, .int .u64 dQ, .int .u64 dR, .int .u64 dO, .slice iV dN.length iW, .slice iR dK.length iT, .slice iC dJ.length iD, .slice iE dI.length iF]) (t := 41) ?hr ?_; (case hd => rfl); (case hg => rfl); (case hr => first | (go_simp; done) | (go_simp; rfl)); intro cO hg w18 hbox hb; have aV := ah (hbox); have vG := ah ((by rw [hg]; exact (aI (aX HB.out)) : w.heap.size ≤ cO)); have bZ := ah ((by rw [hg]; exact (aI (aX HB.out)) : w.heap.size ≤ cO)); replace HB := ah (aW (aX HB.out) hb); clear hb hbox hg; have zL := ay aV.out; have zM := aG aV.out) | ((with_reducible refine bH (f := 101) rfl ?_); refine eH (some 14) Try.func101 #[.int .i64 dD, .int .u64 dH] ?_; (with_reducible refine (tidepoleref09_Head.calls k dD dH eP _ A2.out).mono ?_); rintro e w' ⟨rfl, ⟨nd, rfl⟩⟩; refine ⟨_, rfl, ?_⟩; clear A2) | ((with_reducible refine bH (f := 82) rfl ?_); refine eH (some 23) Try.func82 #[.slice iV dN.length iW, .slice iC dJ.length iD] ?_; (with_reducible refine (tidepoleref09_Side.calls k _ _ dN _ _ dJ eG lg t105 _ ?dw ?dA ?jr ?jv A4.out).mono ?_); (case dw => repeat (first | exact (Kd.bM nH.out (by repeat (first | (with_reducible first | exact HB.out | apply ak | apply au | apply aC | refine aA ?_ bZ.out) | exact HB.out))) | (with_reducible refine Kd.wW ?_ _) | (with_reducible refine Kd.wX ?_ _) | (with_reducible refine Kd.Aj ?_))); (case dA => exact nI.out); (case jr => repeat (first | exact (Kd.bM oV.out (by repeat (first | (with_reducible first | exact HB.out | apply ak | apply au | apply aC | refine aA ?_ bZ.out) | exact HB.out))) | (with_reducible refine Kd.wW ?_ _) | (with_reducible refine Kd.wX ?_ _) | (with_reducible refine Kd.Aj ?_))); (case jv => exact oW.out); rintro e w20 ⟨Ep, TA, rfl, ho0, ho1, hb⟩; refine ⟨_, rfl, ?_⟩; have jo := ah (Kd.bV ho0 (aI (by repeat (first | (with_reducible first | exact HB.out | apply ak | apply au | apply aC | refine aA ?_ bZ.out) | exact HB.out)))); have qX := ah (Kd.bV ho1 (aI (by repeat (first | (with_reducible first | exact HB.out | apply ak | apply au | apply aC | refine aA ?_ bZ.out) | exact HB.out)))); replace aV := ah (dX aV.out hb); replace HB := ah (aW (by repeat (first | (with_reducible first | exact HB.out | apply ak | apply au | apply aC | refine aA ?_ bZ.out) | exact HB.out)) hb); (try clear hb); (try clear hb2); (try clear hk); (try clear hi); (try clear ho0); (try clear ho1); clear A4; have PV := ay aV.out; have PW := aG aV.out) | ((with_reducible refine bH (f := 82) rfl ?_); refine eH (some 35) Try.func82 #[.slice iR dK.length iT, .slice iE dI.length iF] ?_; (with_reducible refine (tidepoleref09_Side.calls k _ _ dK _ _ dI uS AA jQ _ ?dw ?dA ?jr ?jv A6.out).mono ?_); (case dw => exact Kd.jT (Kd.bM nZ.out HB.out)); (case dA => exact oh.out); (case jr => exact Kd.jT (Kd.bM pG.out HB.out)); (case jv => exact pI.out); rintro e Yj ⟨VF, adA, rfl, ho0, ho1, hb⟩; refine ⟨_, rfl, ?_⟩; have tu := ah (Kd.bV (Kd.gq ho0 (Kd.jH (Kd.fB jo.out))) (aI (by repeat (first | (with_reducible first | exact HB.out | apply ak | apply au | apply aC | refine aA ?_ bZ.out) | exact HB.out)))); have LZ := ah (Kd.bV (Kd.gq ho1 (Kd.jH (Kd.fB qX.out))) (aI (by repeat (first | (with_reducible first | exact HB.out | apply ak | apply au | apply aC | refine aA ?_ bZ.out) | exact HB.out)))); replace jo := ah (Kd.dW (Kd.fB jo.out) (Kd.fP ho0) hb); replace qX := ah (Kd.dW (Kd.fB qX.out) (Kd.fP ho1) hb); replace aV := ah (dX aV.out hb); replace HB := ah (aW (by repeat (first | (with_reducible first | exact HB.out | apply ak | apply au | apply aC | refine aA ?_ bZ.out) | exact HB.out)) hb); (try clear hb); (try clear hb2); (try clear hk); (try clear hi); (try clear ho0); (try clear ho1); clear A6))
   go_ret
   exact ⟨by first | rfl | (simp [aT, aU] <;> rfl) | (simp [*, aT, aU] <;> rfl), by repeat (first | (with_reducible first | exact HB.out | apply ak | apply au | apply aC | refine aA ?_ bZ.out) | exact HB.out)⟩
  rw [if_neg c5] at H
  have c5b0 : (t105 == 0) = false := beq_eq_false_iff_ne.mpr c5
  have c5b1 : (t105 != 0) = true := bne_iff_ne.mpr c5
  obtain rfl := Option.some.inj H
  go_enter Try.func39, Try.ntmps39
  go_wp2_with (first | ((with_reducible refine fJ (N := 1) rfl ?_); refine eU ?hg (N := 1) ?hd (cs := #[.int .i64 dD, .int .u64 dH, .int .u64 dQ, .int .u64 dR, .int .u64 dO, .slice iV dN.length iW, .slice iR dK.length iT, .slice iC dJ.length iD, .slice iE dI.length iF]) (t := 41) ?hr ?_; (case hd => rfl); (case hg => rfl); (case hr => first | (go_simp; done) | (go_simp; rfl)); intro cO hg w23 hbox hb; have aV := ah (hbox); have vG := ah ((by rw [hg]; exact (aI (aX HB.out)) : w.heap.size ≤ cO)); have bZ := ah ((by rw [hg]; exact (aI (aX HB.out)) : w.heap.size ≤ cO)); replace HB := ah (aW (aX HB.out) hb); clear hb hbox hg; have abz := ay aV.out; have abA := aG aV.out) | ((with_reducible refine bH (f := 101) rfl ?_); refine eH (some 14) Try.func101 #[.int .i64 dD, .int .u64 dH] ?_; (with_reducible refine (tidepoleref09_Head.calls k dD dH eP _ A2.out).mono ?_); rintro e w' ⟨rfl, ⟨nd, rfl⟩⟩; refine ⟨_, rfl, ?_⟩; clear A2) | ((with_reducible refine bH (f := 82) rfl ?_); refine eH (some 23) Try.func82 #[.slice iV dN.length iW, .slice iC dJ.length iD] ?_; (with_reducible refine (tidepoleref09_Side.calls k _ _ dN _ _ dJ eG lg t105 _ ?dw ?dA ?jr ?jv A4.out).mono ?_); (case dw => repeat (first | exact (Kd.bM nH.out (by repeat (first | (with_reducible first | exact HB.out | apply ak | apply au | apply aC | refine aA ?_ bZ.out) | exact HB.out))) | (with_reducible refine Kd.wW ?_ _) | (with_reducible refine Kd.wX ?_ _) | (with_reducible refine Kd.Aj ?_))); (case dA => exact nI.out); (case jr => repeat (first | exact (Kd.bM oV.out (by repeat (first | (with_reducible first | exact HB.out | apply ak | apply au | apply aC | refine aA ?_ bZ.out) | exact HB.out))) | (with_reducible refine Kd.wW ?_ _) | (with_reducible refine Kd.wX ?_ _) | (with_reducible refine Kd.Aj ?_))); (case jv => exact oW.out); rintro e DV ⟨Ep, TA, rfl, ho0, ho1, hb⟩; refine ⟨_, rfl, ?_⟩; have jo := ah (Kd.bV ho0 (aI (by repeat (first | (with_reducible first | exact HB.out | apply ak | apply au | apply aC | refine aA ?_ bZ.out) | exact HB.out)))); have qX := ah (Kd.bV ho1 (aI (by repeat (first | (with_reducible first | exact HB.out | apply ak | apply au | apply aC | refine aA ?_ bZ.out) | exact HB.out)))); replace aV := ah (dX aV.out hb); replace HB := ah (aW (by repeat (first | (with_reducible first | exact HB.out | apply ak | apply au | apply aC | refine aA ?_ bZ.out) | exact HB.out)) hb); (try clear hb); (try clear hb2); (try clear hk); (try clear hi); (try clear ho0); (try clear ho1); clear A4))
  go_ret
  exact ⟨by first | rfl | (simp [aT, aU] <;> rfl) | (simp [*, aT, aU] <;> rfl), by repeat (first | (with_reducible first | exact HB.out | apply ak | apply au | apply aC | refine aA ?_ bZ.out) | exact HB.out)⟩
 rw [if_neg c3] at H
 have c3b0 : (eP == 0) = false := beq_eq_false_iff_ne.mpr c3
 have c3b1 : (eP != 0) = true := bne_iff_ne.mpr c3
 obtain rfl := Option.some.inj H
 go_enter Try.func39, Try.ntmps39
 go_wp2_with (first | ((with_reducible refine fJ (N := 1) rfl ?_); refine eU ?hg (N := 1) ?hd (cs := #[.int .i64 dD, .int .u64 dH, .int .u64 dQ, .int .u64 dR, .int .u64 dO, .slice iV dN.length iW, .slice iR dK.length iT, .slice iC dJ.length iD, .slice iE dI.length iF]) (t := 41) ?hr ?_; (case hd => rfl); (case hg => rfl); (case hr => first | (go_simp; done) | (go_simp; rfl)); intro cO hg SV hbox hb; have aV := ah (hbox); have vG := ah ((by rw [hg]; exact (aI (aX HB.out)) : w.heap.size ≤ cO)); have bZ := ah ((by rw [hg]; exact (aI (aX HB.out)) : w.heap.size ≤ cO)); replace HB := ah (aW (aX HB.out) hb); clear hb hbox hg; have Jw := ay aV.out; have Jy := aG aV.out) | ((with_reducible refine bH (f := 101) rfl ?_); refine eH (some 14) Try.func101 #[.int .i64 dD, .int .u64 dH] ?_; (with_reducible refine (tidepoleref09_Head.calls k dD dH eP _ A2.out).mono ?_); rintro e w' ⟨rfl, ⟨nd, rfl⟩⟩; refine ⟨_, rfl, ?_⟩; clear A2))
 go_ret
 exact ⟨by first | rfl | (simp [aT, aU] <;> rfl) | (simp [*, aT, aU] <;> rfl), by repeat (first | (with_reducible first | exact HB.out | apply ak | apply au | apply aC | refine aA ?_ bZ.out) | exact HB.out)⟩
end Go.Proofs.Ytooiccpmngmapaa.P
namespace Go.Proofs.Ytooiccpmngmapaa.P
open Go.RowKit Go.Proofs.YtooiccpmngmapaaW.PrintWords Go.Proofs.YtooiccpmngmapaaW.PrintLast Go.Proofs.YtooiccpmngmapaaW.PrintMore
theorem Oj {α : Type} (f : α → Int) {l : List α} {i : Nat} (h : i < l.length) : rd (l.map f) (i : Int) = f l[i] := by rw [qC (by simpa using h)]; simp
abbrev lookPr (l : List Pr) (p : Int) : Int := look (fun x : Pr => x.f0) (fun x : Pr => x.f1) l p
theorem DZ (x : Pr) (l : List Pr) (p : Int) : lookPr (x :: l) p = if x.f0 = p then x.f1 else lookPr l p := wL _ _ _
theorem JZ (ps c : List Int) (hm : c.length < 17592186044416) : ∀ (d k i : Nat), c.length - i = d → d < k → i ≤ c.length →
    tidepoleref09_Side.l0 k ps c (i : Int) = some (if (c.drop i).any (fun x => decide (x < 0)) = true then ([], [], 22) else (ps, c, 0)) := by
  intro d
  induction d with
  | zero =>
    intro k i hd hk hi
    obtain ⟨k, rfl⟩ : ∃ m, k = m + 1 := ⟨k - 1, by omega⟩
    rw [tidepoleref09_Side.l0, if_neg (by omega), drop_end (by omega)]; rfl
  | succ d ih =>
    intro k i hd hk hi
    obtain ⟨k, rfl⟩ : ∃ m, k = m + 1 := ⟨k - 1, by omega⟩
    have hlt : i < c.length := by omega
    rw [tidepoleref09_Side.l0, if_pos (by omega), if_pos (by omega), qC hlt, drop_at hlt, List.any_cons]
    by_cases h : c[i] < 0
    · rw [if_pos h, aiJ h]; rfl
    · rw [if_neg h, aiK h, Bool.false_or, wrap_succ (by omega)]
      exact ih k (i + 1) (by omega) (by omega) (by omega)
def xK (l : List Sp) (d : List Int) : List Int × List Int × Int := ((dU l d).1.map (·.f0), (dU l d).1.map (·.f1), (dU l d).2)
theorem Yk : ∀ (ps v : List Int), ps.length = v.length → (List.zipWith (fun p x => (⟨p, x⟩ : Pr)) ps v).map (·.f0) = ps ∧ (List.zipWith (fun p x => (⟨p, x⟩ : Pr)) ps v).map (·.f1) = v
 | [], [], _ => ⟨rfl, rfl⟩
 | p :: ps, x :: v, h => by have := Yk ps v (by simpa using h); exact ⟨by simp only [List.zipWith_cons_cons, List.map_cons, this.1], by simp only [List.zipWith_cons_cons, List.map_cons, this.2]⟩
 | [], _ :: _, h => by simp at h
 | _ :: _, [], h => by simp at h
theorem xM (l : List Sp) (d : List Int) (hl : lK l) (hd : FW d) (hm : d.length < 4398046511104) (k : Nat) (hk : 5120000 + d.length < k) : tidepoleref09_Side.f k (l.map toR) d = some (xK l d) := by
  unfold tidepoleref09_Side.f xK dU
  rw [LH l hl k (by omega), Option.bind_some]
  by_cases h1 : fZ l = 0
  · have hp := rD l 0 (fun s hs => (nU l _ _ _ (jW h1).2 s hs).1)
    rw [if_pos h1, if_pos h1, JQ l h1 k (by omega), Option.bind_some]
    by_cases h2 : nT l = d.length
    · rw [if_pos (by omega), if_pos h2, FU d hd (by omega) k (by omega), Option.bind_some]
      cases hs : fF 0 d with
      | none => simp
      | some c =>
        have hc := kW d 0 c hs
        simp only
        have hlp := JZ (uP 0 l) c (by omega) c.length k 0 (by omega) (by omega) (by omega)
        rw [List.drop_zero, show ((0 : Nat) : Int) = 0 from rfl] at hlp
        rw [if_neg (by omega), hlp]
        by_cases h3 : c.any (fun x => decide (x < 0)) = true
        · rw [if_pos h3, if_pos h3]; rfl
        · rw [if_neg h3, if_neg h3]
          have := Yk (uP 0 l) c (by omega)
          simp only [this.1, this.2]
    · rw [if_neg (by omega), if_neg h2]; rfl
  · rw [if_neg h1, if_neg h1]; rfl
theorem QK (v : Int) (h : u64 v) : Go.bits .andNot .u64 v 9223372036854775808 = if v ≥ 9223372036854775808 then v - 9223372036854775808 else v := by
 have h0 := h.1; have h1 := h.2
 rw [Go.u64_andNot v 9223372036854775808 h0 (by omega) (by omega) (by omega)]
 have e : (18446744073709551615 - (9223372036854775808 : Int).toNat : Nat) = 2 ^ 63 - 1 := by decide
 rw [e, Nat.and_two_pow_sub_one_eq_mod]
 split <;> omega
theorem QL (v : Int) (h : u64 v) : tidepoleref09_NaN.f v = some (nan v) := by
 unfold tidepoleref09_NaN.f nan
 rw [QK v h]
 have := h.1; have := h.2
 by_cases c : v ≥ 9223372036854775808
 ·rw [if_pos c, if_pos c]
  have : IntKind.u64.wrap (v - 9223372036854775808) = v - 9223372036854775808 := by
   show (v - 9223372036854775808) % 18446744073709551616 = _; omega
  rw [this]
 ·rw [if_neg c, if_neg c]
theorem Ol (s z : Int) (k : Nat) (hk : 0 < k) : tidepoleref09_Head.f k s z = some (if s < -4 ∨ s > 8 then 21 else if ¬ z < 9218868437227405312 then 11 else 0) := by
 obtain ⟨k, rfl⟩ : ∃ m, k = m + 1 := ⟨k - 1, by omega⟩
 unfold tidepoleref09_Head.f
 by_cases h1 : s < -4
 ·rw [if_pos h1, tidepoleref09_Head.j0, if_pos rfl, if_pos (Or.inl h1)]
 ·rw [if_neg h1, tidepoleref09_Head.j0]
  by_cases h2 : s > 8
  ·rw [if_pos (by simpa using h2), if_pos (Or.inr h2)]
  ·rw [if_neg (by simpa using h2), if_neg (c := s < -4 ∨ s > 8) (by omega)]
   by_cases h3 : z < 9218868437227405312
   ·rw [if_neg (by omega), if_neg (by omega)]
   ·rw [if_pos (by omega), if_pos h3]
def leftV : Int → List Pr → Option Int
 | a, [] => some a
 | a, p :: l => if p.f1 > a then none else leftV (a - p.f1) l
theorem Gh : ∀ (l : List Pr) (a : Int), (∀ p ∈ l, 0 ≤ p.f1) → leftV a l = if kF l ≤ a then some (a - kF l) else (if 0 ≤ a then none else leftV a l)
  | [], a, _ => by
    by_cases h : 0 ≤ a
    · simp [leftV, kF, h]
    · simp [leftV, kF, h]
  | p :: l, a, hp => by
    have hq := fun x hx => hp x (List.mem_cons_of_mem _ hx)
    have h0 := hp p (List.mem_cons_self ..)
    have hs := qh (l := l) hq
    have e : kF (p :: l) = p.f1 + kF l := by simp [kF]
    rw [e]
    simp only [leftV]
    by_cases c : p.f1 > a
    · rw [if_pos c, if_neg (by omega)]; split <;> rfl
    · rw [if_neg c, Gh l _ hq]
      by_cases d : kF l ≤ a - p.f1
      · rw [if_pos d, if_pos (by omega)]; congr 1; omega
      · rw [if_neg d, if_neg (c := p.f1 + kF l ≤ a) (by omega), if_pos (c := 0 ≤ a - p.f1) (by omega), if_pos (c := 0 ≤ a) (by omega)]
theorem Gi {x : Int} (h : u64 x) : IntKind.u64.wrap x = x := by
 have := h.1; have := h.2
 show x % 18446744073709551616 = x; omega
theorem Gj (sm : Int) (P N : List Int) (l : List Pr) (h : ∀ p ∈ l, 0 ≤ p.f1 ∧ p.f1 ≤ 9223372036854775807) (hm : l.length < 17592186044416) (side : Int) : ∀ (d k i : Nat) (a : Int), l.length - i = d → d < k → i ≤ l.length → u64 a →
    tidepoleref09_Fits.l1 k sm P N a side (l.map (·.f1)) (i : Int) = match leftV a (l.drop i) with | none => some 22 | some b => tidepoleref09_Fits.l0 (k - d - 1) sm P N b (wrap64 (side + 1)) := by
  intro d
  induction d with
  | zero =>
    intro k i a hd hk hi ha
    obtain ⟨k, rfl⟩ : ∃ m, k = m + 1 := ⟨k - 1, by omega⟩
    rw [tidepoleref09_Fits.l1, List.length_map, if_neg (by omega), drop_end (by omega)]; rfl
  | succ d ih =>
    intro k i a hd hk hi ha
    obtain ⟨k, rfl⟩ : ∃ m, k = m + 1 := ⟨k - 1, by omega⟩
    have hlt : i < l.length := by omega
    have hx := h _ (List.getElem_mem hlt)
    have h0 := ha.1
    have h1 := ha.2
    rw [tidepoleref09_Fits.l1, List.length_map, if_pos (by omega), if_pos (by omega), Oj _ hlt, drop_at hlt, if_neg (by omega), Gi (x := l[i].f1) ⟨by omega, by omega⟩]
    simp only [leftV]
    by_cases c : l[i].f1 > a
    · rw [if_pos c, if_pos c]
    · have hr := ih k (i + 1) (a - l[i].f1) (by omega) (by omega) (by omega) ⟨by omega, by omega⟩
      rw [if_neg c, if_neg c, Gi (x := a - l[i].f1) ⟨by omega, by omega⟩, wrap_succ (by omega), hr]
      rw [show k + 1 - (d + 1) - 1 = k - d - 1 by omega]
theorem Om (zc ct sm : Int) (p n : List Pr) (hz : u64 zc) (hc : u64 ct) (hs : u64 sm) (hp : ∀ x ∈ p, 0 ≤ x.f1 ∧ x.f1 ≤ 9223372036854775807) (hn : ∀ x ∈ n, 0 ≤ x.f1 ∧ x.f1 ≤ 9223372036854775807) (hpm : p.length < 17592186044416) (hnm : n.length < 17592186044416) (k : Nat) (hk : p.length + n.length + 10 < k) :
  tidepoleref09_Fits.f k zc ct sm (p.map (·.f1)) (n.map (·.f1)) = some (if fits zc ct sm p n = true then 0 else 22) := by
 have hsp := qh (l := p) (fun x hx => (hp x hx).1)
 have hsn := qh (l := n) (fun x hx => (hn x hx).1)
 have hz0 := hz.1; have hz1 := hz.2; have hc0 := hc.1; have hc1 := hc.2
 have hF : fits zc ct sm p n = decide (zc + kF p + kF n ≤ ct ∧ (zc + kF p + kF n = ct ∨ nan sm = true)) := by
  unfold fits nC
  have e : sK [p, n] = kF p + kF n := by simp [sK]
  rw [e]
  by_cases c : zc + (kF p + kF n) ≤ 18446744073709551615
  ·rw [if_pos c]
   simp only [Bool.true_and]
   rw [Bool.eq_iff_iff, Bool.and_eq_true, Bool.or_eq_true, decide_eq_true_eq, decide_eq_true_eq, decide_eq_true_eq]
   constructor
   ·rintro ⟨h1, h2⟩
    exact ⟨by omega, h2.imp (fun h => by omega) id⟩
   ·rintro ⟨h1, h2⟩
    exact ⟨by omega, h2.imp (fun h => by omega) id⟩
  ·rw [if_neg c]
   simp only [Bool.false_and]
   rw [aiK (by omega)]
 unfold tidepoleref09_Fits.f
 by_cases c0 : zc > ct
 ·rw [if_pos c0, hF, aiK (by omega)]; rfl
 rw [if_neg c0, Gi (x := ct - zc) ⟨by omega, by omega⟩]
 obtain ⟨k, rfl⟩ : ∃ m, k = m + 2 := ⟨k - 2, by omega⟩
 rw [tidepoleref09_Fits.l0, if_pos (by omega), if_neg (by omega), tidepoleref09_Fits.j1]
 have h1 := Gj sm (p.map (·.f1)) (n.map (·.f1)) p hp hpm 0 p.length k 0 (ct - zc) (by omega) (by omega) (by omega) ⟨by omega, by omega⟩
 rw [show ((0 : Nat) : Int) = 0 from rfl] at h1
 rw [h1, List.drop_zero, Gh p _ (fun x hx => (hp x hx).1)]
 by_cases c1 : kF p ≤ ct - zc
 rotate_left
 ·rw [if_neg c1, if_pos (by omega), hF, aiK (by omega)]; rfl
 rw [if_pos c1]
 simp only
 rw [show wrap64 (0 + 1) = 1 from by unfold wrap64; omega]
 obtain ⟨j, hj⟩ : ∃ m, k - p.length - 1 = m + 2 := ⟨k - p.length - 1 - 2, by omega⟩
 rw [hj, tidepoleref09_Fits.l0, if_pos (by omega), if_pos rfl, tidepoleref09_Fits.j1]
 have h2 := Gj sm (p.map (·.f1)) (n.map (·.f1)) n hn hnm 1 n.length j 0 (ct - zc - kF p) (by omega) (by omega) (by omega) ⟨by omega, by omega⟩
 rw [show ((0 : Nat) : Int) = 0 from rfl] at h2
 rw [h2, List.drop_zero, Gh n _ (fun x hx => (hn x hx).1)]
 by_cases c2 : kF n ≤ ct - zc - kF p
 rotate_left
 ·rw [if_neg c2, if_pos (by omega), hF, aiK (by omega)]; rfl
 rw [if_pos c2]
 simp only
 rw [show wrap64 (1 + 1) = 2 from by unfold wrap64; omega]
 obtain ⟨i, hi⟩ : ∃ m, j - n.length - 1 = m + 1 := ⟨j - n.length - 1 - 1, by omega⟩
 rw [hi, tidepoleref09_Fits.l0, if_neg (by omega), QL sm hs, Option.bind_some, hF]
 by_cases c3 : ct - zc - kF p - kF n > 0
 ·rw [if_pos c3]
  cases hnn : nan sm with
  | true => rw [if_pos rfl, aiJ ⟨by omega, Or.inr rfl⟩, if_pos rfl]
  | false => rw [if_neg (by simp), aiK (by rintro ⟨_, h | h⟩; omega; cases h), if_neg (by simp)]
 ·rw [if_neg c3, aiJ ⟨by omega, Or.inl (by omega)⟩, if_pos rfl]
open Go.Shelf
def Cb (a b : Hi) : Prop := a.f0 = b.f0 ∧ a.f1 = b.f1 ∧ a.f2 = b.f2 ∧ a.f3 = b.f3 ∧ a.f4 = b.f4
instance (a b : Hi) : Decidable (Cb a b) := by unfold Cb; exact inferInstance
def qU (w : World) (g : Nat) (cs : Array Value) (t : TypeId) : Prop := w.heap[g]? = some (.cells cs t (0, 0))
theorem qU.below {w w' : World} {g : Nat} {cs : Array Value} {t : TypeId} (h : qU w g cs t) (hb : Below w.heap.size w w') : qU w' g cs t := bG h hb
theorem qU.cell {w : World} {g : Nat} {cs : Array Value} {t : TypeId} (h : qU w g cs t) (i : Nat) : w.cell? ⟨g, i, none⟩ = cs[i]? := ay h i
theorem qU.new (w : World) (cs : Array Value) (t : TypeId) : qU (w.alloc (.cells cs t)) w.heap.size cs t := iM w _
theorem qU.alloc {w : World} {g : Nat} {cs : Array Value} {t : TypeId} (h : qU w g cs t) (o : Obj) : qU (w.alloc o) g cs t := oH h o
theorem qU.Ua {w : World} (o : Obj) (cs : Array Value) (t : TypeId) : qU ((w.alloc o).alloc (.cells cs t)) (w.heap.size + 1) cs t := by have := qU.new (w.alloc o) cs t; simpa using this
abbrev kRsp := nD
def HR (w : World) (v : Value) (h : Hi) : Prop :=
 ∃ v5 v6 v7 v8, v = .agg #[.int .i64 h.f0, .int .u64 h.f1, .int .u64 h.f2, .int .u64 h.f3, .int .u64 h.f4, v5, v6, v7, v8] ∧ SI kRsp w v5 (h.f5.map toR) ∧ SI kRsp w v6 (h.f6.map toR) ∧ SI (Kd.int .i64) w v7 h.f7 ∧ SI (Kd.int .i64) w v8 h.f8
theorem HR.below {w w' : World} {v : Value} {h : Hi} (x : HR w v h) (hb : Below w.heap.size w w') : HR w' v h := by
 obtain ⟨v5, v6, v7, v8, e, h5, h6, h7, h8⟩ := x
 exact ⟨v5, v6, v7, v8, e, h5.below hb, h6.below hb, h7.below hb, h8.below hb⟩
theorem HR.open_ {w : World} {v : Value} {h : Hi} (x : HR w v h) : ∃ A5 c5 A6 c6 A7 c7 A8 c8, v = .agg #[.int .i64 h.f0, .int .u64 h.f1, .int .u64 h.f2, .int .u64 h.f3, .int .u64 h.f4, .slice A5 h.f5.length c5, .slice A6 h.f6.length c6, .slice A7 h.f7.length c7, .slice A8 h.f8.length c8] ∧
  SI kRsp w (.slice A5 h.f5.length c5) (h.f5.map toR) ∧ SI kRsp w (.slice A6 h.f6.length c6) (h.f6.map toR) ∧ SI (Kd.int .i64) w (.slice A7 h.f7.length c7) h.f7 ∧ SI (Kd.int .i64) w (.slice A8 h.f8.length c8) h.f8 := by
 obtain ⟨v5, v6, v7, v8, rfl, h5, h6, h7, h8⟩ := x
 obtain ⟨A5, c5, rfl, NY, NZ⟩ := h5
 obtain ⟨A6, c6, rfl, N7, N8⟩ := h6
 obtain ⟨A7, c7, rfl, N9, h72⟩ := h7
 obtain ⟨A8, c8, rfl, Oa, Ob⟩ := h8
 rw [List.length_map]
 rw [List.length_map]
 refine ⟨A5, c5, A6, c6, A7, c7, A8, c8, rfl, ⟨A5, c5, by rw [List.length_map], NY, NZ⟩, ⟨A6, c6, by rw [List.length_map], N7, N8⟩, .of h72 N9, .of Ob Oa⟩
theorem SI.V {w : World} {e : Nat} {A : Option Addr} {c : Nat} {l : List Int} (hc : l.length ≤ c) (hr : (Kd.int .i64).C w A l.length l) : Kd.V (Kd.int .i64) e w w.heap.size (fun k_ => (fun k => k < w.heap.size) k_) (.slice A l.length c) l := ⟨_, _, rfl, hc, Kd.C_F (Kd.RV .i64) hr⟩
theorem SI.aap {e : Nat} {w : World} {base : Nat} {ok : Nat → Prop} {v : Value} {l : List Int} (h : Kd.V (Kd.int .i64) e w base ok v l) : SI (Kd.int .i64) w v l := by
 obtain ⟨A, c, rfl, hc, hf⟩ := h
 exact .of (hf w (fun _ _ _ => rfl)) hc
def uH (h : Hi) : Int := if h.f0 < -4 ∨ h.f0 > 8 then 21 else if ¬ h.f1 < 9218868437227405312 then 11 else 0
theorem Dx (h : Hi) : jD h = if uH h ≠ 0 then uH h else if (dU h.f5 h.f7).2 ≠ 0 then (dU h.f5 h.f7).2 else if (dU h.f6 h.f8).2 ≠ 0 then (dU h.f6 h.f8).2 else if fits h.f2 h.f3 h.f4 (dU h.f5 h.f7).1 (dU h.f6 h.f8).1 = true then 0 else 22 := by
 unfold jD iy xJ uH
 by_cases c1 : h.f0 < -4 ∨ h.f0 > 8
 ·rw [if_pos c1, if_pos c1, if_pos (by omega)]
 rw [if_neg c1, if_neg c1]
 by_cases c2 : ¬ h.f1 < 9218868437227405312
 ·rw [if_pos c2, if_pos c2, if_pos (by omega)]
 rw [if_neg c2, if_neg c2, if_neg (c := (0 : Int) ≠ 0) (by omega)]
 by_cases c3 : (dU h.f5 h.f7).2 ≠ 0
 ·rw [if_pos c3, if_pos c3]
 rw [if_neg c3, if_neg c3]
 by_cases c4 : (dU h.f6 h.f8).2 ≠ 0
 ·rw [if_pos c4, if_pos c4]
 rw [if_neg c4, if_neg c4]
 by_cases c5 : fits h.f2 h.f3 h.f4 (dU h.f5 h.f7).1 (dU h.f6 h.f8).1 = true
 ·rw [if_pos c5, if_pos c5]
 ·rw [if_neg c5, if_neg c5]
theorem yY {h : Hi} (hc : jD h = 0) : iy h = ((dU h.f5 h.f7).1, (dU h.f6 h.f8).1, 0) := by
 unfold jD iy xJ at *
 split at hc
 ·cases hc
 split at hc
 ·cases hc
 split at hc
 ·rename_i h3; exact absurd hc h3
 split at hc
 ·rename_i h3; exact absurd hc h3
 split at hc
 ·rename_i h1 h2 h3 h4 h5; rw [if_neg h1, if_neg h2, if_neg h3, if_neg h4, if_pos h5]
 ·cases hc
attribute [local go_sem] jh ji jR jS iI iJ jk jl
def scale_wrong.f (a0 : Int) (a1 : Int) : Option (Bool) := if a1 < (-4) then (some true) else (some (decide (a1 > a0)))
set_option maxHeartbeats 8000000 in
set_option maxRecDepth 100000 in
theorem scale_wrong.calls (a0 : Int) (a1 : Int) (r : Bool) (w : World) (h : scale_wrong.f a0 a1 = some r) :
  Calls Try.prog 79 #[.int .i64 a0, .int .i64 a1] w fun e w' => e = .returned (.bool r) ∧ bW w w' := by
 have H : (if a1 < (-4) then (some true) else (some (decide (a1 > a0)))) = some r := h
 clear h
 by_cases c3 : a1 < (-4)
 ·rw [if_pos c3] at H
  have c3b0 : decide (a1 < (-4)) = true := aiJ c3
  clear c3
  obtain rfl := Option.some.inj H
  go_enter Try.func79, Try.ntmps79
  go_wp2
  go_ret
  exact ⟨by first | rfl | (simp; done) | (simp [*]; done), by repeat (first | exact bW.refl _ | apply bW.step)⟩
 rw [if_neg c3] at H
 have c3b0 : decide (a1 < (-4)) = false := aiK c3
 clear c3
 obtain rfl := Option.some.inj H
 go_enter Try.func79, Try.ntmps79
 go_wp2
 go_ret
 exact ⟨by first | rfl | (simp; done) | (simp [*]; done), by repeat (first | exact bW.refl _ | apply bW.step)⟩
def scale_Place.j0 : Nat → Int → Int → Bool → Option (Int)
 | 0, _, _, _ => none
 | k + 1, x0, x1, x11 => if x11 = true then (some x0) else (if 0 ≤ x1 then (if (shl .i64 (shr .i64 x0 x1) x1) = x0 then (some (shr .i64 x0 x1)) else (some (wrap64 ((shr .i64 x0 x1) + 1)))) else (none))
def scale_Place.f (k : Nat) (a0 : Int) (a1 : Int) : Option (Int) := if a1 < 0 then (scale_Place.j0 k a0 a1 true) else (scale_Place.j0 k a0 a1 (decide (a1 > 62)))
set_option maxHeartbeats 8000000 in
set_option maxRecDepth 100000 in
theorem scale_Place.calls (k : Nat) (a0 : Int) (a1 : Int) (r : Int) (w : World) (h : scale_Place.f k a0 a1 = some r) :
  Calls Try.prog 77 #[.int .i64 a0, .int .i64 a1] w fun e w' => e = .returned (.int .i64 r) ∧ bW w w' := by
 have H : (if a1 < 0 then (scale_Place.j0 k a0 a1 true) else (scale_Place.j0 k a0 a1 (decide (a1 > 62)))) = some r := h
 clear h
 have Eo := ah H
 clear H
 go_enter Try.func77, Try.ntmps77
 go_upto_region 1 with (fail)
 go_cut [11] (fun v11 wc => ∃ (kq : Nat) (PX : Bool), v11 = .bool PX ∧ aj (scale_Place.j0 kq a0 a1 PX = some r) ∧ aj (kq ≤ k) ∧ bW w wc)
 case first =>
  have H := Eo.out
  clear Eo
  by_cases c4 : a1 < 0
  ·rw [if_pos c4] at H
   have c4b0 : decide (a1 < 0) = true := aiJ c4
   clear c4
   (first | rw [c4b0] | (simp only [dh, dF]; rw [c4b0]) | skip)
   have H' := ah H
   clear H
   go_wp2
   go_meet
   case rel => exact ⟨_, (true), (by first | rfl | (simp; done) | (simp [*]; done)), H', ⟨by first | omega | exact Nat.le_refl _⟩, by repeat (first | exact bW.refl _ | apply bW.step)⟩
  rw [if_neg c4] at H
  have c4b0 : decide (a1 < 0) = false := aiK c4
  clear c4
  (first | rw [c4b0] | (simp only [dh, dF]; rw [c4b0]) | skip)
  have H' := ah H
  clear H
  go_wp2
  go_meet
  case rel => exact ⟨_, (decide (a1 > 62)), (by first | rfl | (simp; done) | (simp [*]; done)), H', ⟨by first | omega | exact Nat.le_refl _⟩, by repeat (first | exact bW.refl _ | apply bW.step)⟩
 case rest =>
  clear Eo
  try clear p2
  try clear c4
  try clear c4b0
  obtain ⟨kq, PX, rfl, HA, HJ2, ⟨mc2, rfl⟩⟩ := hcut
  cases kq with
  | zero => exact absurd HA.out (by simp [scale_Place.j0])
  | succ Zr =>
   have H := HA.out
   clear HA
   simp only [scale_Place.j0] at H
   by_cases c5 : PX = true
   ·subst c5
    have H1 : (some a0) = some r := by rw [if_pos rfl] at H; exact H
    clear H
    have H := H1
    clear H1
    obtain rfl := Option.some.inj H
    go_wp2
    go_ret
    exact ⟨by first | rfl | (simp; done) | (simp [*]; done), by repeat (first | exact bW.refl _ | apply bW.step)⟩
   replace c5 := Bool.eq_false_iff.mpr c5
   subst c5
   have H1 : (if 0 ≤ a1 then (if (shl .i64 (shr .i64 a0 a1) a1) = a0 then (some (shr .i64 a0 a1)) else (some (wrap64 ((shr .i64 a0 a1) + 1)))) else (none)) = some r := by rw [if_neg (show ¬ (false = true) by decide)] at H; exact H
   clear H
   have H := H1
   clear H1
   by_cases c6 : 0 ≤ a1
   ·rw [if_pos c6] at H
    have c6b0 := eq_true c6
    have c6b1 : decide (0 ≤ a1) = true := aiJ c6
    clear c6
    obtain ⟨Ry, QM⟩ : ∃ j_ : Int, (shr .i64 a0 a1) = j_ := ⟨_, rfl⟩
    replace H : (if (shl .i64 (Ry) a1) = a0 then (some Ry) else (some (wrap64 ((Ry) + 1)))) = some r := by first | (rw [QM] at H; exact H) | (simp only [QM] at H ⊢; exact H)
    have afn : (a0 / 2 ^ min a1.toNat 64) = Ry := QM
    have hji7z : a1 ≤ 64 → (a0 / 2 ^ a1.toNat) = Ry := Qv QM
    have c8b0 := eq_true (aiI (by assumption) : 0 ≤ a1)
    obtain ⟨UZ, QN⟩ : ∃ j_ : Int, (shl .i64 (Ry) a1) = j_ := ⟨_, rfl⟩
    replace H : (if (UZ) = a0 then (some Ry) else (some (wrap64 ((Ry) + 1)))) = some r := by first | (rw [QN] at H; exact H) | (simp only [QN] at H ⊢; exact H)
    have aaq : (IntKind.i64.wrap ((Ry) * 2 ^ min a1.toNat 64)) = UZ := QN
    have hji9z : a1 ≤ 64 → (IntKind.i64.wrap ((Ry) * 2 ^ a1.toNat)) = UZ := Qu QN
    have hji9y : (wrap64 ((Ry) * 2 ^ min a1.toNat 64)) = UZ := (dh _).symm.trans aaq
    have hji9x : a1 ≤ 64 → (wrap64 ((Ry) * 2 ^ a1.toNat)) = UZ := fun h_ => (dh _).symm.trans (hji9z h_)
    by_cases c10 : (UZ) = a0
    ·rw [if_pos c10] at H
     have c10b0 : ((UZ) == a0) = true := beq_iff_eq.mpr c10
     have c10b1 : ((UZ) != a0) = false := bne_eq_false_iff_eq.mpr c10
     clear c10
     obtain rfl := Option.some.inj H
     go_wp2
     go_ret
     exact ⟨by first | rfl | (simp; done) | (simp only [← QM, ← QN] <;> (first | rfl | simp)) | (simp [*]; done), by repeat (first | exact bW.refl _ | apply bW.step)⟩
    rw [if_neg c10] at H
    have c10b0 : ((UZ) == a0) = false := beq_eq_false_iff_ne.mpr c10
    have c10b1 : ((UZ) != a0) = true := bne_iff_ne.mpr c10
    obtain rfl := Option.some.inj H
    go_wp2
    go_ret
    exact ⟨by first | rfl | (simp; done) | (simp only [← QM, ← QN] <;> (first | rfl | simp)) | (simp [*]; done), by repeat (first | exact bW.refl _ | apply bW.step)⟩
   rw [if_neg c6] at H
   exact absurd H (by simp)
def scale_whole.f (a0 : Int) (a1 : Int) : Option (Int × Bool) := some (wrap64 (a0 + a1), decide (a0 ≤ (wrap64 (9223372036854775807 - a1))))
set_option maxHeartbeats 8000000 in
set_option maxRecDepth 100000 in
theorem scale_whole.calls (a0 : Int) (a1 : Int) (r1 : Int) (r2 : Bool) (w : World) (h : scale_whole.f a0 a1 = some (r1, r2)) :
  Calls Try.prog 81 #[.int .i64 a0, .int .i64 a1] w fun e w' => e = .returned (.tuple #[.int .i64 r1, .bool r2]) ∧ bW w w' := by
 have H : (some (wrap64 (a0 + a1), decide (a0 ≤ (wrap64 (9223372036854775807 - a1))))) = some (r1, r2) := h
 clear h
 simp only [Option.some.injEq, Prod.mk.injEq] at H
 obtain ⟨rfl, rfl⟩ := H
 go_enter Try.func81, Try.ntmps81
 go_wp2
 go_ret2
 exact ⟨by first | rfl | (simp; done) | (simp [*]; done), by repeat (first | exact bW.refl _ | apply bW.step)⟩
end Go.Proofs.Ytooiccpmngmapaa.P
namespace Go.Proofs.Ytooiccpmngmapaa.P
open Go.RowKit Go.Proofs.YtooiccpmngmapaaW.PrintWords Go.Proofs.YtooiccpmngmapaaW.PrintLast Go.Proofs.YtooiccpmngmapaaW.PrintMore
attribute [local go_sem] jh ji jR jS iI iJ jk jl
mutual
def tidepoleref25_Place.j0 : Nat → Int → Int → Bool → Option (Int)
 | 0, _, _, _ => none
 | k + 1, x0, x1, uy => if uy = true then (some x0) else (tidepoleref25_Place.l0 k x0 x1 1 0)
def tidepoleref25_Place.l0 : Nat → Int → Int → Int → Int → Option (Int)
 | 0, _, _, _, _ => none
 | k + 1, x0, x1, x5, x6 => if x6 < x1 then (tidepoleref25_Place.l0 k x0 x1 (wrap64 (x5 * 2)) (wrap64 (x6 + 1))) else (if x5 = 0 then (none) else (if x0 > 0 then (if (wrap64 ((wrap64 (Int.tdiv x0 x5)) * x5)) = x0 then (some (wrap64 (Int.tdiv x0 x5))) else (some (wrap64 ((wrap64 (Int.tdiv x0 x5)) + 1)))) else (some (wrap64 (Int.tdiv x0 x5)))))
end
def tidepoleref25_Place.f (k : Nat) (a0 : Int) (a1 : Int) : Option (Int) := if a1 < 0 then (tidepoleref25_Place.j0 k a0 a1 true) else (tidepoleref25_Place.j0 k a0 a1 (decide (a1 > 62)))
set_option maxHeartbeats 8000000 in
set_option maxRecDepth 100000 in
theorem tidepoleref25_Place.calls (k : Nat) (a0 : Int) (a1 : Int) (r : Int) (w : World) (h : tidepoleref25_Place.f k a0 a1 = some r) :
  Calls Try.prog 144 #[.int .i64 a0, .int .i64 a1] w fun e w' => e = .returned (.int .i64 r) ∧ bW w w' := by
 have H : (if a1 < 0 then (tidepoleref25_Place.j0 k a0 a1 true) else (tidepoleref25_Place.j0 k a0 a1 (decide (a1 > 62)))) = some r := h
 clear h
 have Eo := ah H
 clear H
 go_enter Try.func144, Try.ntmps144
 go_upto_region 1 with (fail)
 go_cut [13] (fun v13 wc => ∃ (kq : Nat) (mM : Bool), v13 = .bool mM ∧ aj (tidepoleref25_Place.j0 kq a0 a1 mM = some r) ∧ aj (kq ≤ k) ∧ bW w wc)
 case first =>
  have H := Eo.out
  clear Eo
  by_cases c4 : a1 < 0
  ·rw [if_pos c4] at H
   have c4b0 : decide (a1 < 0) = true := aiJ c4
   clear c4
   (first | rw [c4b0] | (simp only [dh, dF]; rw [c4b0]) | skip)
   have H' := ah H
   clear H
   go_wp2
   go_meet
   case rel => exact ⟨_, (true), (by first | rfl | (simp; done) | (simp [*]; done)), H', ⟨by first | omega | exact Nat.le_refl _⟩, by repeat (first | exact bW.refl _ | apply bW.step)⟩
  rw [if_neg c4] at H
  have c4b0 : decide (a1 < 0) = false := aiK c4
  clear c4
  (first | rw [c4b0] | (simp only [dh, dF]; rw [c4b0]) | skip)
  have H' := ah H
  clear H
  go_wp2
  go_meet
  case rel => exact ⟨_, (decide (a1 > 62)), (by first | rfl | (simp; done) | (simp [*]; done)), H', ⟨by first | omega | exact Nat.le_refl _⟩, by repeat (first | exact bW.refl _ | apply bW.step)⟩
 case rest =>
  clear Eo
  try clear c1
  try clear p2
  try clear c4
  try clear c4b0
  obtain ⟨kq, mM, rfl, HA, HJ2, ⟨mc2, rfl⟩⟩ := hcut
  cases kq with
  | zero => exact absurd HA.out (by simp [tidepoleref25_Place.j0])
  | succ Zr =>
   have H := HA.out
   clear HA
   simp only [tidepoleref25_Place.j0] at H
   by_cases c5 : mM = true
   ·subst c5
    have H1 : (some a0) = some r := by rw [if_pos rfl] at H; exact H
    clear H
    have H := H1
    clear H1
    obtain rfl := Option.some.inj H
    go_wp2
    go_ret
    exact ⟨by first | rfl | (simp; done) | (simp [*]; done), by repeat (first | exact bW.refl _ | apply bW.step)⟩
   replace c5 := Bool.eq_false_iff.mpr c5
   subst c5
   have H1 : (tidepoleref25_Place.l0 Zr a0 a1 1 0) = some r := by rw [if_neg (show ¬ (false = true) by decide)] at H; exact H
   clear H
   have H := H1
   clear H1
   have H' := ah H
   clear H
   go_wp2
   go_loopg [5, 6] Zr (fun kq v5 v6 w' => ∃ (yZ : Int) (Ac : Int), v5 = .int .i64 yZ ∧ v6 = .int .i64 Ac ∧ aj (tidepoleref25_Place.l0 kq a0 a1 yZ Ac = some r) ∧ aj (kq ≤ Zr) ∧ bW w w')
   case atStart => exact ⟨(1), (0), (by first | rfl | (simp; done) | (simp [*]; done)), (by first | rfl | (simp; done) | (simp [*]; done)), H', ⟨Nat.le_refl _⟩, by repeat (first | exact bW.refl _ | apply bW.step)⟩
   case round =>
    clear H'
    try clear c1
    try clear c2
    try clear p2
    try clear c4
    try clear c4b0
    try clear c5
    try clear p2
    obtain ⟨yZ, Ac, rfl, rfl, HA, Nv, ⟨m2, rfl⟩⟩ := hrel
    cases gk with
    | zero => exact absurd HA.out (by simp [tidepoleref25_Place.l0])
    | succ k2 =>
     have H := HA.out
     clear HA
     simp only [tidepoleref25_Place.l0] at H
     by_cases c6 : Ac < a1
     ·rw [if_pos c6] at H
      have c6b0 : decide (Ac < a1) = true := aiJ c6
      clear c6
      have H' := ah H
      clear H
      go_wp2
      go_roundg k2
      case measure => have := HJ2.out; have := Nv.out; omega
      case rel => exact ⟨(wrap64 (yZ * 2)), (wrap64 (Ac + 1)), (by first | rfl | (simp; done) | (simp [*]; done)), (by first | rfl | (simp; done) | (simp [*]; done)), H', ⟨by have := HJ2.out; have := Nv.out; omega⟩, by repeat (first | exact bW.refl _ | apply bW.step)⟩
     rw [if_neg c6] at H
     have c6b0 : decide (Ac < a1) = false := aiK c6
     clear c6
     by_cases c7 : yZ = 0
     ·rw [if_pos c7] at H
      exact absurd H (by simp)
     rw [if_neg c7] at H
     have c7b0 : (yZ == 0) = false := beq_eq_false_iff_ne.mpr c7
     have c7b1 : (yZ != 0) = true := bne_iff_ne.mpr c7
     by_cases c8 : a0 > 0
     ·rw [if_pos c8] at H
      have c8b0 : decide (0 < a0) = true := aiJ c8
      clear c8
      by_cases c9 : (wrap64 ((wrap64 (Int.tdiv a0 yZ)) * yZ)) = a0
      ·rw [if_pos c9] at H
       have c9b0 : ((wrap64 ((wrap64 (Int.tdiv a0 yZ)) * yZ)) == a0) = true := beq_iff_eq.mpr c9
       have c9b1 : ((wrap64 ((wrap64 (Int.tdiv a0 yZ)) * yZ)) != a0) = false := bne_eq_false_iff_eq.mpr c9
       clear c9
       obtain rfl := Option.some.inj H
       go_wp2
       go_ret
       exact ⟨by first | rfl | (simp; done) | (simp [*]; done), by repeat (first | exact bW.refl _ | apply bW.step)⟩
      rw [if_neg c9] at H
      have c9b0 : ((wrap64 ((wrap64 (Int.tdiv a0 yZ)) * yZ)) == a0) = false := beq_eq_false_iff_ne.mpr c9
      have c9b1 : ((wrap64 ((wrap64 (Int.tdiv a0 yZ)) * yZ)) != a0) = true := bne_iff_ne.mpr c9
      obtain rfl := Option.some.inj H
      go_wp2
      go_ret
      exact ⟨by first | rfl | (simp; done) | (simp [*]; done), by repeat (first | exact bW.refl _ | apply bW.step)⟩
     rw [if_neg c8] at H
     have c8b0 : decide (0 < a0) = false := aiK c8
     clear c8
     obtain rfl := Option.some.inj H
     go_wp2
     go_ret
     exact ⟨by first | rfl | (simp; done) | (simp [*]; done), by repeat (first | exact bW.refl _ | apply bW.step)⟩
def tidepoleref25_wide.l0 : Nat → List Int → Int → List Int → Int → Option (List Int)
 | 0, _, _, _, _ => none
 | k + 1, x0, x1, x5, x6 => if x6 < (x0.length : Int) then (if 0 ≤ x6 then ((tidepoleref25_Place.f k (rd x0 x6) x1).bind fun eP => (if (x5.length : Int) = 0 then (if x5.length < 17592186044416 then (tidepoleref25_wide.l0 k x0 x1 (x5 ++ [eP]) (wrap64 (x6 + 1))) else (none)) else (if 0 ≤ (wrap64 ((x5.length : Int) - 1)) then (if (wrap64 ((x5.length : Int) - 1)) < (x5.length : Int) then (if (rd x5 (wrap64 ((x5.length : Int) - 1))) = eP then (tidepoleref25_wide.l0 k x0 x1 x5 (wrap64 (x6 + 1))) else (if x5.length < 17592186044416 then (tidepoleref25_wide.l0 k x0 x1 (x5 ++ [eP]) (wrap64 (x6 + 1))) else (none))) else (none)) else (none)))) else (none)) else (some x5)
def tidepoleref25_wide.f (k : Nat) (l0 : List Int) (a1 : Int) : Option (List Int) := tidepoleref25_wide.l0 k l0 a1 ([] : List Int) 0
set_option maxHeartbeats 8000000 in
set_option maxRecDepth 100000 in
theorem tidepoleref25_wide.calls (k : Nat) (A0 : Option Addr) (c0 : Nat) (l0 : List Int) (a1 : Int) (r : List Int) (w : World) (hr0 : Kd.C (Kd.int .i64) w A0 l0.length l0) (hc0 : l0.length ≤ c0) (h : tidepoleref25_wide.f k l0 a1 = some r) :
  Calls Try.prog 103 #[.slice A0 l0.length c0, .int .i64 a1] w fun e w' => ∃ lY : Value, e = .returned (lY) ∧ Kd.R (Kd.int .i64) 3 w' w.heap.size (fun _ => True) lY r ∧ Below w.heap.size w w' := by
 have HR0 := ah hr0
 have tK := ah hc0
 clear hr0 hc0
 have HB := ah (Below.refl w.heap.size w)
 have H : (tidepoleref25_wide.l0 k l0 a1 ([] : List Int) 0) = some r := h
 clear h
 have H' := ah H
 clear H
 go_enter Try.func103, Try.ntmps103
 go_wp2
 go_loopg [5, 6] k (fun kq v5 v6 w' => ∃ (bF : List Int) (fH : Int), v6 = .int .i64 fH ∧ aj (tidepoleref25_wide.l0 kq l0 a1 bF fH = some r) ∧ aj (kq ≤ k) ∧ aj (Kd.R (Kd.int .i64) 3 w' w.heap.size (fun _ => True) v5 bF) ∧ aj (Below w.heap.size w w'))
 case atStart => exact ⟨(([] : List Int)), (0), (by first | rfl | (simp; done) | (simp [*]; done)), H', ⟨Nat.le_refl _⟩, ⟨by first | exact Kd.dY _ _ _ _ _ | exact Kd.gI _ _ _ _ _ | exact Kd.gJ _ _ _ _ _ | exact Kd.gB _ _ _ _ _ | exact Kd.gG _ _ _ _ _⟩, ⟨by repeat (first | (with_reducible first | exact HB.out | apply ak | apply au | apply aC) | exact HB.out)⟩⟩
 case round =>
  clear H'
  try clear c1
  try clear p2
  obtain ⟨bF, fH, rfl, HA, jf, HO_5, HB⟩ := hrel
  cases gk with
  | zero => exact absurd HA.out (by simp [tidepoleref25_wide.l0])
  | succ k1 =>
   have H := HA.out
   clear HA
   simp only [tidepoleref25_wide.l0] at H
   by_cases c3 : fH < (l0.length : Int)
   ·rw [if_pos c3] at H
    have c3b0 : decide (fH < (l0.length : Int)) = true := aiJ c3
    clear c3
    by_cases c4 : 0 ≤ fH
    ·rw [if_pos c4] at H
     have c4b0 : decide (0 ≤ fH) = true := aiJ c4
     clear c4
     replace H := Option.bind_eq_some_iff.mp H
     obtain ⟨eP, JR, H⟩ := H
     replace H : (if (bF.length : Int) = 0 then (if bF.length < 17592186044416 then (tidepoleref25_wide.l0 k1 l0 a1 (bF ++ [eP]) (wrap64 (fH + 1))) else (none)) else (if 0 ≤ (wrap64 ((bF.length : Int) - 1)) then (if (wrap64 ((bF.length : Int) - 1)) < (bF.length : Int) then (if (rd bF (wrap64 ((bF.length : Int) - 1))) = eP then (tidepoleref25_wide.l0 k1 l0 a1 bF (wrap64 (fH + 1))) else (if bF.length < 17592186044416 then (tidepoleref25_wide.l0 k1 l0 a1 (bF ++ [eP]) (wrap64 (fH + 1))) else (none))) else (none)) else (none))) = some r := H
     have A5 := ah JR
     clear JR
     by_cases c6 : (bF.length : Int) = 0
     ·rw [if_pos c6] at H
      have c6b0 : ((bF.length : Int) == 0) = true := beq_iff_eq.mpr c6
      have c6b1 : ((bF.length : Int) != 0) = false := bne_eq_false_iff_eq.mpr c6
      clear c6
      by_cases c7 : bF.length < 17592186044416
      ·rw [if_pos c7] at H
       have NK := ah c7
       clear c7
       obtain ⟨gV, kM⟩ : ∃ y_ : List Int, y_ = (bF ++ [eP]) := ⟨_, rfl⟩
       replace H : (tidepoleref25_wide.l0 k1 l0 a1 gV (wrap64 (fH + 1))) = some r := by first | (rw [kM]; with_reducible exact H) | (have jm := (Option.bind_some _ _).symm.trans H; rw [kM]; with_reducible exact jm) | (have jm := (Option.bind_some _ _).symm.trans H; with_reducible exact jm) | with_reducible exact H | (rw [kM]; exact H) | exact H
       have su := ah kM
       clear kM
       have H' := ah H
       clear H
       have eX : 0 ≤ (fH : Int) := aiI (by assumption)
       have eY : fH < (l0.length : Int) := aiI (by assumption)
       obtain ⟨jU, jK, bP⟩ := Kd.fA HR0.out fH eX eY
       cases jK
       replace bP := (HB.out.cell (World.block_lt_of_cell? w _ bP)).trans bP
       replace eX := eq_true eX
       replace eY := eq_true eY
       go_wp2_with (first | ((with_reducible refine bH (f := 144) rfl ?_); refine eH (some 19) Try.func144 #[.int .i64 (rd l0 fH), .int .i64 a1] ?_; (with_reducible refine (tidepoleref25_Place.calls k1 (rd l0 fH) a1 eP _ A5.out).mono ?_); rintro e w' ⟨rfl, ⟨nd, rfl⟩⟩; refine ⟨_, rfl, ?_⟩; clear A5; obtain ⟨Ao8, co8, eo8⟩ := Kd.bY HO_5.out; subst eo8) | ((with_reducible refine dZ (b := .append) (xs := #[.tmp 33, .tmp 35]) rfl ?_); (try (refine uj (by rfl) ?_; dsimp only)); at_builtin; refine Kd.iP (Kd.int .i64) (w0 := w) w.heap.size rfl (.tmp 33) (.tmp 35) 30 3 (.int .i64 0) 8 rfl Try.underlying30 info3 rfl (by decide) (by omega) (.slice Ao8 bF.length co8) bF eP [.int .i64 eP] (fun _ => True) (fun _ => False) rfl rfl ?aP (fun _ hk => hk.elim) ?aF ?aO ?aB ?aS ?aL ?_; (case aP => exact rfl); (case aB => exact (aX HB.out)); (case aF => exact (fun _ _ => trivial)); (case aO => exact (Kd.fB HO_5.out)); (case aS => exact (aI (aX HB.out))); (case aL => have := NK.out; omega); intro yJ w9 ho hb hg hat; rw [← su.out] at ho; have eF := ah (ho); replace HB := ah (hb); clear HO_5 ho hb hg hat))
       go_roundg k1
       case measure => have := jf.out; omega
       case rel => exact ⟨(gV), (wrap64 (fH + 1)), (by first | rfl | (simp; done) | (simp [*]; done)), H', ⟨by have := jf.out; omega⟩, ⟨by (repeat with_reducible refine Kd.kJ ?_); exact eF.out⟩, ⟨by repeat (first | (with_reducible first | exact HB.out | apply ak | apply au | apply aC) | exact HB.out)⟩⟩
      rw [if_neg c7] at H
      exact absurd H (by simp)
     rw [if_neg c6] at H
     have c6b0 : ((bF.length : Int) == 0) = false := beq_eq_false_iff_ne.mpr c6
     have c6b1 : ((bF.length : Int) != 0) = true := bne_iff_ne.mpr c6
     have c6b2 : ¬ (bF = []) := fun h_ => c6 (by rw [h_]; rfl)
     obtain ⟨xO, PY⟩ : ∃ j_ : Int, (wrap64 ((bF.length : Int) - 1)) = j_ := ⟨_, rfl⟩
     replace H : (if 0 ≤ (xO) then (if (xO) < (bF.length : Int) then (if (rd bF (xO)) = eP then (tidepoleref25_wide.l0 k1 l0 a1 bF (wrap64 (fH + 1))) else (if bF.length < 17592186044416 then (tidepoleref25_wide.l0 k1 l0 a1 (bF ++ [eP]) (wrap64 (fH + 1))) else (none))) else (none)) else (none)) = some r := by first | (rw [PY] at H; exact H) | (simp only [PY] at H ⊢; exact H)
     (try rw [PY] at A5)
     have hji10w : (IntKind.i64.wrap ((bF.length : Int) - 1)) = xO := (dh _).trans PY
     by_cases c11 : 0 ≤ (xO)
     ·rw [if_pos c11] at H
      have c11b0 : decide (0 ≤ (xO)) = true := aiJ c11
      clear c11
      by_cases c12 : (xO) < (bF.length : Int)
      ·rw [if_pos c12] at H
       have c12b0 : decide ((xO) < (bF.length : Int)) = true := aiJ c12
       clear c12
       by_cases c13 : (rd bF (xO)) = eP
       ·rw [if_pos c13] at H
        have c13b0 : ((rd bF (xO)) == eP) = true := beq_iff_eq.mpr c13
        have c13b1 : ((rd bF (xO)) != eP) = false := bne_eq_false_iff_eq.mpr c13
        clear c13
        have H' := ah H
        clear H
        have eX : 0 ≤ (fH : Int) := aiI (by assumption)
        have eY : fH < (l0.length : Int) := aiI (by assumption)
        obtain ⟨jU, jK, bP⟩ := Kd.fA HR0.out fH eX eY
        cases jK
        replace bP := (HB.out.cell (World.block_lt_of_cell? w _ bP)).trans bP
        replace eX := eq_true eX
        replace eY := eq_true eY
        go_wp2_with (first | ((with_reducible refine bH (f := 144) rfl ?_); refine eH (some 19) Try.func144 #[.int .i64 (rd l0 fH), .int .i64 a1] ?_; (with_reducible refine (tidepoleref25_Place.calls k1 (rd l0 fH) a1 eP _ A5.out).mono ?_); rintro e w' ⟨rfl, ⟨nd, rfl⟩⟩; refine ⟨_, rfl, ?_⟩; clear A5; obtain ⟨ag1, ag2, adB⟩ := Kd.bY HO_5.out; subst adB; have xw : 0 ≤ ((xO) : Int) := aiI (by assumption); have xA : (xO) < (bF.length : Int) := aiI (by assumption); obtain ⟨Lc, Jz, qE⟩ := Kd.fA (Kd.bD HO_5.out).2.2 (xO) xw xA; cases Jz; replace xw := eq_true xw; replace xA := eq_true xA))
        go_roundg k1
        case measure => have := jf.out; omega
        case rel => exact ⟨(bF), (wrap64 (fH + 1)), (by first | rfl | (simp; done) | (simp [*]; done)), H', ⟨by have := jf.out; omega⟩, ⟨by (repeat with_reducible refine Kd.kJ ?_); exact HO_5.out⟩, ⟨by repeat (first | (with_reducible first | exact HB.out | apply ak | apply au | apply aC) | exact HB.out)⟩⟩
       rw [if_neg c13] at H
       have c13b0 : ((rd bF (xO)) == eP) = false := beq_eq_false_iff_ne.mpr c13
       have c13b1 : ((rd bF (xO)) != eP) = true := bne_iff_ne.mpr c13
       by_cases c15 : bF.length < 17592186044416
       ·rw [if_pos c15] at H
        have aar := ah c15
        clear c15
        obtain ⟨Ej, nR⟩ : ∃ y_ : List Int, y_ = (bF ++ [eP]) := ⟨_, rfl⟩
        replace H : (tidepoleref25_wide.l0 k1 l0 a1 Ej (wrap64 (fH + 1))) = some r := by first | (rw [nR]; with_reducible exact H) | (have jm := (Option.bind_some _ _).symm.trans H; rw [nR]; with_reducible exact jm) | (have jm := (Option.bind_some _ _).symm.trans H; with_reducible exact jm) | with_reducible exact H | (rw [nR]; exact H) | exact H
        have EZ := ah nR
        clear nR
        have H' := ah H
        clear H
        have eX : 0 ≤ (fH : Int) := aiI (by assumption)
        have eY : fH < (l0.length : Int) := aiI (by assumption)
        obtain ⟨jU, jK, bP⟩ := Kd.fA HR0.out fH eX eY
        cases jK
        replace bP := (HB.out.cell (World.block_lt_of_cell? w _ bP)).trans bP
        replace eX := eq_true eX
        replace eY := eq_true eY
        go_wp2_with (first | ((with_reducible refine bH (f := 144) rfl ?_); refine eH (some 19) Try.func144 #[.int .i64 (rd l0 fH), .int .i64 a1] ?_; (with_reducible refine (tidepoleref25_Place.calls k1 (rd l0 fH) a1 eP _ A5.out).mono ?_); rintro e w' ⟨rfl, ⟨nd, rfl⟩⟩; refine ⟨_, rfl, ?_⟩; clear A5; obtain ⟨Hw, Fv, Fz⟩ := Kd.bY HO_5.out; subst Fz; have xw : 0 ≤ ((xO) : Int) := aiI (by assumption); have xA : (xO) < (bF.length : Int) := aiI (by assumption); obtain ⟨Lc, Jz, qE⟩ := Kd.fA (Kd.bD HO_5.out).2.2 (xO) xw xA; cases Jz; replace xw := eq_true xw; replace xA := eq_true xA) | ((with_reducible refine dZ (b := .append) (xs := #[.tmp 33, .tmp 35]) rfl ?_); (try (refine uj (by rfl) ?_; dsimp only)); at_builtin; refine Kd.iP (Kd.int .i64) (w0 := w) w.heap.size rfl (.tmp 33) (.tmp 35) 30 3 (.int .i64 0) 8 rfl Try.underlying30 info3 rfl (by decide) (by omega) (.slice (some Lc) bF.length Fv) bF eP [.int .i64 eP] (fun _ => True) (fun _ => False) rfl rfl ?aP (fun _ hk => hk.elim) ?aF ?aO ?aB ?aS ?aL ?_; (case aP => exact rfl); (case aB => exact (aX HB.out)); (case aF => exact (fun _ _ => trivial)); (case aO => exact (Kd.fB HO_5.out)); (case aS => exact (aI (aX HB.out))); (case aL => have := aar.out; omega); intro TA Xf ho hb hg hat; rw [← EZ.out] at ho; have qX := ah (ho); replace HB := ah (hb); clear HO_5 ho hb hg hat))
        go_roundg k1
        case measure => have := jf.out; omega
        case rel => exact ⟨(Ej), (wrap64 (fH + 1)), (by first | rfl | (simp; done) | (simp [*]; done)), H', ⟨by have := jf.out; omega⟩, ⟨by (repeat with_reducible refine Kd.kJ ?_); exact qX.out⟩, ⟨by repeat (first | (with_reducible first | exact HB.out | apply ak | apply au | apply aC) | exact HB.out)⟩⟩
       rw [if_neg c15] at H
       exact absurd H (by simp)
      rw [if_neg c12] at H
      exact absurd H (by simp)
     rw [if_neg c11] at H
     exact absurd H (by simp)
    rw [if_neg c4] at H
    exact absurd H (by simp)
   rw [if_neg c3] at H
   have c3b0 : decide (fH < (l0.length : Int)) = false := aiK c3
   clear c3
   obtain rfl := Option.some.inj H
   go_wp2
   go_ret
   exact ⟨_, by first | rfl | (simp [aT, aU] <;> rfl) | (simp [*, aT, aU] <;> rfl), by (repeat with_reducible refine Kd.kJ ?_); exact HO_5.out, by repeat (first | (with_reducible first | exact HB.out | apply ak | apply au | apply aC) | exact HB.out)⟩
mutual
def tidepoleref25_Side.l0 : Nat → List Int → List Int → Int → List Int → List Int → List Int → Int → Option (List Int × List Int × Int)
 | 0, _, _, _, _, _, _, _ => none
 | k + 1, x0, x1, x2, x9, x10, x11, x12 => if x12 < (x11.length : Int) then (tidepoleref25_Side.l1 k x0 x1 x2 x9 x10 x11 x12 0 0) else (some (x9, x10, 0))
def tidepoleref25_Side.l1 : Nat → List Int → List Int → Int → List Int → List Int → List Int → Int → Int → Int → Option (List Int × List Int × Int)
 | 0, _, _, _, _, _, _, _, _, _ => none
 | k + 1, x0, x1, x2, x9, x10, x11, x12, uy, x14 => if x14 < (x0.length : Int) then (if 0 ≤ x14 then ((tidepoleref25_Place.f k (rd x0 x14) x2).bind fun jQ => (if 0 ≤ x12 then (if x12 < (x11.length : Int) then (if jQ = (rd x11 x12) then (if x14 < (x1.length : Int) then (if (rd x1 x14) > (wrap64 (9223372036854775807 - uy)) then (some (([] : List Int), ([] : List Int), 1)) else (tidepoleref25_Side.l1 k x0 x1 x2 x9 x10 x11 x12 (wrap64 (uy + (rd x1 x14))) (wrap64 (x14 + 1)))) else (none)) else (tidepoleref25_Side.l1 k x0 x1 x2 x9 x10 x11 x12 uy (wrap64 (x14 + 1)))) else (none)) else (none))) else (none)) else (if uy > 0 then (if 0 ≤ x12 then (if x12 < (x11.length : Int) then (if x9.length < 17592186044416 then (if x10.length < 17592186044416 then (tidepoleref25_Side.l0 k x0 x1 x2 (x9 ++ [rd x11 x12]) (x10 ++ [uy]) x11 (wrap64 (x12 + 1))) else (none)) else (none)) else (none)) else (none)) else (tidepoleref25_Side.l0 k x0 x1 x2 x9 x10 x11 (wrap64 (x12 + 1))))
end
def tidepoleref25_Side.f (k : Nat) (l0 : List Int) (l1 : List Int) (a2 : Int) : Option (List Int × List Int × Int) := (tidepoleref25_wide.f k l0 a2).bind fun dV => (tidepoleref25_Side.l0 k l0 l1 a2 ([] : List Int) ([] : List Int) dV 0)
set_option maxHeartbeats 8000000 in
set_option maxRecDepth 100000 in
theorem tidepoleref25_Side.calls (k : Nat) (A0 : Option Addr) (c0 : Nat) (l0 : List Int) (A1 : Option Addr) (c1 : Nat) (l1 : List Int) (a2 : Int) (r1 : List Int) (r2 : List Int) (r3 : Int) (w : World) (hr0 : Kd.C (Kd.int .i64) w A0 l0.length l0) (hc0 : l0.length ≤ c0) (hr1 : Kd.C (Kd.int .i64) w A1 l1.length l1) (hc1 : l1.length ≤ c1) (h : tidepoleref25_Side.f k l0 l1 a2 = some (r1, r2, r3)) :
  Calls Try.prog 83 #[.slice A0 l0.length c0, .slice A1 l1.length c1, .int .i64 a2] w fun e w' => ∃ lY KL : Value, e = .returned (.tuple #[lY, KL, .int .i64 r3]) ∧ Kd.R (Kd.int .i64) 3 w' w.heap.size (fun _ => True) lY r1 ∧ Kd.R (Kd.int .i64) 2 w' w.heap.size (fun _ => True) KL r2 ∧ Below w.heap.size w w' := by
 have HR0 := ah hr0
 have tK := ah hc0
 clear hr0 hc0
 have HR1 := ah hr1
 have Fj := ah hc1
 clear hr1 hc1
 have HB := ah (Below.refl w.heap.size w)
 have H : ((tidepoleref25_wide.f k l0 a2).bind fun dV => (tidepoleref25_Side.l0 k l0 l1 a2 ([] : List Int) ([] : List Int) dV 0)) = some (r1, r2, r3) := h
 clear h
 replace H := Option.bind_eq_some_iff.mp H
 obtain ⟨dV, PG, H⟩ := H
 replace H : (tidepoleref25_Side.l0 k l0 l1 a2 ([] : List Int) ([] : List Int) dV 0) = some (r1, r2, r3) := H
 have A4 := ah PG
 clear PG
 have H' := ah H
 clear H
 go_enter Try.func83, Try.ntmps83
 go_wp2_with (first | (go_at_call 103; (with_reducible refine (tidepoleref25_wide.calls k _ _ l0 a2 dV _ ?dw ?dA A4.out).mono ?_); (case dw => exact Kd.jT HR0.out); (case dA => exact tK.out); rintro e w5 ⟨VQ, rfl, ho0, hb⟩; have Ub := ah (Kd.bV ho0 (aI (aX HB.out))); replace HB := ah (aW (aX HB.out) hb); (try clear hb); (try clear hb2); (try clear hk); (try clear hi); (try clear ho0); clear A4))
 repeat (go_quiet (first | (go_at_call 103; (with_reducible refine (tidepoleref25_wide.calls k _ _ l0 a2 dV _ ?dw ?dA A4.out).mono ?_); (case dw => exact Kd.jT HR0.out); (case dA => exact tK.out); rintro e w5 ⟨VQ, rfl, ho0, hb⟩; have Ub := ah (Kd.bV ho0 (aI (aX HB.out))); replace HB := ah (aW (aX HB.out) hb); (try clear hb); (try clear hb2); (try clear hk); (try clear hi); (try clear ho0); clear A4)); try go_wp2_with (first | (go_at_call 103; (with_reducible refine (tidepoleref25_wide.calls k _ _ l0 a2 dV _ ?dw ?dA A4.out).mono ?_); (case dw => exact Kd.jT HR0.out); (case dA => exact tK.out); rintro e w5 ⟨VQ, rfl, ho0, hb⟩; have Ub := ah (Kd.bV ho0 (aI (aX HB.out))); replace HB := ah (aW (aX HB.out) hb); (try clear hb); (try clear hb2); (try clear hk); (try clear hi); (try clear ho0); clear A4)))
 go_loopg [9, 10, 12] k (fun kq v9 v10 v12 w' => ∃ (fV : List Int) (dG : List Int) (dB : Int), v12 = .int .i64 dB ∧ aj (tidepoleref25_Side.l0 kq l0 l1 a2 fV dG dV dB = some (r1, r2, r3)) ∧ aj (kq ≤ k) ∧ aj (Kd.R (Kd.int .i64) 3 w' w.heap.size (fun k_ => some k_ ≠ (VQ : Value).ownBlock) v9 fV) ∧ aj (Kd.R (Kd.int .i64) 2 w' w.heap.size (fun _ => True) v10 dG) ∧ aj (Kd.R (Kd.int .i64) 3 w' w.heap.size (fun k_ => some k_ ≠ (v9 : Value).ownBlock) VQ dV) ∧ aj (Below w.heap.size w w'))
 case atStart => exact ⟨(([] : List Int)), (([] : List Int)), (0), (by first | rfl | (simp; done) | (simp [*]; done)), H', ⟨Nat.le_refl _⟩, ⟨by first | exact Kd.dY _ _ _ _ _ | exact Kd.gI _ _ _ _ _ | exact Kd.gJ _ _ _ _ _ | exact Kd.gB _ _ _ _ _ | exact Kd.gG _ _ _ _ _⟩, ⟨by first | exact Kd.dY _ _ _ _ _ | exact Kd.gI _ _ _ _ _ | exact Kd.gJ _ _ _ _ _ | exact Kd.gB _ _ _ _ _ | exact Kd.gG _ _ _ _ _⟩, ⟨by (repeat with_reducible refine Kd.kJ ?_); exact Kd.cu Ub.out (fun _ hk => (by simp [Value.ownBlock]))⟩, ⟨by repeat (first | (with_reducible first | exact HB.out | apply ak | apply au | apply aC) | exact HB.out)⟩⟩
 case round =>
  clear H'
  try clear c1
  try clear p2
  obtain ⟨fV, dG, dB, rfl, HA, jf, HO_9, HO_10, HO_11, HB⟩ := hrel
  cases gk with
  | zero => exact absurd HA.out (by simp [tidepoleref25_Side.l0])
  | succ k1 =>
   have H := HA.out
   clear HA
   simp only [tidepoleref25_Side.l0] at H
   by_cases c6 : dB < (dV.length : Int)
   ·rw [if_pos c6] at H
    have c6b0 : decide (dB < (dV.length : Int)) = true := aiJ c6
    clear c6
    have H' := ah H
    clear H
    obtain ⟨NR, KJ, VB⟩ := Kd.bY HO_11.out
    subst VB
    go_wp2
    repeat (go_quiet (fail); try go_wp2)
    go_loopg [13, 14] k1 (fun kq v13 v14 w' => ∃ (mM : Int) (gK : Int), v13 = .int .i64 mM ∧ v14 = .int .i64 gK ∧ aj (tidepoleref25_Side.l1 kq l0 l1 a2 fV dG dV dB mM gK = some (r1, r2, r3)) ∧ aj (kq ≤ k1) ∧ aj (Kd.R (Kd.int .i64) 3 w' w.heap.size (fun k_ => some k_ ≠ ((.slice NR dV.length KJ) : Value).ownBlock) u9 fV) ∧ aj (Kd.R (Kd.int .i64) 2 w' w.heap.size (fun _ => True) u10 dG) ∧ aj (Kd.R (Kd.int .i64) 3 w' w.heap.size (fun k_ => some k_ ≠ (u9 : Value).ownBlock) (.slice NR dV.length KJ) dV) ∧ aj (Below w.heap.size w w'))
    case atStart => exact ⟨(0), (0), (by first | rfl | (simp; done) | (simp [*]; done)), (by first | rfl | (simp; done) | (simp [*]; done)), H', ⟨Nat.le_refl _⟩, ⟨by (repeat with_reducible refine Kd.kJ ?_); exact HO_9.out⟩, ⟨by (repeat with_reducible refine Kd.kJ ?_); exact HO_10.out⟩, ⟨by (repeat with_reducible refine Kd.kJ ?_); exact HO_11.out⟩, ⟨by repeat (first | (with_reducible first | exact HB.out | apply ak | apply au | apply aC) | exact HB.out)⟩⟩
    case round =>
     clear H'
     try clear c1
     try clear p2
     try clear c6
     try clear c6b0
     try clear p2
     obtain ⟨mM, gK, rfl, rfl, HA, Nv, HO_9, HO_10, HO_11, HB⟩ := hrel
     cases gk with
     | zero => exact absurd HA.out (by simp [tidepoleref25_Side.l1])
     | succ k2 =>
      have H := HA.out
      clear HA
      simp only [tidepoleref25_Side.l1] at H
      by_cases c8 : gK < (l0.length : Int)
      ·rw [if_pos c8] at H
       have c8b0 : decide (gK < (l0.length : Int)) = true := aiJ c8
       clear c8
       by_cases c9 : 0 ≤ gK
       ·rw [if_pos c9] at H
        have c9b0 : decide (0 ≤ gK) = true := aiJ c9
        clear c9
        replace H := Option.bind_eq_some_iff.mp H
        obtain ⟨jQ, Uc, H⟩ := H
        replace H : (if 0 ≤ dB then (if dB < (dV.length : Int) then (if jQ = (rd dV dB) then (if gK < (l1.length : Int) then (if (rd l1 gK) > (wrap64 (9223372036854775807 - mM)) then (some (([] : List Int), ([] : List Int), 1)) else (tidepoleref25_Side.l1 k2 l0 l1 a2 fV dG dV dB (wrap64 (mM + (rd l1 gK))) (wrap64 (gK + 1)))) else (none)) else (tidepoleref25_Side.l1 k2 l0 l1 a2 fV dG dV dB mM (wrap64 (gK + 1)))) else (none)) else (none)) = some (r1, r2, r3) := H
        have H9 := ah Uc
        clear Uc
        by_cases c11 : 0 ≤ dB
        ·rw [if_pos c11] at H
         have c11b0 : decide (0 ≤ dB) = true := aiJ c11
         clear c11
         by_cases c12 : dB < (dV.length : Int)
         ·rw [if_pos c12] at H
          have c12b0 : decide (dB < (dV.length : Int)) = true := aiJ c12
          clear c12
          by_cases c13 : jQ = (rd dV dB)
          ·rw [if_pos c13] at H
           have c13b0 : (jQ == (rd dV dB)) = true := beq_iff_eq.mpr c13
           have c13b1 : (jQ != (rd dV dB)) = false := bne_eq_false_iff_eq.mpr c13
           clear c13
           by_cases c14 : gK < (l1.length : Int)
           ·rw [if_pos c14] at H
            have c14b0 : decide (gK < (l1.length : Int)) = true := aiJ c14
            clear c14
            by_cases c15 : (rd l1 gK) > (wrap64 (9223372036854775807 - mM))
            ·rw [if_pos c15] at H
             have c15b0 : decide ((wrap64 (9223372036854775807 - mM)) < (rd l1 gK)) = true := aiJ c15
             clear c15
             simp only [Option.some.injEq, Prod.mk.injEq] at H
             obtain ⟨rfl, rfl, rfl⟩ := H
             have xB : 0 ≤ (gK : Int) := aiI (by assumption)
             have xC : gK < (l0.length : Int) := aiI (by assumption)
             obtain ⟨Lj, JA, lQ⟩ := Kd.fA HR0.out gK xB xC
             cases JA
             replace lQ := (HB.out.cell (World.block_lt_of_cell? w _ lQ)).trans lQ
             replace xB := eq_true xB
             replace xC := eq_true xC
             go_wp2_with (first | (go_at_call 144; (with_reducible refine (tidepoleref25_Place.calls k2 (rd l0 gK) a2 jQ _ H9.out).mono ?_); rintro e w' ⟨rfl, ⟨nd, rfl⟩⟩; (try first | exact ⟨rfl, _, World.drewN_drewN _ _ _⟩ | exact ⟨rfl, _, Eq.trans (World.drewN_drewN _ _ _) (congrArg (World.drewN _) (Nat.add_assoc _ _ _))⟩); clear H9; have mY : 0 ≤ (dB : Int) := aiI (by assumption); have mZ : dB < (dV.length : Int) := aiI (by assumption); obtain ⟨Bz, xE, rU⟩ := Kd.fA (Kd.bD HO_11.out).2.2 dB mY mZ; cases xE; replace mY := eq_true mY; replace mZ := eq_true mZ; have uI : 0 ≤ (gK : Int) := aiI (by assumption); have uJ : gK < (l1.length : Int) := aiI (by assumption); obtain ⟨D9, Gl, jX⟩ := Kd.fA HR1.out gK uI uJ; cases Gl; replace jX := (HB.out.cell (World.block_lt_of_cell? w _ jX)).trans jX; replace uI := eq_true uI; replace uJ := eq_true uJ))
             repeat (go_quiet (first | (go_at_call 144; (with_reducible refine (tidepoleref25_Place.calls k2 (rd l0 gK) a2 jQ _ H9.out).mono ?_); rintro e w' ⟨rfl, ⟨nd, rfl⟩⟩; (try first | exact ⟨rfl, _, World.drewN_drewN _ _ _⟩ | exact ⟨rfl, _, Eq.trans (World.drewN_drewN _ _ _) (congrArg (World.drewN _) (Nat.add_assoc _ _ _))⟩); clear H9; have mY : 0 ≤ (dB : Int) := aiI (by assumption); have mZ : dB < (dV.length : Int) := aiI (by assumption); obtain ⟨Bz, xE, rU⟩ := Kd.fA (Kd.bD HO_11.out).2.2 dB mY mZ; cases xE; replace mY := eq_true mY; replace mZ := eq_true mZ; have uI : 0 ≤ (gK : Int) := aiI (by assumption); have uJ : gK < (l1.length : Int) := aiI (by assumption); obtain ⟨D9, Gl, jX⟩ := Kd.fA HR1.out gK uI uJ; cases Gl; replace jX := (HB.out.cell (World.block_lt_of_cell? w _ jX)).trans jX; replace uI := eq_true uI; replace uJ := eq_true uJ)); try go_wp2_with (first | (go_at_call 144; (with_reducible refine (tidepoleref25_Place.calls k2 (rd l0 gK) a2 jQ _ H9.out).mono ?_); rintro e w' ⟨rfl, ⟨nd, rfl⟩⟩; (try first | exact ⟨rfl, _, World.drewN_drewN _ _ _⟩ | exact ⟨rfl, _, Eq.trans (World.drewN_drewN _ _ _) (congrArg (World.drewN _) (Nat.add_assoc _ _ _))⟩); clear H9; have mY : 0 ≤ (dB : Int) := aiI (by assumption); have mZ : dB < (dV.length : Int) := aiI (by assumption); obtain ⟨Bz, xE, rU⟩ := Kd.fA (Kd.bD HO_11.out).2.2 dB mY mZ; cases xE; replace mY := eq_true mY; replace mZ := eq_true mZ; have uI : 0 ≤ (gK : Int) := aiI (by assumption); have uJ : gK < (l1.length : Int) := aiI (by assumption); obtain ⟨D9, Gl, jX⟩ := Kd.fA HR1.out gK uI uJ; cases Gl; replace jX := (HB.out.cell (World.block_lt_of_cell? w _ jX)).trans jX; replace uI := eq_true uI; replace uJ := eq_true uJ)))
             go_ret3
             exact ⟨_, _, by first | rfl | (simp [aT, aU] <;> rfl) | (simp [*, aT, aU] <;> rfl), by first | exact Kd.dY _ _ _ _ _ | exact Kd.gI _ _ _ _ _ | exact Kd.gJ _ _ _ _ _ | exact Kd.gB _ _ _ _ _ | exact Kd.gG _ _ _ _ _, by first | exact Kd.dY _ _ _ _ _ | exact Kd.gI _ _ _ _ _ | exact Kd.gJ _ _ _ _ _ | exact Kd.gB _ _ _ _ _ | exact Kd.gG _ _ _ _ _, by repeat (first | (with_reducible first | exact HB.out | apply ak | apply au | apply aC) | exact HB.out)⟩
            rw [if_neg c15] at H
            have c15b0 : decide ((wrap64 (9223372036854775807 - mM)) < (rd l1 gK)) = false := aiK c15
            clear c15
            have H' := ah H
            clear H
            have xB : 0 ≤ (gK : Int) := aiI (by assumption)
            have xC : gK < (l0.length : Int) := aiI (by assumption)
            obtain ⟨Lj, JA, lQ⟩ := Kd.fA HR0.out gK xB xC
            cases JA
            replace lQ := (HB.out.cell (World.block_lt_of_cell? w _ lQ)).trans lQ
            replace xB := eq_true xB
            replace xC := eq_true xC
            go_wp2_with (first | (go_at_call 144; (with_reducible refine (tidepoleref25_Place.calls k2 (rd l0 gK) a2 jQ _ H9.out).mono ?_); rintro e w' ⟨rfl, ⟨nd, rfl⟩⟩; (try first | exact ⟨rfl, _, World.drewN_drewN _ _ _⟩ | exact ⟨rfl, _, Eq.trans (World.drewN_drewN _ _ _) (congrArg (World.drewN _) (Nat.add_assoc _ _ _))⟩); clear H9; have mY : 0 ≤ (dB : Int) := aiI (by assumption); have mZ : dB < (dV.length : Int) := aiI (by assumption); obtain ⟨Bz, xE, rU⟩ := Kd.fA (Kd.bD HO_11.out).2.2 dB mY mZ; cases xE; replace mY := eq_true mY; replace mZ := eq_true mZ; have uI : 0 ≤ (gK : Int) := aiI (by assumption); have uJ : gK < (l1.length : Int) := aiI (by assumption); obtain ⟨D9, Gl, jX⟩ := Kd.fA HR1.out gK uI uJ; cases Gl; replace jX := (HB.out.cell (World.block_lt_of_cell? w _ jX)).trans jX; replace uI := eq_true uI; replace uJ := eq_true uJ; have Gm : 0 ≤ (gK : Int) := aiI (by assumption); have Gn : gK < (l1.length : Int) := aiI (by assumption); obtain ⟨L6, e115, qM⟩ := Kd.fA HR1.out gK Gm Gn; obtain rfl : D9 = L6 := (by injection e115); replace qM := (HB.out.cell (World.block_lt_of_cell? w _ qM)).trans qM; replace Gm := eq_true Gm; replace Gn := eq_true Gn))
            repeat (go_quiet (first | (go_at_call 144; (with_reducible refine (tidepoleref25_Place.calls k2 (rd l0 gK) a2 jQ _ H9.out).mono ?_); rintro e w' ⟨rfl, ⟨nd, rfl⟩⟩; (try first | exact ⟨rfl, _, World.drewN_drewN _ _ _⟩ | exact ⟨rfl, _, Eq.trans (World.drewN_drewN _ _ _) (congrArg (World.drewN _) (Nat.add_assoc _ _ _))⟩); clear H9; have mY : 0 ≤ (dB : Int) := aiI (by assumption); have mZ : dB < (dV.length : Int) := aiI (by assumption); obtain ⟨Bz, xE, rU⟩ := Kd.fA (Kd.bD HO_11.out).2.2 dB mY mZ; cases xE; replace mY := eq_true mY; replace mZ := eq_true mZ; have uI : 0 ≤ (gK : Int) := aiI (by assumption); have uJ : gK < (l1.length : Int) := aiI (by assumption); obtain ⟨D9, Gl, jX⟩ := Kd.fA HR1.out gK uI uJ; cases Gl; replace jX := (HB.out.cell (World.block_lt_of_cell? w _ jX)).trans jX; replace uI := eq_true uI; replace uJ := eq_true uJ; have Gm : 0 ≤ (gK : Int) := aiI (by assumption); have Gn : gK < (l1.length : Int) := aiI (by assumption); obtain ⟨L6, e115, qM⟩ := Kd.fA HR1.out gK Gm Gn; obtain rfl : D9 = L6 := (by injection e115); replace qM := (HB.out.cell (World.block_lt_of_cell? w _ qM)).trans qM; replace Gm := eq_true Gm; replace Gn := eq_true Gn)); try go_wp2_with (first | (go_at_call 144; (with_reducible refine (tidepoleref25_Place.calls k2 (rd l0 gK) a2 jQ _ H9.out).mono ?_); rintro e w' ⟨rfl, ⟨nd, rfl⟩⟩; (try first | exact ⟨rfl, _, World.drewN_drewN _ _ _⟩ | exact ⟨rfl, _, Eq.trans (World.drewN_drewN _ _ _) (congrArg (World.drewN _) (Nat.add_assoc _ _ _))⟩); clear H9; have mY : 0 ≤ (dB : Int) := aiI (by assumption); have mZ : dB < (dV.length : Int) := aiI (by assumption); obtain ⟨Bz, xE, rU⟩ := Kd.fA (Kd.bD HO_11.out).2.2 dB mY mZ; cases xE; replace mY := eq_true mY; replace mZ := eq_true mZ; have uI : 0 ≤ (gK : Int) := aiI (by assumption); have uJ : gK < (l1.length : Int) := aiI (by assumption); obtain ⟨D9, Gl, jX⟩ := Kd.fA HR1.out gK uI uJ; cases Gl; replace jX := (HB.out.cell (World.block_lt_of_cell? w _ jX)).trans jX; replace uI := eq_true uI; replace uJ := eq_true uJ; have Gm : 0 ≤ (gK : Int) := aiI (by assumption); have Gn : gK < (l1.length : Int) := aiI (by assumption); obtain ⟨L6, e115, qM⟩ := Kd.fA HR1.out gK Gm Gn; obtain rfl : D9 = L6 := (by injection e115); replace qM := (HB.out.cell (World.block_lt_of_cell? w _ qM)).trans qM; replace Gm := eq_true Gm; replace Gn := eq_true Gn)))
            go_roundg k2
            case measure => have := jf.out; have := Nv.out; omega
            case rel => exact ⟨(wrap64 (mM + (rd l1 gK))), (wrap64 (gK + 1)), (by first | rfl | (simp; done) | (simp [*]; done)), (by first | rfl | (simp; done) | (simp [*]; done)), H', ⟨by have := jf.out; have := Nv.out; omega⟩, ⟨by (repeat with_reducible refine Kd.kJ ?_); exact HO_9.out⟩, ⟨by (repeat with_reducible refine Kd.kJ ?_); exact HO_10.out⟩, ⟨by (repeat with_reducible refine Kd.kJ ?_); exact HO_11.out⟩, ⟨by repeat (first | (with_reducible first | exact HB.out | apply ak | apply au | apply aC) | exact HB.out)⟩⟩
           rw [if_neg c14] at H
           exact absurd H (by simp)
          rw [if_neg c13] at H
          have c13b0 : (jQ == (rd dV dB)) = false := beq_eq_false_iff_ne.mpr c13
          have c13b1 : (jQ != (rd dV dB)) = true := bne_iff_ne.mpr c13
          have H' := ah H
          clear H
          have xB : 0 ≤ (gK : Int) := aiI (by assumption)
          have xC : gK < (l0.length : Int) := aiI (by assumption)
          obtain ⟨Lj, JA, lQ⟩ := Kd.fA HR0.out gK xB xC
          cases JA
          replace lQ := (HB.out.cell (World.block_lt_of_cell? w _ lQ)).trans lQ
          replace xB := eq_true xB
          replace xC := eq_true xC
          go_wp2_with (first | (go_at_call 144; (with_reducible refine (tidepoleref25_Place.calls k2 (rd l0 gK) a2 jQ _ H9.out).mono ?_); rintro e w' ⟨rfl, ⟨nd, rfl⟩⟩; (try first | exact ⟨rfl, _, World.drewN_drewN _ _ _⟩ | exact ⟨rfl, _, Eq.trans (World.drewN_drewN _ _ _) (congrArg (World.drewN _) (Nat.add_assoc _ _ _))⟩); clear H9; have mY : 0 ≤ (dB : Int) := aiI (by assumption); have mZ : dB < (dV.length : Int) := aiI (by assumption); obtain ⟨Bz, xE, rU⟩ := Kd.fA (Kd.bD HO_11.out).2.2 dB mY mZ; cases xE; replace mY := eq_true mY; replace mZ := eq_true mZ))
          repeat (go_quiet (first | (go_at_call 144; (with_reducible refine (tidepoleref25_Place.calls k2 (rd l0 gK) a2 jQ _ H9.out).mono ?_); rintro e w' ⟨rfl, ⟨nd, rfl⟩⟩; (try first | exact ⟨rfl, _, World.drewN_drewN _ _ _⟩ | exact ⟨rfl, _, Eq.trans (World.drewN_drewN _ _ _) (congrArg (World.drewN _) (Nat.add_assoc _ _ _))⟩); clear H9; have mY : 0 ≤ (dB : Int) := aiI (by assumption); have mZ : dB < (dV.length : Int) := aiI (by assumption); obtain ⟨Bz, xE, rU⟩ := Kd.fA (Kd.bD HO_11.out).2.2 dB mY mZ; cases xE; replace mY := eq_true mY; replace mZ := eq_true mZ)); try go_wp2_with (first | (go_at_call 144; (with_reducible refine (tidepoleref25_Place.calls k2 (rd l0 gK) a2 jQ _ H9.out).mono ?_); rintro e w' ⟨rfl, ⟨nd, rfl⟩⟩; (try first | exact ⟨rfl, _, World.drewN_drewN _ _ _⟩ | exact ⟨rfl, _, Eq.trans (World.drewN_drewN _ _ _) (congrArg (World.drewN _) (Nat.add_assoc _ _ _))⟩); clear H9; have mY : 0 ≤ (dB : Int) := aiI (by assumption); have mZ : dB < (dV.length : Int) := aiI (by assumption); obtain ⟨Bz, xE, rU⟩ := Kd.fA (Kd.bD HO_11.out).2.2 dB mY mZ; cases xE; replace mY := eq_true mY; replace mZ := eq_true mZ)))
          go_roundg k2
          case measure => have := jf.out; have := Nv.out; omega
          case rel => exact ⟨(mM), (wrap64 (gK + 1)), (by first | rfl | (simp; done) | (simp [*]; done)), (by first | rfl | (simp; done) | (simp [*]; done)), H', ⟨by have := jf.out; have := Nv.out; omega⟩, ⟨by (repeat with_reducible refine Kd.kJ ?_); exact HO_9.out⟩, ⟨by (repeat with_reducible refine Kd.kJ ?_); exact HO_10.out⟩, ⟨by (repeat with_reducible refine Kd.kJ ?_); exact HO_11.out⟩, ⟨by repeat (first | (with_reducible first | exact HB.out | apply ak | apply au | apply aC) | exact HB.out)⟩⟩
         rw [if_neg c12] at H
         exact absurd H (by simp)
        rw [if_neg c11] at H
        exact absurd H (by simp)
       rw [if_neg c9] at H
       exact absurd H (by simp)
      rw [if_neg c8] at H
      have c8b0 : decide (gK < (l0.length : Int)) = false := aiK c8
      clear c8
      by_cases c16 : mM > 0
      ·rw [if_pos c16] at H
       have c16b0 : decide (0 < mM) = true := aiJ c16
       clear c16
       by_cases c17 : 0 ≤ dB
       ·rw [if_pos c17] at H
        have c17b0 : decide (0 ≤ dB) = true := aiJ c17
        clear c17
        by_cases c18 : dB < (dV.length : Int)
        ·rw [if_pos c18] at H
         have c18b0 : decide (dB < (dV.length : Int)) = true := aiJ c18
         clear c18
         by_cases c19 : fV.length < 17592186044416
         ·rw [if_pos c19] at H
          have Ud := ah c19
          clear c19
          obtain ⟨J3, y9⟩ : ∃ y_ : List Int, y_ = (fV ++ [rd dV dB]) := ⟨_, rfl⟩
          replace H : (if dG.length < 17592186044416 then (tidepoleref25_Side.l0 k2 l0 l1 a2 J3 (dG ++ [mM]) dV (wrap64 (dB + 1))) else (none)) = some (r1, r2, r3) := by first | (rw [y9]; with_reducible exact H) | (have jm := (Option.bind_some _ _).symm.trans H; rw [y9]; with_reducible exact jm) | (have jm := (Option.bind_some _ _).symm.trans H; with_reducible exact jm) | with_reducible exact H | (rw [y9]; exact H) | exact H
          have IQ := ah y9
          clear y9
          by_cases c20 : dG.length < 17592186044416
          ·rw [if_pos c20] at H
           have Ue := ah c20
           clear c20
           obtain ⟨jB, nS⟩ : ∃ y_ : List Int, y_ = (dG ++ [mM]) := ⟨_, rfl⟩
           replace H : (tidepoleref25_Side.l0 k2 l0 l1 a2 J3 jB dV (wrap64 (dB + 1))) = some (r1, r2, r3) := by first | (rw [nS]; with_reducible exact H) | (have jm := (Option.bind_some _ _).symm.trans H; rw [nS]; with_reducible exact jm) | (have jm := (Option.bind_some _ _).symm.trans H; with_reducible exact jm) | with_reducible exact H | (rw [nS]; exact H) | exact H
           have wI := ah nS
           clear nS
           have H' := ah H
           clear H
           have yT : 0 ≤ (dB : Int) := aiI (by assumption)
           have yU : dB < (dV.length : Int) := aiI (by assumption)
           obtain ⟨yV, Oi, ng⟩ := Kd.fA (Kd.bD HO_11.out).2.2 dB yT yU
           cases Oi
           replace yT := eq_true yT
           replace yU := eq_true yU
           go_wp2_with (first | ((with_reducible refine dZ (b := .append) (xs := #[.tmp 56, .tmp 61]) rfl ?_); at_builtin; refine Kd.iP (Kd.int .i64) (w0 := w) w.heap.size rfl (.tmp 56) (.tmp 61) 30 3 (.int .i64 0) 8 rfl Try.underlying30 info3 rfl (by decide) (by omega) u9 fV (rd dV dB) [.int .i64 (rd dV dB)] (fun k_ => some k_ ≠ (.slice (some yV) dV.length KJ : Value).ownBlock) (fun _ => False) rfl rfl ?aP (fun _ hk => hk.elim) ?aF ?aO ?aB ?aS ?aL ?_; (case aP => exact rfl); (case aB => exact (aX HB.out)); (case aF => exact (fun k_ hk => Kd.fresh' (Kd.jH (Kd.fB HO_11.out)) k_ hk)); (case aO => exact (Kd.fB HO_9.out)); (case aS => exact (aI (aX HB.out))); (case aL => have := Ud.out; omega); intro Ep w21 ho hb hg hat; rw [← IQ.out] at ho; have gZ := ah (Kd.jM (Kd.fB HO_10.out) (Kd.je (Kd.fB HO_9.out)) (by decide) hg); have jo := ah (ho); replace HO_11 := ah (Kd.qp (ok := (fun _ => True)) (Kd.fB (Kd.cu HO_11.out (fun _ hk => ⟨trivial, hk⟩))) hg hat); replace HB := ah (hb); clear HO_9 HO_10; have HO_10 := gZ; clear gZ ho hb hg hat) | ((with_reducible refine dZ (b := .append) (xs := #[.tmp 63, .tmp 65]) rfl ?_); at_builtin; refine Kd.iP (Kd.int .i64) (w0 := w) w.heap.size rfl (.tmp 63) (.tmp 65) 27 2 (.int .i64 0) 8 rfl Try.underlying27 DK rfl (by decide) (by omega) u10 dG mM [.int .i64 mM] (fun _ => True) (fun _ => False) rfl rfl ?aP (fun _ hk => hk.elim) ?aF ?aO ?aB ?aS ?aL ?_; (case aP => exact rfl); (case aB => exact (aX HB.out)); (case aF => exact (fun _ _ => trivial)); (case aO => exact (Kd.fB HO_10.out)); (case aS => exact (aI (aX HB.out))); (case aL => have := Ue.out; omega); intro v109 Yj ho hb hg hat; rw [← wI.out] at ho; have gZ := ah (Kd.jM (Kd.fB HO_11.out) (Kd.je (Kd.fB HO_10.out)) (by decide) hg); have iL := ah (Kd.jM (Kd.fB jo.out) (Kd.je (Kd.fB HO_10.out)) (by decide) hg); have jV := ah (ho); replace HB := ah (hb); clear HO_10 HO_11; have HO_11 := gZ; clear gZ jo; have jo := iL; clear iL ho hb hg hat))
           repeat (go_quiet (first | ((with_reducible refine dZ (b := .append) (xs := #[.tmp 56, .tmp 61]) rfl ?_); at_builtin; refine Kd.iP (Kd.int .i64) (w0 := w) w.heap.size rfl (.tmp 56) (.tmp 61) 30 3 (.int .i64 0) 8 rfl Try.underlying30 info3 rfl (by decide) (by omega) u9 fV (rd dV dB) [.int .i64 (rd dV dB)] (fun k_ => some k_ ≠ (.slice (some yV) dV.length KJ : Value).ownBlock) (fun _ => False) rfl rfl ?aP (fun _ hk => hk.elim) ?aF ?aO ?aB ?aS ?aL ?_; (case aP => exact rfl); (case aB => exact (aX HB.out)); (case aF => exact (fun k_ hk => Kd.fresh' (Kd.jH (Kd.fB HO_11.out)) k_ hk)); (case aO => exact (Kd.fB HO_9.out)); (case aS => exact (aI (aX HB.out))); (case aL => have := Ud.out; omega); intro Ep w21 ho hb hg hat; rw [← IQ.out] at ho; have gZ := ah (Kd.jM (Kd.fB HO_10.out) (Kd.je (Kd.fB HO_9.out)) (by decide) hg); have jo := ah (ho); replace HO_11 := ah (Kd.qp (ok := (fun _ => True)) (Kd.fB (Kd.cu HO_11.out (fun _ hk => ⟨trivial, hk⟩))) hg hat); replace HB := ah (hb); clear HO_9 HO_10; have HO_10 := gZ; clear gZ ho hb hg hat) | ((with_reducible refine dZ (b := .append) (xs := #[.tmp 63, .tmp 65]) rfl ?_); at_builtin; refine Kd.iP (Kd.int .i64) (w0 := w) w.heap.size rfl (.tmp 63) (.tmp 65) 27 2 (.int .i64 0) 8 rfl Try.underlying27 DK rfl (by decide) (by omega) u10 dG mM [.int .i64 mM] (fun _ => True) (fun _ => False) rfl rfl ?aP (fun _ hk => hk.elim) ?aF ?aO ?aB ?aS ?aL ?_; (case aP => exact rfl); (case aB => exact (aX HB.out)); (case aF => exact (fun _ _ => trivial)); (case aO => exact (Kd.fB HO_10.out)); (case aS => exact (aI (aX HB.out))); (case aL => have := Ue.out; omega); intro v109 Yj ho hb hg hat; rw [← wI.out] at ho; have gZ := ah (Kd.jM (Kd.fB HO_11.out) (Kd.je (Kd.fB HO_10.out)) (by decide) hg); have iL := ah (Kd.jM (Kd.fB jo.out) (Kd.je (Kd.fB HO_10.out)) (by decide) hg); have jV := ah (ho); replace HB := ah (hb); clear HO_10 HO_11; have HO_11 := gZ; clear gZ jo; have jo := iL; clear iL ho hb hg hat)); try go_wp2_with (first | ((with_reducible refine dZ (b := .append) (xs := #[.tmp 56, .tmp 61]) rfl ?_); at_builtin; refine Kd.iP (Kd.int .i64) (w0 := w) w.heap.size rfl (.tmp 56) (.tmp 61) 30 3 (.int .i64 0) 8 rfl Try.underlying30 info3 rfl (by decide) (by omega) u9 fV (rd dV dB) [.int .i64 (rd dV dB)] (fun k_ => some k_ ≠ (.slice (some yV) dV.length KJ : Value).ownBlock) (fun _ => False) rfl rfl ?aP (fun _ hk => hk.elim) ?aF ?aO ?aB ?aS ?aL ?_; (case aP => exact rfl); (case aB => exact (aX HB.out)); (case aF => exact (fun k_ hk => Kd.fresh' (Kd.jH (Kd.fB HO_11.out)) k_ hk)); (case aO => exact (Kd.fB HO_9.out)); (case aS => exact (aI (aX HB.out))); (case aL => have := Ud.out; omega); intro Ep w21 ho hb hg hat; rw [← IQ.out] at ho; have gZ := ah (Kd.jM (Kd.fB HO_10.out) (Kd.je (Kd.fB HO_9.out)) (by decide) hg); have jo := ah (ho); replace HO_11 := ah (Kd.qp (ok := (fun _ => True)) (Kd.fB (Kd.cu HO_11.out (fun _ hk => ⟨trivial, hk⟩))) hg hat); replace HB := ah (hb); clear HO_9 HO_10; have HO_10 := gZ; clear gZ ho hb hg hat) | ((with_reducible refine dZ (b := .append) (xs := #[.tmp 63, .tmp 65]) rfl ?_); at_builtin; refine Kd.iP (Kd.int .i64) (w0 := w) w.heap.size rfl (.tmp 63) (.tmp 65) 27 2 (.int .i64 0) 8 rfl Try.underlying27 DK rfl (by decide) (by omega) u10 dG mM [.int .i64 mM] (fun _ => True) (fun _ => False) rfl rfl ?aP (fun _ hk => hk.elim) ?aF ?aO ?aB ?aS ?aL ?_; (case aP => exact rfl); (case aB => exact (aX HB.out)); (case aF => exact (fun _ _ => trivial)); (case aO => exact (Kd.fB HO_10.out)); (case aS => exact (aI (aX HB.out))); (case aL => have := Ue.out; omega); intro v109 Yj ho hb hg hat; rw [← wI.out] at ho; have gZ := ah (Kd.jM (Kd.fB HO_11.out) (Kd.je (Kd.fB HO_10.out)) (by decide) hg); have iL := ah (Kd.jM (Kd.fB jo.out) (Kd.je (Kd.fB HO_10.out)) (by decide) hg); have jV := ah (ho); replace HB := ah (hb); clear HO_10 HO_11; have HO_11 := gZ; clear gZ jo; have jo := iL; clear iL ho hb hg hat)))
           go_roundg k2
           case measure => have := jf.out; have := Nv.out; omega
           case rel => exact ⟨(J3), (jB), (wrap64 (dB + 1)), (by first | rfl | (simp; done) | (simp [*]; done)), H', ⟨by have := jf.out; have := Nv.out; omega⟩, ⟨by (repeat with_reducible refine Kd.kJ ?_); exact jo.out⟩, ⟨by (repeat with_reducible refine Kd.kJ ?_); exact jV.out⟩, ⟨by (repeat with_reducible refine Kd.kJ ?_); exact Kd.cu HO_11.out (fun _ hk => hk.2)⟩, ⟨by repeat (first | (with_reducible first | exact HB.out | apply ak | apply au | apply aC) | exact HB.out)⟩⟩
          rw [if_neg c20] at H
          exact absurd H (by simp)
         rw [if_neg c19] at H
         exact absurd H (by simp)
        rw [if_neg c18] at H
        exact absurd H (by simp)
       rw [if_neg c17] at H
       exact absurd H (by simp)
      rw [if_neg c16] at H
      have c16b0 : decide (0 < mM) = false := aiK c16
      clear c16
      have H' := ah H
      clear H
      go_wp2
      repeat (go_quiet (fail); try go_wp2)
      go_roundg k2
      case measure => have := jf.out; have := Nv.out; omega
      case rel => exact ⟨(fV), (dG), (wrap64 (dB + 1)), (by first | rfl | (simp; done) | (simp [*]; done)), H', ⟨by have := jf.out; have := Nv.out; omega⟩, ⟨by (repeat with_reducible refine Kd.kJ ?_); exact HO_9.out⟩, ⟨by (repeat with_reducible refine Kd.kJ ?_); exact HO_10.out⟩, ⟨by (repeat with_reducible refine Kd.kJ ?_); exact HO_11.out⟩, ⟨by repeat (first | (with_reducible first | exact HB.out | apply ak | apply au | apply aC) | exact HB.out)⟩⟩
   rw [if_neg c6] at H
   have c6b0 : decide (dB < (dV.length : Int)) = false := aiK c6
   clear c6
   simp only [Option.some.injEq, Prod.mk.injEq] at H
   obtain ⟨rfl, rfl, rfl⟩ := H
   obtain ⟨J4, J5, VR⟩ := Kd.bY HO_11.out
   subst VR
   go_wp2
   repeat (go_quiet (fail); try go_wp2)
   go_ret3
   exact ⟨_, _, by first | rfl | (simp [aT, aU] <;> rfl) | (simp [*, aT, aU] <;> rfl), by (repeat with_reducible refine Kd.kJ ?_); exact Kd.cu HO_9.out (fun _ hk => trivial), by (repeat with_reducible refine Kd.kJ ?_); exact HO_10.out, by repeat (first | (with_reducible first | exact HB.out | apply ak | apply au | apply aC) | exact HB.out)⟩
def tidepoleref25_deltas.l0 : Nat → List Int → List Int → Int → Int → Option (List Int)
 | 0, _, _, _, _ => none
 | k + 1, x0, x3, x4, x5 => if x5 < (x0.length : Int) then (if 0 ≤ x5 then (if x3.length < 17592186044416 then (tidepoleref25_deltas.l0 k x0 (x3 ++ [wrap64 ((rd x0 x5) - x4)]) (rd x0 x5) (wrap64 (x5 + 1))) else (none)) else (none)) else (some x3)
def tidepoleref25_deltas.f (k : Nat) (l0 : List Int) : Option (List Int) := tidepoleref25_deltas.l0 k l0 ([] : List Int) 0 0
set_option maxHeartbeats 8000000 in
set_option maxRecDepth 100000 in
theorem tidepoleref25_deltas.calls (k : Nat) (A0 : Option Addr) (c0 : Nat) (l0 : List Int) (r : List Int) (w : World) (hr0 : Kd.C (Kd.int .i64) w A0 l0.length l0) (hc0 : l0.length ≤ c0) (h : tidepoleref25_deltas.f k l0 = some r) :
  Calls Try.prog 86 #[.slice A0 l0.length c0] w fun e w' => ∃ lY : Value, e = .returned (lY) ∧ Kd.R (Kd.int .i64) 2 w' w.heap.size (fun _ => True) lY r ∧ Below w.heap.size w w' := by
 have HR0 := ah hr0
 have tK := ah hc0
 clear hr0 hc0
 have HB := ah (Below.refl w.heap.size w)
 have H : (tidepoleref25_deltas.l0 k l0 ([] : List Int) 0 0) = some r := h
 clear h
 have H' := ah H
 clear H
 go_enter Try.func86, Try.ntmps86
 go_wp2
 go_loopg [3, 4, 5] k (fun kq v3 v4 v5 w' => ∃ (fG : List Int) (dM : Int) (bF : Int), v4 = .int .i64 dM ∧ v5 = .int .i64 bF ∧ aj (tidepoleref25_deltas.l0 kq l0 fG dM bF = some r) ∧ aj (kq ≤ k) ∧ aj (Kd.R (Kd.int .i64) 2 w' w.heap.size (fun _ => True) v3 fG) ∧ aj (Below w.heap.size w w'))
 case atStart => exact ⟨(([] : List Int)), (0), (0), (by first | rfl | (simp; done) | (simp [*]; done)), (by first | rfl | (simp; done) | (simp [*]; done)), H', ⟨Nat.le_refl _⟩, ⟨by first | exact Kd.dY _ _ _ _ _ | exact Kd.gI _ _ _ _ _ | exact Kd.gJ _ _ _ _ _ | exact Kd.gB _ _ _ _ _ | exact Kd.gG _ _ _ _ _⟩, ⟨by repeat (first | (with_reducible first | exact HB.out | apply ak | apply au | apply aC) | exact HB.out)⟩⟩
 case round =>
  clear H'
  obtain ⟨fG, dM, bF, rfl, rfl, HA, jf, HO_3, HB⟩ := hrel
  cases gk with
  | zero => exact absurd HA.out (by simp [tidepoleref25_deltas.l0])
  | succ k1 =>
   have H := HA.out
   clear HA
   simp only [tidepoleref25_deltas.l0] at H
   by_cases c2 : bF < (l0.length : Int)
   ·rw [if_pos c2] at H
    have c2b0 : decide (bF < (l0.length : Int)) = true := aiJ c2
    clear c2
    by_cases c3 : 0 ≤ bF
    ·rw [if_pos c3] at H
     have c3b0 : decide (0 ≤ bF) = true := aiJ c3
     clear c3
     by_cases c4 : fG.length < 17592186044416
     ·rw [if_pos c4] at H
      have adC := ah c4
      clear c4
      obtain ⟨y102, hy102⟩ : ∃ y_ : List Int, y_ = (fG ++ [wrap64 ((rd l0 bF) - dM)]) := ⟨_, rfl⟩
      replace H : (tidepoleref25_deltas.l0 k1 l0 y102 (rd l0 bF) (wrap64 (bF + 1))) = some r := by first | (rw [hy102]; with_reducible exact H) | (have jm := (Option.bind_some _ _).symm.trans H; rw [hy102]; with_reducible exact jm) | (have jm := (Option.bind_some _ _).symm.trans H; with_reducible exact jm) | with_reducible exact H | (rw [hy102]; exact H) | exact H
      have IU := ah hy102
      clear hy102
      have H' := ah H
      clear H
      have eX : 0 ≤ (bF : Int) := aiI (by assumption)
      have eY : bF < (l0.length : Int) := aiI (by assumption)
      obtain ⟨jU, jK, bP⟩ := Kd.fA HR0.out bF eX eY
      cases jK
      replace bP := (HB.out.cell (World.block_lt_of_cell? w _ bP)).trans bP
      replace eX := eq_true eX
      replace eY := eq_true eY
      go_wp2_with (first | ((with_reducible refine dZ (b := .append) (xs := #[.tmp 12, .tmp 19]) rfl ?_); at_builtin; refine Kd.iP (Kd.int .i64) (w0 := w) w.heap.size rfl (.tmp 12) (.tmp 19) 27 2 (.int .i64 0) 8 rfl Try.underlying27 DK rfl (by decide) (by omega) u3 fG (wrap64 ((rd l0 bF) - dM)) [.int .i64 (wrap64 ((rd l0 bF) - dM))] (fun _ => True) (fun _ => False) rfl rfl ?aP (fun _ hk => hk.elim) ?aF ?aO ?aB ?aS ?aL ?_; (case aP => exact rfl); (case aB => exact (aX HB.out)); (case aF => exact (fun _ _ => trivial)); (case aO => exact (Kd.fB HO_3.out)); (case aS => exact (aI (aX HB.out))); (case aL => have := adC.out; omega); intro yK w5 ho hb hg hat; rw [← IU.out] at ho; have iq := ah (ho); replace HB := ah (hb); clear HO_3 ho hb hg hat; have pX : 0 ≤ (bF : Int) := aiI (by assumption); have pY : bF < (l0.length : Int) := aiI (by assumption); obtain ⟨DU, Aq, lS⟩ := Kd.fA HR0.out bF pX pY; obtain rfl : jU = DU := (by injection Aq); replace lS := (HB.out.cell (World.block_lt_of_cell? w _ lS)).trans lS; replace pX := eq_true pX; replace pY := eq_true pY))
      go_roundg k1
      case measure => have := jf.out; omega
      case rel => exact ⟨(y102), (rd l0 bF), (wrap64 (bF + 1)), (by first | rfl | (simp; done) | (simp [*]; done)), (by first | rfl | (simp; done) | (simp [*]; done)), H', ⟨by have := jf.out; omega⟩, ⟨by (repeat with_reducible refine Kd.kJ ?_); exact iq.out⟩, ⟨by repeat (first | (with_reducible first | exact HB.out | apply ak | apply au | apply aC) | exact HB.out)⟩⟩
     rw [if_neg c4] at H
     exact absurd H (by simp)
    rw [if_neg c3] at H
    exact absurd H (by simp)
   rw [if_neg c2] at H
   have c2b0 : decide (bF < (l0.length : Int)) = false := aiK c2
   clear c2
   obtain rfl := Option.some.inj H
   go_wp2
   go_ret
   exact ⟨_, by first | rfl | (simp [aT, aU] <;> rfl) | (simp [*, aT, aU] <;> rfl), by (repeat with_reducible refine Kd.kJ ?_); exact HO_3.out, by repeat (first | (with_reducible first | exact HB.out | apply ak | apply au | apply aC) | exact HB.out)⟩
end Go.Proofs.Ytooiccpmngmapaa.P
namespace Go.Proofs.Ytooiccpmngmapaa.P
open Go.RowKit Go.Proofs.YtooiccpmngmapaaW.PrintWords Go.Proofs.YtooiccpmngmapaaW.PrintLast Go.Proofs.YtooiccpmngmapaaW.PrintMore
def fQ (i s : Int) : Int := if s < 0 ∨ s > 62 then i else -((-i) / 2 ^ s.toNat)
theorem vJ {i D q : Int} (hD : 0 < D) (h1 : D * (q - 1) < i) (h2 : i ≤ D * q) : -((-i) / D) = q := by
 rw [Int.mul_sub, Int.mul_one] at h1
 have := ((Int.ediv_emod_unique (a := -i) (b := D) (r := D * q - i) (q := -q) hD).2 ⟨by rw [Int.mul_neg]; omega, by omega, by omega⟩).1
 rw [this, Int.neg_neg]
theorem L8 {n : Nat} (h : n ≤ 62) : (0 : Int) < 2 ^ n ∧ (2 : Int) ^ n ≤ 4611686018427387904 ∧ ∃ c : Int, 9223372036854775808 = 2 ^ n * c := by
 refine ⟨Int.pow_pos (by decide), ?_, ⟨2 ^ (63 - n), ?_⟩⟩
 ·have h1 : (2 : Nat) ^ n ≤ 2 ^ 62 := Nat.pow_le_pow_right (by decide) h
  have h2 : ((2 ^ n : Nat) : Int) ≤ ((2 ^ 62 : Nat) : Int) := Int.ofNat_le.2 h1
  rw [Int.natCast_pow, Int.natCast_pow] at h2
  exact h2
 ·rw [← Int.pow_add, show n + (63 - n) = 63 by omega]; rfl
theorem AB {i : Int} (hi : i64 i) {n : Nat} (h : n ≤ 62) : -9223372036854775808 ≤ i / 2 ^ n * 2 ^ n ∧ i / 2 ^ n * 2 ^ n ≤ i ∧ i < i / 2 ^ n * 2 ^ n + 2 ^ n ∧ -9223372036854775808 ≤ i / 2 ^ n ∧ i / 2 ^ n ≤ 9223372036854775807 ∧ (i / 2 ^ n * 2 ^ n < i → i / 2 ^ n < 9223372036854775807) := by
 obtain ⟨h0, h1, c, hc⟩ := L8 h
 generalize (2 : Int) ^ n = D at *
 obtain ⟨i1, i2⟩ := hi
 have e := Int.mul_ediv_add_emod i D
 have m0 := Int.emod_nonneg i (by omega : D ≠ 0)
 have m1 := Int.emod_lt_of_pos i h0
 have hq : -c ≤ i / D := by
  rw [Int.le_ediv_iff_mul_le h0, Int.neg_mul, Int.mul_comm c D, ← hc]; omega
 have hcD := Int.mul_le_mul_of_nonneg_right hq (by omega : 0 ≤ D)
 rw [Int.neg_mul, Int.mul_comm c D, ← hc] at hcD
 rw [Int.mul_comm D] at e
 generalize i / D = q at *
 have hneg : q ≤ 0 → q * D ≤ q := fun hq => by
  have := Int.mul_le_mul_of_nonneg_left (a := 1) (b := D) (c := -q) (by omega) (by omega)
  rw [Int.neg_mul, Int.neg_mul] at this
  omega
 have hpos : 0 ≤ q → q ≤ q * D := fun hq => by
  have := Int.mul_le_mul_of_nonneg_left (a := 1) (b := D) (c := q) (by omega) hq
  omega
 rcases Int.le_total q 0 with hq0 | hq0
 ·have := hneg hq0
  refine ⟨by omega, by omega, by omega, by omega, by omega, by omega⟩
 ·have := hpos hq0
  refine ⟨by omega, by omega, by omega, by omega, by omega, by omega⟩
theorem rW (k : Nat) (i s : Int) (hi : i64 i) : scale_Place.f (k + 1) i s = some (fQ i s) := by
 unfold scale_Place.f fQ
 by_cases h0 : s < 0
 ·rw [if_pos h0, if_pos (.inl h0)]; rfl
 rw [if_neg h0]
 simp only [scale_Place.j0]
 by_cases h1 : s > 62
 ·rw [if_pos (by simpa using h1), if_pos (.inr h1)]
 rw [if_neg (by simpa using h1), if_pos (by omega), if_neg (show ¬ (s < 0 ∨ s > 62) by omega)]
 have hn : s.toNat ≤ 62 := by omega
 have adD : min s.toNat (IntKind.i64).bits = s.toNat := Nat.min_eq_left (by have : IntKind.i64.bits = 64 := rfl; omega)
 simp only [shl, shr, adD, dh]
 generalize s.toNat = n at hn
 have hb := AB hi hn
 obtain ⟨h0, -, -⟩ := L8 hn
 generalize (2 : Int) ^ n = D at *
 have hc := Int.mul_comm (i / D) D
 obtain ⟨i1, i2⟩ := hi
 rw [eu (x := i / D * D) (by omega) (by omega)]
 by_cases he : i / D * D = i
 ·rw [if_pos he, vJ h0 (q := i / D) (by rw [Int.mul_sub]; omega) (by omega)]
 ·rw [if_neg he, eu (x := i / D + 1) (by omega) (by omega), vJ h0 (q := i / D + 1) (by rw [Int.add_sub_cancel]; omega) (by rw [Int.mul_add]; omega)]
theorem xP {i s : Int} (hi : i64 i) : i64 (fQ i s) := by
 unfold fQ
 by_cases h : s < 0 ∨ s > 62
 ·rw [if_pos h]; exact hi
 rw [if_neg h]
 have hn : s.toNat ≤ 62 := by omega
 generalize s.toNat = n at hn
 have hb := AB hi hn
 obtain ⟨h0, -, -⟩ := L8 hn
 generalize (2 : Int) ^ n = D at *
 have hc := Int.mul_comm (i / D) D
 obtain ⟨i1, i2⟩ := hi
 by_cases he : i / D * D = i
 ·rw [vJ h0 (q := i / D) (by rw [Int.mul_sub]; omega) (by omega)]; exact ⟨by omega, by omega⟩
 ·rw [vJ h0 (q := i / D + 1) (by rw [Int.add_sub_cancel]; omega) (by rw [Int.mul_add]; omega)]; exact ⟨by omega, by omega⟩
theorem Ia (i : Int) (hi : i64 i) (n : Nat) (hn : n ≤ 62) : ∀ (d k j : Nat), n - j = d → d < k → j ≤ n → tidepoleref25_Place.l0 k i (n : Int) (2 ^ j : Int) (j : Int) = some (-((-i) / 2 ^ n)) := by
  intro d
  induction d with
  | zero =>
    intro k j hd hk hj
    obtain ⟨k, rfl⟩ : ∃ m, k = m + 1 := ⟨k - 1, by omega⟩
    obtain rfl : j = n := by omega
    simp only [tidepoleref25_Place.l0]
    have hb := AB hi hn
    obtain ⟨h0, -, -⟩ := L8 hn
    generalize (2 : Int) ^ j = D at *
    have hc := Int.mul_comm (i / D) D
    obtain ⟨i1, i2⟩ := hi
    rw [if_neg (by omega), if_neg (by omega)]
    by_cases hp : i > 0
    · rw [if_pos hp, Int.tdiv_eq_ediv_of_nonneg (by omega), eu (x := i / D) (by omega) (by omega), eu (x := i / D * D) (by omega) (by omega)]
      by_cases he : i / D * D = i
      · rw [if_pos he, vJ h0 (q := i / D) (by rw [Int.mul_sub]; omega) (by omega)]
      · rw [if_neg he, eu (x := i / D + 1) (by omega) (by omega), vJ h0 (q := i / D + 1) (by rw [Int.add_sub_cancel]; omega) (by rw [Int.mul_add]; omega)]
    · rw [if_neg hp]
      have : Int.tdiv i D = -((-i) / D) := by
        rw [← Int.tdiv_eq_ediv_of_nonneg (a := -i) (by omega), Int.neg_tdiv, Int.neg_neg]
      rw [this]
      have hR : i64 (-((-i) / D)) := by
        by_cases he : i / D * D = i
        · rw [vJ h0 (q := i / D) (by rw [Int.mul_sub]; omega) (by omega)]; exact ⟨by omega, by omega⟩
        · rw [vJ h0 (q := i / D + 1) (by rw [Int.add_sub_cancel]; omega) (by rw [Int.mul_add]; omega)]; exact ⟨by omega, by omega⟩
      rw [uZ hR]
  | succ d ih =>
    intro k j hd hk hj
    obtain ⟨k, rfl⟩ : ∃ m, k = m + 1 := ⟨k - 1, by omega⟩
    simp only [tidepoleref25_Place.l0]
    obtain ⟨h0, h1, -⟩ := L8 (n := j + 1) (by omega)
    rw [if_pos (by omega), wrap_succ (by omega), ← Int.pow_succ, eu (by omega) (by omega)]
    exact ih k (j + 1) (by omega) (by omega) (by omega)
theorem AL (k : Nat) (hk : 66 ≤ k) (i s : Int) (hi : i64 i) : tidepoleref25_Place.f k i s = some (fQ i s) := by
 obtain ⟨k, rfl⟩ : ∃ m, k = m + 1 := ⟨k - 1, by omega⟩
 unfold tidepoleref25_Place.f fQ
 by_cases h0 : s < 0
 ·rw [if_pos h0, if_pos (.inl h0)]; simp only [tidepoleref25_Place.j0, if_true]
 rw [if_neg h0]
 simp only [tidepoleref25_Place.j0]
 by_cases h1 : s > 62
 ·rw [if_pos (by simpa using h1), if_pos (.inr h1)]
 rw [if_neg (by simpa using h1), if_neg (show ¬ (s < 0 ∨ s > 62) by omega)]
 obtain ⟨n, rfl⟩ : ∃ n : Nat, s = n := ⟨s.toNat, by omega⟩
 exact Ia i hi n (by omega) n k 0 (by omega) (by omega) (by omega)
theorem xQ {i j s : Int} (h : i ≤ j) : fQ i s ≤ fQ j s := by
 unfold fQ
 by_cases hs : s < 0 ∨ s > 62
 ·rw [if_pos hs, if_pos hs]; exact h
 rw [if_neg hs, if_neg hs]
 have := Int.ediv_le_ediv (a := -j) (b := -i) (c := 2 ^ s.toNat) (Int.pow_pos (by decide)) (by omega)
 omega
end Go.Proofs.Ytooiccpmngmapaa.P