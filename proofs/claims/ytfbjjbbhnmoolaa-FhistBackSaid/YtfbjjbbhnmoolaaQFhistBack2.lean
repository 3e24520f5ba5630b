/- FhistBack: the part that this text bears of the proof that the statement answers true for every input. No condition. -/
import Derived.Test.YtfbjjbbhnmoolaaQFhistBack1
import Derived.RegionIn
import Derived.Sort.QuietTacIn
import Derived.Deep.RegionWith
import Derived.Laws.BitsAllLaws
import Derived.Great.Frames
import Derived.Laws.FloatArith
set_option linter.unusedVariables false
set_option linter.unusedSimpArgs false
namespace Go.Proofs.Ytfbjjbbhnmoolaa.P
open Go.RowKit Go.Shelf Go.Proofs.YtfbjjbbhnmoolaaW.PrintWords Go.Proofs.YtfbjjbbhnmoolaaW.PrintLast Go.Proofs.YtfbjjbbhnmoolaaW.PrintMore
def nan (v : Int) : Bool := decide ((Go.bits .andNot .u64 v 9223372036854775808) > 9218868437227405312)
def fits (zc ct sm : Int) (p n : List Pr) : Bool := (totalRes zc [p, n]).2 && decide ((totalRes zc [p, n]).1 ≤ ct) && (decide (¬ (totalRes zc [p, n]).1 < ct) || nan sm)
def openRes (s z zc ct sm : Int) (l5 l6 : List Sp) (l7 l8 : List Int) : List Pr × List Pr × Int :=
  if s < -4 ∨ s > 8 then ([], [], 21) else if ¬ z < 9218868437227405312 then ([], [], 11)
  else if (sideRes l5 l7).2 ≠ 0 then ([], [], (sideRes l5 l7).2) else if (sideRes l6 l8).2 ≠ 0 then ([], [], (sideRes l6 l8).2)
  else if fits zc ct sm (sideRes l5 l7).1 (sideRes l6 l8).1 = true then ((sideRes l5 l7).1, (sideRes l6 l8).1, 0) else ([], [], 22)
def wfHi (s z zc ct sm : Int) (l5 l6 : List Sp) (l7 l8 : List Int) : Prop := i64 s ∧ u64 z ∧ u64 zc ∧ u64 ct ∧ u64 sm ∧ wfSps l5 ∧ wfSps l6 ∧ i64s l7 ∧ i64s l8 ∧ l7.length < 4398046511104 ∧ l8.length < 4398046511104
instance (s z zc ct sm : Int) (l5 l6 : List Sp) (l7 l8 : List Int) : Decidable (wfHi s z zc ct sm l5 l6 l7 l8) := by unfold wfHi; exact inferInstance
def hist_open.f (s z zc ct sm : Int) (l5 l6 : List Sp) (l7 l8 : List Int) : Option (List Pr × List Pr × Int) := if wfHi s z zc ct sm l5 l6 l7 l8 then some (openRes s z zc ct sm l5 l6 l7 l8) else none
theorem sideRes_ok {l : List Sp} {d : List Int} (hd : i64s d) (h : (sideRes l d).2 = 0) : (∀ p ∈ (sideRes l d).1, 0 ≤ p.f1 ∧ p.f1 ≤ 9223372036854775807) ∧ (sideRes l d).1.length ≤ 4096 := by
  unfold sideRes at h ⊢
  by_cases c1 : spCheck l = 0
  rotate_left
  · rw [if_neg c1] at h; exact absurd h c1
  rw [if_pos c1] at h ⊢
  by_cases c2 : cntN l = d.length
  rotate_left
  · rw [if_neg c2] at h; cases h
  rw [if_pos c2] at h ⊢
  cases hs : sumsFrom 0 d with
  | none => rw [hs] at h; cases h
  | some c =>
    rw [hs] at h
    simp only at h ⊢
    by_cases c3 : c.any (fun x => decide (x < 0)) = true
    · rw [if_pos c3] at h; cases h
    rw [if_neg c3]
    have hi := sumsFrom_i64 d 0 c hs
    refine ⟨fun p hp => ?_, by have := places_len c1; simp; omega⟩
    have : p.f1 ∈ c := by
      obtain ⟨i, hi2, rfl⟩ := List.mem_iff_getElem.1 hp
      simp only [List.getElem_zipWith]
      exact List.getElem_mem _
    have h1 := hi _ this
    refine ⟨?_, h1.2⟩
    by_cases hneg : p.f1 < 0
    · exact absurd (List.any_eq_true.2 ⟨_, this, decide_eq_true hneg⟩) c3
    · omega
theorem rowsAt_two {w : World} {b1 b2 : Nat} {ok1 ok2 : Nat → Prop} {A B : Option Addr} {c d : Nat} {p n : List Pr} (h1 : Kd.R k109 109 w b1 ok1 (.slice A p.length c) p) (h2 : Kd.R k109 109 w b2 ok2 (.slice B n.length d) n) :
    RowsAt (w.alloc (.cells #[.slice A p.length c, .slice B n.length d] 90)) w.heap.size [p, n] := by
  have hb := blk_new w (.cells #[.slice A p.length c, .slice B n.length d] 90)
  intro i hi
  match i, hi with
  | 0, _ => exact ⟨A, c, (blk_cell hb 0).trans rfl, (Kd.R_reads' h1).2.1, Kd.C_below (Kd.R_reads' h1).2.2 (below_alloc (Below.refl _ _) _)⟩
  | 1, _ => exact ⟨B, d, (blk_cell hb 1).trans rfl, (Kd.R_reads' h2).2.1, Kd.C_below (Kd.R_reads' h2).2.2 (below_alloc (Below.refl _ _) _)⟩
theorem R_apart_two {w : World} {b1 b2 m b0 : Nat} {v1 v2 : Value} {p n : List Pr} (h1 : Kd.R k109 109 w b1 (fun k => k < m ∧ b0 ≤ k) v1 p) (h2 : Kd.R k109 109 w b2 (fun k => m ≤ k ∧ b0 ≤ k) v2 n) :
    Kd.R k109 109 w b1 (fun k_ => (b0 ≤ k_) ∧ some k_ ≠ v2.ownBlock) v1 p ∧ Kd.R k109 109 w b2 (fun k_ => (b0 ≤ k_) ∧ some k_ ≠ v1.ownBlock) v2 n := by
  refine ⟨Kd.R_mono h1 (fun k hk => ⟨hk.2, fun e => ?_⟩), Kd.R_mono h2 (fun k hk => ⟨hk.2, fun e => ?_⟩)⟩
  · have := h2.1 k e.symm; omega
  · have := h1.1 k e.symm; omega
set_option maxHeartbeats 8000000 in
set_option maxRecDepth 100000 in
theorem hist_open.calls (s z zc ct sm : Int) (A5 : Option Addr) (c5 : Nat) (l5 : List Sp) (A6 : Option Addr) (c6 : Nat) (l6 : List Sp) (A7 : Option Addr) (c7 : Nat) (l7 : List Int) (A8 : Option Addr) (c8 : Nat) (l8 : List Int) (r1 r2 : List Pr) (r3 : Int) (w : World)
    (hr5 : Kd.C k86 w A5 l5.length l5) (hc5 : l5.length ≤ c5) (hr6 : Kd.C k86 w A6 l6.length l6) (hc6 : l6.length ≤ c6) (hr7 : Kd.C (Kd.int .i64) w A7 l7.length l7) (hc7 : l7.length ≤ c7) (hr8 : Kd.C (Kd.int .i64) w A8 l8.length l8) (hc8 : l8.length ≤ c8)
    (h : hist_open.f s z zc ct sm l5 l6 l7 l8 = some (r1, r2, r3)) :
    Calls Try.prog 71 #[.agg #[.int .i64 s, .int .u64 z, .int .u64 zc, .int .u64 ct, .int .u64 sm, .slice A5 l5.length c5, .slice A6 l6.length c6, .slice A7 l7.length c7, .slice A8 l8.length c8]] w fun e w' => ∃ v0_ v1_ : Value, e = .returned (.tuple #[v0_, v1_, .int .i64 r3]) ∧ Kd.R k109 109 w' w.heap.size (fun k_ => (w.heap.size ≤ k_) ∧ some k_ ≠ (v1_ : Value).ownBlock) v0_ r1 ∧ Kd.R k109 109 w' w.heap.size (fun k_ => (w.heap.size ≤ k_) ∧ some k_ ≠ (v0_ : Value).ownBlock) v1_ r2 ∧ Below w.heap.size w w' := by
  obtain ⟨hw, h2⟩ := of_ite_some h
  clear h
  obtain ⟨hs, hz, hzc, hct, hsm, hw5, hw6, hi7, hi8, hm7, hm8⟩ := hw
  have hu := Try.underlying26
  have HRA := Aside0.mk (And.intro hr5 (And.intro hr6 (And.intro hr7 hr8)))
  have HCA := Aside0.mk (And.intro hc5 (And.intro hc6 (And.intro hc7 hc8)))
  have H := Aside0.mk h2
  have hs5 : hist_side.f l5 l7 = some (sideRes l5 l7) := if_pos ⟨hw5, hi7, hm7⟩
  have hs6 : hist_side.f l6 l8 = some (sideRes l6 l8) := if_pos ⟨hw6, hi8, hm8⟩
  have hok5 := sideRes_ok (l := l5) hi7
  have hok6 := sideRes_ok (l := l6) hi8
  clear h2 hr5 hr6 hr7 hr8 hc5 hc6 hc7 hc8 hw5 hw6 hi7 hi8 hm7 hm8
  unfold openRes at H
  generalize sideRes l5 l7 = q5 at H hs5 hok5
  generalize sideRes l6 l8 = q6 at H hs6 hok6
  obtain ⟨p, e5⟩ := q5
  obtain ⟨n, e6⟩ := q6
  simp only at H hok5 hok6
  have HS5 := Aside0.mk hs5
  have HS6 := Aside0.mk hs6
  have HOK := Aside0.mk (And.intro hok5 hok6)
  have HU := Aside0.mk (And.intro hzc (And.intro hct hsm))
  clear hs5 hs6 hok5 hok6 hzc hct hsm hs hz
  by_cases c1 : s < -4
  · have H := H.out
    rw [if_pos (Or.inl c1)] at H
    injection H with h4 h5; injection h5 with h5 h6
    subst h4; subst h5; subst h6
    have c1b : decide (s < -4) = true := decide_eq_true c1
    clear c1
    go_enter Try.func71, Try.ntmps71
    go_wp2
    go_ret3
    exact ⟨_, _, rfl, Kd.R_nil _ _ _ _ _, Kd.R_nil _ _ _ _ _, below_alloc (Below.refl _ _) _⟩
  by_cases c2 : s > 8
  · have H := H.out
    rw [if_pos (Or.inr c2)] at H
    injection H with h4 h5; injection h5 with h5 h6
    subst h4; subst h5; subst h6
    have c1b : decide (s < -4) = false := decide_eq_false c1
    have c2b : decide (8 < s) = true := decide_eq_true c2
    clear c1 c2
    go_enter Try.func71, Try.ntmps71
    go_wp2
    go_ret3
    exact ⟨_, _, rfl, Kd.R_nil _ _ _ _ _, Kd.R_nil _ _ _ _ _, below_alloc (Below.refl _ _) _⟩
  have c1b : decide (s < -4) = false := decide_eq_false c1
  have c2b : decide (8 < s) = false := decide_eq_false c2
  rw [if_neg (by omega)] at H
  clear c1 c2
  obtain ⟨tz, htz⟩ : ∃ b, b = decide (z < 9218868437227405312) := ⟨_, rfl⟩
  have HTh := Aside0.mk (show hist_Threshold.f z = some tz by rw [htz]; rfl)
  by_cases c3 : z < 9218868437227405312
  rotate_left
  · have H := H.out
    rw [if_pos c3] at H
    injection H with h4 h5; injection h5 with h5 h6
    subst h4; subst h5; subst h6
    rw [decide_eq_false c3] at htz
    subst htz
    clear c3
    go_enter Try.func71, Try.ntmps71
    go_wp2_with (first | (go_at_call 66; (with_reducible refine (hist_Threshold.calls z _ _ HTh.out).mono ?_); rintro e w1 ⟨rfl, hb⟩; have HB1 := Aside0.mk (below_then (below_alloc (Below.refl w.heap.size w) (.cells #[.int .i64 s, .int .u64 z, .int .u64 zc, .int .u64 ct, .int .u64 sm, .slice A5 l5.length c5, .slice A6 l6.length c6, .slice A7 l7.length c7, .slice A8 l8.length c8] 26)) (by simp) hb.below); have HX1 := Aside0.mk (blk_below (blk_new w (.cells #[.int .i64 s, .int .u64 z, .int .u64 zc, .int .u64 ct, .int .u64 sm, .slice A5 l5.length c5, .slice A6 l6.length c6, .slice A7 l7.length c7, .slice A8 l8.length c8] 26)) hb.below); have hf := fun i => blk_cell HX1.out i; clear hb))
    go_ret3
    exact ⟨_, _, rfl, Kd.R_nil _ _ _ _ _, Kd.R_nil _ _ _ _ _, HB1.out⟩
  rw [decide_eq_true c3] at htz
  subst htz
  rw [if_neg (by omega)] at H
  clear c3
  by_cases c4 : e5 = 0
  rotate_left
  · have H := H.out
    rw [if_pos c4] at H
    injection H with h4 h5; injection h5 with h5 h6
    subst h4; subst h5; subst h6
    have c4b : (e5 == 0) = false := beq_eq_false_iff_ne.2 c4
    have c4c : (e5 != 0) = true := bne_iff_ne.2 c4
    clear c4
    go_enter Try.func71, Try.ntmps71
    go_wp2_with (first | (go_at_call 66; (with_reducible refine (hist_Threshold.calls z _ _ HTh.out).mono ?_); rintro e w1 ⟨rfl, hb⟩; have HB1 := Aside0.mk (below_then (below_alloc (Below.refl w.heap.size w) (.cells #[.int .i64 s, .int .u64 z, .int .u64 zc, .int .u64 ct, .int .u64 sm, .slice A5 l5.length c5, .slice A6 l6.length c6, .slice A7 l7.length c7, .slice A8 l8.length c8] 26)) (by simp) hb.below); have HX1 := Aside0.mk (blk_below (blk_new w (.cells #[.int .i64 s, .int .u64 z, .int .u64 zc, .int .u64 ct, .int .u64 sm, .slice A5 l5.length c5, .slice A6 l6.length c6, .slice A7 l7.length c7, .slice A8 l8.length c8] 26)) hb.below); have hf := fun i => blk_cell HX1.out i; clear hb) | (go_at_call 107; (with_reducible refine (hist_side.calls _ _ l5 _ _ l7 p _ _ (Kd.C_below HRA.out.1 HB1.out) HCA.out.1 (Kd.C_below HRA.out.2.2.1 HB1.out) HCA.out.2.2.1 HS5.out).mono ?_); rintro e w2 ⟨v2, rfl, ho2, hb⟩; have HB2 := Aside0.mk (below_then HB1.out HB1.out.size hb); have HX2 := Aside0.mk (blk_below HX1.out hb); have hf2 := fun i => blk_cell HX2.out i; have HO2 := Aside0.mk (Kd.R_mono (ok' := fun k => k < w2.heap.size ∧ w.heap.size ≤ k) (Kd.R_lower (Kd.R_bound ho2) HB1.out.size) (fun k hk => ⟨hk.2.2.1, Nat.le_trans HB1.out.size hk.2.1⟩)); obtain ⟨B2, d2, eo2⟩ := Kd.R_slice ho2; subst eo2; clear ho2 hb))
    go_ret3
    exact ⟨_, _, rfl, Kd.R_nil _ _ _ _ _, Kd.R_nil _ _ _ _ _, HB2.out⟩
  subst c4
  rw [if_neg (by simp)] at H
  by_cases c5' : e6 = 0
  rotate_left
  · have H := H.out
    rw [if_pos c5'] at H
    injection H with h4 h5; injection h5 with h5 h6
    subst h4; subst h5; subst h6
    have c4b : (e6 == 0) = false := beq_eq_false_iff_ne.2 c5'
    have c4c : (e6 != 0) = true := bne_iff_ne.2 c5'
    clear c5'
    go_enter Try.func71, Try.ntmps71
    go_wp2_with (first | (go_at_call 66; (with_reducible refine (hist_Threshold.calls z _ _ HTh.out).mono ?_); rintro e w1 ⟨rfl, hb⟩; have HB1 := Aside0.mk (below_then (below_alloc (Below.refl w.heap.size w) (.cells #[.int .i64 s, .int .u64 z, .int .u64 zc, .int .u64 ct, .int .u64 sm, .slice A5 l5.length c5, .slice A6 l6.length c6, .slice A7 l7.length c7, .slice A8 l8.length c8] 26)) (by simp) hb.below); have HX1 := Aside0.mk (blk_below (blk_new w (.cells #[.int .i64 s, .int .u64 z, .int .u64 zc, .int .u64 ct, .int .u64 sm, .slice A5 l5.length c5, .slice A6 l6.length c6, .slice A7 l7.length c7, .slice A8 l8.length c8] 26)) hb.below); have hf := fun i => blk_cell HX1.out i; clear hb) | (go_at_call 107; (with_reducible refine (hist_side.calls _ _ l5 _ _ l7 p _ _ (Kd.C_below HRA.out.1 HB1.out) HCA.out.1 (Kd.C_below HRA.out.2.2.1 HB1.out) HCA.out.2.2.1 HS5.out).mono ?_); rintro e w2 ⟨v2, rfl, ho2, hb⟩; have HB2 := Aside0.mk (below_then HB1.out HB1.out.size hb); have HX2 := Aside0.mk (blk_below HX1.out hb); have hf2 := fun i => blk_cell HX2.out i; have HO2 := Aside0.mk (Kd.R_mono (ok' := fun k => k < w2.heap.size ∧ w.heap.size ≤ k) (Kd.R_lower (Kd.R_bound ho2) HB1.out.size) (fun k hk => ⟨hk.2.2.1, Nat.le_trans HB1.out.size hk.2.1⟩)); obtain ⟨B2, d2, eo2⟩ := Kd.R_slice ho2; subst eo2; clear ho2 hb) | (go_at_call 107; (with_reducible refine (hist_side.calls _ _ l6 _ _ l8 n _ _ (Kd.C_below HRA.out.2.1 HB2.out) HCA.out.2.1 (Kd.C_below HRA.out.2.2.2 HB2.out) HCA.out.2.2.2 HS6.out).mono ?_); rintro e w3 ⟨v3, rfl, ho3, hb⟩; have HB3 := Aside0.mk (below_then HB2.out HB2.out.size hb); have HX3 := Aside0.mk (blk_below HX2.out hb); have hf3 := fun i => blk_cell HX3.out i; have HO3 := Aside0.mk (And.intro (Kd.R_below HO2.out hb) (Kd.R_mono (ok' := fun k => w2.heap.size ≤ k ∧ w.heap.size ≤ k) (Kd.R_lower (Kd.R_bound ho3) HB2.out.size) (fun k hk => ⟨hk.2.1, Nat.le_trans HB2.out.size hk.2.1⟩))); obtain ⟨B3, d3, eo3⟩ := Kd.R_slice ho3; subst eo3; clear ho3 hb))
    go_ret3
    exact ⟨_, _, rfl, Kd.R_nil _ _ _ _ _, Kd.R_nil _ _ _ _ _, HB3.out⟩
  subst c5'
  rw [if_neg (by simp)] at H
  have HV := Aside0.mk (show u64 zc ∧ (∀ r ∈ [p, n], ∀ q ∈ r, 0 ≤ q.f1 ∧ q.f1 ≤ 9223372036854775807) ∧ (∀ r ∈ [p, n], r.length ≤ 4611686018427387904) by
    have h1 := HOK.out.1 rfl
    have h2 := HOK.out.2 rfl
    refine ⟨HU.out.1, fun r hr => ?_, fun r hr => ?_⟩
    · simp at hr; rcases hr with rfl | rfl
      · exact h1.1
      · exact h2.1
    · simp at hr; rcases hr with rfl | rfl <;> omega)
  obtain ⟨⟨tt, tb⟩, htt⟩ : ∃ t, t = totalRes zc [p, n] := ⟨_, rfl⟩
  have HTot := Aside0.mk htt.symm
  obtain ⟨bn, hbn⟩ : ∃ b, b = nan sm := ⟨_, rfl⟩
  have HNa := Aside0.mk (show hist_NaN.f sm = some bn by rw [hbn]; rfl)
  unfold fits at H
  rw [← htt, ← hbn] at H
  simp only at H
  clear htt hbn
  cases tb with
  | false =>
    have H := H.out
    rw [if_neg (by simp)] at H
    injection H with h4 h5; injection h5 with h5 h6
    subst h4; subst h5; subst h6
    go_enter Try.func71, Try.ntmps71
    go_wp2_with (first | (go_at_call 66; (with_reducible refine (hist_Threshold.calls z _ _ HTh.out).mono ?_); rintro e w1 ⟨rfl, hb⟩; have HB1 := Aside0.mk (below_then (below_alloc (Below.refl w.heap.size w) (.cells #[.int .i64 s, .int .u64 z, .int .u64 zc, .int .u64 ct, .int .u64 sm, .slice A5 l5.length c5, .slice A6 l6.length c6, .slice A7 l7.length c7, .slice A8 l8.length c8] 26)) (by simp) hb.below); have HX1 := Aside0.mk (blk_below (blk_new w (.cells #[.int .i64 s, .int .u64 z, .int .u64 zc, .int .u64 ct, .int .u64 sm, .slice A5 l5.length c5, .slice A6 l6.length c6, .slice A7 l7.length c7, .slice A8 l8.length c8] 26)) hb.below); have hf := fun i => blk_cell HX1.out i; clear hb) | (go_at_call 107; (with_reducible refine (hist_side.calls _ _ l5 _ _ l7 p _ _ (Kd.C_below HRA.out.1 HB1.out) HCA.out.1 (Kd.C_below HRA.out.2.2.1 HB1.out) HCA.out.2.2.1 HS5.out).mono ?_); rintro e w2 ⟨v2, rfl, ho2, hb⟩; have HB2 := Aside0.mk (below_then HB1.out HB1.out.size hb); have HX2 := Aside0.mk (blk_below HX1.out hb); have hf2 := fun i => blk_cell HX2.out i; have HO2 := Aside0.mk (Kd.R_mono (ok' := fun k => k < w2.heap.size ∧ w.heap.size ≤ k) (Kd.R_lower (Kd.R_bound ho2) HB1.out.size) (fun k hk => ⟨hk.2.2.1, Nat.le_trans HB1.out.size hk.2.1⟩)); obtain ⟨B2, d2, eo2⟩ := Kd.R_slice ho2; subst eo2; clear ho2 hb) | (go_at_call 107; (with_reducible refine (hist_side.calls _ _ l6 _ _ l8 n _ _ (Kd.C_below HRA.out.2.1 HB2.out) HCA.out.2.1 (Kd.C_below HRA.out.2.2.2 HB2.out) HCA.out.2.2.2 HS6.out).mono ?_); rintro e w3 ⟨v3, rfl, ho3, hb⟩; have HB3 := Aside0.mk (below_then HB2.out HB2.out.size hb); have HX3 := Aside0.mk (blk_below HX2.out hb); have hf3 := fun i => blk_cell HX3.out i; have HO3 := Aside0.mk (And.intro (Kd.R_below HO2.out hb) (Kd.R_mono (ok' := fun k => w2.heap.size ≤ k ∧ w.heap.size ≤ k) (Kd.R_lower (Kd.R_bound ho3) HB2.out.size) (fun k hk => ⟨hk.2.1, Nat.le_trans HB2.out.size hk.2.1⟩))); obtain ⟨B3, d3, eo3⟩ := Kd.R_slice ho3; subst eo3; clear ho3 hb) | (go_at_call 108; refine (hist_total s z zc ct sm _ _ _ _ _ _ _ _ _ _ _ _ w3.heap.size _ [p, n] _ HV.out.1 HV.out.2.1 HV.out.2.2 (by simp) (by simp) (rowsAt_two HO3.out.1 HO3.out.2)).mono ?_; rintro e w4 ⟨rfl, hb⟩; rw [HTot.out]; have HB4 := Aside0.mk (below_then HB3.out HB3.out.size (below_then (below_alloc (Below.refl _ _) _) (by simp) hb)); have HX4 := Aside0.mk (blk_below HX3.out (below_then (below_alloc (Below.refl _ _) _) (by simp) hb)); have hf4 := fun i => blk_cell HX4.out i; have HO4 := Aside0.mk (And.intro (Kd.R_below HO3.out.1 (below_then (below_alloc (Below.refl _ _) _) (by simp) hb)) (Kd.R_below HO3.out.2 (below_then (below_alloc (Below.refl _ _) _) (by simp) hb))); clear hb))
    go_ret3
    exact ⟨_, _, rfl, Kd.R_nil _ _ _ _ _, Kd.R_nil _ _ _ _ _, HB4.out⟩
  | true =>
    by_cases d1 : ct < tt
    · have d1b : decide (ct < tt) = true := decide_eq_true d1
      have H := H.out
      rw [if_neg (by simp; omega)] at H
      injection H with h4 h5; injection h5 with h5 h6
      subst h4; subst h5; subst h6
      clear d1
      go_enter Try.func71, Try.ntmps71
      go_wp2_with (first | (go_at_call 66; (with_reducible refine (hist_Threshold.calls z _ _ HTh.out).mono ?_); rintro e w1 ⟨rfl, hb⟩; have HB1 := Aside0.mk (below_then (below_alloc (Below.refl w.heap.size w) (.cells #[.int .i64 s, .int .u64 z, .int .u64 zc, .int .u64 ct, .int .u64 sm, .slice A5 l5.length c5, .slice A6 l6.length c6, .slice A7 l7.length c7, .slice A8 l8.length c8] 26)) (by simp) hb.below); have HX1 := Aside0.mk (blk_below (blk_new w (.cells #[.int .i64 s, .int .u64 z, .int .u64 zc, .int .u64 ct, .int .u64 sm, .slice A5 l5.length c5, .slice A6 l6.length c6, .slice A7 l7.length c7, .slice A8 l8.length c8] 26)) hb.below); have hf := fun i => blk_cell HX1.out i; clear hb) | (go_at_call 107; (with_reducible refine (hist_side.calls _ _ l5 _ _ l7 p _ _ (Kd.C_below HRA.out.1 HB1.out) HCA.out.1 (Kd.C_below HRA.out.2.2.1 HB1.out) HCA.out.2.2.1 HS5.out).mono ?_); rintro e w2 ⟨v2, rfl, ho2, hb⟩; have HB2 := Aside0.mk (below_then HB1.out HB1.out.size hb); have HX2 := Aside0.mk (blk_below HX1.out hb); have hf2 := fun i => blk_cell HX2.out i; have HO2 := Aside0.mk (Kd.R_mono (ok' := fun k => k < w2.heap.size ∧ w.heap.size ≤ k) (Kd.R_lower (Kd.R_bound ho2) HB1.out.size) (fun k hk => ⟨hk.2.2.1, Nat.le_trans HB1.out.size hk.2.1⟩)); obtain ⟨B2, d2, eo2⟩ := Kd.R_slice ho2; subst eo2; clear ho2 hb) | (go_at_call 107; (with_reducible refine (hist_side.calls _ _ l6 _ _ l8 n _ _ (Kd.C_below HRA.out.2.1 HB2.out) HCA.out.2.1 (Kd.C_below HRA.out.2.2.2 HB2.out) HCA.out.2.2.2 HS6.out).mono ?_); rintro e w3 ⟨v3, rfl, ho3, hb⟩; have HB3 := Aside0.mk (below_then HB2.out HB2.out.size hb); have HX3 := Aside0.mk (blk_below HX2.out hb); have hf3 := fun i => blk_cell HX3.out i; have HO3 := Aside0.mk (And.intro (Kd.R_below HO2.out hb) (Kd.R_mono (ok' := fun k => w2.heap.size ≤ k ∧ w.heap.size ≤ k) (Kd.R_lower (Kd.R_bound ho3) HB2.out.size) (fun k hk => ⟨hk.2.1, Nat.le_trans HB2.out.size hk.2.1⟩))); obtain ⟨B3, d3, eo3⟩ := Kd.R_slice ho3; subst eo3; clear ho3 hb) | (go_at_call 108; refine (hist_total s z zc ct sm _ _ _ _ _ _ _ _ _ _ _ _ w3.heap.size _ [p, n] _ HV.out.1 HV.out.2.1 HV.out.2.2 (by simp) (by simp) (rowsAt_two HO3.out.1 HO3.out.2)).mono ?_; rintro e w4 ⟨rfl, hb⟩; rw [HTot.out]; have HB4 := Aside0.mk (below_then HB3.out HB3.out.size (below_then (below_alloc (Below.refl _ _) _) (by simp) hb)); have HX4 := Aside0.mk (blk_below HX3.out (below_then (below_alloc (Below.refl _ _) _) (by simp) hb)); have hf4 := fun i => blk_cell HX4.out i; have HO4 := Aside0.mk (And.intro (Kd.R_below HO3.out.1 (below_then (below_alloc (Below.refl _ _) _) (by simp) hb)) (Kd.R_below HO3.out.2 (below_then (below_alloc (Below.refl _ _) _) (by simp) hb))); clear hb))
      go_ret3
      exact ⟨_, _, rfl, Kd.R_nil _ _ _ _ _, Kd.R_nil _ _ _ _ _, HB4.out⟩
    have d1b : decide (ct < tt) = false := decide_eq_false d1
    by_cases d2 : tt < ct
    · have d2b : decide (tt < ct) = true := decide_eq_true d2
      cases bn with
      | false =>
        have H := H.out
        rw [if_neg (by simp; omega)] at H
        injection H with h4 h5; injection h5 with h5 h6
        subst h4; subst h5; subst h6
        clear d1 d2
        go_enter Try.func71, Try.ntmps71
        go_wp2_with (first | (go_at_call 66; (with_reducible refine (hist_Threshold.calls z _ _ HTh.out).mono ?_); rintro e w1 ⟨rfl, hb⟩; have HB1 := Aside0.mk (below_then (below_alloc (Below.refl w.heap.size w) (.cells #[.int .i64 s, .int .u64 z, .int .u64 zc, .int .u64 ct, .int .u64 sm, .slice A5 l5.length c5, .slice A6 l6.length c6, .slice A7 l7.length c7, .slice A8 l8.length c8] 26)) (by simp) hb.below); have HX1 := Aside0.mk (blk_below (blk_new w (.cells #[.int .i64 s, .int .u64 z, .int .u64 zc, .int .u64 ct, .int .u64 sm, .slice A5 l5.length c5, .slice A6 l6.length c6, .slice A7 l7.length c7, .slice A8 l8.length c8] 26)) hb.below); have hf := fun i => blk_cell HX1.out i; clear hb) | (go_at_call 107; (with_reducible refine (hist_side.calls _ _ l5 _ _ l7 p _ _ (Kd.C_below HRA.out.1 HB1.out) HCA.out.1 (Kd.C_below HRA.out.2.2.1 HB1.out) HCA.out.2.2.1 HS5.out).mono ?_); rintro e w2 ⟨v2, rfl, ho2, hb⟩; have HB2 := Aside0.mk (below_then HB1.out HB1.out.size hb); have HX2 := Aside0.mk (blk_below HX1.out hb); have hf2 := fun i => blk_cell HX2.out i; have HO2 := Aside0.mk (Kd.R_mono (ok' := fun k => k < w2.heap.size ∧ w.heap.size ≤ k) (Kd.R_lower (Kd.R_bound ho2) HB1.out.size) (fun k hk => ⟨hk.2.2.1, Nat.le_trans HB1.out.size hk.2.1⟩)); obtain ⟨B2, d2, eo2⟩ := Kd.R_slice ho2; subst eo2; clear ho2 hb) | (go_at_call 107; (with_reducible refine (hist_side.calls _ _ l6 _ _ l8 n _ _ (Kd.C_below HRA.out.2.1 HB2.out) HCA.out.2.1 (Kd.C_below HRA.out.2.2.2 HB2.out) HCA.out.2.2.2 HS6.out).mono ?_); rintro e w3 ⟨v3, rfl, ho3, hb⟩; have HB3 := Aside0.mk (below_then HB2.out HB2.out.size hb); have HX3 := Aside0.mk (blk_below HX2.out hb); have hf3 := fun i => blk_cell HX3.out i; have HO3 := Aside0.mk (And.intro (Kd.R_below HO2.out hb) (Kd.R_mono (ok' := fun k => w2.heap.size ≤ k ∧ w.heap.size ≤ k) (Kd.R_lower (Kd.R_bound ho3) HB2.out.size) (fun k hk => ⟨hk.2.1, Nat.le_trans HB2.out.size hk.2.1⟩))); obtain ⟨B3, d3, eo3⟩ := Kd.R_slice ho3; subst eo3; clear ho3 hb) | (go_at_call 108; refine (hist_total s z zc ct sm _ _ _ _ _ _ _ _ _ _ _ _ w3.heap.size _ [p, n] _ HV.out.1 HV.out.2.1 HV.out.2.2 (by simp) (by simp) (rowsAt_two HO3.out.1 HO3.out.2)).mono ?_; rintro e w4 ⟨rfl, hb⟩; rw [HTot.out]; have HB4 := Aside0.mk (below_then HB3.out HB3.out.size (below_then (below_alloc (Below.refl _ _) _) (by simp) hb)); have HX4 := Aside0.mk (blk_below HX3.out (below_then (below_alloc (Below.refl _ _) _) (by simp) hb)); have hf4 := fun i => blk_cell HX4.out i; have HO4 := Aside0.mk (And.intro (Kd.R_below HO3.out.1 (below_then (below_alloc (Below.refl _ _) _) (by simp) hb)) (Kd.R_below HO3.out.2 (below_then (below_alloc (Below.refl _ _) _) (by simp) hb))); clear hb) | (go_at_call 65; (with_reducible refine (hist_NaN.calls sm _ _ HNa.out).mono ?_); rintro e w5 ⟨rfl, hb⟩; have HB5 := Aside0.mk (below_then HB4.out HB4.out.size hb.below); have HX5 := Aside0.mk (blk_below HX4.out hb.below); have hf5 := fun i => blk_cell HX5.out i; have HO5 := Aside0.mk (And.intro (Kd.R_below HO4.out.1 hb.below) (Kd.R_below HO4.out.2 hb.below)); clear hb))
        go_ret3
        exact ⟨_, _, rfl, Kd.R_nil _ _ _ _ _, Kd.R_nil _ _ _ _ _, HB5.out⟩
      | true =>
        have H := H.out
        rw [if_pos (by simp; omega)] at H
        injection H with h4 h5; injection h5 with h5 h6
        subst h4; subst h5; subst h6
        clear d1 d2
        go_enter Try.func71, Try.ntmps71
        go_wp2_with (first | (go_at_call 66; (with_reducible refine (hist_Threshold.calls z _ _ HTh.out).mono ?_); rintro e w1 ⟨rfl, hb⟩; have HB1 := Aside0.mk (below_then (below_alloc (Below.refl w.heap.size w) (.cells #[.int .i64 s, .int .u64 z, .int .u64 zc, .int .u64 ct, .int .u64 sm, .slice A5 l5.length c5, .slice A6 l6.length c6, .slice A7 l7.length c7, .slice A8 l8.length c8] 26)) (by simp) hb.below); have HX1 := Aside0.mk (blk_below (blk_new w (.cells #[.int .i64 s, .int .u64 z, .int .u64 zc, .int .u64 ct, .int .u64 sm, .slice A5 l5.length c5, .slice A6 l6.length c6, .slice A7 l7.length c7, .slice A8 l8.length c8] 26)) hb.below); have hf := fun i => blk_cell HX1.out i; clear hb) | (go_at_call 107; (with_reducible refine (hist_side.calls _ _ l5 _ _ l7 p _ _ (Kd.C_below HRA.out.1 HB1.out) HCA.out.1 (Kd.C_below HRA.out.2.2.1 HB1.out) HCA.out.2.2.1 HS5.out).mono ?_); rintro e w2 ⟨v2, rfl, ho2, hb⟩; have HB2 := Aside0.mk (below_then HB1.out HB1.out.size hb); have HX2 := Aside0.mk (blk_below HX1.out hb); have hf2 := fun i => blk_cell HX2.out i; have HO2 := Aside0.mk (Kd.R_mono (ok' := fun k => k < w2.heap.size ∧ w.heap.size ≤ k) (Kd.R_lower (Kd.R_bound ho2) HB1.out.size) (fun k hk => ⟨hk.2.2.1, Nat.le_trans HB1.out.size hk.2.1⟩)); obtain ⟨B2, d2, eo2⟩ := Kd.R_slice ho2; subst eo2; clear ho2 hb) | (go_at_call 107; (with_reducible refine (hist_side.calls _ _ l6 _ _ l8 n _ _ (Kd.C_below HRA.out.2.1 HB2.out) HCA.out.2.1 (Kd.C_below HRA.out.2.2.2 HB2.out) HCA.out.2.2.2 HS6.out).mono ?_); rintro e w3 ⟨v3, rfl, ho3, hb⟩; have HB3 := Aside0.mk (below_then HB2.out HB2.out.size hb); have HX3 := Aside0.mk (blk_below HX2.out hb); have hf3 := fun i => blk_cell HX3.out i; have HO3 := Aside0.mk (And.intro (Kd.R_below HO2.out hb) (Kd.R_mono (ok' := fun k => w2.heap.size ≤ k ∧ w.heap.size ≤ k) (Kd.R_lower (Kd.R_bound ho3) HB2.out.size) (fun k hk => ⟨hk.2.1, Nat.le_trans HB2.out.size hk.2.1⟩))); obtain ⟨B3, d3, eo3⟩ := Kd.R_slice ho3; subst eo3; clear ho3 hb) | (go_at_call 108; refine (hist_total s z zc ct sm _ _ _ _ _ _ _ _ _ _ _ _ w3.heap.size _ [p, n] _ HV.out.1 HV.out.2.1 HV.out.2.2 (by simp) (by simp) (rowsAt_two HO3.out.1 HO3.out.2)).mono ?_; rintro e w4 ⟨rfl, hb⟩; rw [HTot.out]; have HB4 := Aside0.mk (below_then HB3.out HB3.out.size (below_then (below_alloc (Below.refl _ _) _) (by simp) hb)); have HX4 := Aside0.mk (blk_below HX3.out (below_then (below_alloc (Below.refl _ _) _) (by simp) hb)); have hf4 := fun i => blk_cell HX4.out i; have HO4 := Aside0.mk (And.intro (Kd.R_below HO3.out.1 (below_then (below_alloc (Below.refl _ _) _) (by simp) hb)) (Kd.R_below HO3.out.2 (below_then (below_alloc (Below.refl _ _) _) (by simp) hb))); clear hb) | (go_at_call 65; (with_reducible refine (hist_NaN.calls sm _ _ HNa.out).mono ?_); rintro e w5 ⟨rfl, hb⟩; have HB5 := Aside0.mk (below_then HB4.out HB4.out.size hb.below); have HX5 := Aside0.mk (blk_below HX4.out hb.below); have hf5 := fun i => blk_cell HX5.out i; have HO5 := Aside0.mk (And.intro (Kd.R_below HO4.out.1 hb.below) (Kd.R_below HO4.out.2 hb.below)); clear hb))
        go_ret3
        exact ⟨_, _, rfl, (R_apart_two HO5.out.1 HO5.out.2).1, (R_apart_two HO5.out.1 HO5.out.2).2, HB5.out⟩
    · have d2b : decide (tt < ct) = false := decide_eq_false d2
      have H := H.out
      rw [if_pos (by simp; omega)] at H
      injection H with h4 h5; injection h5 with h5 h6
      subst h4; subst h5; subst h6
      clear d1 d2
      go_enter Try.func71, Try.ntmps71
      go_wp2_with (first | (go_at_call 66; (with_reducible refine (hist_Threshold.calls z _ _ HTh.out).mono ?_); rintro e w1 ⟨rfl, hb⟩; have HB1 := Aside0.mk (below_then (below_alloc (Below.refl w.heap.size w) (.cells #[.int .i64 s, .int .u64 z, .int .u64 zc, .int .u64 ct, .int .u64 sm, .slice A5 l5.length c5, .slice A6 l6.length c6, .slice A7 l7.length c7, .slice A8 l8.length c8] 26)) (by simp) hb.below); have HX1 := Aside0.mk (blk_below (blk_new w (.cells #[.int .i64 s, .int .u64 z, .int .u64 zc, .int .u64 ct, .int .u64 sm, .slice A5 l5.length c5, .slice A6 l6.length c6, .slice A7 l7.length c7, .slice A8 l8.length c8] 26)) hb.below); have hf := fun i => blk_cell HX1.out i; clear hb) | (go_at_call 107; (with_reducible refine (hist_side.calls _ _ l5 _ _ l7 p _ _ (Kd.C_below HRA.out.1 HB1.out) HCA.out.1 (Kd.C_below HRA.out.2.2.1 HB1.out) HCA.out.2.2.1 HS5.out).mono ?_); rintro e w2 ⟨v2, rfl, ho2, hb⟩; have HB2 := Aside0.mk (below_then HB1.out HB1.out.size hb); have HX2 := Aside0.mk (blk_below HX1.out hb); have hf2 := fun i => blk_cell HX2.out i; have HO2 := Aside0.mk (Kd.R_mono (ok' := fun k => k < w2.heap.size ∧ w.heap.size ≤ k) (Kd.R_lower (Kd.R_bound ho2) HB1.out.size) (fun k hk => ⟨hk.2.2.1, Nat.le_trans HB1.out.size hk.2.1⟩)); obtain ⟨B2, d2, eo2⟩ := Kd.R_slice ho2; subst eo2; clear ho2 hb) | (go_at_call 107; (with_reducible refine (hist_side.calls _ _ l6 _ _ l8 n _ _ (Kd.C_below HRA.out.2.1 HB2.out) HCA.out.2.1 (Kd.C_below HRA.out.2.2.2 HB2.out) HCA.out.2.2.2 HS6.out).mono ?_); rintro e w3 ⟨v3, rfl, ho3, hb⟩; have HB3 := Aside0.mk (below_then HB2.out HB2.out.size hb); have HX3 := Aside0.mk (blk_below HX2.out hb); have hf3 := fun i => blk_cell HX3.out i; have HO3 := Aside0.mk (And.intro (Kd.R_below HO2.out hb) (Kd.R_mono (ok' := fun k => w2.heap.size ≤ k ∧ w.heap.size ≤ k) (Kd.R_lower (Kd.R_bound ho3) HB2.out.size) (fun k hk => ⟨hk.2.1, Nat.le_trans HB2.out.size hk.2.1⟩))); obtain ⟨B3, d3, eo3⟩ := Kd.R_slice ho3; subst eo3; clear ho3 hb) | (go_at_call 108; refine (hist_total s z zc ct sm _ _ _ _ _ _ _ _ _ _ _ _ w3.heap.size _ [p, n] _ HV.out.1 HV.out.2.1 HV.out.2.2 (by simp) (by simp) (rowsAt_two HO3.out.1 HO3.out.2)).mono ?_; rintro e w4 ⟨rfl, hb⟩; rw [HTot.out]; have HB4 := Aside0.mk (below_then HB3.out HB3.out.size (below_then (below_alloc (Below.refl _ _) _) (by simp) hb)); have HX4 := Aside0.mk (blk_below HX3.out (below_then (below_alloc (Below.refl _ _) _) (by simp) hb)); have hf4 := fun i => blk_cell HX4.out i; have HO4 := Aside0.mk (And.intro (Kd.R_below HO3.out.1 (below_then (below_alloc (Below.refl _ _) _) (by simp) hb)) (Kd.R_below HO3.out.2 (below_then (below_alloc (Below.refl _ _) _) (by simp) hb))); clear hb))
      go_ret3
      exact ⟨_, _, rfl, (R_apart_two HO4.out.1 HO4.out.2).1, (R_apart_two HO4.out.1 HO4.out.2).2, HB4.out⟩
end Go.Proofs.Ytfbjjbbhnmoolaa.P
namespace Go.Proofs.Ytfbjjbbhnmoolaa.P
section
variable {α : Type} (key val : α → Int)
def Ups (l : List α) : Prop := l.Pairwise (fun a b => key a < key b)
variable {key val}
theorem Ups.nil : Ups key ([] : List α) := List.Pairwise.nil
theorem Ups.tail {x : α} {l : List α} (h : Ups key (x :: l)) : Ups key l := (List.pairwise_cons.1 h).2
theorem Ups.head {x : α} {l : List α} (h : Ups key (x :: l)) : ∀ y ∈ l, key x < key y := (List.pairwise_cons.1 h).1
theorem Ups.filter {l : List α} (p : α → Bool) (h : Ups key l) : Ups key (l.filter p) := List.Pairwise.filter p h
theorem Ups.inj {l : List α} (hu : Ups key l) {x y : α} (hx : x ∈ l) (hy : y ∈ l) (h : key x = key y) : x = y := by
  induction l with
  | nil => cases hx
  | cons z l ih =>
    rcases List.mem_cons.1 hx with e1 | hx1
    · rcases List.mem_cons.1 hy with e2 | hy1
      · rw [e1, e2]
      · have := hu.head y hy1; rw [e1] at h; omega
    · rcases List.mem_cons.1 hy with e2 | hy1
      · have := hu.head x hx1; rw [e2] at h; omega
      · exact ih hu.tail hx1 hy1
end
section
variable {β α ρ : Type}
end
section
variable {α : Type} {key val : α → Int}
end
section
variable {α : Type}
variable {key : α → Int} {join : α → α → α}
end
end Go.Proofs.Ytfbjjbbhnmoolaa.P
namespace Go.Proofs.Ytfbjjbbhnmoolaa.P
open Go.RowKit Go.Shelf Go.Proofs.YtfbjjbbhnmoolaaW.PrintWords Go.Proofs.YtfbjjbbhnmoolaaW.PrintLast Go.Proofs.YtfbjjbbhnmoolaaW.PrintMore
def SI {α : Type} (d : Kd α) (w : World) (v : Value) (l : List α) : Prop := ∃ A c, v = .slice A l.length c ∧ l.length ≤ c ∧ d.C w A l.length l
theorem SI.below {α : Type} {d : Kd α} {w w' : World} {v : Value} {l : List α} (h : SI d w v l) (hb : Below w.heap.size w w') : SI d w' v l := by
  obtain ⟨A, c, e, h1, h2⟩ := h
  exact ⟨A, c, e, h1, Kd.C_below h2 hb⟩
theorem SI.of {α : Type} {d : Kd α} {w : World} {A : Option Addr} {c : Nat} {l : List α} (h2 : d.C w A l.length l) (h1 : l.length ≤ c) : SI d w (.slice A l.length c) l := ⟨A, c, rfl, h1, h2⟩
theorem SI.of_R {α : Type} {d : Kd α} {e : Nat} {w : World} {base : Nat} {ok : Nat → Prop} {v : Value} {l : List α} (h : d.R e w base ok v l) : SI d w v l := Kd.R_reads h
theorem SI.nil {α : Type} (d : Kd α) (w : World) : SI d w (.slice none 0 0) [] := ⟨none, 0, rfl, Nat.le_refl _, Kd.C_nil d w⟩
abbrev Hi := S26
abbrev kSp := k86
def HI (w : World) (v : Value) (h : Hi) : Prop :=
  ∃ v5 v6 v7 v8, v = .agg #[.int .i64 h.f0, .int .u64 h.f1, .int .u64 h.f2, .int .u64 h.f3, .int .u64 h.f4, v5, v6, v7, v8] ∧ SI kSp w v5 h.f5 ∧ SI kSp w v6 h.f6 ∧ SI (Kd.int .i64) w v7 h.f7 ∧ SI (Kd.int .i64) w v8 h.f8
theorem HI.below {w w' : World} {v : Value} {h : Hi} (x : HI w v h) (hb : Below w.heap.size w w') : HI w' v h := by
  obtain ⟨v5, v6, v7, v8, e, h5, h6, h7, h8⟩ := x
  exact ⟨v5, v6, v7, v8, e, h5.below hb, h6.below hb, h7.below hb, h8.below hb⟩
theorem HI.open_ {w : World} {v : Value} {h : Hi} (x : HI w v h) : ∃ A5 c5 A6 c6 A7 c7 A8 c8, v = .agg #[.int .i64 h.f0, .int .u64 h.f1, .int .u64 h.f2, .int .u64 h.f3, .int .u64 h.f4, .slice A5 h.f5.length c5, .slice A6 h.f6.length c6, .slice A7 h.f7.length c7, .slice A8 h.f8.length c8] ∧
    SI kSp w (.slice A5 h.f5.length c5) h.f5 ∧ SI kSp w (.slice A6 h.f6.length c6) h.f6 ∧ SI (Kd.int .i64) w (.slice A7 h.f7.length c7) h.f7 ∧ SI (Kd.int .i64) w (.slice A8 h.f8.length c8) h.f8 := by
  obtain ⟨v5, v6, v7, v8, rfl, h5, h6, h7, h8⟩ := x
  obtain ⟨A5, c5, rfl, h51, h52⟩ := h5
  obtain ⟨A6, c6, rfl, h61, h62⟩ := h6
  obtain ⟨A7, c7, rfl, h71, h72⟩ := h7
  obtain ⟨A8, c8, rfl, h81, h82⟩ := h8
  exact ⟨A5, c5, A6, c6, A7, c7, A8, c8, rfl, .of h52 h51, .of h62 h61, .of h72 h71, .of h82 h81⟩
theorem HI.mk {w : World} {h : Hi} {v5 v6 v7 v8 : Value} (h5 : SI kSp w v5 h.f5) (h6 : SI kSp w v6 h.f6) (h7 : SI (Kd.int .i64) w v7 h.f7) (h8 : SI (Kd.int .i64) w v8 h.f8) :
    HI w (.agg #[.int .i64 h.f0, .int .u64 h.f1, .int .u64 h.f2, .int .u64 h.f3, .int .u64 h.f4, v5, v6, v7, v8]) h := ⟨v5, v6, v7, v8, rfl, h5, h6, h7, h8⟩
def wfH (h : Hi) : Prop := wfHi h.f0 h.f1 h.f2 h.f3 h.f4 h.f5 h.f6 h.f7 h.f8
def openR (h : Hi) : List Pr × List Pr × Int := openRes h.f0 h.f1 h.f2 h.f3 h.f4 h.f5 h.f6 h.f7 h.f8
def checkR (h : Hi) : Int := (openR h).2.2
end Go.Proofs.Ytfbjjbbhnmoolaa.P
namespace Go.Proofs.Ytfbjjbbhnmoolaa.P
open Go.RowKit Go.Shelf Go.Proofs.YtfbjjbbhnmoolaaW.PrintWords Go.Proofs.YtfbjjbbhnmoolaaW.PrintLast Go.Proofs.YtfbjjbbhnmoolaaW.PrintMore
def KA (base : Nat) (w w' : World) : Prop := w.heap.size ≤ w'.heap.size ∧ ∀ k, base ≤ k → k < w.heap.size → w'.heap[k]? = w.heap[k]?
theorem KA.refl (base : Nat) (w : World) : KA base w w := ⟨Nat.le_refl _, fun _ _ _ => rfl⟩
theorem KA.trans {base : Nat} {a b c : World} (h : KA base a b) (k : KA base b c) : KA base a c := ⟨Nat.le_trans h.1 k.1, fun i h0 h1 => (k.2 i h0 (Nat.lt_of_lt_of_le h1 h.1)).trans (h.2 i h0 h1)⟩
theorem KA.below {base : Nat} {w w' : World} (h : Below w.heap.size w w') : KA base w w' := ⟨h.size, fun k _ h1 => h.block k h1⟩
theorem KA.set {base b i : Nat} (w : World) (hb : b < base) (u : Value) : KA base w (w.setCell ⟨b, i, none⟩ u) := ⟨by simp [World.setCell], fun k h0 _ => Below.heap_setCell w ⟨b, i, none⟩ u k (by show k ≠ b; omega)⟩
def FI {α : Type} (d : Kd α) (base : Nat) (w : World) (v : Value) (l : List α) : Prop := ∀ w', KA base w w' → SI d w' v l
theorem FI.now {α : Type} {d : Kd α} {base : Nat} {w : World} {v : Value} {l : List α} (h : FI d base w v l) : SI d w v l := h w (KA.refl _ _)
theorem FI.at_ {α : Type} {d : Kd α} {base : Nat} {w w' : World} {v : Value} {l : List α} (h : FI d base w v l) (k : KA base w w') : SI d w' v l := h w' k
theorem FI.step {α : Type} {d : Kd α} {base : Nat} {w w' : World} {v : Value} {l : List α} (h : FI d base w v l) (k : KA base w w') : FI d base w' v l := fun w2 h2 => h w2 (k.trans h2)
theorem FI.of_R {α : Type} {d : Kd α} {e : Nat} {w : World} {base b : Nat} {ok : Nat → Prop} {v : Value} {l : List α} (h : d.R e w b ok v l) (hb : base ≤ b) : FI d base w v l := fun w' hk =>
  .of_R (Kd.R_step (Kd.R_bound h) (fun k ho hlt => hk.2 k (Nat.le_trans hb ho.2.1) hlt))
theorem FI.slice {α : Type} {d : Kd α} {base : Nat} {w : World} {v : Value} {l : List α} (h : FI d base w v l) : ∃ A c, v = .slice A l.length c := by obtain ⟨A, c, e, _⟩ := h.now; exact ⟨A, c, e⟩
set_option maxHeartbeats 1000000 in
theorem nine {W : World} {g : Nat} {t : TypeId} {a0 a1 a2 a3 a4 a5 a6 a7 a8 : Value} (h : W.heap[g]? = some (.cells #[a0, a1, a2, a3, a4, a5, a6, a7, a8] t (0, 0))) (v0 v1 v2 v3 v4 v5 v6 v7 v8 : Value) :
    (((((((((W.setCell ⟨g, 0, none⟩ v0).setCell ⟨g, 1, none⟩ v1).setCell ⟨g, 2, none⟩ v2).setCell ⟨g, 3, none⟩ v3).setCell ⟨g, 4, none⟩ v4).setCell ⟨g, 5, none⟩ v5).setCell ⟨g, 6, none⟩ v6).setCell ⟨g, 7, none⟩ v7).setCell ⟨g, 8, none⟩ v8).heap[g]? = some (.cells #[v0, v1, v2, v3, v4, v5, v6, v7, v8] t (0, 0)) := by
  refine blk_put (cs := #[v0, v1, v2, v3, v4, v5, v6, v7, a8]) ?_ 8 _ rfl
  refine blk_put (cs := #[v0, v1, v2, v3, v4, v5, v6, a7, a8]) ?_ 7 _ rfl
  refine blk_put (cs := #[v0, v1, v2, v3, v4, v5, a6, a7, a8]) ?_ 6 _ rfl
  refine blk_put (cs := #[v0, v1, v2, v3, v4, a5, a6, a7, a8]) ?_ 5 _ rfl
  refine blk_put (cs := #[v0, v1, v2, v3, a4, a5, a6, a7, a8]) ?_ 4 _ rfl
  refine blk_put (cs := #[v0, v1, v2, a3, a4, a5, a6, a7, a8]) ?_ 3 _ rfl
  refine blk_put (cs := #[v0, v1, a2, a3, a4, a5, a6, a7, a8]) ?_ 2 _ rfl
  refine blk_put (cs := #[v0, a1, a2, a3, a4, a5, a6, a7, a8]) ?_ 1 _ rfl
  refine blk_put (cs := #[a0, a1, a2, a3, a4, a5, a6, a7, a8]) ?_ 0 _ rfl
  exact h
theorem FI.lower {α : Type} {d : Kd α} {base b : Nat} {w : World} {v : Value} {l : List α} (h : FI d b w v l) (hb : base ≤ b) : FI d base w v l := fun w' k => h w' ⟨k.1, fun i h0 h1 => k.2 i (Nat.le_trans hb h0) h1⟩
theorem belowS {B : Nat} {w W : World} {g i j : Nat} {u u' : Value} (_ : w.heap.size ≤ W.heap.size) (h : Below B w W) (hg : B ≤ g := by exact Nat.le_refl _) : Below B w ((W.setCell ⟨g, i, none⟩ u).setCell ⟨g, j, none⟩ u') := (h.setCell (p := ⟨g, i, none⟩) hg u).setCell (p := ⟨g, j, none⟩) hg u'
theorem nine_below {B : Nat} {w W : World} {g : Nat} (h : Below B w W) (hg : B ≤ g) (v0 v1 v2 v3 v4 v5 v6 v7 v8 : Value) :
    Below B w (((((((((W.setCell ⟨g, 0, none⟩ v0).setCell ⟨g, 1, none⟩ v1).setCell ⟨g, 2, none⟩ v2).setCell ⟨g, 3, none⟩ v3).setCell ⟨g, 4, none⟩ v4).setCell ⟨g, 5, none⟩ v5).setCell ⟨g, 6, none⟩ v6).setCell ⟨g, 7, none⟩ v7).setCell ⟨g, 8, none⟩ v8) :=
  (((((((((h.setCell (p := ⟨g, 0, none⟩) hg v0).setCell (p := ⟨g, 1, none⟩) hg v1).setCell (p := ⟨g, 2, none⟩) hg v2).setCell (p := ⟨g, 3, none⟩) hg v3).setCell (p := ⟨g, 4, none⟩) hg v4).setCell (p := ⟨g, 5, none⟩) hg v5).setCell (p := ⟨g, 6, none⟩) hg v6).setCell (p := ⟨g, 7, none⟩) hg v7).setCell (p := ⟨g, 8, none⟩) hg v8)
theorem nine_ka {base : Nat} {w W : World} {g : Nat} (h : KA base w W) (hg : g < base) (v0 v1 v2 v3 v4 v5 v6 v7 v8 : Value) :
    KA base w (((((((((W.setCell ⟨g, 0, none⟩ v0).setCell ⟨g, 1, none⟩ v1).setCell ⟨g, 2, none⟩ v2).setCell ⟨g, 3, none⟩ v3).setCell ⟨g, 4, none⟩ v4).setCell ⟨g, 5, none⟩ v5).setCell ⟨g, 6, none⟩ v6).setCell ⟨g, 7, none⟩ v7).setCell ⟨g, 8, none⟩ v8) :=
  h.trans (((((((((KA.set _ hg _).trans (KA.set _ hg _)).trans (KA.set _ hg _)).trans (KA.set _ hg _)).trans (KA.set _ hg _)).trans (KA.set _ hg _)).trans (KA.set _ hg _)).trans (KA.set _ hg _)).trans (KA.set _ hg _))
def wfRow (l : List Pr) : Prop := wfPrs l ∧ l.length < 4398046511104
def emptyH : Hi := ⟨0, 0, 0, 0, 0, [], [], [], []⟩
def HF (base : Nat) (w : World) (v : Value) (h : Hi) : Prop :=
  ∃ v5 v6 v7 v8, v = .agg #[.int .i64 h.f0, .int .u64 h.f1, .int .u64 h.f2, .int .u64 h.f3, .int .u64 h.f4, v5, v6, v7, v8] ∧ FI kSp base w v5 h.f5 ∧ FI kSp base w v6 h.f6 ∧ FI (Kd.int .i64) base w v7 h.f7 ∧ FI (Kd.int .i64) base w v8 h.f8
theorem HF.now {base : Nat} {w : World} {v : Value} {h : Hi} (x : HF base w v h) : HI w v h := by
  obtain ⟨v5, v6, v7, v8, e, h5, h6, h7, h8⟩ := x
  exact ⟨v5, v6, v7, v8, e, h5.now, h6.now, h7.now, h8.now⟩
theorem HF.step {base : Nat} {w w' : World} {v : Value} {h : Hi} (x : HF base w v h) (k : KA base w w') : HF base w' v h := by
  obtain ⟨v5, v6, v7, v8, e, h5, h6, h7, h8⟩ := x
  exact ⟨v5, v6, v7, v8, e, h5.step k, h6.step k, h7.step k, h8.step k⟩
theorem HF.lower {base b : Nat} {w : World} {v : Value} {h : Hi} (x : HF b w v h) (hb : base ≤ b) : HF base w v h := by
  obtain ⟨v5, v6, v7, v8, e, h5, h6, h7, h8⟩ := x
  exact ⟨v5, v6, v7, v8, e, h5.lower hb, h6.lower hb, h7.lower hb, h8.lower hb⟩
theorem HF.mk {base : Nat} {w : World} {h : Hi} {v5 v6 v7 v8 : Value} (h5 : FI kSp base w v5 h.f5) (h6 : FI kSp base w v6 h.f6) (h7 : FI (Kd.int .i64) base w v7 h.f7) (h8 : FI (Kd.int .i64) base w v8 h.f8) :
    HF base w (.agg #[.int .i64 h.f0, .int .u64 h.f1, .int .u64 h.f2, .int .u64 h.f3, .int .u64 h.f4, v5, v6, v7, v8]) h := ⟨v5, v6, v7, v8, rfl, h5, h6, h7, h8⟩
theorem HF.empty (base : Nat) (w : World) : HF base w (.agg #[.int .i64 0, .int .u64 0, .int .u64 0, .int .u64 0, .int .u64 0, .slice none 0 0, .slice none 0 0, .slice none 0 0, .slice none 0 0]) emptyH :=
  HF.mk (h := emptyH) (fun w _ => SI.nil _ w) (fun w _ => SI.nil _ w) (fun w _ => SI.nil _ w) (fun w _ => SI.nil _ w)
theorem HF.open_ {base : Nat} {w : World} {v : Value} {h : Hi} (x : HF base w v h) : ∃ A5 c5 A6 c6 A7 c7 A8 c8, v = .agg #[.int .i64 h.f0, .int .u64 h.f1, .int .u64 h.f2, .int .u64 h.f3, .int .u64 h.f4, .slice A5 h.f5.length c5, .slice A6 h.f6.length c6, .slice A7 h.f7.length c7, .slice A8 h.f8.length c8] := by
  obtain ⟨A5, c5, A6, c6, A7, c7, A8, c8, e, -⟩ := x.now.open_
  exact ⟨A5, c5, A6, c6, A7, c7, A8, c8, e⟩
end Go.Proofs.Ytfbjjbbhnmoolaa.P
namespace Go.Proofs.Ytfbjjbbhnmoolaa.P
open Go.RowKit Go.Shelf Go.Proofs.YtfbjjbbhnmoolaaW.PrintWords Go.Proofs.YtfbjjbbhnmoolaaW.PrintLast Go.Proofs.YtfbjjbbhnmoolaaW.PrintMore
abbrev kPu := k137
def u64s (l : List Int) : Prop := ∀ x ∈ l, u64 x
instance (l : List Int) : Decidable (u64s l) := by unfold u64s; exact inferInstance
def rightF (v : Int) : Bool := decide (v < 9218868437227405312)
theorem thresh_c (v : Int) (w : World) : Calls Try.prog 66 #[.int .u64 v] w fun e w' => e = .returned (.bool (rightF v)) ∧ Below w.heap.size w w' := (hist_Threshold.calls v _ w rfl).mono fun e w1 h => ⟨h.1, h.2.below⟩
theorem right_c (v : Int) (w : World) : Calls Try.prog 82 #[.int .u64 v] w fun e w' => e = .returned (.bool (rightF v)) ∧ Below w.heap.size w w' := by
  have HT := thresh_c v
  generalize rightF v = b at *
  go_enter Try.func82, Try.ntmps82
  go_wp2_with (go_at_call 66; (with_reducible refine (HT _).mono ?_); rintro e w1 ⟨rfl, hb⟩)
  go_ret
  exact ⟨rfl, hb⟩
theorem wrong_c (v : Int) (w : World) : Calls Try.prog 124 #[.int .u64 v] w fun e w' => e = .returned (.bool (!rightF v)) ∧ Below w.heap.size w w' := by
  have HT := right_c v
  generalize rightF v = b at *
  go_enter Try.func124, Try.ntmps124
  go_wp2_with (go_at_call 82; (with_reducible refine (HT _).mono ?_); rintro e w1 ⟨rfl, hb⟩)
  go_ret
  exact ⟨rfl, hb⟩
def sideF (l : List Sp) (c : List Int) : List Pu × Int :=
  if spCheck l = 0 then (if cntN l = c.length then (if c.any (fun v => !rightF v) = true then ([], 22) else (List.zipWith (fun p x => (⟨p, x⟩ : Pu)) (plN 0 l) c, 0)) else ([], 23)) else ([], spCheck l)
theorem spCheck_c (l : List Sp) (hw : wfSps l) (w : World) (v : Value) (hv : SI kSp w v l) : Calls Try.prog 104 #[v] w fun e w' => e = .returned (.int .i64 (spCheck l)) ∧ Below w.heap.size w w' := by
  obtain ⟨A, c, rfl, hc, hr⟩ := hv
  exact span_Check.calls 2049 A c l _ w hr hc (check_eq l hw 2049 (by omega))
theorem spCount_c (l : List Sp) (hw : wfSps l) (h0 : spCheck l = 0) (w : World) (v : Value) (hv : SI kSp w v l) : Calls Try.prog 130 #[v] w fun e w' => e = .returned (.int .i64 (cntN l)) ∧ Below w.heap.size w w' := by
  obtain ⟨A, c, rfl, hc, hr⟩ := hv
  exact span_Count.calls 2049 A c l _ w hr hc (by rw [count_eq l hw 2049 (by omega), if_pos h0])
theorem anyWrong_c (c : List Int) (hm : c.length < 4398046511104) (w : World) (v : Value) (hv : SI (Kd.int .u64) w v c) : Calls Try.prog 146 #[v, .func (.func 124) #[] #[]] w fun e w' => e = .returned (.bool (c.any (fun v => !rightF v))) ∧ Below w.heap.size w w' := by
  obtain ⟨A, c', rfl, hc, hr⟩ := hv
  exact containsFunc_num_uint64 124 #[] (fun v => !rightF v) A c' c w hr hc (by omega) (fun W x _ => wrong_c x W) (enters_of Try.func124 (by kernel_rfl) rfl)
theorem zipU_c (l : List Sp) (c : List Int) (hw : wfSps l) (w : World) (v u : Value) (hv : SI kSp w v l) (hu : SI (Kd.int .u64) w u c) : Calls Try.prog 147 #[v, u] w fun e w' => ∃ v0, e = .returned (.tuple #[v0, .int .i64 (zipResU l c).2]) ∧ FI kPu w.heap.size w' v0 (zipResU l c).1 ∧ Below w.heap.size w w' := by
  obtain ⟨A, c1, rfl, hc, hr⟩ := hv
  obtain ⟨B, c2, rfl, hd, hs⟩ := hu
  refine (pairs_Zip_uint64.calls 4101 A c1 l B c2 c (zipResU l c).1 (zipResU l c).2 w hr hc hs hd (zipU_eq l c hw 4101 (by omega))).mono ?_
  rintro e w1 ⟨v0, rfl, h0, hb⟩
  exact ⟨v0, rfl, .of_R h0 (Nat.le_refl _), hb⟩
set_option maxHeartbeats 8000000 in
set_option maxRecDepth 100000 in
theorem fside_c (l : List Sp) (c : List Int) (hw : wfSps l) (hm : c.length < 4398046511104) (w : World) (v u : Value) (hv : SI kSp w v l) (hu : SI (Kd.int .u64) w u c) : Calls Try.prog 125 #[v, u] w fun e w' => ∃ v0, e = .returned (.tuple #[v0, .int .i64 (sideF l c).2]) ∧ FI kPu w.heap.size w' v0 (sideF l c).1 ∧ Below w.heap.size w w' := by
  have hv' := hv
  have hu' := hu
  obtain ⟨A, c1, e1, -⟩ := hv'
  obtain ⟨A1, c2, e2, -⟩ := hu'
  subst e1; subst e2
  have B := Aside0.mk (Below.refl w.heap.size w)
  have HV := Aside0.mk hv
  have HU := Aside0.mk hu
  have kc := spCheck_c l hw
  have kn := spCount_c l hw
  have kf := anyWrong_c c hm
  have kz := zipU_c l c hw
  have hpl : spCheck l = 0 → ((plN 0 l).length : Int) = cntN l := fun h => plN_length l 0 (fun s hs => (spRight_pos l _ _ _ (spCheck_zero h).2 s hs).1)
  have hzr : zipResU l c = if spCheck l = 0 then (if (plN 0 l).length = c.length then (List.zipWith (fun p x => (⟨p, x⟩ : Pu)) (plN 0 l) c, 0) else ([], 10)) else ([], spCheck l) := rfl
  clear hv hu hw hm
  unfold sideF
  by_cases he : spCheck l = 0
  rotate_left
  · rw [if_neg he]
    generalize spCheck l = r at *
    have d1 : (r == 0) = false := beq_eq_false_iff_ne.2 he
    have d2 : (r != 0) = true := bne_iff_ne.2 he
    have KC := Aside0.mk kc
    clear kc kn kf kz hpl hzr he
    go_enter Try.func125, Try.ntmps125
    go_wp2_with (first | (go_at_call 104; (with_reducible refine (KC.out _ _ HV.out).mono ?_); rintro e W1 ⟨rfl, hb⟩; replace B := Aside0.mk (below_then B.out B.out.size hb); replace HV := Aside0.mk (HV.out.below hb); replace HU := Aside0.mk (HU.out.below hb); clear  hb))
    go_ret2
    exact ⟨_, rfl, fun w _ => SI.nil _ w, B.out⟩
  rw [if_pos he]
  rw [he] at kc
  have KC := Aside0.mk kc
  have KN := Aside0.mk (kn he)
  have hp := hpl he
  rw [if_pos he] at hzr
  clear kc kn hpl he
  generalize cntN l = n at *
  by_cases hc : n = (c.length : Int)
  rotate_left
  · rw [if_neg hc]
    have d1 : (n == (c.length : Int)) = false := beq_eq_false_iff_ne.2 hc
    have d2 : (n != (c.length : Int)) = true := bne_iff_ne.2 hc
    clear kf kz hzr hp hc
    go_enter Try.func125, Try.ntmps125
    go_wp2_with (first | (go_at_call 104; (with_reducible refine (KC.out _ _ HV.out).mono ?_); rintro e W1 ⟨rfl, hb⟩; replace B := Aside0.mk (below_then B.out B.out.size hb); replace HV := Aside0.mk (HV.out.below hb); replace HU := Aside0.mk (HU.out.below hb); clear  hb) | (go_at_call 130; (with_reducible refine (KN.out _ _ HV.out).mono ?_); rintro e W2 ⟨rfl, hb⟩; replace B := Aside0.mk (below_then B.out B.out.size hb); replace HV := Aside0.mk (HV.out.below hb); replace HU := Aside0.mk (HU.out.below hb); clear  hb))
    go_ret2
    exact ⟨_, rfl, fun w _ => SI.nil _ w, B.out⟩
  rw [if_pos hc]
  have d1 : (n == (c.length : Int)) = true := beq_iff_eq.2 hc
  have d2 : (n != (c.length : Int)) = false := by rw [bne, d1]; rfl
  rw [if_pos (by omega)] at hzr
  rw [hzr] at kz
  clear hzr hp hc
  generalize List.zipWith (fun p x => (⟨p, x⟩ : Pu)) (plN 0 l) c = z at *
  have KZ := Aside0.mk kz
  clear kz
  generalize c.any (fun v => !rightF v) = b at *
  have KF := Aside0.mk kf
  clear kf
  cases b with
  | true =>
    rw [if_pos rfl]
    go_enter Try.func125, Try.ntmps125
    go_wp2_with (first | (go_at_call 104; (with_reducible refine (KC.out _ _ HV.out).mono ?_); rintro e W1 ⟨rfl, hb⟩; replace B := Aside0.mk (below_then B.out B.out.size hb); replace HV := Aside0.mk (HV.out.below hb); replace HU := Aside0.mk (HU.out.below hb); clear  hb) | (go_at_call 130; (with_reducible refine (KN.out _ _ HV.out).mono ?_); rintro e W2 ⟨rfl, hb⟩; replace B := Aside0.mk (below_then B.out B.out.size hb); replace HV := Aside0.mk (HV.out.below hb); replace HU := Aside0.mk (HU.out.below hb); clear  hb) | (go_at_call 146; (with_reducible refine (KF.out _ _ HU.out).mono ?_); rintro e W3 ⟨rfl, hb⟩; replace B := Aside0.mk (below_then B.out B.out.size hb); replace HV := Aside0.mk (HV.out.below hb); replace HU := Aside0.mk (HU.out.below hb); clear  hb))
    go_ret2
    exact ⟨_, rfl, fun w _ => SI.nil _ w, B.out⟩
  | false =>
    rw [if_neg (by simp)]
    go_enter Try.func125, Try.ntmps125
    go_wp2_with (first | (go_at_call 104; (with_reducible refine (KC.out _ _ HV.out).mono ?_); rintro e W1 ⟨rfl, hb⟩; replace B := Aside0.mk (below_then B.out B.out.size hb); replace HV := Aside0.mk (HV.out.below hb); replace HU := Aside0.mk (HU.out.below hb); clear  hb) | (go_at_call 130; (with_reducible refine (KN.out _ _ HV.out).mono ?_); rintro e W2 ⟨rfl, hb⟩; replace B := Aside0.mk (below_then B.out B.out.size hb); replace HV := Aside0.mk (HV.out.below hb); replace HU := Aside0.mk (HU.out.below hb); clear  hb) | (go_at_call 146; (with_reducible refine (KF.out _ _ HU.out).mono ?_); rintro e W3 ⟨rfl, hb⟩; replace B := Aside0.mk (below_then B.out B.out.size hb); replace HV := Aside0.mk (HV.out.below hb); replace HU := Aside0.mk (HU.out.below hb); clear  hb) | (go_at_call 147; (with_reducible refine (KZ.out _ _ _ HV.out HU.out).mono ?_); rintro e W4 ⟨v0, rfl, hz, hb⟩; have B0 := Aside0.mk B.out.size; replace B := Aside0.mk (below_then B.out B.out.size hb); replace HV := Aside0.mk (HV.out.below hb); replace HU := Aside0.mk (HU.out.below hb); have Z := Aside0.mk hz; have hz' := Z.out; obtain ⟨zA, zc, ez⟩ := hz'.slice; subst ez; clear hz hb))
    go_ret2
    exact ⟨_, rfl, Z.out.lower B0.out, B.out⟩
end Go.Proofs.Ytfbjjbbhnmoolaa.P
namespace Go.Proofs.Ytfbjjbbhnmoolaa.P
open Go.RowKit Go.Shelf Go.Proofs.YtfbjjbbhnmoolaaW.PrintWords Go.Proofs.YtfbjjbbhnmoolaaW.PrintLast Go.Proofs.YtfbjjbbhnmoolaaW.PrintMore
attribute [local go_sem] Oper.semAt_some
def cnts (l : List Pr) : Prop := ∀ p ∈ l, i64 p.f0 ∧ 0 ≤ p.f1 ∧ p.f1 ≤ 9223372036854775807
instance (l : List Pr) : Decidable (cnts l) := by unfold cnts; exact inferInstance
theorem box_new {W : World} {b : Nat} (h : W.heap.size = b) (t : TypeId) (v : Value) : Boxed (W.alloc (.cells #[v] t)) b t v := h ▸ Boxed.new W t v
theorem boxed_below {W W' : World} {B : Nat} {t : TypeId} {v : Value} (h : Boxed W B t v) (hb : Below W.heap.size W W') : Boxed W' B t v := (hb.block _ h.lt).trans h
end Go.Proofs.Ytfbjjbbhnmoolaa.P
namespace Go.Proofs.Ytfbjjbbhnmoolaa.P
open Go.RowKit Go.Shelf Go.Proofs.YtfbjjbbhnmoolaaW.PrintWords Go.Proofs.YtfbjjbbhnmoolaaW.PrintLast Go.Proofs.YtfbjjbbhnmoolaaW.PrintMore
structure RowOK (l : List Pr) : Prop where
  wf : wfRow l
  len : l.length ≤ 4096
  cnt : cnts l
  ups : Ups (fun p : Pr => p.f0) l
theorem rises_ups : ∀ (l : List Int) (e : Int), rises e l = true → l.Pairwise (· < ·) ∧ ∀ x ∈ l, e ≤ x
  | [], _, _ => ⟨List.Pairwise.nil, fun x hx => by simp at hx⟩
  | p :: l, e, h => by
    simp only [rises, Bool.and_eq_true, decide_eq_true_eq] at h
    obtain ⟨h1, h2⟩ := rises_ups l (p + 1) h.2
    refine ⟨List.pairwise_cons.2 ⟨fun x hx => by have := h2 x hx; omega, h1⟩, fun x hx => ?_⟩
    rcases List.mem_cons.1 hx with rfl | hx
    · exact h.1.1
    · have := h2 x hx; omega
theorem RowOK.nil : RowOK [] := ⟨⟨fun s hs => by simp at hs, by simp⟩, by simp, fun s hs => by simp at hs, Ups.nil⟩
end Go.Proofs.Ytfbjjbbhnmoolaa.P
namespace Go.Proofs.Ytfbjjbbhnmoolaa.P
open Go.RowKit Go.Proofs.YtfbjjbbhnmoolaaW.PrintWords Go.Proofs.YtfbjjbbhnmoolaaW.PrintLast Go.Proofs.YtfbjjbbhnmoolaaW.PrintMore
theorem zipL : ∀ (ps v : List Int), ps.length = v.length → (List.zipWith (fun p x => (⟨p, x⟩ : Pr)) ps v).map (·.f0) = ps ∧ (List.zipWith (fun p x => (⟨p, x⟩ : Pr)) ps v).map (·.f1) = v
  | [], [], _ => ⟨rfl, rfl⟩
  | p :: ps, x :: v, h => by have := zipL ps v (by simpa using h); exact ⟨by simp only [List.zipWith_cons_cons, List.map_cons, this.1], by simp only [List.zipWith_cons_cons, List.map_cons, this.2]⟩
  | [], _ :: _, h => by simp at h
  | _ :: _, [], h => by simp at h
end Go.Proofs.Ytfbjjbbhnmoolaa.P
namespace Go.Proofs.Ytfbjjbbhnmoolaa.P
open Go.RowKit Go.Shelf Go.Proofs.YtfbjjbbhnmoolaaW.PrintWords Go.Proofs.YtfbjjbbhnmoolaaW.PrintLast Go.Proofs.YtfbjjbbhnmoolaaW.PrintMore
def sameNums (a b : Hi) : Prop := a.f0 = b.f0 ∧ a.f1 = b.f1 ∧ a.f2 = b.f2 ∧ a.f3 = b.f3 ∧ a.f4 = b.f4
instance (a b : Hi) : Decidable (sameNums a b) := by unfold sameNums; exact inferInstance
end Go.Proofs.Ytfbjjbbhnmoolaa.P
namespace Go.Proofs.Ytfbjjbbhnmoolaa.P
open Go.RowKit Go.Shelf Go.Proofs.YtfbjjbbhnmoolaaW.PrintWords Go.Proofs.YtfbjjbbhnmoolaaW.PrintLast Go.Proofs.YtfbjjbbhnmoolaaW.PrintMore
theorem spanCheck_c (l : List Sp) (hw : wfSps l) (w : World) (v : Value) (hv : SI kSp w v l) : Calls Try.prog 104 #[v] w fun e w' => e = .returned (.int .i64 (spCheck l)) ∧ Below w.heap.size w w' := by
  obtain ⟨A, c, rfl, hc, hr⟩ := hv
  exact span_Check.calls 2049 A c l _ w hr hc (check_eq l hw _ (by omega))
theorem cloneSp_c (l : List Sp) (hm : l.length ≤ 4096) (w : World) (A : Option Addr) (c : Nat) (hv : SI kSp w (.slice A l.length c) l) : Calls Try.prog 51 #[.slice A l.length c] w fun e w' =>
    ∃ v0, e = .returned v0 ∧ FI kSp w.heap.size w' v0 l ∧ Below w.heap.size w w' := by
  obtain ⟨_, _, e1, hc1, hr1⟩ := hv
  cases e1
  refine (slices_Clone_span.calls A c l l w hr1 hc1 (by unfold slices_Clone_span.f; rw [if_pos (by omega)])).mono ?_
  rintro e w1 ⟨v0, rfl, h0, hb⟩
  exact ⟨v0, rfl, .of_R h0 (Nat.le_refl _), hb⟩
theorem _root_.Go.RowKit.Below.set1 {B : Nat} {w W : World} {g i : Nat} {u : Value} (h : Below B w W) (hg : B ≤ g) : Below B w (W.setCell ⟨g, i, none⟩ u) := h.setCell (p := ⟨g, i, none⟩) hg u
end Go.Proofs.Ytfbjjbbhnmoolaa.P
namespace Go.Proofs.Ytfbjjbbhnmoolaa.P
open Go.RowKit Go.Shelf Go.Proofs.YtfbjjbbhnmoolaaW.PrintWords Go.Proofs.YtfbjjbbhnmoolaaW.PrintLast Go.Proofs.YtfbjjbbhnmoolaaW.PrintMore
def Blk (w : World) (g : Nat) (cs : Array Value) (t : TypeId) : Prop := w.heap[g]? = some (.cells cs t (0, 0))
theorem Blk.below {w w' : World} {g : Nat} {cs : Array Value} {t : TypeId} (h : Blk w g cs t) (hb : Below w.heap.size w w') : Blk w' g cs t := blk_below h hb
theorem Blk.cell {w : World} {g : Nat} {cs : Array Value} {t : TypeId} (h : Blk w g cs t) (i : Nat) : w.cell? ⟨g, i, none⟩ = cs[i]? := blk_cell h i
theorem Blk.new (w : World) (cs : Array Value) (t : TypeId) : Blk (w.alloc (.cells cs t)) w.heap.size cs t := blk_new w _
theorem Blk.alloc {w : World} {g : Nat} {cs : Array Value} {t : TypeId} (h : Blk w g cs t) (o : Obj) : Blk (w.alloc o) g cs t := blk_alloc h o
theorem Blk.at1 {w : World} (o : Obj) (cs : Array Value) (t : TypeId) : Blk ((w.alloc o).alloc (.cells cs t)) (w.heap.size + 1) cs t := by have := Blk.new (w.alloc o) cs t; simpa using this
abbrev kRsp := k117
def HR (w : World) (v : Value) (h : Hi) : Prop :=
  ∃ v5 v6 v7 v8, v = .agg #[.int .i64 h.f0, .int .u64 h.f1, .int .u64 h.f2, .int .u64 h.f3, .int .u64 h.f4, v5, v6, v7, v8] ∧ SI kRsp w v5 (h.f5.map toR) ∧ SI kRsp w v6 (h.f6.map toR) ∧ SI (Kd.int .i64) w v7 h.f7 ∧ SI (Kd.int .i64) w v8 h.f8
theorem HR.below {w w' : World} {v : Value} {h : Hi} (x : HR w v h) (hb : Below w.heap.size w w') : HR w' v h := by
  obtain ⟨v5, v6, v7, v8, e, h5, h6, h7, h8⟩ := x
  exact ⟨v5, v6, v7, v8, e, h5.below hb, h6.below hb, h7.below hb, h8.below hb⟩
theorem HR.open_ {w : World} {v : Value} {h : Hi} (x : HR w v h) : ∃ A5 c5 A6 c6 A7 c7 A8 c8, v = .agg #[.int .i64 h.f0, .int .u64 h.f1, .int .u64 h.f2, .int .u64 h.f3, .int .u64 h.f4, .slice A5 h.f5.length c5, .slice A6 h.f6.length c6, .slice A7 h.f7.length c7, .slice A8 h.f8.length c8] ∧
    SI kRsp w (.slice A5 h.f5.length c5) (h.f5.map toR) ∧ SI kRsp w (.slice A6 h.f6.length c6) (h.f6.map toR) ∧ SI (Kd.int .i64) w (.slice A7 h.f7.length c7) h.f7 ∧ SI (Kd.int .i64) w (.slice A8 h.f8.length c8) h.f8 := by
  obtain ⟨v5, v6, v7, v8, rfl, h5, h6, h7, h8⟩ := x
  obtain ⟨A5, c5, rfl, h51, h52⟩ := h5
  obtain ⟨A6, c6, rfl, h61, h62⟩ := h6
  obtain ⟨A7, c7, rfl, h71, h72⟩ := h7
  obtain ⟨A8, c8, rfl, h81, h82⟩ := h8
  rw [List.length_map]
  rw [List.length_map]
  refine ⟨A5, c5, A6, c6, A7, c7, A8, c8, rfl, ⟨A5, c5, by rw [List.length_map], h51, h52⟩, ⟨A6, c6, by rw [List.length_map], h61, h62⟩, .of h72 h71, .of h82 h81⟩
end Go.Proofs.Ytfbjjbbhnmoolaa.P
namespace Go.Proofs.Ytfbjjbbhnmoolaa.P
open Go.RowKit Go.Shelf Go.Proofs.YtfbjjbbhnmoolaaW.PrintWords Go.Proofs.YtfbjjbbhnmoolaaW.PrintLast Go.Proofs.YtfbjjbbhnmoolaaW.PrintMore
abbrev Fh := S31
def GI (w : World) (v : Value) (h : Fh) : Prop :=
  ∃ v5 v6 v7 v8, v = .agg #[.int .i64 h.f0, .int .u64 h.f1, .int .u64 h.f2, .int .u64 h.f3, .int .u64 h.f4, v5, v6, v7, v8] ∧ SI kSp w v5 h.f5 ∧ SI kSp w v6 h.f6 ∧ SI (Kd.int .u64) w v7 h.f7 ∧ SI (Kd.int .u64) w v8 h.f8
theorem GI.below {w w' : World} {v : Value} {h : Fh} (x : GI w v h) (hb : Below w.heap.size w w') : GI w' v h := by
  obtain ⟨v5, v6, v7, v8, e, h5, h6, h7, h8⟩ := x
  exact ⟨v5, v6, v7, v8, e, h5.below hb, h6.below hb, h7.below hb, h8.below hb⟩
theorem GI.open_ {w : World} {v : Value} {h : Fh} (x : GI w v h) : ∃ A5 c5 A6 c6 A7 c7 A8 c8, v = .agg #[.int .i64 h.f0, .int .u64 h.f1, .int .u64 h.f2, .int .u64 h.f3, .int .u64 h.f4, .slice A5 h.f5.length c5, .slice A6 h.f6.length c6, .slice A7 h.f7.length c7, .slice A8 h.f8.length c8] ∧
    SI kSp w (.slice A5 h.f5.length c5) h.f5 ∧ SI kSp w (.slice A6 h.f6.length c6) h.f6 ∧ SI (Kd.int .u64) w (.slice A7 h.f7.length c7) h.f7 ∧ SI (Kd.int .u64) w (.slice A8 h.f8.length c8) h.f8 := by
  obtain ⟨v5, v6, v7, v8, rfl, h5, h6, h7, h8⟩ := x
  obtain ⟨A5, c5, rfl, h51, h52⟩ := h5
  obtain ⟨A6, c6, rfl, h61, h62⟩ := h6
  obtain ⟨A7, c7, rfl, h71, h72⟩ := h7
  obtain ⟨A8, c8, rfl, h81, h82⟩ := h8
  exact ⟨A5, c5, A6, c6, A7, c7, A8, c8, rfl, .of h52 h51, .of h62 h61, .of h72 h71, .of h82 h81⟩
theorem GI.mk {w : World} {h : Fh} {v5 v6 v7 v8 : Value} (h5 : SI kSp w v5 h.f5) (h6 : SI kSp w v6 h.f6) (h7 : SI (Kd.int .u64) w v7 h.f7) (h8 : SI (Kd.int .u64) w v8 h.f8) :
    GI w (.agg #[.int .i64 h.f0, .int .u64 h.f1, .int .u64 h.f2, .int .u64 h.f3, .int .u64 h.f4, v5, v6, v7, v8]) h := ⟨v5, v6, v7, v8, rfl, h5, h6, h7, h8⟩
def emptyF : Fh := ⟨0, 0, 0, 0, 0, [], [], [], []⟩
def GF (base : Nat) (w : World) (v : Value) (h : Fh) : Prop :=
  ∃ v5 v6 v7 v8, v = .agg #[.int .i64 h.f0, .int .u64 h.f1, .int .u64 h.f2, .int .u64 h.f3, .int .u64 h.f4, v5, v6, v7, v8] ∧ FI kSp base w v5 h.f5 ∧ FI kSp base w v6 h.f6 ∧ FI (Kd.int .u64) base w v7 h.f7 ∧ FI (Kd.int .u64) base w v8 h.f8
theorem GF.now {base : Nat} {w : World} {v : Value} {h : Fh} (x : GF base w v h) : GI w v h := by
  obtain ⟨v5, v6, v7, v8, e, h5, h6, h7, h8⟩ := x
  exact ⟨v5, v6, v7, v8, e, h5.now, h6.now, h7.now, h8.now⟩
theorem GF.step {base : Nat} {w w' : World} {v : Value} {h : Fh} (x : GF base w v h) (k : KA base w w') : GF base w' v h := by
  obtain ⟨v5, v6, v7, v8, e, h5, h6, h7, h8⟩ := x
  exact ⟨v5, v6, v7, v8, e, h5.step k, h6.step k, h7.step k, h8.step k⟩
theorem GF.lower {base b : Nat} {w : World} {v : Value} {h : Fh} (x : GF b w v h) (hb : base ≤ b) : GF base w v h := by
  obtain ⟨v5, v6, v7, v8, e, h5, h6, h7, h8⟩ := x
  exact ⟨v5, v6, v7, v8, e, h5.lower hb, h6.lower hb, h7.lower hb, h8.lower hb⟩
theorem GF.mk {base : Nat} {w : World} {h : Fh} {v5 v6 v7 v8 : Value} (h5 : FI kSp base w v5 h.f5) (h6 : FI kSp base w v6 h.f6) (h7 : FI (Kd.int .u64) base w v7 h.f7) (h8 : FI (Kd.int .u64) base w v8 h.f8) :
    GF base w (.agg #[.int .i64 h.f0, .int .u64 h.f1, .int .u64 h.f2, .int .u64 h.f3, .int .u64 h.f4, v5, v6, v7, v8]) h := ⟨v5, v6, v7, v8, rfl, h5, h6, h7, h8⟩
theorem GF.empty (base : Nat) (w : World) : GF base w (.agg #[.int .i64 0, .int .u64 0, .int .u64 0, .int .u64 0, .int .u64 0, .slice none 0 0, .slice none 0 0, .slice none 0 0, .slice none 0 0]) emptyF :=
  GF.mk (h := emptyF) (fun w _ => SI.nil _ w) (fun w _ => SI.nil _ w) (fun w _ => SI.nil _ w) (fun w _ => SI.nil _ w)
theorem GF.open_ {base : Nat} {w : World} {v : Value} {h : Fh} (x : GF base w v h) : ∃ A5 c5 A6 c6 A7 c7 A8 c8, v = .agg #[.int .i64 h.f0, .int .u64 h.f1, .int .u64 h.f2, .int .u64 h.f3, .int .u64 h.f4, .slice A5 h.f5.length c5, .slice A6 h.f6.length c6, .slice A7 h.f7.length c7, .slice A8 h.f8.length c8] := by
  obtain ⟨A5, c5, A6, c6, A7, c7, A8, c8, e, -⟩ := x.now.open_
  exact ⟨A5, c5, A6, c6, A7, c7, A8, c8, e⟩
def wfF (h : Fh) : Prop := i64 h.f0 ∧ u64 h.f1 ∧ u64 h.f2 ∧ u64 h.f3 ∧ u64 h.f4 ∧ wfSps h.f5 ∧ wfSps h.f6 ∧ u64s h.f7 ∧ u64s h.f8 ∧ h.f7.length < 4398046511104 ∧ h.f8.length < 4398046511104
def openF (h : Fh) : List Pu × List Pu × Int :=
  if h.f0 < -4 ∨ h.f0 > 8 then ([], [], 21) else if rightF h.f1 = false then ([], [], 11) else if (!rightF h.f2 || !rightF h.f3) = true then ([], [], 22)
  else if (sideF h.f5 h.f7).2 ≠ 0 then ([], [], (sideF h.f5 h.f7).2) else if (sideF h.f6 h.f8).2 ≠ 0 then ([], [], (sideF h.f6 h.f8).2)
  else ((sideF h.f5 h.f7).1, (sideF h.f6 h.f8).1, 0)
def checkF (h : Fh) : Int := (openF h).2.2
set_option maxHeartbeats 16000000 in
set_option maxRecDepth 100000 in
theorem fopen_f (h : Fh) (hw : wfF h) (w : World) (v : Value) (hv : GI w v h) : Calls Try.prog 101 #[v] w fun e w' =>
    ∃ v0 v1 : Value, e = .returned (.tuple #[v0, v1, .int .i64 (openF h).2.2]) ∧ FI kPu w.heap.size w' v0 (openF h).1 ∧ FI kPu w.heap.size w' v1 (openF h).2.1 ∧ Below w.heap.size w w' := by
  have hud := Try.underlying31
  have th := thresh_c h.f1
  have wz := wrong_c h.f2
  have wc := wrong_c h.f3
  have s5 := fside_c h.f5 h.f7 hw.2.2.2.2.2.1 hw.2.2.2.2.2.2.2.2.2.1
  have s6 := fside_c h.f6 h.f8 hw.2.2.2.2.2.2.1 hw.2.2.2.2.2.2.2.2.2.2
  obtain ⟨A5, c5, A6, c6, A7, c7, A8, c8, e, h5, h6, h7, h8⟩ := hv.open_
  subst e
  have B := Aside0.mk (below_alloc (Below.refl w.heap.size w) (.cells #[.int .i64 h.f0, .int .u64 h.f1, .int .u64 h.f2, .int .u64 h.f3, .int .u64 h.f4, .slice A5 h.f5.length c5, .slice A6 h.f6.length c6, .slice A7 h.f7.length c7, .slice A8 h.f8.length c8] 31))
  have X := Aside0.mk (Blk.new w #[.int .i64 h.f0, .int .u64 h.f1, .int .u64 h.f2, .int .u64 h.f3, .int .u64 h.f4, .slice A5 h.f5.length c5, .slice A6 h.f6.length c6, .slice A7 h.f7.length c7, .slice A8 h.f8.length c8] 31)
  have hx := fun i => X.out.cell i
  have H5 := Aside0.mk (h5.below B.out)
  have H6 := Aside0.mk (h6.below B.out)
  have H7 := Aside0.mk (h7.below B.out)
  have H8 := Aside0.mk (h8.below B.out)
  clear hv h5 h6 h7 h8
  unfold openF
  generalize rightF h.f1 = r1 at *
  generalize rightF h.f2 = r2 at *
  generalize rightF h.f3 = r3 at *
  generalize sideF h.f5 h.f7 = q5 at *
  generalize sideF h.f6 h.f8 = q6 at *
  obtain ⟨p, e5⟩ := q5
  obtain ⟨n, e6⟩ := q6
  simp only at s5 s6 ⊢
  have TH := Aside0.mk th
  have WZ := Aside0.mk wz
  have WC := Aside0.mk wc
  have S5 := Aside0.mk s5
  have S6 := Aside0.mk s6
  clear th wz wc s5 s6 hw
  by_cases k1 : h.f0 < -4
  · rw [if_pos (Or.inl k1)]
    have k1b : decide (h.f0 < -4) = true := decide_eq_true k1
    clear k1
    go_enter Try.func101, Try.ntmps101
    go_wp2
    go_ret3
    exact ⟨_, _, rfl, fun w _ => SI.nil _ w, fun w _ => SI.nil _ w, B.out⟩
  by_cases k2 : h.f0 > 8
  · rw [if_pos (Or.inr k2)]
    have k1b : decide (h.f0 < -4) = false := decide_eq_false k1
    have k2b : decide (8 < h.f0) = true := decide_eq_true k2
    clear k1 k2
    go_enter Try.func101, Try.ntmps101
    go_wp2
    go_ret3
    exact ⟨_, _, rfl, fun w _ => SI.nil _ w, fun w _ => SI.nil _ w, B.out⟩
  rw [if_neg (by omega)]
  have k1b : decide (h.f0 < -4) = false := decide_eq_false k1
  have k2b : decide (8 < h.f0) = false := decide_eq_false k2
  clear k1 k2
  cases r1 with
  | false =>
    rw [if_pos rfl]
    go_enter Try.func101, Try.ntmps101
    go_wp2_with (first | (go_at_call 66; (with_reducible refine (TH.out _).mono ?_); rintro e W1 ⟨rfl, hb⟩; replace B := Aside0.mk (below_then B.out B.out.size hb); replace H5 := Aside0.mk (H5.out.below hb); replace H6 := Aside0.mk (H6.out.below hb); replace H7 := Aside0.mk (H7.out.below hb); replace H8 := Aside0.mk (H8.out.below hb); replace X := Aside0.mk (X.out.below hb); replace hx := fun i => X.out.cell i; clear  hb))
    go_ret3
    exact ⟨_, _, rfl, fun w _ => SI.nil _ w, fun w _ => SI.nil _ w, B.out⟩
  | true =>
    rw [if_neg (by simp)]
    cases r2 with
    | false =>
      rw [if_pos (by simp)]
      go_enter Try.func101, Try.ntmps101
      go_wp2_with (first | (go_at_call 66; (with_reducible refine (TH.out _).mono ?_); rintro e W1 ⟨rfl, hb⟩; replace B := Aside0.mk (below_then B.out B.out.size hb); replace H5 := Aside0.mk (H5.out.below hb); replace H6 := Aside0.mk (H6.out.below hb); replace H7 := Aside0.mk (H7.out.below hb); replace H8 := Aside0.mk (H8.out.below hb); replace X := Aside0.mk (X.out.below hb); replace hx := fun i => X.out.cell i; clear  hb) | (go_at_call 124; (with_reducible refine (WZ.out _).mono ?_); rintro e W2 ⟨rfl, hb⟩; replace B := Aside0.mk (below_then B.out B.out.size hb); replace H5 := Aside0.mk (H5.out.below hb); replace H6 := Aside0.mk (H6.out.below hb); replace H7 := Aside0.mk (H7.out.below hb); replace H8 := Aside0.mk (H8.out.below hb); replace X := Aside0.mk (X.out.below hb); replace hx := fun i => X.out.cell i; clear  hb))
      go_ret3
      exact ⟨_, _, rfl, fun w _ => SI.nil _ w, fun w _ => SI.nil _ w, B.out⟩
    | true =>
      cases r3 with
      | false =>
        rw [if_pos (by simp)]
        go_enter Try.func101, Try.ntmps101
        go_wp2_with (first | (go_at_call 66; (with_reducible refine (TH.out _).mono ?_); rintro e W1 ⟨rfl, hb⟩; replace B := Aside0.mk (below_then B.out B.out.size hb); replace H5 := Aside0.mk (H5.out.below hb); replace H6 := Aside0.mk (H6.out.below hb); replace H7 := Aside0.mk (H7.out.below hb); replace H8 := Aside0.mk (H8.out.below hb); replace X := Aside0.mk (X.out.below hb); replace hx := fun i => X.out.cell i; clear  hb) | (go_at_call 124; (with_reducible refine (WZ.out _).mono ?_); rintro e W2 ⟨rfl, hb⟩; replace B := Aside0.mk (below_then B.out B.out.size hb); replace H5 := Aside0.mk (H5.out.below hb); replace H6 := Aside0.mk (H6.out.below hb); replace H7 := Aside0.mk (H7.out.below hb); replace H8 := Aside0.mk (H8.out.below hb); replace X := Aside0.mk (X.out.below hb); replace hx := fun i => X.out.cell i; clear  hb) | (go_at_call 124; (with_reducible refine (WC.out _).mono ?_); rintro e W3 ⟨rfl, hb⟩; replace B := Aside0.mk (below_then B.out B.out.size hb); replace H5 := Aside0.mk (H5.out.below hb); replace H6 := Aside0.mk (H6.out.below hb); replace H7 := Aside0.mk (H7.out.below hb); replace H8 := Aside0.mk (H8.out.below hb); replace X := Aside0.mk (X.out.below hb); replace hx := fun i => X.out.cell i; clear  hb))
        go_ret3
        exact ⟨_, _, rfl, fun w _ => SI.nil _ w, fun w _ => SI.nil _ w, B.out⟩
      | true =>
        rw [if_neg (by simp)]
        by_cases d5 : e5 = 0
        rotate_left
        · rw [if_pos d5]
          have d5a : (e5 == 0) = false := beq_eq_false_iff_ne.2 d5
          have d5b : (e5 != 0) = true := bne_iff_ne.2 d5
          clear d5
          go_enter Try.func101, Try.ntmps101
          go_wp2_with (first | (go_at_call 66; (with_reducible refine (TH.out _).mono ?_); rintro e W1 ⟨rfl, hb⟩; replace B := Aside0.mk (below_then B.out B.out.size hb); replace H5 := Aside0.mk (H5.out.below hb); replace H6 := Aside0.mk (H6.out.below hb); replace H7 := Aside0.mk (H7.out.below hb); replace H8 := Aside0.mk (H8.out.below hb); replace X := Aside0.mk (X.out.below hb); replace hx := fun i => X.out.cell i; clear  hb) | (go_at_call 124; (with_reducible refine (WZ.out _).mono ?_); rintro e W2 ⟨rfl, hb⟩; replace B := Aside0.mk (below_then B.out B.out.size hb); replace H5 := Aside0.mk (H5.out.below hb); replace H6 := Aside0.mk (H6.out.below hb); replace H7 := Aside0.mk (H7.out.below hb); replace H8 := Aside0.mk (H8.out.below hb); replace X := Aside0.mk (X.out.below hb); replace hx := fun i => X.out.cell i; clear  hb) | (go_at_call 124; (with_reducible refine (WC.out _).mono ?_); rintro e W3 ⟨rfl, hb⟩; replace B := Aside0.mk (below_then B.out B.out.size hb); replace H5 := Aside0.mk (H5.out.below hb); replace H6 := Aside0.mk (H6.out.below hb); replace H7 := Aside0.mk (H7.out.below hb); replace H8 := Aside0.mk (H8.out.below hb); replace X := Aside0.mk (X.out.below hb); replace hx := fun i => X.out.cell i; clear  hb) | (go_at_call 125; (with_reducible refine (S5.out _ _ _ H5.out H7.out).mono ?_); rintro e W4 ⟨v5, rfl, hp, hb⟩; have hp := FI.lower hp B.out.size; replace B := Aside0.mk (below_then B.out B.out.size hb); replace H5 := Aside0.mk (H5.out.below hb); replace H6 := Aside0.mk (H6.out.below hb); replace H7 := Aside0.mk (H7.out.below hb); replace H8 := Aside0.mk (H8.out.below hb); replace X := Aside0.mk (X.out.below hb); replace hx := fun i => X.out.cell i; have P5 := Aside0.mk hp; have Q5 := Aside0.mk (show W4.heap.size = W4.heap.size from rfl); have hp' := P5.out; obtain ⟨pA, pc, ep⟩ := hp'.slice; subst ep; clear hp hb))
          go_ret3
          exact ⟨_, _, rfl, fun w _ => SI.nil _ w, fun w _ => SI.nil _ w, B.out⟩
        subst d5
        rw [if_neg (by simp)]
        by_cases d6 : e6 = 0
        rotate_left
        · rw [if_pos d6]
          have d6a : (e6 == 0) = false := beq_eq_false_iff_ne.2 d6
          have d6b : (e6 != 0) = true := bne_iff_ne.2 d6
          clear d6
          go_enter Try.func101, Try.ntmps101
          go_wp2_with (first | (go_at_call 66; (with_reducible refine (TH.out _).mono ?_); rintro e W1 ⟨rfl, hb⟩; replace B := Aside0.mk (below_then B.out B.out.size hb); replace H5 := Aside0.mk (H5.out.below hb); replace H6 := Aside0.mk (H6.out.below hb); replace H7 := Aside0.mk (H7.out.below hb); replace H8 := Aside0.mk (H8.out.below hb); replace X := Aside0.mk (X.out.below hb); replace hx := fun i => X.out.cell i; clear  hb) | (go_at_call 124; (with_reducible refine (WZ.out _).mono ?_); rintro e W2 ⟨rfl, hb⟩; replace B := Aside0.mk (below_then B.out B.out.size hb); replace H5 := Aside0.mk (H5.out.below hb); replace H6 := Aside0.mk (H6.out.below hb); replace H7 := Aside0.mk (H7.out.below hb); replace H8 := Aside0.mk (H8.out.below hb); replace X := Aside0.mk (X.out.below hb); replace hx := fun i => X.out.cell i; clear  hb) | (go_at_call 124; (with_reducible refine (WC.out _).mono ?_); rintro e W3 ⟨rfl, hb⟩; replace B := Aside0.mk (below_then B.out B.out.size hb); replace H5 := Aside0.mk (H5.out.below hb); replace H6 := Aside0.mk (H6.out.below hb); replace H7 := Aside0.mk (H7.out.below hb); replace H8 := Aside0.mk (H8.out.below hb); replace X := Aside0.mk (X.out.below hb); replace hx := fun i => X.out.cell i; clear  hb) | (go_at_call 125; (with_reducible refine (S5.out _ _ _ H5.out H7.out).mono ?_); rintro e W4 ⟨v5, rfl, hp, hb⟩; have hp := FI.lower hp B.out.size; replace B := Aside0.mk (below_then B.out B.out.size hb); replace H5 := Aside0.mk (H5.out.below hb); replace H6 := Aside0.mk (H6.out.below hb); replace H7 := Aside0.mk (H7.out.below hb); replace H8 := Aside0.mk (H8.out.below hb); replace X := Aside0.mk (X.out.below hb); replace hx := fun i => X.out.cell i; have P5 := Aside0.mk hp; have Q5 := Aside0.mk (show W4.heap.size = W4.heap.size from rfl); have hp' := P5.out; obtain ⟨pA, pc, ep⟩ := hp'.slice; subst ep; clear hp hb) | (go_at_call 125; (with_reducible refine (S6.out _ _ _ H6.out H8.out).mono ?_); rintro e W5 ⟨v6, rfl, hp, hb⟩; have hp := FI.lower hp B.out.size; replace B := Aside0.mk (below_then B.out B.out.size hb); replace H5 := Aside0.mk (H5.out.below hb); replace H6 := Aside0.mk (H6.out.below hb); replace H7 := Aside0.mk (H7.out.below hb); replace H8 := Aside0.mk (H8.out.below hb); replace P5 := Aside0.mk (P5.out.step (KA.below hb)); replace X := Aside0.mk (X.out.below hb); replace hx := fun i => X.out.cell i; have P6 := Aside0.mk hp; have hp' := P6.out; obtain ⟨nA, nc, en⟩ := hp'.slice; subst en; clear hp hb))
          go_ret3
          exact ⟨_, _, rfl, fun w _ => SI.nil _ w, fun w _ => SI.nil _ w, B.out⟩
        subst d6
        rw [if_neg (by simp)]
        go_enter Try.func101, Try.ntmps101
        go_wp2_with (first | (go_at_call 66; (with_reducible refine (TH.out _).mono ?_); rintro e W1 ⟨rfl, hb⟩; replace B := Aside0.mk (below_then B.out B.out.size hb); replace H5 := Aside0.mk (H5.out.below hb); replace H6 := Aside0.mk (H6.out.below hb); replace H7 := Aside0.mk (H7.out.below hb); replace H8 := Aside0.mk (H8.out.below hb); replace X := Aside0.mk (X.out.below hb); replace hx := fun i => X.out.cell i; clear  hb) | (go_at_call 124; (with_reducible refine (WZ.out _).mono ?_); rintro e W2 ⟨rfl, hb⟩; replace B := Aside0.mk (below_then B.out B.out.size hb); replace H5 := Aside0.mk (H5.out.below hb); replace H6 := Aside0.mk (H6.out.below hb); replace H7 := Aside0.mk (H7.out.below hb); replace H8 := Aside0.mk (H8.out.below hb); replace X := Aside0.mk (X.out.below hb); replace hx := fun i => X.out.cell i; clear  hb) | (go_at_call 124; (with_reducible refine (WC.out _).mono ?_); rintro e W3 ⟨rfl, hb⟩; replace B := Aside0.mk (below_then B.out B.out.size hb); replace H5 := Aside0.mk (H5.out.below hb); replace H6 := Aside0.mk (H6.out.below hb); replace H7 := Aside0.mk (H7.out.below hb); replace H8 := Aside0.mk (H8.out.below hb); replace X := Aside0.mk (X.out.below hb); replace hx := fun i => X.out.cell i; clear  hb) | (go_at_call 125; (with_reducible refine (S5.out _ _ _ H5.out H7.out).mono ?_); rintro e W4 ⟨v5, rfl, hp, hb⟩; have hp := FI.lower hp B.out.size; replace B := Aside0.mk (below_then B.out B.out.size hb); replace H5 := Aside0.mk (H5.out.below hb); replace H6 := Aside0.mk (H6.out.below hb); replace H7 := Aside0.mk (H7.out.below hb); replace H8 := Aside0.mk (H8.out.below hb); replace X := Aside0.mk (X.out.below hb); replace hx := fun i => X.out.cell i; have P5 := Aside0.mk hp; have Q5 := Aside0.mk (show W4.heap.size = W4.heap.size from rfl); have hp' := P5.out; obtain ⟨pA, pc, ep⟩ := hp'.slice; subst ep; clear hp hb) | (go_at_call 125; (with_reducible refine (S6.out _ _ _ H6.out H8.out).mono ?_); rintro e W5 ⟨v6, rfl, hp, hb⟩; have hp := FI.lower hp B.out.size; replace B := Aside0.mk (below_then B.out B.out.size hb); replace H5 := Aside0.mk (H5.out.below hb); replace H6 := Aside0.mk (H6.out.below hb); replace H7 := Aside0.mk (H7.out.below hb); replace H8 := Aside0.mk (H8.out.below hb); replace P5 := Aside0.mk (P5.out.step (KA.below hb)); replace X := Aside0.mk (X.out.below hb); replace hx := fun i => X.out.cell i; have P6 := Aside0.mk hp; have hp' := P6.out; obtain ⟨nA, nc, en⟩ := hp'.slice; subst en; clear hp hb))
        go_ret3
        exact ⟨_, _, rfl, P5.out, P6.out, B.out⟩
theorem fopen_c (h : Fh) (hw : wfF h) (w : World) (v : Value) (hv : GI w v h) : Calls Try.prog 101 #[v] w fun e w' =>
    ∃ v0 v1 : Value, e = .returned (.tuple #[v0, v1, .int .i64 (openF h).2.2]) ∧ SI kPu w' v0 (openF h).1 ∧ SI kPu w' v1 (openF h).2.1 ∧ Below w.heap.size w w' :=
  (fopen_f h hw w v hv).mono fun e w1 ⟨v0, v1, e1, h0, h1, hb⟩ => ⟨v0, v1, e1, h0.now, h1.now, hb⟩
set_option maxHeartbeats 4000000 in
set_option maxRecDepth 100000 in
theorem fcheck_c (h : Fh) (hw : wfF h) (w : World) (v : Value) (hv : GI w v h) : Calls Try.prog 87 #[v] w fun e w' =>
    e = .returned (.int .i64 (checkF h)) ∧ Below w.heap.size w w' := by
  have hu := Try.underlying31
  obtain ⟨A5, c5, A6, c6, A7, c7, A8, c8, e, -⟩ := hv.open_
  subst e
  have HV := Aside0.mk hv
  have HW := Aside0.mk hw
  clear hv hw
  go_enter Try.func87, Try.ntmps87
  go_wp2_with (go_at_call 101; (with_reducible refine (fopen_c h HW.out _ _ (HV.out.below (below_alloc (Below.refl _ _) _))).mono ?_); rintro e w1 ⟨v0, v1, rfl, h0, h1, hb⟩; have HB := Aside0.mk (below_then (below_alloc (Below.refl w.heap.size w) _) (by simp) hb); clear h0 h1 hb)
  go_ret
  exact ⟨rfl, HB.out⟩
def pairsF (h : Fh) (side : Int) : List Pu × Int := if side = 0 then ((openF h).1, (openF h).2.2) else if side = 1 then ((openF h).2.1, (openF h).2.2) else ([], 11)
set_option maxHeartbeats 4000000 in
set_option maxRecDepth 100000 in
theorem fpairs_c (h : Fh) (hw : wfF h) (side : Int) (w : World) (v : Value) (hv : GI w v h) : Calls Try.prog 58 #[v, .int .i64 side] w fun e w' =>
    ∃ v0, e = .returned (.tuple #[v0, .int .i64 (pairsF h side).2]) ∧ SI kPu w' v0 (pairsF h side).1 ∧ Below w.heap.size w w' := by
  have hu := Try.underlying31
  obtain ⟨A5, c5, A6, c6, A7, c7, A8, c8, e, -⟩ := hv.open_
  subst e
  have HV := Aside0.mk hv
  have HW := Aside0.mk hw
  clear hv hw
  unfold pairsF
  by_cases c0 : side = 0
  · subst c0
    rw [if_pos rfl]
    go_enter Try.func58, Try.ntmps58
    go_wp2_with (go_at_call 101; (with_reducible refine (fopen_c h HW.out _ _ (HV.out.below (below_alloc (Below.refl _ _) _))).mono ?_); rintro e w1 ⟨v0, v1, rfl, h0, h1, hb⟩; have HO := Aside0.mk h0; have HB := Aside0.mk (below_then (below_alloc (Below.refl w.heap.size w) _) (by simp) hb); clear h0 h1 hb)
    go_ret2
    exact ⟨_, rfl, HO.out, HB.out⟩
  · rw [if_neg c0]
    have c0a : (side == 0) = false := beq_eq_false_iff_ne.2 c0
    have c0b : (side != 0) = true := bne_iff_ne.2 c0
    by_cases c1 : side = 1
    · subst c1
      rw [if_pos rfl]
      clear c0
      go_enter Try.func58, Try.ntmps58
      go_wp2_with (go_at_call 101; (with_reducible refine (fopen_c h HW.out _ _ (HV.out.below (below_alloc (Below.refl _ _) _))).mono ?_); rintro e w1 ⟨v0, v1, rfl, h0, h1, hb⟩; have HO := Aside0.mk h1; have HB := Aside0.mk (below_then (below_alloc (Below.refl w.heap.size w) _) (by simp) hb); clear h0 h1 hb)
      go_ret2
      exact ⟨_, rfl, HO.out, HB.out⟩
    · rw [if_neg c1]
      have c1a : (side == 1) = false := beq_eq_false_iff_ne.2 c1
      have c1b : (side != 1) = true := bne_iff_ne.2 c1
      clear c0 c1
      go_enter Try.func58, Try.ntmps58
      go_wp2_with (go_at_call 101; (with_reducible refine (fopen_c h HW.out _ _ (HV.out.below (below_alloc (Below.refl _ _) _))).mono ?_); rintro e w1 ⟨v0, v1, rfl, h0, h1, hb⟩; have HO := Aside0.mk h1; have HB := Aside0.mk (below_then (below_alloc (Below.refl w.heap.size w) _) (by simp) hb); clear h0 h1 hb)
      go_ret2
      exact ⟨_, rfl, SI.nil _ _, HB.out⟩
end Go.Proofs.Ytfbjjbbhnmoolaa.P
namespace Go.Proofs.Ytfbjjbbhnmoolaa.P
open Go.RowKit Go.Shelf Go.Proofs.YtfbjjbbhnmoolaaW.PrintWords Go.Proofs.YtfbjjbbhnmoolaaW.PrintLast Go.Proofs.YtfbjjbbhnmoolaaW.PrintMore
def PredP_uint64 (g : Nat) (cap : Array Value) (p : S137 → Bool) (w : World) : Prop :=
  ∀ (W : World) (x : S137), Below w.heap.size w W → Calls Try.prog g (#[.agg #[.int .i64 x.f0, .int .u64 x.f1]] ++ cap) W fun e w' => e = .returned (.bool (p x)) ∧ Below W.heap.size W w'
theorem rd_nat_uint64 (l : List S137) (i : Nat) (h : i < l.length) : rd_T137 l (i : Int) = l[i] := by
  unfold rd_T137; simp [List.getD, h]
set_option maxHeartbeats 2000000 in
theorem indexFunc_pairs_uint64 (g : Nat) (cap : Array Value) (p : S137 → Bool) (A : Option Addr) (c : Nat) (l : List S137) (w : World)
    (hr : Kd.C k137 w A l.length l) (hc : l.length ≤ c) (hm : l.length ≤ 9223372036854775807) (hp : PredP_uint64 g cap p w) (eg : ∀ args w, (callFunc g args).run Try.prog w = .ok (.enter g args) w) :
    Calls Try.prog 155 #[.slice A l.length c, .func (.func g) #[] cap] w fun e w' => e = .returned (.int .i64 (idxP p l)) ∧ Below w.heap.size w w' := by
  have hu := Try.underlying137
  have HR := Aside0.mk hr
  have HP := Aside0.mk hp
  clear hr hp
  go_enter Try.func155, Try.ntmps155
  go_wp2
  go_loopg [5, 8] l.length (fun gg _ s8 wr => ∃ kk : Nat, kk ≤ l.length ∧ l.length - kk ≤ gg ∧ s8 = .int .i64 kk ∧ Aside0 (Below w.heap.size w wr) ∧ Aside0 (∀ j (hj : j < kk) (hj2 : j < l.length), p l[j] = false))
  case atStart => exact ⟨0, Nat.zero_le _, by omega, rfl, ⟨Below.refl _ w⟩, ⟨fun j hj => absurd hj (Nat.not_lt_zero _)⟩⟩
  case round =>
    obtain ⟨kk, hkk, hg, rfl, HB, HA⟩ := hrel
    by_cases hlt : kk < l.length
    · have hlti : (kk : Int) < (l.length : Int) := by omega
      obtain ⟨ad, e1, hx0, hx1⟩ := at_T137 HR.out kk (by omega) (by omega)
      cases e1
      replace hx0 := (HB.out.cell (World.block_lt_of_cell? w _ hx0)).trans hx0
      replace hx1 := (HB.out.cell (World.block_lt_of_cell? w _ hx1)).trans hx1
      rw [rd_nat_uint64 l kk hlt, Int.toNat_natCast] at hx0 hx1
      have hcall := HP.out wr l[kk] HB.out
      generalize hy : l[kk] = y at hx0 hx1 hcall
      have HY := Aside0.mk hy
      clear hy
      cases hq : p y with
      | true =>
        rw [hq] at hcall
        have HQ := Aside0.mk hq
        clear hq
        have HC := Aside0.mk hcall
        clear hcall
        go_wp2_with (go_at_fn g; refine HC.out.mono ?_; rintro e w' ⟨rfl, hb'⟩)
        go_ret
        refine ⟨?_, HB.out.trans (hb'.mono HB.out.size)⟩
        rw [idxP_hit p l kk hlt (by rw [HY.out]; exact HQ.out) (fun j hj => HA.out j hj (by omega))]; rfl
      | false =>
        rw [hq] at hcall
        have HQ := Aside0.mk hq
        clear hq
        have HC := Aside0.mk hcall
        clear hcall
        go_wp2_with (go_at_fn g; refine HC.out.mono ?_; rintro e w' ⟨rfl, hb'⟩)
        go_roundg (l.length - (kk + 1))
        case measure => omega
        case rel =>
          refine ⟨kk + 1, by omega, by omega, by go_num, ⟨HB.out.trans (hb'.mono HB.out.size)⟩, ⟨fun j hj hj2 => ?_⟩⟩
          by_cases e : j = kk
          · subst e
            rw [HY.out]; exact HQ.out
          · exact HA.out j (by omega) hj2
    · have hlti : ¬ (kk : Int) < (l.length : Int) := by omega
      have hk : kk = l.length := by omega
      go_wp2
      go_ret
      refine ⟨?_, HB.out⟩
      rw [idxP_miss p l (fun j hj => HA.out j (by omega) hj)]; rfl
end Go.Proofs.Ytfbjjbbhnmoolaa.P
namespace Go.Proofs.Ytfbjjbbhnmoolaa.P
open Go.RowKit Go.Shelf Go.Proofs.YtfbjjbbhnmoolaaW.PrintWords Go.Proofs.YtfbjjbbhnmoolaaW.PrintLast Go.Proofs.YtfbjjbbhnmoolaaW.PrintMore
def slices_Clone_pairU.f (l0 : List S137) : Option (List S137) := if l0.length < 8796093022208 then some l0 else none
set_option maxHeartbeats 2000000 in
set_option maxRecDepth 100000 in
theorem slices_Clone_pairU.calls (A0 : Option Addr) (c0 : Nat) (l0 r : List S137) (w : World) (hr0 : Kd.C k137 w A0 l0.length l0) (hc0 : l0.length ≤ c0) (h : slices_Clone_pairU.f l0 = some r) :
    Calls Try.prog 141 #[.slice A0 l0.length c0] w fun e w' => ∃ v0_ : Value, e = .returned (v0_) ∧ Kd.R k137 137 w' w.heap.size (fun _ => True) v0_ r ∧ Below w.heap.size w w' := by
  obtain ⟨hm, h2⟩ := of_ite_some h
  subst h2
  clear h
  have hu := Try.underlying99
  have HM := Aside0.mk hm
  clear hm
  cases A0 with
  | none =>
    have hl : l0 = [] := by
      rcases Nat.eq_zero_or_pos l0.length with h | h
      · exact List.length_eq_zero_iff.1 h
      · obtain ⟨ad, e, _⟩ := hr0.2.2 h
        cases e
    subst hl
    have hn : ∀ W n c, (binOp .eql 99 (.slice none n c) (.slice none 0 0)).run Try.prog W = .ok (.bool true) W := fun W n c => by
      exact Lib.run_eql_slice_nil W _ _ none n c 0 0 Try.underlying99
    go_enter Try.func141, Try.ntmps141
    go_wp2
    go_ret
    exact ⟨_, rfl, Kd.R_nil _ _ _ _ _, Below.refl _ _⟩
  | some ad =>
    have hn : ∀ W n c, (binOp .eql 99 (.slice (some ad) n c) (.slice none 0 0)).run Try.prog W = .ok (.bool false) W := fun W n c => by
      exact Lib.run_eql_slice_nil W _ _ (some ad) n c 0 0 Try.underlying99
    have HR := Aside0.mk hr0
    clear hr0
    go_enter Try.func141, Try.ntmps141
    go_wp2_with ((with_reducible refine gate_builtin (b := .append) (xs := #[.tmp 5, .tmp 6]) rfl ?_); at_builtin; refine Kd.R_append_rows k137 (w0 := w) (Rr := k137.K w) w.heap.size rfl (.tmp 5) (.tmp 6) 99 137 _ 16 rfl Try.underlying99 info137 rfl (by decide) (by omega) (.slice (some ⟨w.heap.size, 0, none⟩) 0 0) [] l0 (some ad) l0.length c0 (fun _ => True) (fun _ => False) rfl rfl ?aO ?aR ?aK (fun _ hk => hk.elim) (fun _ _ => trivial) ?aB ?aS ?aL ?_; (case aO => exact ⟨fun _ _ => trivial, [], ⟨rfl, .inr ⟨w.heap.size, 0, #[], rfl, Nat.le_refl _, by simpa using blk_new w _, Nat.le_refl _, by unfold maxLen; omega, rfl, rfl⟩⟩, Reps.none _ _⟩); (case aR => exact HR.out.imp_ (below_alloc (Below.refl _ _) _) (fun _ _ h => h)); (case aK => intro x cs hx; rw [k137_open hx]; exact k137_mkM _ _ _ x); (case aB => exact below_alloc (Below.refl _ _) _); (case aS => simp); (case aL => have := HM.out; simp; omega); intro v1 w1 ho hb hg hat; rw [List.nil_append] at ho; have HO := Aside0.mk ho; have HB := Aside0.mk hb; clear ho hb hg hat)
    go_ret
    exact ⟨_, rfl, HO.out, HB.out⟩
end Go.Proofs.Ytfbjjbbhnmoolaa.P
namespace Go.Proofs.Ytfbjjbbhnmoolaa.P
open Go.RowKit Go.Shelf Go.Proofs.YtfbjjbbhnmoolaaW.PrintWords Go.Proofs.YtfbjjbbhnmoolaaW.PrintLast Go.Proofs.YtfbjjbbhnmoolaaW.PrintMore
theorem flat_uint64 : ∀ w w1 base ok x cs, k137.M w base ok x cs → k137.M w1 base ok x cs := fun w w1 base ok x cs h => by
  rw [k137_openM h]; exact k137_mkM _ _ _ x
theorem zero_uint64 (n : Nat) : (Builtin.zeroCells (Value.agg #[.int .i64 0, .int .u64 0]).cells n).toList.length = n * 2 ∧ ∀ v ∈ (Builtin.zeroCells (Value.agg #[.int .i64 0, .int .u64 0]).cells n).toList, v.oneCell' = true := by
  have hc : (Value.agg #[.int .i64 0, .int .u64 0]).cells = #[.int .i64 0, .int .u64 0] := by kernel_rfl
  rw [hc]
  refine ⟨by simp [Builtin.zeroCells], fun v hv => ?_⟩
  simp only [Builtin.zeroCells, Array.toList_map, List.mem_map] at hv
  obtain ⟨i, _, rfl⟩ := hv
  have : i % 2 = 0 ∨ i % 2 = 1 := by omega
  rcases this with h | h <;> simp [h] <;> rfl
set_option maxHeartbeats 4000000 in
set_option maxRecDepth 100000 in
theorem deleteFunc_uint64 (g : Nat) (cap : Array Value) (p : S137 → Bool) (w0 w : World) (v : Value) (xs : List S137)
    (HO : Kd.R k137 137 w w0.heap.size (fun _ => True) v xs) (HB : Below w0.heap.size w0 w) (hp : PredP_uint64 g cap p w0) (eg : ∀ args w, (callFunc g args).run Try.prog w = .ok (.enter g args) w) :
    Calls Try.prog 140 #[v, .func (.func g) #[] cap] w fun e w' => ∃ v' : Value, e = .returned v' ∧ Kd.R k137 137 w' w0.heap.size (fun _ => True) v' (xs.filter (fun x => !p x)) ∧ Below w0.heap.size w0 w' := by
  have hu := Try.underlying137
  obtain ⟨A, c, rfl, hlc, hC⟩ := Kd.R_reads HO
  have hm : xs.length ≤ 9223372036854775807 := hC.2.1
  have HI := indexFunc_pairs_uint64 g cap p A c xs w hC hlc hm (fun W x hb => hp W x (below_then HB HB.size hb)) eg
  have HX := idxP_cases p xs
  have HP := Aside0.mk hp
  clear hp
  generalize idxP p xs = ix at HI HX
  rcases HX with ⟨rfl, hfil⟩ | ⟨i0, hi0, rfl, hhit, hbef⟩
  · rw [hfil]
    have HI := Aside0.mk HI
    have HO := Aside0.mk HO
    have HB := Aside0.mk HB
    clear hC hfil
    go_enter Try.func140, Try.ntmps140
    go_wp2_with (go_at_call 155; refine HI.out.mono ?_; rintro e w' ⟨rfl, hb'⟩)
    go_ret
    exact ⟨_, rfl, Kd.R_below HO.out hb', below_then HB.out HB.out.size hb'⟩
  · obtain ⟨gb, cp, hv, hbg, hgl, cells, hcells⟩ := Kd.R_form HO (by omega)
    injection hv with hA _ hcp
    subst hA; subst hcp
    have hne : (((i0 : Int)) == -1) = false := beq_eq_false_iff_ne.2 (by omega)
    have HS := DelInv.start hi0 hhit hbef
    have HI := Aside0.mk HI
    have HO := Aside0.mk HO
    have HB := Aside0.mk HB
    have HS := Aside0.mk HS
    have HM := Aside0.mk hm
    have hi0' : i0 + 1 ≤ xs.length := hi0
    clear hC hhit hbef hcells
    go_enter Try.func140, Try.ntmps140
    go_wp2_with (go_at_call 155; refine HI.out.mono ?_; rintro e w' ⟨rfl, hb'⟩; have HO1 := Aside0.mk (Kd.R_below HO.out hb'); have HB1 := Aside0.mk (below_then HB.out HB.out.size hb'); clear hb' HI HO HB)
    go_loopg [5, 6] xs.length (fun gg s5 s6 wr => ∃ (i j : Nat) (ys : List S137), s5 = .int .i64 i ∧ s6 = .int .i64 j ∧ j ≤ xs.length ∧ xs.length - j ≤ gg ∧ Aside0 (DelInv p xs i j ys) ∧ Aside0 (Kd.R k137 137 wr w0.heap.size (fun _ => True) (.slice (some ⟨gb, 0, none⟩) xs.length c) ys) ∧ Aside0 (Below w0.heap.size w0 wr))
    case atStart => exact ⟨i0, i0 + 1, xs, rfl, by go_num, by omega, by omega, HS, HO1, HB1⟩
    case round =>
      obtain ⟨i, j, ys, rfl, rfl, hj, hg, HD, HO, HB⟩ := hrel
      clear HS HO1 HB1
      have hlen := HD.out.len
      have hij := HD.out.lt
      by_cases hlt : j < xs.length
      · have hlti : (j : Int) < (xs.length : Int) := by omega
        have hii : (i : Int) < (xs.length : Int) := by omega
        obtain ⟨hj2, hyx⟩ := HD.out.at_ hlt
        have hC := (Kd.R_reads' HO.out).2.2
        obtain ⟨ad, e1, hx0, hx1⟩ := at_T137 hC j (by omega) (by omega)
        cases e1
        rw [rd_nat_uint64 ys j hj2, Int.toNat_natCast, hyx] at hx0 hx1
        rw [add_plain] at hx0 hx1
        dsimp only at hx1
        have hcall := HP.out (wr.alloc (.cells #[.int .i64 xs[j].f0, .int .u64 xs[j].f1] 137)) xs[j] (below_then HB.out HB.out.size (below_alloc (Below.refl _ _) _))
        clear hC
        cases hq : p xs[j] with
        | true =>
          rw [hq] at hcall
          have HD' := Aside0.mk (HD.out.skip hlt hq)
          have HC := Aside0.mk hcall
          clear hcall hq hyx
          generalize xs[j] = y at hx0 hx1 HC
          go_wp2_with (go_at_fn g; refine HC.out.mono ?_; rintro e w' ⟨rfl, hb'⟩; have HB1 := Aside0.mk (below_then (below_then HB.out HB.out.size (below_alloc (Below.refl _ _) _)) (by have := HB.out.size; simp; omega) hb'); have HO1 := Aside0.mk (Kd.R_below (Kd.R_below HO.out (below_alloc (Below.refl _ _) _)) hb'); clear hb' HO HB)
          go_roundg (xs.length - (j + 1))
          case measure => omega
          case rel => exact ⟨i, j + 1, ys, rfl, by go_num, by omega, by omega, HD', HO1, HB1⟩
        | false =>
          rw [hq] at hcall
          have HD' := Aside0.mk (HD.out.keep hlt hq)
          have HC := Aside0.mk hcall
          clear hcall hq hyx
          generalize xs[j] = y at hx0 hx1 HC HD'
          go_wp2_with (first | (go_at_fn g; refine HC.out.mono ?_; rintro e w' ⟨rfl, hb'⟩; have hv0 : w'.cell? ⟨wr.heap.size, 0, none⟩ = some (.int .i64 y.f0) := (hb'.cell (p := ⟨wr.heap.size, 0, none⟩) (by simp)).trans (by simp); have hv1 : w'.cell? ⟨wr.heap.size, 1, none⟩ = some (.int .u64 y.f1) := (hb'.cell (p := ⟨wr.heap.size, 1, none⟩) (by simp)).trans (by simp); have HB1 := Aside0.mk (below_then (below_then HB.out HB.out.size (below_alloc (Below.refl _ _) _)) (by have := HB.out.size; simp; omega) hb'); have HO1 := Aside0.mk (Kd.R_below (Kd.R_below HO.out (below_alloc (Below.refl _ _) _)) hb'); clear hb' HO HB) | ((with_reducible refine gate_ (.store 137 (.tmp 33) (.tmp 32)) rfl ?_); obtain ⟨ce, hcl, hcM, hcc, hcf⟩ := Kd.R_elem HO1.out z137 (i : Int) (by omega) (by omega); refine Kd.R_store k137 (w0 := w0) w0.heap.size rfl rfl 137 (.tmp 33) (.tmp 32) rfl 137 (i : Int) 0 ys y (.agg #[.int .i64 y.f0, .int .u64 y.f1]) [.int .i64 y.f0, .int .u64 y.f1] ce (fun _ => True) (fun _ => False) (by first | rfl | simp) rfl rfl rfl (by kernel_rfl) (by intro q hq; simp at hq; rcases hq with rfl | rfl <;> rfl) HO1.out (by omega) (by omega) hcl hcc (by show 0 + 2 ≤ 2; omega) (by rw [show ce.drop (0 + [Value.int .i64 y.f0, Value.int .u64 y.f1].length) = [] from List.drop_eq_nil_of_le (by rw [hcl]; exact Nat.le_refl 2)]; exact k137_mkM _ _ _ y) (fun _ h => h.elim) HB1.out ?_; intro w1 ho hb hg; rw [Int.toNat_natCast] at ho; have HO2 := Aside0.mk ho; have HB2 := Aside0.mk hb; clear ho hb hg hcl hcM hcc hcf HO1 HB1))
          go_roundg (xs.length - (j + 1))
          case measure => omega
          case rel => exact ⟨i + 1, j + 1, ys.set i y, by go_num, by go_num, by omega, by omega, HD', HO2, HB2⟩
      · have hjx : j = xs.length := by omega
        subst hjx
        have hlti : ¬ (xs.length : Int) < (xs.length : Int) := by omega
        have hii : (i : Int) < (xs.length : Int) := by omega
        obtain ⟨inner, hown⟩ := Kd.R_own HO.out
        obtain ⟨cur, hcur, hcs, hnc⟩ : ∃ cur, wr.heap[gb]? = some (.cells cur 137 (0, 0)) ∧ cur.size = c * 2 ∧ xs.length ≤ c := by
          rcases hown.2 with ⟨hv, _⟩ | ⟨g', cap', cur, hv, hb, hh, hnc, hcm, hcs, ht⟩
          · cases hv
          · injection hv with ha _ hc
            injection ha with ha
            injection ha with hg'
            subst hg'; subst hc
            exact ⟨cur, hh, hcs, by omega⟩
        have hzl := zero_uint64 (xs.length - i)
        have hpc := piece_there hcur (i * 2) (Builtin.zeroCells (Value.agg #[.int .i64 0, .int .u64 0]).cells (xs.length - i)).toList.length (by rw [hzl.1]; omega)
        have hcl : ∀ ty, (Builtin.clear_ #[99] ty #[.slice (some ⟨gb, i * 2, none⟩) (xs.length - i) (c - i)]).run Try.prog wr = .ok (.tuple #[]) (wr.setCells gb (i * 2) (Builtin.zeroCells (Value.agg #[.int .i64 0, .int .u64 0]).cells (xs.length - i)).toList) := fun ty =>
          run_clear_cells wr _ _ ty (Value.agg #[.int .i64 0, .int .u64 0]) Try.underlying99 (fun w => by kernel_rfl) gb (i * 2) _ _ (by omega) hzl.2 hpc.1 hpc.2
        have HF := Aside0.mk HD.out.done
        have HR2 : Aside0 (Kd.R k137 137 (wr.setCells gb (i * 2) (Builtin.zeroCells (Value.agg #[.int .i64 0, .int .u64 0]).cells (xs.length - i)).toList) w0.heap.size (fun _ => True) (.slice (some ⟨gb, 0, none⟩) i c) (ys.take i)) := ⟨R_beyond flat_uint64 (Kd.R_take HO.out (by omega)) _ _ (by show i * 2 ≤ i * 2; omega) (by rw [hzl.1]; show i * 2 + (xs.length - i) * 2 ≤ c * 2; omega)⟩
        have HB2 : Aside0 (Below w0.heap.size w0 (wr.setCells gb (i * 2) (Builtin.zeroCells (Value.agg #[.int .i64 0, .int .u64 0]).cells (xs.length - i)).toList)) := ⟨by
          obtain ⟨h1, h2, h3, h4⟩ := setCells_same gb (Builtin.zeroCells (Value.agg #[.int .i64 0, .int .u64 0]).cells (xs.length - i)).toList (i * 2) wr
          refine HB.out.trans ⟨h1, h2, h3, by rw [h4]; exact Nat.le_refl _, fun k hk => setCells_far _ _ k (by omega)⟩⟩
        have hic : (c = i) = False := by simp; omega
        clear HO HB hpc hzl hcur hcs hown HD
        generalize (Builtin.zeroCells (Value.agg #[.int .i64 0, .int .u64 0]).cells (xs.length - i)).toList = seg at hcl HR2 HB2
        go_wp2
        go_ret
        exact ⟨_, rfl, by rw [← HF.out]; exact HR2.out, HB2.out⟩
set_option maxRecDepth 100000 in
theorem without1_uint64 (W : World) (x : S137) (B : Nat) (pl : Int) (hc : W.cell? ⟨B, 0, none⟩ = some (.int .u64 pl)) :
    Calls Try.prog 142 #[.agg #[.int .i64 x.f0, .int .u64 x.f1], .pointer (some ⟨B, 0, none⟩)] W fun e w' => e = .returned (.bool (x.f1 == pl)) ∧ Below W.heap.size W w' := by
  have hu := Try.underlying137
  have hB : B < W.heap.size := World.block_lt_of_cell? W ⟨B, 0, none⟩ hc
  have hc2 : (W.alloc (.cells #[.int .i64 x.f0, .int .u64 x.f1] 137)).cell? ⟨B, 0, none⟩ = some (.int .u64 pl) := ((below_alloc (Below.refl _ _) _).cell (p := ⟨B, 0, none⟩) hB).trans hc
  go_enter Try.func142, Try.ntmps142
  go_wp2
  go_ret
  exact ⟨rfl, (Below.refl _ _).alloc (Nat.le_refl _) _⟩
def pairs_Without_uint64.f (l0 : List S137) (a1 : Int) : Option (List S137) :=
  if l0.length < 8796093022208 then some (l0.filter (fun x => !(x.f1 == a1))) else none
set_option maxHeartbeats 2000000 in
set_option maxRecDepth 100000 in
theorem pairs_Without_uint64.calls (A0 : Option Addr) (c0 : Nat) (l0 : List S137) (a1 : Int) (r : List S137) (w : World) (hr0 : Kd.C k137 w A0 l0.length l0) (hc0 : l0.length ≤ c0) (h : pairs_Without_uint64.f l0 a1 = some r) :
    Calls Try.prog 114 #[.slice A0 l0.length c0, .int .u64 a1] w fun e w' => ∃ v0_ : Value, e = .returned (v0_) ∧ Kd.R k137 137 w' w.heap.size (fun _ => True) v0_ r ∧ Below w.heap.size w w' := by
  obtain ⟨hm, h2⟩ := of_ite_some h
  subst h2
  clear h
  have HC := Aside0.mk (slices_Clone_pairU.calls A0 c0 l0 l0 (w.alloc (.cells #[.int .u64 a1] 22)) (Kd.C_below hr0 (below_alloc (Below.refl _ _) _)) hc0 (by unfold slices_Clone_pairU.f; rw [if_pos hm]))
  have hp : PredP_uint64 142 #[.pointer (some ⟨w.heap.size, 0, none⟩)] (fun x => x.f1 == a1) (w.alloc (.cells #[.int .u64 a1] 22)) :=
    fun W x hb => without1_uint64 W x w.heap.size a1 ((hb.cell (p := ⟨w.heap.size, 0, none⟩) (by simp)).trans (by simp))
  have HD := Aside0.mk (fun w1 v ho hb => deleteFunc_uint64 142 #[.pointer (some ⟨w.heap.size, 0, none⟩)] (fun x => x.f1 == a1) (w.alloc (.cells #[.int .u64 a1] 22)) w1 v l0 ho hb hp (enters_of Try.func142 (by kernel_rfl) rfl))
  clear hp hm hr0 hc0
  go_enter Try.func114, Try.ntmps114
  go_wp2_with (first | (go_at_call 141; refine HC.out.mono ?_; rintro e w' ⟨v, rfl, ho, hb⟩; have HO := Aside0.mk ho; have HB := Aside0.mk hb; clear ho hb HC) | (go_at_call 140; refine (HD.out _ _ HO.out HB.out).mono ?_; rintro e w' ⟨v', rfl, ho, hb⟩; have HO2 := Aside0.mk ho; have HB2 := Aside0.mk hb; clear ho hb HD))
  go_ret
  refine ⟨_, rfl, Kd.R_lower HO2.out (by simp), below_then (below_alloc (Below.refl _ _) _) (by simp) HB2.out⟩
end Go.Proofs.Ytfbjjbbhnmoolaa.P
namespace Go.Proofs.Ytfbjjbbhnmoolaa.P
open Go.RowKit Go.Shelf Go.Proofs.YtfbjjbbhnmoolaaW.PrintWords Go.Proofs.YtfbjjbbhnmoolaaW.PrintLast Go.Proofs.YtfbjjbbhnmoolaaW.PrintMore
def some0U (l : List Pu) : List Pu := l.filter (fun x => !(x.f1 == 0))
def wfRowU (l : List Pu) : Prop := wfPus l ∧ l.length < 4398046511104
structure RowOKU (l : List Pu) : Prop where
  wf : wfRowU l
  len : l.length ≤ 4096
  cnt : ∀ p ∈ l, rightF p.f1 = true
  ups : Ups (fun p : Pu => p.f0) l
theorem RowOKU.nil : RowOKU [] := ⟨⟨fun s hs => by simp at hs, by simp⟩, by simp, fun s hs => by simp at hs, Ups.nil⟩
theorem zip_upsU : ∀ (ps v : List Int), ps.Pairwise (· < ·) → Ups (fun p : Pu => p.f0) (List.zipWith (fun p x => (⟨p, x⟩ : Pu)) ps v)
  | [], _, _ => by simp [Ups]
  | p :: ps, [], _ => by simp [Ups]
  | p :: ps, x :: v, h => by
    have h1 := List.pairwise_cons.1 h
    refine List.pairwise_cons.2 ⟨fun y hy => ?_, zip_upsU ps v h1.2⟩
    have : y.f0 ∈ ps := by
      obtain ⟨i, hi, rfl⟩ := List.mem_iff_getElem.1 hy
      simp only [List.getElem_zipWith]; exact List.getElem_mem _
    exact h1.1 _ this
theorem sideF_row {l : List Sp} {c : List Int} (hc : u64s c) : RowOKU (sideF l c).1 := by
  unfold sideF
  by_cases c1 : spCheck l = 0
  rotate_left
  · rw [if_neg c1]; exact RowOKU.nil
  rw [if_pos c1]
  by_cases c2 : cntN l = c.length
  rotate_left
  · rw [if_neg c2]; exact RowOKU.nil
  rw [if_pos c2]
  by_cases c3 : c.any (fun v => !rightF v) = true
  · rw [if_pos c3]; exact RowOKU.nil
  rw [if_neg c3]
  have hr := rises_of_right c1
  have hf : ∀ p ∈ List.zipWith (fun p x => (⟨p, x⟩ : Pu)) (plN 0 l) c, (-1048576 ≤ p.f0 ∧ p.f0 ≤ 1048576) ∧ p.f1 ∈ c := by
    intro y hy
    obtain ⟨i, hi, rfl⟩ := List.mem_iff_getElem.1 hy
    simp only [List.getElem_zipWith]
    exact ⟨rises_i64 hr _ (List.getElem_mem _), List.getElem_mem _⟩
  have hl : (List.zipWith (fun p x => (⟨p, x⟩ : Pu)) (plN 0 l) c).length ≤ 4096 := by have := places_len c1; simp; omega
  simp only
  refine ⟨⟨fun p hp => ?_, by omega⟩, hl, fun p hp => ?_, zip_upsU _ _ (rises_ups _ _ hr).1⟩
  · have h1 := hf p hp; have h2 := h1.1; exact ⟨⟨by omega, by omega⟩, hc _ h1.2⟩
  · have h1 := hf p hp
    cases hq : rightF p.f1 with
    | true => rfl
    | false => exact absurd (List.any_eq_true.2 ⟨_, h1.2, by rw [hq]; rfl⟩) c3
theorem openF_row {h : Fh} (hw : wfF h) : RowOKU (openF h).1 ∧ RowOKU (openF h).2.1 := by
  obtain ⟨-, -, -, -, -, -, -, h7, h8, -⟩ := hw
  have a := sideF_row (l := h.f5) h7
  have b := sideF_row (l := h.f6) h8
  unfold openF
  repeat' split
  all_goals first | exact ⟨a, b⟩ | exact ⟨RowOKU.nil, RowOKU.nil⟩
theorem withoutU_c (l : List Pu) (hl : l.length ≤ 4611686018427) (w : World) (v : Value) (hv : SI kPu w v l) : Calls Try.prog 114 #[v, .int .u64 0] w fun e w' =>
    ∃ v', e = .returned v' ∧ SI kPu w' v' (some0U l) ∧ Below w.heap.size w w' := by
  obtain ⟨A, c, rfl, hc, hr⟩ := hv
  refine (pairs_Without_uint64.calls A c l 0 (some0U l) w hr hc (if_pos (by omega))).mono ?_
  rintro e w1 ⟨v0, rfl, h0, hb⟩
  exact ⟨v0, rfl, .of_R h0, hb⟩
theorem some0U_wf {l : List Pu} (h : wfRowU l) : wfRowU (some0U l) := ⟨fun s hs => h.1 s (List.mem_filter.1 hs).1, Nat.lt_of_le_of_lt (List.length_filter_le _ _) h.2⟩
end Go.Proofs.Ytfbjjbbhnmoolaa.P
namespace Go.Proofs.Ytfbjjbbhnmoolaa.P
open Go.RowKit Go.Shelf Go.Proofs.YtfbjjbbhnmoolaaW.PrintWords Go.Proofs.YtfbjjbbhnmoolaaW.PrintLast Go.Proofs.YtfbjjbbhnmoolaaW.PrintMore
theorem frombits_run (v : Int) (w : World) : (callFunc 81 #[.int .u64 v]).run Try.prog w = .ok (.value (.float .f64 v.toNat)) w := by
  rw [run_callFunc_extern Try.func81 (by kernel_rfl) (by kernel_rfl) (by kernel_rfl) (e := Extern.MathFloatBits.float64frombits) (by kernel_rfl)]
  rfl
theorem bits_run (v : Nat) (w : World) : (callFunc 84 #[.float .f64 v]).run Try.prog w = .ok (.value (.int .u64 v)) w := by
  rw [run_callFunc_extern Try.func84 (by kernel_rfl) (by kernel_rfl) (by kernel_rfl) (e := Extern.MathFloatBits.float64bits) (by kernel_rfl)]
  rfl
theorem trunc_three (w : World) : (callFunc 112 #[.float .f64 4613937818241073152]).run Try.prog w = .ok (.value (.float .f64 4613937818241073152)) w := by kernel_rfl
theorem trunc_half (w : World) : (callFunc 112 #[.float .f64 4602678819172646912]).run Try.prog w = .ok (.value (.float .f64 0)) w := by kernel_rfl
theorem trunc_zero (w : World) : (callFunc 112 #[.float .f64 0]).run Try.prog w = .ok (.value (.float .f64 0)) w := by kernel_rfl
theorem mtrunc_three (w : World) : Calls Try.prog 83 #[.float .f64 4613937818241073152] w fun e w' => e = .returned (.float .f64 4613937818241073152) ∧ Below w.heap.size w w' := by
  have ht := trunc_three
  go_enter Try.func83, Try.ntmps83
  go_wp2
  go_ret
  exact ⟨rfl, Below.refl _ _⟩
theorem cv_three (w : World) : (convert 129 22 (.float .f64 4613937818241073152)).run Try.prog w = .ok (.int .u64 3) w := by kernel_rfl
theorem ge_three (w : World) : (binOp .geq 129 (.float .f64 4613937818241073152) (.float .f64 4895412794951729152)).run Try.prog w = .ok (.bool false) w := by kernel_rfl
theorem ne_three (w : World) : (binOp .neq 129 (.float .f64 4613937818241073152) (.float .f64 4613937818241073152)).run Try.prog w = .ok (.bool false) w := by kernel_rfl
set_option maxRecDepth 100000 in
theorem whole_three (w : World) : Calls Try.prog 29 #[.int .u64 4613937818241073152] w fun e w' => e = .returned (.tuple #[.int .u64 3, .bool true]) ∧ Below w.heap.size w w' := by
  have hf := frombits_run 4613937818241073152
  have MT := Aside0.mk mtrunc_three
  have hg := ge_three
  have hn := ne_three
  have hc := cv_three
  have RC := Aside0.mk (right_c 4613937818241073152)
  go_enter Try.func29, Try.ntmps29
  go_wp2_with (first | (go_at_call 82; (with_reducible refine (RC.out _).mono ?_); rintro e w1 ⟨rfl, hb⟩; have HB := Aside0.mk hb; clear hb) | (go_at_call 83; (with_reducible refine (MT.out _).mono ?_); rintro e w2 ⟨rfl, hb⟩; replace HB := Aside0.mk (below_then HB.out HB.out.size hb); clear hb))
  go_ret2
  exact ⟨rfl, HB.out⟩
theorem mtrunc_half (w : World) : Calls Try.prog 83 #[.float .f64 4602678819172646912] w fun e w' => e = .returned (.float .f64 0) ∧ Below w.heap.size w w' := by
  have ht := trunc_half
  go_enter Try.func83, Try.ntmps83
  go_wp2
  go_ret
  exact ⟨rfl, Below.refl _ _⟩
theorem ge_half (w : World) : (binOp .geq 129 (.float .f64 4602678819172646912) (.float .f64 4895412794951729152)).run Try.prog w = .ok (.bool false) w := by kernel_rfl
theorem ne_half (w : World) : (binOp .neq 129 (.float .f64 0) (.float .f64 4602678819172646912)).run Try.prog w = .ok (.bool true) w := by kernel_rfl
set_option maxRecDepth 100000 in
theorem whole_half (w : World) : Calls Try.prog 29 #[.int .u64 4602678819172646912] w fun e w' => e = .returned (.tuple #[.int .u64 0, .bool false]) ∧ Below w.heap.size w w' := by
  have hf := frombits_run 4602678819172646912
  have MT := Aside0.mk mtrunc_half
  have hg := ge_half
  have hn := ne_half
  have RC := Aside0.mk (right_c 4602678819172646912)
  go_enter Try.func29, Try.ntmps29
  go_wp2_with (first | (go_at_call 82; (with_reducible refine (RC.out _).mono ?_); rintro e w1 ⟨rfl, hb⟩; have HB := Aside0.mk hb; clear hb) | (go_at_call 83; (with_reducible refine (MT.out _).mono ?_); rintro e w2 ⟨rfl, hb⟩; replace HB := Aside0.mk (below_then HB.out HB.out.size hb); clear hb))
  go_ret2
  exact ⟨rfl, HB.out⟩
theorem mtrunc_zero (w : World) : Calls Try.prog 83 #[.float .f64 0] w fun e w' => e = .returned (.float .f64 0) ∧ Below w.heap.size w w' := by
  have ht := trunc_zero
  go_enter Try.func83, Try.ntmps83
  go_wp2
  go_ret
  exact ⟨rfl, Below.refl _ _⟩
theorem cv_zero (w : World) : (convert 129 22 (.float .f64 0)).run Try.prog w = .ok (.int .u64 0) w := by kernel_rfl
theorem ge_zero (w : World) : (binOp .geq 129 (.float .f64 0) (.float .f64 4895412794951729152)).run Try.prog w = .ok (.bool false) w := by kernel_rfl
theorem ne_zero (w : World) : (binOp .neq 129 (.float .f64 0) (.float .f64 0)).run Try.prog w = .ok (.bool false) w := by kernel_rfl
set_option maxRecDepth 100000 in
theorem whole_zero (w : World) : Calls Try.prog 29 #[.int .u64 0] w fun e w' => e = .returned (.tuple #[.int .u64 0, .bool true]) ∧ Below w.heap.size w w' := by
  have hf := frombits_run 0
  have MT := Aside0.mk mtrunc_zero
  have hg := ge_zero
  have hn := ne_zero
  have hc := cv_zero
  have RC := Aside0.mk (right_c 0)
  go_enter Try.func29, Try.ntmps29
  go_wp2_with (first | (go_at_call 82; (with_reducible refine (RC.out _).mono ?_); rintro e w1 ⟨rfl, hb⟩; have HB := Aside0.mk hb; clear hb) | (go_at_call 83; (with_reducible refine (MT.out _).mono ?_); rintro e w2 ⟨rfl, hb⟩; replace HB := Aside0.mk (below_then HB.out HB.out.size hb); clear hb))
  go_ret2
  exact ⟨rfl, HB.out⟩
theorem fcv_three (w : World) : (convert 22 129 (.int .u64 3)).run Try.prog w = .ok (.float .f64 4613937818241073152) w := by kernel_rfl
theorem float_three (w : World) : Calls Try.prog 31 #[.int .u64 3] w fun e w' => e = .returned (.int .u64 4613937818241073152) ∧ Below w.heap.size w w' := by
  have hc := fcv_three
  have hb := bits_run 4613937818241073152
  go_enter Try.func31, Try.ntmps31
  go_wp2
  go_ret
  exact ⟨rfl, Below.refl _ _⟩
end Go.Proofs.Ytfbjjbbhnmoolaa.P
namespace Go.Proofs.Ytfbjjbbhnmoolaa.P
open Go.RowKit Go.Shelf Go.Proofs.YtfbjjbbhnmoolaaW.PrintWords Go.Proofs.YtfbjjbbhnmoolaaW.PrintLast Go.Proofs.YtfbjjbbhnmoolaaW.PrintMore
set_option maxRecDepth 100000 in
set_option maxHeartbeats 4000000 in
theorem all1P_in (n : Nat) (hn : 1 ≤ n) (L n0 n1 Bn : Nat) (v : Value) (l : List S86) (k : Nat) (hck : span_Check.f k l = some 0) (hN : (placesAt 0 l).length ≤ 4611686018427387904) (J Jx : List (Int × Int) → World → Prop)
    (hJ : ∀ s W W', J s W → W.grownBy W' none → J s W')
    (hY : ∀ pre x W, J pre W → pre ++ [x] <+: numd (placesAt 0 l) → YieldAt Fence.wide (n - 1) Try.prog L #[.int .i64 x.1, .int .i64 x.2] W fun e W' =>
      (e = .returned (.bool true) ∧ J (pre ++ [x]) W' ∧ KeepR n0 n1 W W') ∨ (e = .returned (.bool false) ∧ Jx (pre ++ [x]) W'))
    (W : World) (hS : HoldsSp n0 n1 Bn v l W) (h0 : J [] W) :
    CallsIn Fence.wide n Try.prog 150 #[.func (.yield L) #[] #[], .pointer (some ⟨Bn, 0, none⟩)] W fun e W' => (∃ v, e = .returned v) ∧
      ((∃ ys, ys = numd (placesAt 0 l) ∧ J ys W') ∨ (∃ pre, pre <+: numd (placesAt 0 l) ∧ Jx pre W')) := by
  have hu := Try.underlying86
  have hf : Fence.wide.fn 104 := trivial
  obtain ⟨A, c, rfl, hlc, hC⟩ := Kd.R_reads hS.2.2.2
  have hcell : W.cell? ⟨Bn, 0, none⟩ = some (.slice A l.length c) := by
    have := blk_cell (i := 0) hS.2.2.1
    rw [this]; rfl
  have hm : l.length ≤ 9223372036854775807 := hC.2.1
  have HCk := Aside0.mk (span_Check.calls k A c l 0 W hC hlc hck)
  have HJ := Aside0.mk hJ
  have HY := Aside0.mk hY
  have HS := Aside0.mk hS
  have H0 := Aside0.mk h0
  clear hJ hY hS h0 hC
  refine callsIn_of_wp Try.func150 rfl trivial ?_ rfl
  simp only [Try.ntmps150, List.size_toArray, List.length_cons, List.length_nil, Nat.reduceAdd, Nat.reduceSub, Array.replicate_succ, Array.replicate_zero, List.push_toArray, List.append_toArray, List.nil_append, List.cons_append]
  gi_wp2_with (gi_at_call 104; refine (callsIn_wide.2 HCk.out).mono ?_; rintro e w1 ⟨rfl, hb⟩; have HB := Aside0.mk hb; have hcell1 := (hb.cell (World.block_lt_of_cell? W _ hcell)).trans hcell; clear hb hcell)
  have HS1 := Aside0.mk (HS.out.keep (KeepR.of_below HB.out HS.out.2.1))
  have H1 := Aside0.mk (HJ.out _ _ _ H0.out (grown_of_below HB.out none))
  clear HS H0 HB HCk
  gi_loopw [3, 4, 12] (fun s3 s4 s12 wr => ∃ kk : Nat, kk ≤ l.length ∧ s12 = .int .i64 kk ∧ s3 = .int .i64 (endAt 0 (l.take kk)) ∧ s4 = .int .i64 ((placesAt 0 (l.take kk)).length : Int) ∧ Aside0 (HoldsSp n0 n1 Bn (.slice A l.length c) l wr) ∧ Aside0 (J (numd (placesAt 0 (l.take kk))) wr)) (fun _ _ s12 _ => l.length - (intOf s12).toNat)
  case atStart => exact ⟨0, Nat.zero_le _, rfl, by simp [endAt], by simp [placesAt], HS1, by simpa [placesAt, numd] using H1⟩
  case round =>
    obtain ⟨kk, hkk, rfl, rfl, rfl, HS, HJ0⟩ := hrel
    clear HS1 H1
    by_cases hlt : kk < l.length
    · have hlti : (kk : Int) < (l.length : Int) := by omega
      have hC := (Kd.R_reads' HS.out.2.2.2).2.2
      obtain ⟨ad, e1, hx0, hx1⟩ := at_T86 hC kk (by omega) (by omega)
      cases e1
      clear hC
      have hrd : rd_T86 l (kk : Int) = l[kk] := by unfold rd_T86; simp [List.getD, hlt]
      rw [hrd, Int.toNat_natCast] at hx0 hx1
      have HT := Aside0.mk (List.take_succ_eq_append_getElem hlt)
      generalize l[kk] = y at hx0 hx1 HT hrd
      clear hrd
      obtain ⟨wo, rfl⟩ : ∃ wo : World, wo = wr := ⟨_, rfl⟩
      have hple : (placesAt 0 (l.take kk)).length ≤ 4611686018427387904 := Nat.le_trans (placesAt_take_le l kk) hN
      have HP1 := Aside0.mk (placesAt_snoc y (l.take kk) 0)
      have HE1 := Aside0.mk (endAt_snoc y (l.take kk) 0)
      have HLE : Aside0 ((placesAt 0 (l.take kk)).length + y.f1.toNat ≤ (placesAt 0 l).length ∧ placesAt 0 (l.take kk) ++ runAt (wrap64 (endAt 0 (l.take kk) + y.f0)) y.f1.toNat <+: placesAt 0 l) := by
        have h := placesAt_prefix (l.take (kk + 1)) (l.drop (kk + 1))
        rw [List.take_append_drop, HT.out, HP1.out] at h
        refine ⟨⟨?_, h⟩⟩
        have := h.length_le
        rwa [List.length_append, runAt_length] at this
      rw [← HT.out] at HP1 HE1
      clear HT
      generalize endAt 0 (l.take kk) = at0 at HP1 HE1 HLE
      generalize placesAt 0 (l.take kk) = ps at HP1 HLE HJ0 hple
      have HS0 := Aside0.mk (HS.out.keep (KeepR.of_below (below_alloc (Below.refl _ wo) (.cells #[.int .i64 y.f0, .int .i64 y.f1] 86)) HS.out.2.1))
      have HJ1 := Aside0.mk (HJ.out _ _ _ HJ0.out (grown_of_below (below_alloc (Below.refl _ wo) (.cells #[.int .i64 y.f0, .int .i64 y.f1] 86)) none))
      clear HS HJ0
      gi_wp2
      gi_loopw [3, 4, 22] (fun s3 s4 s22 wr => ∃ i : Nat, i ≤ y.f1.toNat ∧ s22 = .int .i64 i ∧ s3 = .int .i64 (runEnd (wrap64 (at0 + y.f0)) i) ∧ s4 = .int .i64 ((ps.length : Int) + (i : Int)) ∧ Aside0 (HoldsSp n0 n1 Bn (.slice (some ad) l.length c) l wr) ∧ Aside0 (J (numd (ps ++ runAt (wrap64 (at0 + y.f0)) i)) wr)) (fun _ _ s22 _ => (y.f1 - intOf s22).toNat)
      case atStart => exact ⟨0, Nat.zero_le _, rfl, rfl, by simp, HS0, by simpa [runAt] using HJ1⟩
      case round =>
        obtain ⟨i, hi, rfl, rfl, rfl, HS, HJ0⟩ := hrel
        clear HS0 HJ1
        by_cases hli : (i : Int) < y.f1
        · have hlen : (ps ++ runAt (wrap64 (at0 + y.f0)) i).length = ps.length + i := by rw [List.length_append, runAt_length]
          have hlt2 : ps.length + i < (placesAt 0 l).length := by have := HLE.out.1; omega
          have hnx : (ps.length : Int) + (i : Int) + 1 ≤ 4611686018427387904 := by omega
          have hn0 : 0 ≤ (ps.length : Int) + (i : Int) := by omega
          have hy1 : y.f1 ≤ 4611686018427387904 := by have := HLE.out.1; omega
          have HRUN : Aside0 (numd (ps ++ runAt (wrap64 (at0 + y.f0)) i) ++ [((ps.length : Int) + (i : Int), runEnd (wrap64 (at0 + y.f0)) i)] <+: numd (placesAt 0 l)) := by
            refine ⟨?_⟩
            have h1 := numd_prefix HLE.out.2
            have hi1 : i + 1 ≤ y.f1.toNat := by omega
            have h2 : ps ++ runAt (wrap64 (at0 + y.f0)) (i + 1) <+: ps ++ runAt (wrap64 (at0 + y.f0)) y.f1.toNat := by
              refine (List.prefix_append_right_inj _).2 ?_
              have : ∀ (m j : Nat) (a : Int), j ≤ m → runAt a j <+: runAt a m := by
                intro m
                induction m with
                | zero => intro j a hj; obtain rfl : j = 0 := by omega
                          exact List.prefix_rfl
                | succ m ih =>
                  intro j a hj
                  cases j with
                  | zero => exact List.nil_prefix
                  | succ j => exact (List.cons_prefix_cons).2 ⟨rfl, ih j _ (by omega)⟩
              exact this _ _ _ hi1
            have h3 := (numd_prefix h2).trans h1
            rw [runAt_snoc, ← List.append_assoc, numd_snoc, hlen] at h3
            exact h3
          obtain ⟨fn, tmps, assign, body, hy, hR⟩ := HY.out (numd (ps ++ runAt (wrap64 (at0 + y.f0)) i)) ((ps.length : Int) + (i : Int), runEnd (wrap64 (at0 + y.f0)) i) wr HJ0.out HRUN.out
          dsimp only at hy
          have HA := Aside0.mk (runAt_snoc i (wrap64 (at0 + y.f0)))
          have HE := Aside0.mk (runEnd_snoc i (wrap64 (at0 + y.f0)))
          have HNS := Aside0.mk (numd_snoc (ps ++ runAt (wrap64 (at0 + y.f0)) i) (runEnd (wrap64 (at0 + y.f0)) i))
          have HL := Aside0.mk hlen
          have HRR := Aside0.mk hR
          clear hR hlen HJ0 HRUN
          gi_wp2
          refine HRR.out.mono ?_
          rintro e W3 (⟨rfl, hJ3, hk3⟩ | ⟨rfl, hJx3⟩)
          · have HJ3 := Aside0.mk hJ3
            have HS3 := Aside0.mk (HS.out.keep hk3)
            clear hJ3 hk3
            gi_wp2
            go_roundw
            case rel => 
              refine ⟨i + 1, by omega, by go_num, by rw [HE.out], by go_num, HS3, ⟨?_⟩⟩
              rw [HA.out, ← List.append_assoc, HNS.out, HL.out]
              exact HJ3.out
            case measure => simp [intOf]; omega
          · have HX := Aside0.mk hJx3
            clear hJx3
            gi_wp2
            refine bodyPost_ret (results_none rfl _ _ _) rfl ?_
            refine ⟨⟨_, rfl⟩, .inr ⟨_, ?_, HX.out⟩⟩
            have h1 := numd_prefix HLE.out.2
            have hi1 : i + 1 ≤ y.f1.toNat := by omega
            have h2 : ps ++ runAt (wrap64 (at0 + y.f0)) (i + 1) <+: ps ++ runAt (wrap64 (at0 + y.f0)) y.f1.toNat := by
              refine (List.prefix_append_right_inj _).2 ?_
              have : ∀ (m j : Nat) (a : Int), j ≤ m → runAt a j <+: runAt a m := by
                intro m
                induction m with
                | zero => intro j a hj; obtain rfl : j = 0 := by omega
                          exact List.prefix_rfl
                | succ m ih =>
                  intro j a hj
                  cases j with
                  | zero => exact List.nil_prefix
                  | succ j => exact (List.cons_prefix_cons).2 ⟨rfl, ih j _ (by omega)⟩
              exact this _ _ _ hi1
            have h3 := (numd_prefix h2).trans h1
            rw [HA.out, ← List.append_assoc, HNS.out, HL.out] at h3
            exact h3
        · have hie : i = y.f1.toNat := by omega
          have hli' : ¬ (i : Int) < y.f1 := hli
          gi_wp2
          go_roundw
          case rel =>
            refine ⟨kk + 1, by omega, by go_num, ?_, ?_, HS, ?_⟩
            · rw [HE1.out, hie]
            · rw [HP1.out, List.length_append, runAt_length, hie]; go_num
            · rw [HP1.out, ← hie]; exact HJ0
          case measure => simp [intOf]; omega
    · have hlti : ¬ (kk : Int) < (l.length : Int) := by omega
      have hk : l.take kk = l := List.take_of_length_le (by omega)
      have HK := Aside0.mk hk
      clear hk
      gi_wp2
      go_end0
      have hj := HJ0.out
      rw [HK.out] at hj
      exact ⟨⟨_, rfl⟩, .inl hj⟩
def atN (D : List Int) (k : Nat) : Int × Int := ((k : Int), D.getD k 0)
theorem numd_getElem? (D : List Int) (k : Nat) (h : k < D.length) : (numd D)[k]? = some (atN D k) := by
  unfold numd atN
  rw [List.getElem?_map, List.getElem?_zipIdx, List.getElem?_eq_getElem h]
  simp [List.getD, h]
theorem prefix_at {D : List Int} {pre : List (Int × Int)} {x : Int × Int} (h : pre ++ [x] <+: numd D) : pre.length < D.length ∧ x = atN D pre.length := by
  have hl := h.length_le
  rw [List.length_append, numd_length] at hl
  simp only [List.length_cons, List.length_nil] at hl
  refine ⟨by omega, ?_⟩
  obtain ⟨t, ht⟩ := h
  have h1 := numd_getElem? D pre.length (by omega)
  rw [← ht, List.append_assoc, List.getElem?_append_right (Nat.le_refl _)] at h1
  simp at h1
  exact h1
theorem all_stopsN (n : Nat) (hn : 1 ≤ n) (n0 Bn : Nat) (v : Value) (l : List S86) (k : Nat) (hck : span_Check.f k l = some 0) (hN : (placesAt 0 l).length ≤ 4611686018427387904) (w : World) (hS : HoldsSp n0 w.heap.size Bn v l w) :
    SeqStopsK Fence.wide n Try.prog 150 #[.pointer (some ⟨Bn, 0, none⟩)] (fun x : Fin (placesAt 0 l).length => #[Value.int .i64 (x.val : Int), Value.int .i64 ((placesAt 0 l).getD x.val 0)]) (KeepR n0 w.heap.size) (fun ys => ys.map (·.val) = List.range (placesAt 0 l).length) (fun _ => True) (placesAt 0 l).length w := by
  intro L J Jx W hW hJ hJx hY h0
  generalize hD : placesAt 0 l = D at *
  have hlen : ∀ xs : List (Fin D.length), (xs.map (fun x => atN D x.val)).length = xs.length := fun xs => List.length_map ..
  have main := all1P_in n hn L n0 w.heap.size Bn v l k hck (by rw [hD]; exact hN) (fun pre W => ∃ xs : List (Fin D.length), pre = xs.map (fun x => atN D x.val) ∧ J xs W) (fun pre W => ∃ xs : List (Fin D.length), pre = xs.map (fun x => atN D x.val) ∧ Jx xs W)
    (fun s A B ⟨xs, e, h⟩ hg => ⟨xs, e, hJ xs A B none h hg (fun r e => by cases e)⟩)
    (by
      rintro pre x W1 ⟨xs, rfl, h⟩ hp
      rw [hD] at hp
      obtain ⟨h1, h2⟩ := prefix_at hp
      rw [hlen] at h1 h2
      subst h2
      have hy := hY xs ⟨xs.length, h1⟩ W1 h h1
      obtain ⟨fn, tmps, assign, body, hyy, hR⟩ := hy
      refine ⟨fn, tmps, assign, body, hyy, hR.mono ?_⟩
      rintro e W' (⟨e1, e2, e3⟩ | ⟨e1, e2⟩)
      · exact .inl ⟨e1, ⟨xs ++ [⟨xs.length, h1⟩], by simp [List.map_append], e2⟩, e3⟩
      · exact .inr ⟨e1, ⟨xs ++ [⟨xs.length, h1⟩], by simp [List.map_append], e2⟩⟩)
    W (hS.keep (KeepR.of_below hW (Nat.le_refl _))) ⟨[], rfl, h0⟩
  refine main.mono ?_
  rintro e W' ⟨hv, ⟨ys, rfl, xs, e1, hj⟩ | ⟨pre, -, xs, -, hj⟩⟩
  · refine ⟨hv, .inl ⟨xs, ?_, hj⟩⟩
    rw [hD] at e1
    have hl := congrArg List.length e1
    rw [numd_length, hlen] at hl
    refine List.ext_getElem (by rw [List.length_map, List.length_range]; exact hl.symm) ?_
    intro i h1 h2
    rw [List.length_map] at h1
    have h3 := numd_getElem? D i (by omega)
    rw [e1, List.getElem?_map, List.getElem?_eq_getElem h1] at h3
    have h4 := Option.some.inj h3
    have h5 := congrArg Prod.fst h4
    simp only [atN] at h5
    rw [List.getElem_map, List.getElem_range]
    omega
  · exact ⟨hv, .inr ⟨xs, trivial, hj⟩⟩
end Go.Proofs.Ytfbjjbbhnmoolaa.P
namespace Go.Proofs.Ytfbjjbbhnmoolaa.P
open Go
theorem count_set (l : Array Bool) (i : Nat) (h : l.getD i true = false) : (l.setIfInBounds i true).toList.count false + 1 = l.toList.count false := by
  have hlt : i < l.size := by
    rcases Nat.lt_or_ge i l.size with h1 | h1
    · exact h1
    · rw [Array.getD_eq_getD_getElem?, Array.getElem?_eq_none h1] at h; cases h
  have hv : l.toList[i]'(by simpa using hlt) = false := by
    rw [Array.getD_eq_getD_getElem?, Array.getElem?_eq_getElem hlt] at h; simpa using h
  rw [Array.toList_setIfInBounds]
  have key : ∀ (xs : List Bool) (i : Nat) (hi : i < xs.length), xs[i] = false → (xs.set i true).count false + 1 = xs.count false := by
    intro xs
    induction xs with
    | nil => intro i hi; simp at hi
    | cons x xs ih =>
      intro i hi hx
      cases i with
      | zero => simp only [List.getElem_cons_zero] at hx; subst hx; simp
      | succ i =>
        simp only [List.getElem_cons_succ] at hx
        have := ih i (by simpa using hi) hx
        simp only [List.set_cons_succ, List.count_cons]
        omega
  exact key _ _ (by simpa using hlt) hv
theorem wpAnyIn_held {F : Fence} {n : Nat} {P : Program} {md : Region.Mode} {ops : Array Oper} {Q : Exit → Act → World → Prop} (St : Array Bool → Act → World → Prop)
    (hstep : ∀ (i : Nat) (listed : Array Bool) (a : Act) (w : World), St listed a w → listed.getD i true = false → (∀ o, ops[i]? = some o → ∀ e ∈ o.after, Region.binds md e = true → listed.getD e.on false = true) → i < ops.size →
      wpOpIn F n P ops Q i (fun a' w' => St (listed.setIfInBounds i true) a' w') a w)
    (hdone : ∀ (listed : Array Bool) (a : Act) (w : World), St listed a w → Region.ready md ops listed = [] → Q .normal a w) :
    ∀ (fuel : Nat) (listed : Array Bool) (a : Act) (w : World), listed.toList.count false ≤ fuel → St listed a w → wpAnyIn F n P md ops Q fuel listed a w := by
  intro fuel
  induction fuel with
  | zero =>
    intro listed a w hc h
    have hr : Region.ready md ops listed = [] := by
      rw [List.eq_nil_iff_forall_not_mem]
      intro i hi
      have := count_set listed i (mem_ready.1 hi).1
      omega
    exact ⟨hr, hdone _ _ _ h hr⟩
  | succ fuel ih =>
    intro listed a w hc h
    refine ⟨hdone _ _ _ h, fun i hi => ?_⟩
    obtain ⟨h1, o, ho, h2⟩ := mem_ready.1 hi
    have hcs := count_set listed i h1
    exact wpOpIn_mono (fun a' w' h' => ih _ a' w' (by omega) h') (hstep i listed a w h h1 (fun o' ho' => by rw [ho] at ho'; cases ho'; exact h2) ((Array.getElem?_eq_some_iff.1 ho).1))
structure HeldAt (a0 : Act) (s0 nv : Nat) (val : Nat → Value) (Wf : Array Bool → World) (listed : Array Bool) (a : Act) (w : World) : Prop where
  sz : a.tmps.size = a0.tmps.size
  fix : ∀ d, d < s0 → a.eval (.tmp d) = a0.eval (.tmp d)
  got : ∀ i, i < nv → listed.getD i false = true → a.eval (.tmp (s0 + i)) = val i
  wd : w = Wf listed
theorem getD_set_of (l : Array Bool) (i j : Nat) (h : (l.setIfInBounds i true).getD j false = true) : j = i ∨ l.getD j false = true := by
  by_cases e : j = i
  · exact .inl e
  · refine .inr ?_
    rw [Array.getD_eq_getD_getElem?, Array.getElem?_setIfInBounds_ne (fun x => e x.symm)] at h
    rwa [Array.getD_eq_getD_getElem?]
theorem HeldAt.put {a0 : Act} {s0 nv : Nat} {val : Nat → Value} {Wf : Array Bool → World} {listed : Array Bool} {a : Act} {w : World} (h : HeldAt a0 s0 nv val Wf listed a w) (i : Nat) (hi : i < nv) (hs : s0 + nv ≤ a0.tmps.size)
    (hw : Wf (listed.setIfInBounds i true) = Wf listed) : HeldAt a0 s0 nv val Wf (listed.setIfInBounds i true) (a.put (some (s0 + i)) (val i)) w := by
  have hlt : s0 + i < a.tmps.size := by rw [h.sz]; omega
  refine ⟨by simpa [Act.put] using h.sz, fun d hd => ?_, fun j hj hl => ?_, by rw [hw]; exact h.wd⟩
  · rw [Act.eval_put_ne _ _ _ _ (by omega)]; exact h.fix d hd
  · by_cases e : j = i
    · subst e; exact Act.eval_put_same _ _ _ hlt
    · rw [Act.eval_put_ne _ _ _ _ (by omega)]
      rcases getD_set_of _ _ _ hl with h1 | h1
      · exact absurd h1 e
      · exact h.got j hj h1
theorem HeldAt.put_ {a0 : Act} {s0 nv : Nat} {val : Nat → Value} {Wf : Array Bool → World} {listed : Array Bool} {a : Act} {w : World} (h : HeldAt a0 s0 nv val Wf listed a w) (i : Nat) (hi : i < nv) (hs : s0 + nv ≤ a0.tmps.size)
    (hw : Wf (listed.setIfInBounds i true) = Wf listed) {v : Value} (hv : v = val i) : HeldAt a0 s0 nv val Wf (listed.setIfInBounds i true) (a.put (some (s0 + i)) v) w := hv ▸ h.put i hi hs hw
theorem HeldAt.store {a0 : Act} {s0 nv : Nat} {val : Nat → Value} {Wf : Array Bool → World} {listed : Array Bool} {a : Act} {w w' : World} (h : HeldAt a0 s0 nv val Wf listed a w) (i : Nat) (hi : nv ≤ i) (hw : w' = Wf (listed.setIfInBounds i true)) :
    HeldAt a0 s0 nv val Wf (listed.setIfInBounds i true) (a.put none undef) w' := by
  refine ⟨h.sz, h.fix, fun j hj hl => ?_, hw⟩
  rcases getD_set_of _ _ _ hl with h1 | h1
  · omega
  · exact h.got j hj h1
theorem getD_set_self (l : Array Bool) (i : Nat) (d : Bool) (h : i < l.size) : (l.setIfInBounds i true).getD i d = true := by
  rw [Array.getD_eq_getD_getElem?, Array.getElem?_setIfInBounds_self_of_lt h]; rfl
theorem getD_set_mono (l : Array Bool) (i j : Nat) (h : l.getD j false = true) : (l.setIfInBounds i true).getD j false = true := by
  have hj : j < l.size := by
    rcases Nat.lt_or_ge j l.size with h1 | h1
    · exact h1
    · rw [Array.getD_eq_getD_getElem?, Array.getElem?_eq_none h1] at h; cases h
  by_cases e : i = j
  · subst e; exact getD_set_self l i false hj
  · rw [Array.getD_eq_getD_getElem?, Array.getElem?_setIfInBounds_ne e, ← Array.getD_eq_getD_getElem?]; exact h
theorem getD_set_ne' (l : Array Bool) (i j : Nat) (d : Bool) (e : i ≠ j) : (l.setIfInBounds i true).getD j d = l.getD j d := by
  rw [Array.getD_eq_getD_getElem?, Array.getElem?_setIfInBounds_ne e, ← Array.getD_eq_getD_getElem?]
theorem getD_tf (l : Array Bool) (i : Nat) (h : i < l.size) : l.getD i true = l.getD i false := by
  rw [Array.getD_eq_getD_getElem?, Array.getD_eq_getD_getElem?, Array.getElem?_eq_getElem h]; rfl
theorem ready_all {md : Region.Mode} {ops : Array Oper} {listed : Array Bool} (hs : listed.size = ops.size) (hd : (ops.toList.zipIdx.all fun p => p.1.after.all fun e => decide (e.on < p.2)) = true) (h : Region.ready md ops listed = []) : ∀ i, i < ops.size → listed.getD i true = true := by
  intro i
  induction i using Nat.strongRecOn with
  | ind i ih =>
    intro hi
    cases hq : listed.getD i true with
    | true => rfl
    | false =>
      have ho : ops[i]? = some ops[i] := Array.getElem?_eq_getElem hi
      have hm : i ∈ Region.ready md ops listed := mem_ready.2 ⟨hq, _, ho, fun e he _ => by
        have h1 := List.all_eq_true.1 hd (ops[i], i) (by rw [List.mem_iff_getElem?]; exact ⟨i, by rw [List.getElem?_zipIdx]; simp [hi]⟩)
        have h2 := Array.all_eq_true_iff_forall_mem.1 h1 e he
        have h3 := ih e.on (of_decide_eq_true h2) (by have := of_decide_eq_true h2; omega)
        rw [getD_tf _ _ (by have := of_decide_eq_true h2; omega)] at h3
        exact h3⟩
      rw [h] at hm; cases hm
end Go.Proofs.Ytfbjjbbhnmoolaa.P
namespace Go.Proofs.Ytfbjjbbhnmoolaa.P
open Go.RowKit Go.Shelf Go.Proofs.YtfbjjbbhnmoolaaW.PrintWords Go.Proofs.YtfbjjbbhnmoolaaW.PrintLast Go.Proofs.YtfbjjbbhnmoolaaW.PrintMore
attribute [local go_sem] Oper.semAt_some
def fStep (l : List Pu) (D : List Int) (s : List Int × Nat) (k : Nat) : List Int × Nat :=
  if s.2 < l.length ∧ (l.getD s.2 ⟨0, 0⟩).f0 = D.getD k 0 then (s.1.set k (l.getD s.2 ⟨0, 0⟩).f1, s.2 + 1) else s
def fSt (l : List Pu) (D : List Int) (xs : List Nat) : List Int × Nat := xs.foldl (fStep l D) (List.replicate D.length 0, 0)
theorem fSt_snoc (l : List Pu) (D : List Int) (xs : List Nat) (k : Nat) : fSt l D (xs ++ [k]) = fStep l D (fSt l D xs) k := by unfold fSt; rw [List.foldl_append]; rfl
theorem fSt_ok (l : List Pu) (D : List Int) (xs : List Nat) : (fSt l D xs).1.length = D.length ∧ (fSt l D xs).2 ≤ l.length := by
  have : ∀ (xs : List Nat) (s : List Int × Nat), s.2 ≤ l.length → (xs.foldl (fStep l D) s).1.length = s.1.length ∧ (xs.foldl (fStep l D) s).2 ≤ l.length := by
    intro xs
    induction xs with
    | nil => intro s hs; exact ⟨rfl, hs⟩
    | cons k xs ih =>
      intro s hs
      rw [List.foldl_cons]
      have h1 : (fStep l D s k).1.length = s.1.length ∧ (fStep l D s k).2 ≤ l.length := by
        unfold fStep
        split
        · rename_i h; exact ⟨by simp, h.1⟩
        · exact ⟨rfl, hs⟩
      have := ih _ h1.2
      exact ⟨by rw [this.1, h1.1], this.2⟩
  have h := this xs (List.replicate D.length 0, 0) (Nat.zero_le _)
  exact ⟨by rw [fSt, h.1]; simp, h.2⟩
def spreadF (l : List Pu) (on : List Sp) : List Int × Bool := ((fSt l (plN 0 on) (List.range (plN 0 on).length)).1, decide ((fSt l (plN 0 on) (List.range (plN 0 on).length)).2 = l.length))
theorem run_make_blk {P : Program} (t e : TypeId) (i : TypeInfo) (z : Value) (h1 : P.underlying t = some (.slice e)) (h2 : P.info? e = some i) (h3 : i.zero = some z) (h4 : i.size = 1) (h5 : z.cells = #[z])
    (m : Nat) (b2 : (i.bytes : Int) * m ≤ 281474976710656) (b3 : (m : Int) ≤ 9223372036854775807) (w : World) :
    (Instr.makeSlice t (.int .i64 m) (.int .i64 m)).run P w = .ok (.slice (some ⟨w.heap.size, 0, none⟩) m m) (w.alloc (.cells (List.replicate m z).toArray e)) := by
  have hrun := run_make (P := P) w t e i z h1 h2 h3 .i64 .i64 m m (by omega) (Int.le_refl _) b2 b3
  rw [h4, h5, Nat.mul_one, Int.toNat_natCast] at hrun
  have hm : madeCells #[z] m = (List.replicate m z).toArray := by rw [← toList_madeCells_one z m]
  rw [hm] at hrun
  exact hrun
theorem keepR_set {n0 n1 B i : Nat} (W : World) (hB : B < n0) (u : Value) : KeepR n0 n1 W (W.setCell ⟨B, i, none⟩ u) :=
  ⟨by simp [World.setCell], fun q h0 h1 => Below.heap_setCell W ⟨B, i, none⟩ u q (by show q ≠ B; omega)⟩
theorem boxed_far {W : World} {b g i : Nat} {t : TypeId} {v : Value} (h : Boxed W b t v) (hne : b ≠ g) (u : Value) : Boxed (W.setCell ⟨g, i, none⟩ u) b t v := blk_far h hne u
theorem putObj_far {W : World} {b D : Nat} {o : Obj} {x : Obj} (hne : b ≠ D) (h : W.heap[b]? = some x) : (W.putObj D o).heap[b]? = some x := by
  simp only [World.putObj]
  rw [Array.getElem?_setIfInBounds_ne (fun e => hne e.symm)]
  exact h
theorem World.grownBy_set (W : World) (b i : Nat) (v : Value) : W.grownBy (W.setCell ⟨b, i, none⟩ v) (some b) :=
  ⟨rfl, rfl, rfl, by simp [World.setCell], fun k _ hk => Below.heap_setCell W ⟨b, i, none⟩ v k (fun e => hk (by rw [e]))⟩
def SpI (w : World) (b0 bo g n1 : Nat) (l : List Pu) (D : List Int) (xs : List Nat) (W : World) : Prop :=
  ((∃ (A : Option Addr) (c : Nat), Boxed W b0 99 (.slice A (l.drop (fSt l D xs).2).length c) ∧ Kd.C kPu w A (l.drop (fSt l D xs).2).length (l.drop (fSt l D xs).2) ∧ (l.drop (fSt l D xs).2).length ≤ c) ∧
    Boxed W bo 29 (.slice (some ⟨g, 0, none⟩) D.length D.length) ∧ W.heap[g]? = some (.cells ((fSt l D xs).1.map (Value.int .u64)).toArray 22 (0, 0))) ∧ (Below w.heap.size w W ∧ n1 ≤ W.heap.size)
theorem SpI.own (w : World) (b0 bo g n1 : Nat) (l : List Pu) (D : List Int) (hn : w.heap.size ≤ n1) : OwnFrom n1 (fun (xs : List (Fin D.length)) W => SpI w b0 bo g n1 l D (xs.map (·.val)) W) := by
  intro xs W W' row h hg hr
  obtain ⟨⟨⟨A, c, h1, h2, h3⟩, h4, h5⟩, h6, h7⟩ := h
  have hb : ∀ {q : Nat} {o : Obj}, W.heap[q]? = some o → o.isCells = true → W'.heap[q]? = some o := fun {q o} h hc => by
    refine (hg.block q (blk_lt h) (fun e => ?_)).trans h
    obtain ⟨-, o', e1, e2⟩ := hr q e.symm
    rw [h] at e1; cases e1; rw [hc] at e2; cases e2
  exact ⟨⟨⟨A, c, hb h1 rfl, h2, h3⟩, hb h4 rfl, hb h5 rfl⟩, h6.grown hg (Nat.le_trans (Nat.le_refl _) h6.size) (fun k e => Nat.le_trans hn (hr k e).1), Nat.le_trans h7 hg.size⟩
set_option maxRecDepth 100000 in
set_option maxHeartbeats 8000000 in
theorem fspread_c (l : List Pu) (on : List Sp) (hw : wfSps on) (hck : spCheck on = 0) (hm : l.length ≤ 4096) (w : World) (u v : Value) (hu : SI kPu w u l) (hv : SI kSp w v on) : Calls Try.prog 116 #[u, v] w fun e w' =>
    ∃ v0 : Value, e = .returned (.tuple #[v0, .bool (spreadF l on).2]) ∧ FI (Kd.int .u64) w.heap.size w' v0 (spreadF l on).1 ∧ Below w.heap.size w w' := by
  obtain ⟨A0, c0, rfl, hc0, hr0⟩ := hu
  obtain ⟨A1, c1, rfl, hc1, hr1⟩ := hv
  have hlen := places_len hck
  have hpl : placesAt 0 on = plN 0 on := placesAt_plN on _ _ _ (spCheck_zero hck).2
  have hon : on.length ≤ 1024 := (spCheck_zero hck).1
  have HCk := check_eq on hw 3000 (by omega)
  rw [hck] at HCk
  have hct := spCount_c on hw hck
  have hcn : cntN on = ((plN 0 on).length : Int) := (plN_length on 0 (fun s hs => (spRight_pos on _ _ _ (spCheck_zero hck).2 s hs).1)).symm
  rw [hcn] at hct
  refine (callsIn_wide (n := 5)).1 ?_
  have hf1 : Fence.wide.fn 129 := trivial
  have hf2 : Fence.wide.fn 130 := trivial
  have hpu := Try.underlying137
  have HR1 := Aside0.mk (And.intro hr1 hc1)
  have HR0 := Aside0.mk (And.intro hr0 hc0)
  have HM := Aside0.mk (And.intro hm (And.intro hon (And.intro hlen hpl)))
  have HCK := Aside0.mk HCk
  have HCT := Aside0.mk hct
  unfold spreadF
  generalize hD : plN 0 on = D at *
  have HD := Aside0.mk hD
  obtain ⟨i0, hi, hz0, hz1, hz2⟩ := info_parts info22
  have hmk := run_make_blk (P := Try.prog) 29 22 i0 (.int .u64 0) Try.underlying29 hi hz0 hz1 rfl D.length (by rw [hz2]; omega) (by omega)
  clear hr0 hr1 hc0 hc1 hm hon hlen hpl HCk hw hck hct hcn hD
  refine callsIn_of_wp_marks Try.func116 rfl trivial ?_ rfl
  simp only [Try.ntmps116, List.size_toArray, List.length_cons, List.length_nil, Nat.reduceAdd, Nat.reduceSub, Array.replicate_succ, Array.replicate_zero, List.push_toArray, List.append_toArray, List.nil_append, List.cons_append]
  gi_wp2_with (first | (gi_at_call 130; refine (callsIn_wide.2 (HCT.out _ _ (.of (Kd.C_below HR1.out.1 (below_alloc (Below.refl _ _) _)) HR1.out.2))).mono ?_; rintro e w1 ⟨rfl, hb⟩; have HB1 := Aside0.mk hb; clear hb) | (gi_at_call 129; refine (all_in _ (by omega) A1 c1 on _ (Kd.C_below HR1.out.1 (below_then (below_then (below_alloc (Below.refl _ _) _) (by simp) HB1.out) (by have := HB1.out.size; simp at this; omega) (below_alloc (below_alloc (Below.refl _ _) _) _))) HR1.out.2 (by have := HM.out.2.1; omega)).mono ?_; rintro e w2 ⟨Bn, vv, rfl, hS, hb2⟩; have HS := Aside0.mk hS; have HB2 := Aside0.mk hb2; clear hS hb2))
  clear hmk
  have hsz : w.heap.size + 1 ≤ w1.heap.size := by have := HB1.out.size; simpa using this
  have hB1 : Below w.heap.size w w1 := below_then (below_alloc (Below.refl _ _) _) (by simp) HB1.out
  have g0 : Boxed w1 w.heap.size 99 (.slice A0 l.length c0) := boxed_below (Boxed.new w _ _) HB1.out
  generalize hwa : w1.alloc (Obj.cells (Array.replicate D.length (Value.int .u64 0)) 22) = wa at *
  have hwas : wa.heap.size = w1.heap.size + 1 := by rw [← hwa]; simp
  have g0a : Boxed wa w.heap.size 99 (.slice A0 l.length c0) := by rw [← hwa]; exact g0.alloc _
  have g1a : wa.heap[w1.heap.size]? = some (.cells (Array.replicate D.length (Value.int .u64 0)) 22 (0, 0)) := by rw [← hwa]; exact blk_new w1 _
  have hBa : Below w.heap.size w wa := by rw [← hwa]; exact below_alloc hB1 _
  have g2a : Boxed (wa.alloc (.cells #[.slice (some ⟨w1.heap.size, 0, none⟩) D.length D.length] 29)) (w1.heap.size + 1) 29 (.slice (some ⟨w1.heap.size, 0, none⟩) D.length D.length) := box_new hwas _ _
  have hBW : Below w.heap.size w w2 := below_then (below_alloc hBa _) (by simp; omega) HB2.out
  have g0 : Boxed w2 w.heap.size 99 (.slice A0 l.length c0) := boxed_below (g0a.alloc _) HB2.out
  have g1 : w2.heap[w1.heap.size]? = some (.cells (Array.replicate D.length (Value.int .u64 0)) 22 (0, 0)) := blk_below (blk_alloc g1a _) HB2.out
  have g2 : Boxed w2 (w1.heap.size + 1) 29 (.slice (some ⟨w1.heap.size, 0, none⟩) D.length D.length) := boxed_below g2a HB2.out
  have hw2 : w1.heap.size + 1 + 1 ≤ w2.heap.size := by have := HB2.out.size; simp [hwas] at this; omega
  have hS2 : HoldsSp (w1.heap.size + 1 + 1) w2.heap.size Bn vv on w2 := by have := HS.out; simpa [hwas] using this
  have hseq := all_stopsN 4 (by omega) (w1.heap.size + 1 + 1) Bn vv on 3000 HCK.out (by have := HM.out.2.2.1; rw [HM.out.2.2.2]; omega) w2 hS2
  rw [HM.out.2.2.2] at hseq
  clear g0a g1a g2a hBa hwa hwas HS
  refine wpIn_rangeFunc_ownG rfl (by omega) (gf := 150) (lb := #[.pointer (some ⟨Bn, 0, none⟩)]) rfl trivial (enters_of Try.func150 (by kernel_rfl) rfl)
    hseq KeepR.trans (KeepR.put (Nat.le_refl _)) (Below.refl _ _) (fun _ => rfl)
    (fun (xs : List (Fin D.length)) W => SpI w w.heap.size (w1.heap.size + 1) w1.heap.size w2.heap.size l D (xs.map (·.val)) W)
    (fun _ _ _ => False) (SpI.own _ _ _ _ _ _ _ (by omega)) (fun _ _ _ _ _ hs _ _ => hs)
    ⟨⟨⟨A0, c0, by simpa [fSt] using g0, by simpa [fSt] using HR0.out.1, by simpa [fSt] using HR0.out.2⟩, g2, by simpa [fSt] using g1⟩, hBW, Nat.le_refl _⟩
    (fun x => { tmps := #[.slice A0 l.length c0, .slice A1 on.length c1, .pointer (some ⟨w.heap.size, 0, none⟩), undef, .slice none 0 0, .bool false, .pointer (some ⟨w1.heap.size + 1, 0, none⟩), .int .i64 (x.val : Int), .int .i64 (D.getD x.val 0), .slice A1 on.length c1, .int .i64 (D.length : Int), .slice (some ⟨w1.heap.size, 0, none⟩) D.length D.length, .slice A1 on.length c1, .func (.func 150) #[] #[.pointer (some ⟨Bn, 0, none⟩)], .int .i64 (x.val : Int), .int .i64 (D.getD x.val 0), undef, undef, undef, undef, undef, undef, undef, undef, undef, undef, undef, undef, undef, undef, undef, undef, undef, undef, undef, undef, undef, undef, undef, undef], defers := [] }) ?assign ?body ?done ?stop
  case assign =>
    intro l x W K hK
    gi_wp2
    first | exact hK | simpa using hK
  case body =>
    rintro lo pre x W ⟨⟨⟨A, c, h1, h2, h3⟩, h4, h5⟩, h6, h7⟩ hlt
    have HSN := Aside0.mk (fSt_snoc l D (pre.map (·.val)) x.val)
    have hok := fSt_ok l D (pre.map (·.val))
    have hmap : (pre ++ [x]).map (·.val) = pre.map (·.val) ++ [x.val] := by simp
    have HMP := Aside0.mk hmap
    generalize fSt l D (pre.map (·.val)) = s at h1 h2 h3 h5 HSN hok
    obtain ⟨o, k⟩ := s
    simp only at h1 h2 h3 h5 hok
    obtain ⟨ho, hkl⟩ := hok
    clear hmap g0 g1 g2 hBW hS2 hseq
    have hxl := x.isLt
    have hx0 : (0 : Int) ≤ (x.val : Int) := by omega
    have hx1 : (x.val : Int) < (D.length : Int) := by omega
    have HPP := Aside0.mk (show ∀ z, D.getD x.val 0 = z → fStep l D (o, k) x.val = if k < l.length ∧ (l.getD k ⟨0, 0⟩).f0 = z then (o.set x.val (l.getD k ⟨0, 0⟩).f1, k + 1) else (o, k) from fun z e => by subst e; rfl)
    generalize hpp : D.getD x.val 0 = p
    have HPE := Aside0.mk hpp
    clear hpp
    by_cases hk : k < l.length
    · rw [drop_at hk] at h1 h2 h3
      have hd1 := drop_at hk
      have HG := Aside0.mk (show l.getD k ⟨0, 0⟩ = l[k] by simp [List.getD, hk])
      generalize l[k] = y at h1 h2 h3 HG hd1
      have HRD := Aside0.mk hd1
      have hq2 := h2
      obtain ⟨ad, e1, hy0, hy1⟩ := at_T137 (Kd.C_below h2 h6) 0 (by omega) (by simp)
      subst e1
      obtain ⟨ad', e1', -, hyw1⟩ := at_T137 hq2 0 (by omega) (by simp)
      cases e1'
      clear hq2
      rw [show rd_T137 (y :: l.drop (k + 1)) 0 = y from rfl] at hyw1
      simp only [Int.toNat_zero, Nat.zero_mul] at hyw1
      (try rw [Addr.add_zero'] at hyw1)
      rw [show rd_T137 (y :: l.drop (k + 1)) 0 = y from rfl] at hy0 hy1
      simp only [Int.toNat_zero, Nat.zero_mul] at hy0 hy1
      (try rw [Addr.add_zero'] at hy0)
      (try rw [Addr.add_zero'] at hy1)
      have HC := Aside0.mk (And.intro h2 h3)
      generalize hml : (y :: l.drop (k + 1)).length = m at *
      have hm1 : m = (l.drop (k + 1)).length + 1 := by rw [← hml]; simp
      have hpos : (0 : Int) < (m : Int) := by omega
      have HB0 := Aside0.mk (And.intro h1 (And.intro h4 (And.intro h5 (And.intro h6 h7))))
      have hb0 := h1.cell
      have hz0 := h1.frozen
      have hb1 := h4.cell
      have HML := Aside0.mk hml
      have HM1 := Aside0.mk hm1
      obtain ⟨i1, hi1, _, hsz1, _⟩ := info_parts info137
      have hcut := cut_from (P := Try.prog) 99 137 .i64 Try.underlying99 hi1 2 hsz1 (some ad) m c 1 (by omega) (by omega)
      obtain ⟨Ad, hAd⟩ : ∃ A1 : Option Addr, A1 = (if c = (1 : Int).toNat then (some ad) else ((some ad) : Option Addr).map (·.add ((1 : Int).toNat * 2))) := ⟨_, rfl⟩
      rw [← hAd] at hcut
      have HAD := Aside0.mk hAd
      obtain ⟨m', hm'⟩ : ∃ m', m' = m - (1 : Int).toNat := ⟨_, rfl⟩
      obtain ⟨c', hc'⟩ : ∃ c', c' = c - (1 : Int).toNat := ⟨_, rfl⟩
      rw [← hm', ← hc'] at hcut
      have HMC := Aside0.mk (And.intro hm' hc')
      have hq1 : (1 : Int) ≤ (m : Int) := by omega
      have hgc : W.cell? ⟨w1.heap.size, x.val, none⟩ = some (.int .u64 (o[x.val]'(by omega))) := by rw [blk_cell h5 x.val]; simp [ho]
      have hgz := blk_frozen h5 x.val
      clear h1 h2 h3 h4 h5 h6 h7 hd1 hml hm1 hAd hm' hc' hi1 hsz1
      by_cases hp : y.f0 = p
      · have hpe : (y.f0 == p) = true := beq_iff_eq.2 hp
        clear hp
        gi_wp2
        refine wpIn_region_any (by kernel_rfl) ?_
        change wpAnyIn _ _ _ _ _ _ _ _ _ (World.drew _)
        obtain ⟨val, hval⟩ : ∃ val : Nat → Value, val = fun i => (#[Value.slice (some ⟨w1.heap.size, 0, none⟩) D.length D.length, .int .i64 (x.val : Int), .slice (some ad) m c, .pointer (some ad), .pointer (some (ad.add 1)), .int .u64 y.f1, .slice (some ad) m c, .slice Ad m' c', .pointer (some ⟨w1.heap.size, x.val, none⟩)] : Array Value).getD i undef := ⟨_, rfl⟩
        obtain ⟨Wf, hWf⟩ : ∃ Wf : Array Bool → World, Wf = fun l => if l.getD 10 false = true then ((W.drew.setCell ⟨w1.heap.size, x.val, none⟩ (.int .u64 y.f1)).setCell ⟨w.heap.size, 0, none⟩ (.slice Ad m' c')) else if l.getD 9 false = true then W.drew.setCell ⟨w1.heap.size, x.val, none⟩ (.int .u64 y.f1) else W.drew := ⟨_, rfl⟩
        obtain ⟨h1, h4, h5, h6, h7⟩ := HB0.out
        have hoN : w.heap.size ≤ w1.heap.size := by omega
        have hBl : ∀ lz, Below w.heap.size w (Wf lz) := fun lz => by
          rw [hWf]; simp only
          split
          · exact ((h6.drew).setCell (p := ⟨w1.heap.size, x.val, none⟩) (by show w.heap.size ≤ w1.heap.size; omega) _).setCell (p := ⟨w.heap.size, 0, none⟩) (Nat.le_refl _) _
          split
          · exact (h6.drew).setCell (p := ⟨w1.heap.size, x.val, none⟩) (by show w.heap.size ≤ w1.heap.size; omega) _
          · exact h6.drew
        have hBo : ∀ lz, Boxed (Wf lz) (w1.heap.size + 1) 29 (.slice (some ⟨w1.heap.size, 0, none⟩) D.length D.length) := fun lz => by
          rw [hWf]; simp only
          split
          · exact boxed_far (boxed_far (show Boxed W.drew _ _ _ from h4) (by omega) _) (by omega) _
          split
          · exact boxed_far (show Boxed W.drew _ _ _ from h4) (by omega) _
          · exact h4
        have hB0 : ∀ lz : Array Bool, lz.getD 10 false = false → Boxed (Wf lz) w.heap.size 99 (.slice (some ad) m c) := fun lz hz => by
          rw [hWf]; simp only
          rw [if_neg (by rw [hz]; simp)]
          split
          · exact boxed_far (show Boxed W.drew _ _ _ from h1) (by omega) _
          · exact h1
        have hBg : ∀ lz : Array Bool, lz.getD 10 false = false → lz.getD 9 false = false → (Wf lz).heap[w1.heap.size]? = some (.cells (o.map (Value.int .u64)).toArray 22 (0, 0)) := fun lz hz hz9 => by
          rw [hWf]; simp only
          rw [if_neg (by rw [hz]; simp), if_neg (by rw [hz9]; simp)]
          exact h5
        have HS := Aside0.mk (And.intro hBl (And.intro hBo (And.intro hB0 hBg)))
        have HYW := Aside0.mk hyw1
        have hsame : ∀ (lz : Array Bool) (i : Nat), i ≠ 9 → i ≠ 10 → Wf (lz.setIfInBounds i true) = Wf lz := fun lz i h9 h10 => by
          rw [hWf]; simp only
          rw [getD_set_ne' _ _ _ _ h9, getD_set_ne' _ _ _ _ h10]
        have HWS := Aside0.mk hsame
        have HWD := Aside0.mk hWf
        have HVD := Aside0.mk hval
        clear h1 h4 h5 h6 h7 hBl hBo hB0 hBg hsame hWf hval hb0 hz0 hb1 hgc hgz
        refine wpAnyIn_held (fun lz a w' => lz.size = 11 ∧ (lz.getD 10 false = true → ∀ j, j < 10 → lz.getD j false = true) ∧ HeldAt ({ tmps := #[.slice A0 l.length c0, .slice A1 on.length c1, .pointer (some ⟨w.heap.size, 0, none⟩), undef, .slice none 0 0, .bool false, .pointer (some ⟨w1.heap.size + 1, 0, none⟩), .int .i64 (x.val : Int), .int .i64 p, .slice A1 on.length c1, .int .i64 (D.length : Int), .slice (some ⟨w1.heap.size, 0, none⟩) D.length D.length, .slice A1 on.length c1, .func (.func 150) #[] #[.pointer (some ⟨Bn, 0, none⟩)], .int .i64 (x.val : Int), .int .i64 p, .slice (some ad) m c, .int .i64 (m : Int), .bool true, .bool true, .slice (some ad) m c, .pointer (some ad), .pointer (some ad), .int .i64 y.f0, .int .i64 p, .bool true, .bool true, undef, undef, undef, undef, undef, undef, undef, undef, undef, undef, undef, undef, undef], defers := [] }) 27 9 val Wf lz a w') ?stepR ?doneR _ _ _ _ (by simp) ⟨by simp, fun h => by simp at h, ⟨rfl, fun _ _ => rfl, fun i hi hl => ?_, by rw [HWD.out]; simp⟩⟩
        case stepR =>
          rintro i lz a w' ⟨hsz, h10, hS⟩ hl hd hi
          have hi11 : i < 11 := by simpa using hi
          clear hi
          obtain rfl := hS.wd
          have hlf : lz.getD i false = false := by rw [← getD_tf _ _ (by omega)]; exact hl
          have n10 : i ≠ 10 → lz.getD 10 false = false := fun hne => by
            cases hq : lz.getD 10 false with
            | false => rfl
            | true => have := h10 hq i (by omega); rw [hlf] at this; cases this
          have N10 := Aside0.mk n10
          have H10 := Aside0.mk h10
          have HH := Aside0.mk hS
          clear n10 h10 hl
          obtain h | h | h | h | h | h | h | h | h | h | h : i = 0 ∨ i = 1 ∨ i = 2 ∨ i = 3 ∨ i = 4 ∨ i = 5 ∨ i = 6 ∨ i = 7 ∨ i = 8 ∨ i = 9 ∨ i = 10 := by omega
          all_goals subst h
          · have e6 := hS.fix 6 (by omega)
            simp only [Act.eval] at e6
            have hc := (HS.out.2.1 lz).cell
            refine wpOpIn_step rfl (fun K hK => ?_)
            clear hd hS
            go_simp
            refine hK _ _ ⟨by simpa using hsz, fun h => absurd h (by rw [getD_set_ne' _ _ _ _ (by omega), N10.out (by omega)]; simp), ?_⟩
            exact HH.out.put_ 0 (by omega) (by simp) (HWS.out _ _ (by omega) (by omega)) (by rw [HVD.out]; rfl)
          · have e7 := hS.fix 7 (by omega)
            simp only [Act.eval] at e7
            refine wpOpIn_step rfl (fun K hK => ?_)
            clear hd hS
            go_simp
            refine hK _ _ ⟨by simpa using hsz, fun h => absurd h (by rw [getD_set_ne' _ _ _ _ (by omega), N10.out (by omega)]; simp), ?_⟩
            exact HH.out.put_ 1 (by omega) (by simp) (HWS.out _ _ (by omega) (by omega)) (by rw [HVD.out]; rfl)
          · have e2 := hS.fix 2 (by omega)
            simp only [Act.eval] at e2
            have hc := (HS.out.2.2.1 lz (N10.out (by omega))).cell
            refine wpOpIn_step rfl (fun K hK => ?_)
            clear hd hS
            go_simp
            refine hK _ _ ⟨by simpa using hsz, fun h => absurd h (by rw [getD_set_ne' _ _ _ _ (by omega), N10.out (by omega)]; simp), ?_⟩
            exact HH.out.put_ 2 (by omega) (by simp) (HWS.out _ _ (by omega) (by omega)) (by rw [HVD.out]; rfl)
          · have d2 : a.eval (.tmp (27 + 2)) = val 2 := hS.got 2 (by omega) (hd _ rfl ⟨2, .data⟩ (by simp) (by kernel_rfl))
            rw [HVD.out] at d2
            simp [Act.eval] at d2
            refine wpOpIn_step rfl (fun K hK => ?_)
            clear hd hS
            go_simp
            refine hK _ _ ⟨by simpa using hsz, fun h => absurd h (by rw [getD_set_ne' _ _ _ _ (by omega), N10.out (by omega)]; simp), ?_⟩
            exact HH.out.put_ 3 (by omega) (by simp) (HWS.out _ _ (by omega) (by omega)) (by rw [HVD.out]; rfl)
          · have d3 : a.eval (.tmp (27 + 3)) = val 3 := hS.got 3 (by omega) (hd _ rfl ⟨3, .data⟩ (by simp) (by kernel_rfl))
            rw [HVD.out] at d3
            simp [Act.eval] at d3
            refine wpOpIn_step rfl (fun K hK => ?_)
            clear hd hS
            go_simp
            refine hK _ _ ⟨by simpa using hsz, fun h => absurd h (by rw [getD_set_ne' _ _ _ _ (by omega), N10.out (by omega)]; simp), ?_⟩
            exact HH.out.put_ 4 (by omega) (by simp) (HWS.out _ _ (by omega) (by omega)) (by rw [HVD.out]; rfl)
          · have d4 : a.eval (.tmp (27 + 4)) = val 4 := hS.got 4 (by omega) (hd _ rfl ⟨4, .data⟩ (by simp) (by kernel_rfl))
            rw [HVD.out] at d4
            simp [Act.eval] at d4
            have hc := ((HS.out.1 lz).cell (World.block_lt_of_cell? w _ HYW.out)).trans HYW.out
            refine wpOpIn_step rfl (fun K hK => ?_)
            clear hd hS
            go_simp
            refine hK _ _ ⟨by simpa using hsz, fun h => absurd h (by rw [getD_set_ne' _ _ _ _ (by omega), N10.out (by omega)]; simp), ?_⟩
            exact HH.out.put_ 5 (by omega) (by simp) (HWS.out _ _ (by omega) (by omega)) (by rw [HVD.out]; rfl)
          · have e2 := hS.fix 2 (by omega)
            simp only [Act.eval] at e2
            have hc := (HS.out.2.2.1 lz (N10.out (by omega))).cell
            refine wpOpIn_step rfl (fun K hK => ?_)
            clear hd hS
            go_simp
            refine hK _ _ ⟨by simpa using hsz, fun h => absurd h (by rw [getD_set_ne' _ _ _ _ (by omega), N10.out (by omega)]; simp), ?_⟩
            exact HH.out.put_ 6 (by omega) (by simp) (HWS.out _ _ (by omega) (by omega)) (by rw [HVD.out]; rfl)
          · have d6 : a.eval (.tmp (27 + 6)) = val 6 := hS.got 6 (by omega) (hd _ rfl ⟨6, .data⟩ (by simp) (by kernel_rfl))
            rw [HVD.out] at d6
            simp [Act.eval] at d6
            refine wpOpIn_step rfl (fun K hK => ?_)
            clear hd hS
            go_simp
            refine hK _ _ ⟨by simpa using hsz, fun h => absurd h (by rw [getD_set_ne' _ _ _ _ (by omega), N10.out (by omega)]; simp), ?_⟩
            exact HH.out.put_ 7 (by omega) (by simp) (HWS.out _ _ (by omega) (by omega)) (by rw [HVD.out]; rfl)
          · have d0 : a.eval (.tmp (27 + 0)) = val 0 := hS.got 0 (by omega) (hd _ rfl ⟨0, .data⟩ (by simp) (by kernel_rfl))
            rw [HVD.out] at d0
            simp [Act.eval] at d0
            have d1 : a.eval (.tmp (27 + 1)) = val 1 := hS.got 1 (by omega) (hd _ rfl ⟨1, .data⟩ (by simp) (by kernel_rfl))
            rw [HVD.out] at d1
            simp [Act.eval] at d1
            refine wpOpIn_step rfl (fun K hK => ?_)
            clear hd hS
            go_simp
            refine hK _ _ ⟨by simpa using hsz, fun h => absurd h (by rw [getD_set_ne' _ _ _ _ (by omega), N10.out (by omega)]; simp), ?_⟩
            exact HH.out.put_ 8 (by omega) (by simp) (HWS.out _ _ (by omega) (by omega)) (by rw [HVD.out]; rfl)
          · -- the store into the row
            have d8 : a.eval (.tmp (27 + 8)) = val 8 := hS.got 8 (by omega) (hd _ rfl ⟨8, .data⟩ (by simp) (by kernel_rfl))
            rw [HVD.out] at d8
            simp [Act.eval] at d8
            have d5 : a.eval (.tmp (27 + 5)) = val 5 := hS.got 5 (by omega) (hd _ rfl ⟨5, .data⟩ (by simp) (by kernel_rfl))
            rw [HVD.out] at d5
            simp [Act.eval] at d5
            have hbg := HS.out.2.2.2 lz (N10.out (by omega)) hlf
            have hgc : (Wf lz).cell? ⟨w1.heap.size, x.val, none⟩ = some (.int .u64 (o[x.val]'(by omega))) := by rw [blk_cell hbg x.val]; simp [ho]
            have hgz := blk_frozen hbg x.val
            refine wpOpIn_step rfl (fun K hK => ?_)
            clear hd hS hbg
            go_simp
            refine hK _ _ ⟨by simpa using hsz, fun h => absurd h (by rw [getD_set_ne' _ _ _ _ (by omega), N10.out (by omega)]; simp), HH.out.store 9 (by omega) ?_⟩
            have h10f := N10.out (by omega)
            rw [HWD.out]
            simp only
            rw [getD_set_ne' _ _ _ _ (by omega), h10f, hlf, getD_set_self _ _ _ (by omega)]
            simp
          · -- the store into the row's box
            have e2 := hS.fix 2 (by omega)
            simp only [Act.eval] at e2
            have d7 : a.eval (.tmp (27 + 7)) = val 7 := hS.got 7 (by omega) (hd _ rfl ⟨7, .data⟩ (by simp) (by kernel_rfl))
            rw [HVD.out] at d7
            simp [Act.eval] at d7
            have hb := HS.out.2.2.1 lz hlf
            have hc := hb.cell
            have hz := hb.frozen
            have h9 := hd _ rfl ⟨9, .chain⟩ (by simp) (by kernel_rfl)
            simp only at h9
            have hal : ∀ j, j < 10 → (lz.setIfInBounds 10 true).getD j false = true := fun j hj => by
              obtain h | h | h | h | h | h | h | h | h | h : j = 0 ∨ j = 1 ∨ j = 2 ∨ j = 3 ∨ j = 4 ∨ j = 5 ∨ j = 6 ∨ j = 7 ∨ j = 8 ∨ j = 9 := by omega
              all_goals subst h
              all_goals exact getD_set_mono _ _ _ (hd _ rfl ⟨_, .phase⟩ (by simp) (by kernel_rfl))
            have HAL := Aside0.mk hal
            refine wpOpIn_step rfl (fun K hK => ?_)
            clear hd hS hb hal
            go_simp
            refine hK _ _ ⟨by simpa using hsz, fun _ => HAL.out, HH.out.store 10 (by omega) ?_⟩
            rw [HWD.out]
            simp only
            rw [hlf, h9, getD_set_self _ _ _ (by omega)]
            simp
        case doneR =>
          rintro lz a w' ⟨hsz, h10, hS⟩ hr
          have hall := ready_all (by simpa using hsz) (by kernel_rfl) hr
          have l10 := hall 10 (by simp)
          rw [getD_tf _ _ (by omega)] at l10
          have hw' := hS.wd
          rw [HWD.out] at hw'
          simp only at hw'
          rw [if_pos l10] at hw'
          subst hw'
          obtain ⟨h1, h4, h5, h6, h7⟩ := HB0.out
          have HF : fSt l D ((pre ++ [x]).map (·.val)) = (o.set x.val y.f1, k + 1) := by rw [HMP.out, HSN.out, HPP.out p HPE.out, HG.out, if_pos ⟨hk, beq_iff_eq.1 hpe⟩]
          refine ⟨?_, ?_, ?_⟩
          · exact (((show KeepsFrom w2.heap.size W W.drew from ⟨Nat.le_refl _, fun k o _ hk _ => hk⟩).trans (KeepsFrom.of_grownBy (World.grownBy_set W.drew w1.heap.size x.val _) (fun j e => by cases e; omega))).trans (KeepsFrom.of_grownBy (World.grownBy_set _ w.heap.size 0 _) (fun j e => by cases e; omega)))
          · exact ((keepR_set _ (by omega) _ : KeepR _ _ W.drew _)).trans (keepR_set _ (by omega) _)
          · show SpI _ _ _ _ _ _ _ _ _
            unfold SpI
            rw [HF]
            simp only
            have hcd := Kd.C_drop (k := kPu) (m := 1) (c := c) (HML.out.symm ▸ HC.out.1) (by simp) (by rw [HML.out]; exact HC.out.2)
            have hme : (l.drop (k + 1)).length = m' := by have := HMC.out.1; have := HM1.out; simp at *; omega
            rw [hme]
            have hgb : ((W.drew.setCell ⟨w1.heap.size, x.val, none⟩ (.int .u64 y.f1)).setCell ⟨w.heap.size, 0, none⟩ (.slice Ad m' c')).heap[w1.heap.size]? = some (.cells (((o.map (Value.int .u64)).toArray).setIfInBounds x.val (.int .u64 y.f1)) 22 (0, 0)) := blk_far (blk_put (show W.drew.heap[w1.heap.size]? = _ from h5) x.val _ rfl) (by show w1.heap.size ≠ w.heap.size; omega) _
            have hcs : ((o.map (Value.int .u64)).toArray).setIfInBounds x.val (.int .u64 y.f1) = ((o.set x.val y.f1).map (Value.int .u64)).toArray := by simp [List.map_set]
            rw [hcs] at hgb
            refine ⟨⟨⟨Ad, c', Boxed.set _ (boxed_far (show Boxed W.drew _ _ _ from h1) (by omega) _), ?_, ?_⟩, boxed_far (boxed_far (show Boxed W.drew _ _ _ from h4) (by omega) _) (by omega) _, hgb⟩, ?_, ?_⟩
            · rw [HAD.out, ← hme]; exact hcd
            · have := HMC.out.1; have := HMC.out.2; have := HC.out.2; simp at *; omega
            · exact ((h6.drew).setCell (p := ⟨w1.heap.size, x.val, none⟩) (by show w.heap.size ≤ w1.heap.size; omega) _).setCell (p := ⟨w.heap.size, 0, none⟩) (Nat.le_refl _) _
            · simpa [World.setCell] using h7
        · exfalso
          rw [Array.getD_eq_getD_getElem?] at hl
          rcases Nat.lt_or_ge i 11 with h | h
          · rw [Array.getElem?_eq_getElem (by simpa using h)] at hl; simp at hl
          · rw [Array.getElem?_eq_none (by simpa using h)] at hl; simp at hl
      · have hpe : (y.f0 == p) = false := beq_eq_false_iff_ne.2 hp
        have HN := Aside0.mk hp
        clear hp hcut hgc hgz
        gi_wp2
        have HF : fSt l D ((pre ++ [x]).map (·.val)) = (o, k) := by rw [HMP.out, HSN.out, HPP.out p HPE.out, HG.out, if_neg (fun h => HN.out h.2)]
        obtain ⟨h1, h4, h5, h6, h7⟩ := HB0.out
        refine ⟨KeepsFrom.refl _ _, KeepR.refl _ _ _, ?_⟩
        show SpI _ _ _ _ _ _ _ _ _
        unfold SpI
        rw [HF]
        simp only
        rw [HRD.out, HML.out]
        exact ⟨⟨⟨some ad, c, h1, HC.out.1, HC.out.2⟩, h4, h5⟩, h6, h7⟩
    · have hke : l.drop k = [] := List.drop_eq_nil_of_le (by omega)
      have HN := Aside0.mk hk
      have HB0 := Aside0.mk (And.intro h1 (And.intro h4 (And.intro h5 (And.intro h6 h7))))
      have HC := Aside0.mk (And.intro h2 h3)
      rw [hke] at h1
      have hb0 := h1.cell
      simp only [List.length_nil] at hb0
      clear h1 h2 h3 h4 h5 h6 h7 hk
      gi_wp2
      have HF : fSt l D ((pre ++ [x]).map (·.val)) = (o, k) := by rw [HMP.out, HSN.out, HPP.out p HPE.out, if_neg (fun h => HN.out h.1)]
      obtain ⟨h1, h4, h5, h6, h7⟩ := HB0.out
      refine ⟨KeepsFrom.refl _ _, KeepR.refl _ _ _, ?_⟩
      show SpI _ _ _ _ _ _ _ _ _
      unfold SpI
      rw [HF]
      exact ⟨⟨⟨A, c, h1, HC.out.1, HC.out.2⟩, h4, h5⟩, h6, h7⟩
  case done =>
    rintro Dd ys W hD hys ⟨⟨⟨A, c, h1, h2, h3⟩, h4, h5⟩, h6, h7⟩ hK
    rw [hys] at h1 h2 h3 h5
    have hok := fSt_ok l D (List.range D.length)
    generalize hs : fSt l D (List.range D.length) = s at h1 h2 h3 h5 hok
    obtain ⟨o, k⟩ := s
    have HSE := Aside0.mk hs
    clear hs
    simp only at h1 h2 h3 h5 hok
    have HP := Aside0.mk (And.intro h5 (And.intro h6 h7))
    have HKK := Aside0.mk hK
    have HOK := Aside0.mk hok
    have hb0 := h1.cell
    have hb1 := h4.cell
    clear h1 h2 h3 h4 h5 h6 h7 hK hseq g0 g1 g2 hBW hS2 hok
    gi_wp2
    gi_quiet_th (fail)
    gi_wp2
    refine ⟨by simp, .inl ⟨_, _, rfl, run_takeDeferred (by simpa using HKK.out), ?_⟩⟩
    obtain ⟨h5, h6, h7⟩ := HP.out
    have hol := HOK.out.1
    have hkl := HOK.out.2
    have hbq : (((l.length - k : Nat) : Int) == 0) = decide (k = l.length) := by
      rw [Bool.eq_iff_iff, beq_iff_eq, decide_eq_true_eq]; omega
    have hne : w1.heap.size ≠ Dd := by omega
    refine ⟨_, results_tmp2 rfl _ _ _, .slice (some ⟨w1.heap.size, 0, none⟩) D.length D.length, by rw [HSE.out, ← hbq]; rfl, ?_, ?_⟩
    · rw [HSE.out]
      intro w' hk'
      have hgf : w'.heap[w1.heap.size]? = some (.cells (o.map (Value.int .u64)).toArray 22 (0, 0)) := by
        have h0 := putObj_far (W := W.drewN nq) (o := .deferred none) hne (show (W.drewN nq).heap[w1.heap.size]? = _ from h5)
        exact (hk'.2 _ (by omega) (blk_lt h0)).trans h0
      have hC := C_of_blk (d := Kd.int .u64) o hgf (reps_nums _ .u64 o) (by have := HM.out.2.2.1; omega)
      rw [← hol]
      exact .of hC (Nat.le_refl _)
    · exact (pw_below_drewN h6 nq).trans (belowK_b (w := w2) (by omega) (W.drewN nq) Dd _ _ hD (show (W.drewN nq).heap[Dd]? = _ from HKK.out) rfl rfl)
  case stop =>
    rintro D c pre W _ _ h _
    exact h.elim
end Go.Proofs.Ytfbjjbbhnmoolaa.P
namespace Go.Proofs.Ytfbjjbbhnmoolaa.P
open Go.RowKit Go.Shelf Go.Proofs.YtfbjjbbhnmoolaaW.PrintWords Go.Proofs.YtfbjjbbhnmoolaaW.PrintLast Go.Proofs.YtfbjjbbhnmoolaaW.PrintMore
attribute [local go_sem] Oper.semAt_some
def wholesR (wh : Int → Int × Bool) (l : List Int) : List Int × Bool := if l.all (fun v => (wh v).2) = true then (l.map (fun v => (wh v).1), true) else ([], false)
theorem take_all {α : Type} (p : α → Bool) (l : List α) (i : Nat) (h : i < l.length) : (l.take (i + 1)).all p = ((l.take i).all p && p l[i]) := by
  rw [List.take_succ_eq_append_getElem h, List.all_append]; simp
theorem own_base' {W : World} {base size n : Nat} {e : TypeId} {v : Value} {xs : List Value} (h : W.ownsRow base e size v n xs) : ∀ k, v.ownBlock = some k → base ≤ k := fun k hk => own_base h k hk
set_option maxRecDepth 100000 in
set_option maxHeartbeats 4000000 in
theorem wholes_c (wh : Int → Int × Bool) (l : List Int) (hm : l.length ≤ 4096) (hwh : ∀ v ∈ l, ∀ w, Calls Try.prog 29 #[.int .u64 v] w fun e w' => e = .returned (.tuple #[.int .u64 (wh v).1, .bool (wh v).2]) ∧ Below w.heap.size w w')
    (w : World) (v : Value) (hv : SI (Kd.int .u64) w v l) : Calls Try.prog 91 #[v] w fun e w' => ∃ v0 : Value, e = .returned (.tuple #[v0, .bool (wholesR wh l).2]) ∧ FI (Kd.int .u64) w.heap.size w' v0 (wholesR wh l).1 ∧ Below w.heap.size w w' := by
  obtain ⟨A, c, rfl, hc, hr⟩ := hv
  refine (callsIn_wide (n := 4)).1 ?_
  have hf1 : Fence.wide.fn 29 := trivial
  have HW := Aside0.mk hwh
  have HR := Aside0.mk (And.intro hr hc)
  obtain ⟨i0, hi, hz0, hz1, hz2⟩ := info_parts info22
  have hmk : ∀ W : World, (Instr.makeSlice 29 (.int .i64 0) (.int .i64 l.length)).run Try.prog W = .ok (.slice (some ⟨W.heap.size, 0, none⟩) 0 l.length) (W.alloc (.cells (madeCells #[Value.int .u64 0] (l.length * i0.size)) 22)) := fun W => by
    have := run_make (P := Try.prog) W 29 22 i0 (.int .u64 0) Try.underlying29 hi hz0 .i64 .i64 0 l.length (by omega) (by omega) (by rw [hz2]; omega) (by omega)
    simpa [Value.cells] using this
  have HM := Aside0.mk hm
  clear hr hc hwh hm
  refine callsIn_of_wp Try.func91 rfl trivial ?_ rfl
  simp only [Try.ntmps91, List.size_toArray, List.length_cons, List.length_nil, Nat.reduceAdd, Nat.reduceSub, Array.replicate_succ, Array.replicate_zero, List.push_toArray, List.append_toArray, List.nil_append, List.cons_append]
  gi_wp2
  clear hmk
  gi_loopw [4, 14] (fun s4 s14 wx => ∃ i : Nat, i ≤ l.length ∧ s14 = .int .i64 i ∧ Aside0 (wx.ownsRow w.heap.size 22 1 s4 i (((l.take i).map (fun v => (wh v).1)).map (Value.int .u64))) ∧ Aside0 (Below w.heap.size w wx) ∧ Aside0 ((l.take i).all (fun v => (wh v).2) = true)) (fun _ s14 _ => l.length - (intOf s14).toNat)
  case atStart =>
    refine ⟨0, Nat.zero_le _, rfl, ⟨?_⟩, ⟨below_alloc (Below.refl _ _) _⟩, ⟨by simp⟩⟩
    have := World.ownsRow_made (base := w.heap.size) (e := 22) (size := 1) w (madeCells #[Value.int .u64 0] (l.length * i0.size)) l.length (Nat.le_refl _) (by have := HM.out; unfold maxLen; omega) (by rw [size_madeCells, hz1])
    simpa [hz1] using this
  case round =>
    obtain ⟨i, hil, rfl, HO, HB, HA⟩ := hrel
    by_cases hlt : i < l.length
    · have hlti : (i : Int) < (l.length : Int) := by omega
      have hi0 : (0 : Int) ≤ (i : Int) := by omega
      obtain ⟨ad, e1, hx0⟩ := Kd.at_int (Kd.C_below HR.out.1 HB.out) (i : Int) hi0 hlti
      rw [rd_at hlt, Int.toNat_natCast] at hx0
      subst e1
      have HC := Aside0.mk (HW.out l[i] (List.getElem_mem hlt))
      have HT := Aside0.mk (take_all (fun v => (wh v).2) l i hlt)
      have HS := Aside0.mk (List.take_succ_eq_append_getElem hlt)
      have HMN := Aside0.mk (List.getElem_mem hlt)
      have hi4 : i < 4096 := by have := HM.out; omega
      generalize l[i] = x at hx0 HC HT HS HMN
      generalize hwx : wh x = r at HC HT
      have HWX := Aside0.mk hwx
      clear hwx
      obtain ⟨nv, ok⟩ := r
      simp only at HC HT
      cases ok with
      | false =>
        clear hlt
        gi_wp2_with (gi_at_call 29; refine (callsIn_wide.2 (HC.out _)).mono ?_; rintro e w2 ⟨rfl, hb⟩; have HB2 := Aside0.mk (below_then HB.out HB.out.size hb); clear hb)
        refine bodyPost_ret (results_tmp2 rfl _ _ _) rfl ?_
        have hf : wholesR wh l = ([], false) := by
          unfold wholesR
          rw [if_neg]
          intro h
          have := List.all_eq_true.1 h x HMN.out
          rw [HWX.out] at this; cases this
        rw [hf]
        exact ⟨_, rfl, fun W _ => SI.nil _ W, HB2.out⟩
      | true =>
        gi_wp2_with (first | (gi_at_call 29; refine (callsIn_wide.2 (HC.out _)).mono ?_; rintro e w2 ⟨rfl, hb⟩; have HO2 := Aside0.mk (HO.out.kept (grown_of_below hb none) (Classical.em _)); have HB2 := Aside0.mk (below_then HB.out HB.out.size hb); clear hb) | (gi_at_builtin; refine wpListIn_append_own _ rfl _ _ 29 rfl w.heap.size 22 i0 (.int .u64 0) 1 8 Try.underlying29 hi hz0 hz1 hz2 rfl (by decide) _ _ _ rfl (HO2.out.alloc _) ⟨w2.heap.size, 0, none⟩ 1 1 [.int .u64 nv] rfl rfl (cell_one_new _ _ _) (by simp [Value.oneCell']) (by unfold maxLen; omega) (by omega) (by have := HB2.out.size; simp; omega) ?_; intro v' w3 hown' hgrow _; have HO3 := Aside0.mk hown'; have HB3 := Aside0.mk (pw_below_grown (below_alloc HB2.out _) _ (by have := HB2.out.size; simp; omega) hgrow (own_base' HO2.out)); clear hown' hgrow))
        go_roundw
        case rel =>
          refine ⟨i + 1, by omega, by go_num, ⟨?_⟩, HB3, ⟨by rw [HT.out, HA.out]; rfl⟩⟩
          have := HO3.out
          rw [HS.out, List.map_append, List.map_append, List.map_cons, List.map_nil, HWX.out]
          exact this
        case measure => simp [intOf]; omega
    · obtain rfl : i = l.length := by omega
      have hlti : ¬ (l.length : Int) < (l.length : Int) := by omega
      have ht : l.take l.length = l := List.take_length
      have hf : wholesR wh l = (l.map (fun v => (wh v).1), true) := by unfold wholesR; rw [if_pos (by have := HA.out; rwa [ht] at this)]
      have HF := Aside0.mk hf
      clear hf hlt ht
      gi_wp2
      refine bodyPost_ret (results_tmp2 rfl _ _ _) rfl ?_
      rw [HF.out]
      have hl : l.length = (l.map (fun v => (wh v).1)).length := (List.length_map ..).symm
      have ho := HO.out
      rw [List.take_length] at ho
      refine ⟨_, rfl, .of_R (Kd.R_of_own (enc := Value.int .u64) (h1 := fun _ => rfl) (hl ▸ ho) (fun _ _ => trivial)) (Nat.le_refl _), HB.out⟩
end Go.Proofs.Ytfbjjbbhnmoolaa.P
namespace Go.Proofs.Ytfbjjbbhnmoolaa.P
def rnd (n d : Nat) : Nat := n / 2 ^ d + (if 2 ^ d < 2 * (n % 2 ^ d) ∨ (2 ^ d = 2 * (n % 2 ^ d) ∧ n / 2 ^ d % 2 = 1) then 1 else 0)
def fltR (n : Nat) : Nat := if n = 0 then 0 else if n.log2 ≤ 52 then (1022 + n.log2) * 4503599627370496 + n * 2 ^ (52 - n.log2) else (1022 + n.log2) * 4503599627370496 + rnd n (n.log2 - 52)
theorem cut_even (n d : Nat) (hd : d ≤ n.log2 + 2) : Ieee.Toward.cut .even false n d = rnd n d := by
  unfold Ieee.Toward.cut rnd
  rw [Nat.min_eq_left hd, Nat.one_shiftLeft]
  simp only
  congr 1
  by_cases h : 2 ^ d < 2 * (n % 2 ^ d) ∨ (2 ^ d = 2 * (n % 2 ^ d) ∧ n / 2 ^ d % 2 = 1)
  · rw [if_pos h]
    rcases h with h | ⟨h1, h2⟩
    · simp [h]
    · simp [← h1, h2]
  · rw [if_neg h]
    have h1 : ¬ 2 ^ d < 2 * (n % 2 ^ d) := fun e => h (Or.inl e)
    have h2 : ¬ (2 ^ d = 2 * (n % 2 ^ d) ∧ n / 2 ^ d % 2 = 1) := fun e => h (Or.inr e)
    have e1 : decide (2 ^ d < 2 * (n % 2 ^ d)) = false := decide_eq_false h1
    by_cases c : 2 ^ d = 2 * (n % 2 ^ d)
    · have e2 : (n / 2 ^ d % 2 == 1) = false := by
        rw [beq_eq_false_iff_ne]
        exact fun e => h2 ⟨c, e⟩
      rw [e1, e2]; simp
    · have e2 : (2 ^ d == 2 * (n % 2 ^ d)) = false := by
        rw [beq_eq_false_iff_ne]
        exact c
      rw [e1, e2]; simp
theorem log2_bounds {n : Nat} (h : n ≠ 0) : 2 ^ n.log2 ≤ n ∧ n < 2 ^ (n.log2 + 1) := ⟨Nat.log2_self_le h, Nat.lt_log2_self⟩
theorem log2_lt64 {n : Nat} (h : n ≠ 0) (hn : n < 18446744073709551616) : n.log2 ≤ 63 := by
  have := (log2_bounds h).1
  rcases Nat.lt_or_ge 63 n.log2 with c | c
  · have h2 : 2 ^ 64 ≤ 2 ^ n.log2 := Nat.pow_le_pow_right (by decide) c
    omega
  · exact c
theorem rnd_zero (n : Nat) : rnd n 0 = n := by
  unfold rnd
  rw [if_neg (by simp [Nat.mod_one])]
  simp
theorem frac_bounds {n : Nat} (h : n ≠ 0) : if n.log2 ≤ 52 then 4503599627370496 ≤ n * 2 ^ (52 - n.log2) ∧ n * 2 ^ (52 - n.log2) < 9007199254740992 else 4503599627370496 ≤ rnd n (n.log2 - 52) ∧ rnd n (n.log2 - 52) ≤ 9007199254740992 := by
  obtain ⟨h1, h2⟩ := log2_bounds h
  split
  · rename_i c
    have hp : 0 < 2 ^ (52 - n.log2) := Nat.two_pow_pos _
    have e1 : 2 ^ n.log2 * 2 ^ (52 - n.log2) = 4503599627370496 := by rw [← Nat.pow_add, show n.log2 + (52 - n.log2) = 52 by omega]
    have e2 : 2 ^ (n.log2 + 1) * 2 ^ (52 - n.log2) = 9007199254740992 := by rw [← Nat.pow_add, show n.log2 + 1 + (52 - n.log2) = 53 by omega]
    have a1 := Nat.mul_le_mul_right (2 ^ (52 - n.log2)) h1
    have a2 := Nat.mul_lt_mul_of_pos_right h2 hp
    omega
  · rename_i c
    have hp : 0 < 2 ^ (n.log2 - 52) := Nat.two_pow_pos _
    have e1 : 2 ^ n.log2 = 4503599627370496 * 2 ^ (n.log2 - 52) := by
      rw [show (4503599627370496 : Nat) = 2 ^ 52 from rfl, ← Nat.pow_add, show 52 + (n.log2 - 52) = n.log2 by omega]
    have e2 : 2 ^ (n.log2 + 1) = 9007199254740992 * 2 ^ (n.log2 - 52) := by
      rw [show (9007199254740992 : Nat) = 2 ^ 53 from rfl, ← Nat.pow_add, show 53 + (n.log2 - 52) = n.log2 + 1 by omega]
    have a1 : 4503599627370496 ≤ n / 2 ^ (n.log2 - 52) := (Nat.le_div_iff_mul_le hp).2 (by omega)
    have a2 : n / 2 ^ (n.log2 - 52) < 9007199254740992 := (Nat.div_lt_iff_lt_mul hp).2 (by omega)
    unfold rnd
    split <;> omega
theorem fltR_bounds {n : Nat} (h : n ≠ 0) : (1023 + n.log2) * 4503599627370496 ≤ fltR n ∧ fltR n ≤ (1024 + n.log2) * 4503599627370496 := by
  have := frac_bounds h
  unfold fltR
  rw [if_neg h]
  split at this
  · rename_i c
    rw [if_pos c]
    omega
  · rename_i c
    rw [if_neg c]
    omega
theorem fltR_right {n : Nat} (hn : n < 18446744073709551616) : fltR n < 9218868437227405312 := by
  by_cases h : n = 0
  · subst h; decide
  · have h1 := (fltR_bounds h).2
    have h2 := log2_lt64 h hn
    have h3 : (1024 + n.log2) * 4503599627370496 ≤ (1024 + 63) * 4503599627370496 := Nat.mul_le_mul_right _ (by omega)
    omega
theorem f64_places : FloatKind.f64.format = Ieee.double := rfl
theorem nearest_eq {n : Nat} (hn : n < 18446744073709551616) : FloatKind.f64.nearest (n : Int) = fltR n := by
  unfold FloatKind.nearest FloatKind.encode Ieee.Format.write
  have e0 : decide ((n : Int) < 0) = false := decide_eq_false (by omega)
  rw [e0, Int.natAbs_natCast, f64_places]
  simp only
  unfold Ieee.Format.nearest
  by_cases h : n = 0
  · subst h; rfl
  rw [if_neg h]
  have hl : Ieee.double.leastPlace = -1074 := by decide
  have hf : Ieee.double.fractionBits = 52 := rfl
  have hbn : Ieee.double.binade = 4503599627370496 := by decide
  have hi : Ieee.double.infRung = 9218868437227405312 := by decide
  have hw : ∀ r, Ieee.double.word false r = r := fun r => rfl
  simp only [hl, hf, hbn, hi, hw]
  have h64 := log2_lt64 h hn
  have hlast : max ((0 : Int) + (n.log2 : Int) - (52 : Nat)) (-1074) = (n.log2 : Int) - 52 := by omega
  rw [hlast]
  have hr := fltR_right hn
  have hs : ((n.log2 : Int) - 52 - -1074).toNat = 1022 + n.log2 := by omega
  rw [hs]
  by_cases c : n.log2 ≤ 52
  · have d1 : (0 - ((n.log2 : Int) - 52)).toNat = 52 - n.log2 := by omega
    have d2 : ((n.log2 : Int) - 52 - 0).toNat = 0 := by omega
    rw [d1, d2, cut_even _ 0 (Nat.zero_le _), rnd_zero, Nat.shiftLeft_eq]
    have e : fltR n = (1022 + n.log2) * 4503599627370496 + n * 2 ^ (52 - n.log2) := by unfold fltR; rw [if_neg h, if_pos c]
    rw [← e]
    exact Nat.min_eq_left (by omega)
  · have d1 : (0 - ((n.log2 : Int) - 52)).toNat = 0 := by omega
    have d2 : ((n.log2 : Int) - 52 - 0).toNat = n.log2 - 52 := by omega
    rw [d1, d2, Nat.shiftLeft_zero, cut_even _ _ (by omega)]
    have e : fltR n = (1022 + n.log2) * 4503599627370496 + rnd n (n.log2 - 52) := by unfold fltR; rw [if_neg h, if_neg c]
    rw [← e]
    exact Nat.min_eq_left (by omega)
end Go.Proofs.Ytfbjjbbhnmoolaa.P
namespace Go.Proofs.Ytfbjjbbhnmoolaa.P
def wholeN (v : Nat) : Nat × Bool :=
  if v = 0 then (0, true) else if v / 4503599627370496 < 1023 ∨ 1086 < v / 4503599627370496 then (0, false)
  else if v / 4503599627370496 ≤ 1075 then (if (v % 4503599627370496 + 4503599627370496) % 2 ^ (1075 - v / 4503599627370496) = 0 then ((v % 4503599627370496 + 4503599627370496) / 2 ^ (1075 - v / 4503599627370496), true) else (0, false))
  else ((v % 4503599627370496 + 4503599627370496) * 2 ^ (v / 4503599627370496 - 1075), true)
theorem log2_of {n k : Nat} (h1 : 2 ^ k ≤ n) (h2 : n < 2 ^ (k + 1)) : n.log2 = k := by
  have hn : n ≠ 0 := by have := Nat.two_pow_pos k; omega
  obtain ⟨a, b⟩ := log2_bounds hn
  have c1 : n.log2 < k + 1 := (Nat.pow_lt_pow_iff_right (by decide : 1 < 2)).1 (Nat.lt_of_le_of_lt a h2)
  have c2 : k < n.log2 + 1 := (Nat.pow_lt_pow_iff_right (by decide : 1 < 2)).1 (Nat.lt_of_le_of_lt h1 b)
  omega
theorem flt_down {m d : Nat} (h1 : 4503599627370496 ≤ m) (h2 : m < 9007199254740992) (hd : m % 2 ^ d = 0) : d ≤ 52 ∧ fltR (m / 2 ^ d) = (1074 - d) * 4503599627370496 + m ∧ m / 2 ^ d < 9007199254740992 := by
  have hp := Nat.two_pow_pos d
  have e := Nat.div_add_mod m (2 ^ d)
  rw [hd, Nat.add_zero] at e
  have hd52 : d ≤ 52 := by
    rcases Nat.lt_or_ge 52 d with c | c
    · have h53 : 2 ^ 53 ≤ 2 ^ d := Nat.pow_le_pow_right (by decide) c
      have : m < 2 ^ d := by omega
      rw [Nat.mod_eq_of_lt this] at hd
      omega
    · exact c
  have hle : m / 2 ^ d < 9007199254740992 := Nat.lt_of_le_of_lt (Nat.div_le_self _ _) h2
  refine ⟨hd52, ?_, hle⟩
  have b1 : 2 ^ (52 - d) * 2 ^ d = 4503599627370496 := by rw [← Nat.pow_add, show 52 - d + d = 52 by omega]
  have b2 : 2 ^ (52 - d + 1) * 2 ^ d = 9007199254740992 := by rw [← Nat.pow_add, show 52 - d + 1 + d = 53 by omega]
  have l : (m / 2 ^ d).log2 = 52 - d := by
    refine log2_of ((Nat.le_div_iff_mul_le hp).2 (by omega)) ((Nat.div_lt_iff_lt_mul hp).2 (by omega))
  have hn : m / 2 ^ d ≠ 0 := by
    intro h0
    rw [h0, Nat.mul_zero] at e
    omega
  unfold fltR
  rw [if_neg hn, l, if_pos (by omega), show 52 - (52 - d) = d by omega, Nat.mul_comm (m / 2 ^ d), e]
  omega
theorem flt_up {m d : Nat} (h1 : 4503599627370496 ≤ m) (h2 : m < 9007199254740992) : fltR (m * 2 ^ d) = (1074 + d) * 4503599627370496 + m := by
  have hp := Nat.two_pow_pos d
  have b1 : 2 ^ (52 + d) = 4503599627370496 * 2 ^ d := by rw [Nat.pow_add]
  have b2 : 2 ^ (52 + d + 1) = 9007199254740992 * 2 ^ d := by rw [show 52 + d + 1 = 53 + d by omega, Nat.pow_add]
  have l : (m * 2 ^ d).log2 = 52 + d := log2_of (by rw [b1]; exact Nat.mul_le_mul_right _ h1) (by rw [b2]; exact Nat.mul_lt_mul_of_pos_right h2 hp)
  have hn : m * 2 ^ d ≠ 0 := by
    have := Nat.mul_pos (show 0 < m by omega) hp
    omega
  unfold fltR
  rw [if_neg hn, l]
  by_cases c : d = 0
  · subst c
    simp
  · rw [if_neg (by omega), show 52 + d - 52 = d by omega]
    unfold rnd
    rw [Nat.mul_div_cancel _ hp, Nat.mul_mod_left, if_neg (by omega)]
    omega
theorem wholeN_flt {v : Nat} (h : (wholeN v).2 = true) : fltR (wholeN v).1 = v ∧ (wholeN v).1 < 18446744073709551616 := by
  unfold wholeN at h ⊢
  by_cases c0 : v = 0
  · subst c0
    rw [if_pos rfl]
    exact ⟨rfl, by decide⟩
  rw [if_neg c0] at h ⊢
  have e := Nat.div_add_mod v 4503599627370496
  have hm := Nat.mod_lt v (show 0 < 4503599627370496 by decide)
  generalize v / 4503599627370496 = ex at *
  generalize v % 4503599627370496 = r at *
  by_cases c1 : ex < 1023 ∨ 1086 < ex
  · rw [if_pos c1] at h; cases h
  rw [if_neg c1] at h ⊢
  by_cases c2 : ex ≤ 1075
  · rw [if_pos c2] at h ⊢
    by_cases c3 : (r + 4503599627370496) % 2 ^ (1075 - ex) = 0
    · rw [if_pos c3]
      obtain ⟨a, b, c⟩ := flt_down (m := r + 4503599627370496) (d := 1075 - ex) (by omega) (by omega) c3
      refine ⟨?_, by show _ < _; omega⟩
      show fltR _ = v
      rw [b]; omega
    · rw [if_neg c3] at h; cases h
  · rw [if_neg c2]
    refine ⟨?_, ?_⟩
    · show fltR _ = v
      rw [flt_up (by omega) (by omega)]; omega
    · show (r + 4503599627370496) * 2 ^ (ex - 1075) < 18446744073709551616
      have h1 : 2 ^ (ex - 1075) ≤ 2 ^ 11 := Nat.pow_le_pow_right (by decide) (by omega)
      have h2 := Nat.mul_le_mul_left (r + 4503599627370496) h1
      omega
def magN (v : Nat) : Nat := if v < 4503599627370496 then v else v % 4503599627370496 + 4503599627370496
def placeN (v : Nat) : Int := if v < 4503599627370496 then -1074 else (v / 4503599627370496 : Nat) - 1075
theorem read_pos {v : Nat} (h : v < 9218868437227405312) : Ieee.double.read v = .number false (magN v) (placeN v) := by
  unfold Ieee.Format.read magN placeN
  have hl : Ieee.double.leastPlace = -1074 := by decide
  have hbn : Ieee.double.binade = 4503599627370496 := by decide
  have hi : Ieee.double.infRung = 9218868437227405312 := by decide
  have hs : Ieee.double.signWeight = 9223372036854775808 := by decide
  simp only [hl, hbn, hi, hs]
  rw [Nat.mod_eq_of_lt (show v < 9223372036854775808 by omega), Nat.div_eq_of_lt (show v < 9223372036854775808 by omega)]
  by_cases c : v < 4503599627370496
  · rw [if_pos c, if_pos c, if_pos c]; rfl
  · rw [if_neg c, if_neg c, if_neg c, if_pos h]
    have : 1 ≤ v / 4503599627370496 := (Nat.le_div_iff_mul_le (by decide)).2 (by omega)
    congr 1
    · omega
    · omega
theorem compare_int (a b : Int) : compare a b = if a < b then Ordering.lt else if a = b then Ordering.eq else Ordering.gt := rfl
theorem order_pos {x y : Nat} (hx : x < 9218868437227405312) (hy : y < 9218868437227405312) : Ieee.double.order x y = some (compare ((magN x * 2 ^ (placeN x - min (placeN x) (placeN y)).toNat : Nat) : Int) ((magN y * 2 ^ (placeN y - min (placeN x) (placeN y)).toNat : Nat) : Int)) := by
  unfold Ieee.Format.order
  rw [read_pos hx, read_pos hy]
  simp only [Ieee.Datum.order, Ieee.signed, Bool.false_eq_true, if_false, Nat.shiftLeft_eq]
theorem order_self {x : Nat} (hx : x < 9218868437227405312) : Ieee.double.order x x = some .eq := by
  rw [order_pos hx hx, compare_int, if_neg (by omega), if_pos rfl]
theorem order_64 {v : Nat} (h : v < 9218868437227405312) : Ieee.double.order v 4895412794951729152 = some (if v / 4503599627370496 < 1087 then .lt else if v % 4503599627370496 = 0 ∧ v / 4503599627370496 = 1087 then .eq else .gt) := by
  rw [order_pos h (by decide)]
  have m64 : magN 4895412794951729152 = 4503599627370496 := by decide
  have p64 : placeN 4895412794951729152 = 12 := by decide
  rw [m64, p64, compare_int]
  congr 1
  have hm := Nat.mod_lt v (show 0 < 4503599627370496 by decide)
  by_cases c : v / 4503599627370496 < 1087
  · rw [if_pos c]
    have hp : placeN v ≤ 11 := by unfold placeN; split <;> omega
    rw [Int.min_eq_left (by omega)]
    have hz : (placeN v - placeN v).toNat = 0 := by omega
    have hmag : magN v < 9007199254740992 := by unfold magN; split <;> omega
    have h1 : 2 ^ 1 ≤ 2 ^ (12 - placeN v).toNat := Nat.pow_le_pow_right (by decide) (by omega)
    rw [if_pos]
    rw [hz]
    have := Nat.mul_le_mul_left 4503599627370496 h1
    omega
  · rw [if_neg c]
    have hv : ¬ v < 4503599627370496 := by
      intro hlt
      rw [Nat.div_eq_of_lt hlt] at c
      omega
    have hp : placeN v = (v / 4503599627370496 : Nat) - 1075 := by unfold placeN; rw [if_neg hv]
    have hmag : magN v = v % 4503599627370496 + 4503599627370496 := by unfold magN; rw [if_neg hv]
    rw [Int.min_eq_right (by omega), hmag]
    have hz : ((12 : Int) - 12).toNat = 0 := by decide
    rw [hz]
    have hk : (placeN v - 12).toNat = v / 4503599627370496 - 1087 := by omega
    rw [hk]
    have h1 : 1 ≤ 2 ^ (v / 4503599627370496 - 1087) := Nat.two_pow_pos _
    have h2 := Nat.mul_le_mul_left (v % 4503599627370496 + 4503599627370496) h1
    rw [if_neg (by omega)]
    by_cases c2 : v % 4503599627370496 = 0 ∧ v / 4503599627370496 = 1087
    · rw [if_pos c2, if_pos]
      rw [c2.1, c2.2]
    · rw [if_neg c2, if_neg]
      intro he
      apply c2
      have he' : (v % 4503599627370496 + 4503599627370496) * 2 ^ (v / 4503599627370496 - 1087) = 4503599627370496 * 2 ^ 0 := by omega
      refine ⟨by omega, ?_⟩
      rcases Nat.lt_or_ge 1087 (v / 4503599627370496) with c3 | c3
      · have h3 : 2 ^ 1 ≤ 2 ^ (v / 4503599627370496 - 1087) := Nat.pow_le_pow_right (by decide) (by omega)
        have h4 := Nat.mul_le_mul_left (v % 4503599627370496 + 4503599627370496) h3
        omega
      · omega
theorem cut_zero (s : Bool) (n d : Nat) : Ieee.Toward.cut .zero s n d = n / 2 ^ d := by
  unfold Ieee.Toward.cut
  simp only [Nat.one_shiftLeft, Bool.toNat_false, Nat.add_zero]
  rcases Nat.lt_or_ge (n.log2 + 2) d with c | c
  · rw [Nat.min_eq_right (by omega)]
    have hn : n < 2 ^ (n.log2 + 1) := Nat.lt_log2_self
    have h1 : 2 ^ (n.log2 + 1) ≤ 2 ^ (n.log2 + 2) := Nat.pow_le_pow_right (by decide) (by omega)
    have h2 : 2 ^ (n.log2 + 2) ≤ 2 ^ d := Nat.pow_le_pow_right (by decide) (by omega)
    rw [Nat.div_eq_of_lt (by omega), Nat.div_eq_of_lt (by omega)]
  · rw [Nat.min_eq_left (by omega)]
def truncN (v : Nat) : Nat := magN v * 2 ^ (placeN v).toNat / 2 ^ (-placeN v).toNat
theorem integral_pos {v : Nat} (h : v < 9218868437227405312) : (Ieee.double.read v).integral .zero = .number false (truncN v) 0 := by
  rw [read_pos h]
  simp only [Ieee.Datum.integral, cut_zero, Nat.shiftLeft_eq]
  rfl
theorem toInt_pos {v : Nat} (h : v < 9218868437227405312) : (Ieee.double.read v).toInt .zero = some ((truncN v : Nat) : Int) := by
  unfold Ieee.Datum.toInt
  rw [integral_pos h]
  simp [Ieee.signed]
theorem truncN_lt {v : Nat} (h : v / 4503599627370496 < 1087) : truncN v < 18446744073709551616 := by
  unfold truncN
  have hm := Nat.mod_lt v (show 0 < 4503599627370496 by decide)
  have hp : placeN v ≤ 11 := by unfold placeN; split <;> omega
  have hmag : magN v < 9007199254740992 := by unfold magN; split <;> omega
  have h1 : 2 ^ (placeN v).toNat ≤ 2 ^ 11 := Nat.pow_le_pow_right (by decide) (by omega)
  have h2 := Nat.mul_le_mul_left (magN v) h1
  have h3 : magN v * 2 ^ 11 < 18446744073709551616 := by omega
  exact Nat.lt_of_le_of_lt (Nat.div_le_self _ _) (by omega)
theorem encode_pos {n : Nat} (hn : n < 18446744073709551616) : FloatKind.f64.encode (.number false n 0) = fltR n := by
  have := nearest_eq hn
  unfold FloatKind.nearest at this
  rw [show decide ((n : Int) < 0) = false from decide_eq_false (by omega), Int.natAbs_natCast] at this
  exact this
theorem trunc_whole {v : Nat} (h : v / 4503599627370496 < 1087) : if (wholeN v).2 = true then truncN v = (wholeN v).1 ∧ fltR (truncN v) = v else Ieee.double.order (fltR (truncN v)) v ≠ some .eq := by
  have hv : v < 9218868437227405312 := by have := Nat.div_add_mod v 4503599627370496; have := Nat.mod_lt v (show 0 < 4503599627370496 by decide); omega
  by_cases cb : placeN v < 0 ∧ magN v % 2 ^ (-placeN v).toNat ≠ 0
  · obtain ⟨c1, c2⟩ := cb
    have hf : (wholeN v).2 = false := by
      unfold wholeN
      have hm := Nat.mod_lt v (show 0 < 4503599627370496 by decide)
      by_cases cz : v = 0
      · subst cz
        have hz : magN 0 = 0 := rfl
        rw [hz, Nat.zero_mod] at c2
        exact absurd rfl c2
      unfold placeN magN at c2
      unfold placeN at c1
      rw [if_neg cz]
      by_cases ce : v / 4503599627370496 < 1023 ∨ 1086 < v / 4503599627370496
      · rw [if_pos ce]
      · rw [if_neg ce]
        have hlt : ¬ v < 4503599627370496 := by
          intro hlt
          rw [Nat.div_eq_of_lt hlt] at ce
          omega
        rw [if_neg hlt] at c1 c2
        rw [if_neg hlt] at c2
        rw [if_pos (by omega), if_neg]
        rw [show (-(((v / 4503599627370496 : Nat) : Int) - 1075)).toNat = 1075 - v / 4503599627370496 by omega] at c2
        exact c2
    rw [hf, if_neg (by decide)]
    have ht : truncN v = magN v / 2 ^ (-placeN v).toNat := by
      unfold truncN
      rw [show (placeN v).toNat = 0 by omega]; simp
    generalize hd : (-placeN v).toNat = d at *
    have hd1 : 1 ≤ d := by omega
    have hmag : magN v < 9007199254740992 := by have hm := Nat.mod_lt v (show 0 < 4503599627370496 by decide); unfold magN; split <;> omega
    have htl : truncN v < 4503599627370496 := by
      rw [ht]
      have h1 : 2 ^ 1 ≤ 2 ^ d := Nat.pow_le_pow_right (by decide) hd1
      exact (Nat.div_lt_iff_lt_mul (Nat.two_pow_pos d)).2 (by have := Nat.mul_le_mul_left 4503599627370496 h1; omega)
    have hr := fltR_right (n := truncN v) (by omega)
    rw [order_pos hr hv, compare_int]
    intro he
    have he : (magN (fltR (truncN v)) * 2 ^ (placeN (fltR (truncN v)) - min (placeN (fltR (truncN v))) (placeN v)).toNat : Nat) = (magN v * 2 ^ (placeN v - min (placeN (fltR (truncN v))) (placeN v)).toNat : Nat) := by
      injection he with he
      split at he
      · cases he
      · split at he
        · rename_i h2; exact Int.ofNat.inj h2
        · cases he
    generalize truncN v = t at *
    by_cases t0 : t = 0
    · subst t0
      have e0 : magN (fltR 0) = 0 := by decide
      rw [e0, Nat.zero_mul] at he
      have hmz : magN v ≠ 0 := fun h => c2 (by rw [h]; simp)
      have := Nat.mul_pos (Nat.pos_of_ne_zero hmz) (Nat.two_pow_pos (placeN v - min (placeN (fltR 0)) (placeN v)).toNat)
      omega
    · have lt52 : t.log2 ≤ 51 := by
        rcases Nat.lt_or_ge 51 t.log2 with c | c
        · have h53 : 2 ^ 52 ≤ 2 ^ t.log2 := Nat.pow_le_pow_right (by decide) c
          have := (log2_bounds t0).1
          omega
        · exact c
      have hfb := frac_bounds t0
      rw [if_pos (by omega)] at hfb
      have e : fltR t = (1022 + t.log2) * 4503599627370496 + t * 2 ^ (52 - t.log2) := by unfold fltR; rw [if_neg t0, if_pos (by omega)]
      have hge : ¬ fltR t < 4503599627370496 := by omega
      have m1 : magN (fltR t) = t * 2 ^ (52 - t.log2) := by unfold magN; rw [if_neg hge]; omega
      have p1 : placeN (fltR t) = (t.log2 : Int) - 52 := by unfold placeN; rw [if_neg hge]; omega
      rw [m1, p1] at he
      have hbase : min ((t.log2 : Int) - 52) (placeN v) ≤ -d := by omega
      generalize hb : min ((t.log2 : Int) - 52) (placeN v) = base at *
      have k1 : (52 - t.log2) + ((t.log2 : Int) - 52 - base).toNat = d + (placeN v - base).toNat := by omega
      rw [Nat.mul_assoc, ← Nat.pow_add, k1, Nat.pow_add, ← Nat.mul_assoc] at he
      have := Nat.eq_of_mul_eq_mul_right (Nat.two_pow_pos _) he
      apply c2
      rw [← this]
      exact Nat.mul_mod_left _ _
  · have hm := Nat.mod_lt v (show 0 < 4503599627370496 by decide)
    by_cases cz : v = 0
    · subst cz
      have : wholeN 0 = (0, true) := rfl
      rw [this, if_pos rfl]
      have : truncN 0 = 0 := by
        unfold truncN
        have : magN 0 = 0 := rfl
        rw [this]; simp
      rw [this]
      exact ⟨rfl, rfl⟩
    have hge : ¬ v < 4503599627370496 := by
      intro hlt
      apply cb
      have hp : placeN v = -1074 := by unfold placeN; rw [if_pos hlt]
      have hmg : magN v = v := by unfold magN; rw [if_pos hlt]
      refine ⟨by omega, ?_⟩
      have hd : 53 ≤ (-placeN v).toNat := by omega
      generalize (-placeN v).toNat = d at *
      have h1 : 2 ^ 53 ≤ 2 ^ d := Nat.pow_le_pow_right (by decide) hd
      rw [hmg, Nat.mod_eq_of_lt (by omega)]
      exact cz
    have hp : placeN v = ((v / 4503599627370496 : Nat) : Int) - 1075 := by unfold placeN; rw [if_neg hge]
    have hmg : magN v = v % 4503599627370496 + 4503599627370496 := by unfold magN; rw [if_neg hge]
    have ev := Nat.div_add_mod v 4503599627370496
    unfold wholeN truncN
    rw [if_neg cz, hp, hmg]
    rw [hp, hmg] at cb
    generalize v / 4503599627370496 = ex at *
    generalize v % 4503599627370496 = r at *
    by_cases c5 : ex < 1023
    · exfalso
      apply cb
      refine ⟨by omega, ?_⟩
      have h1 : 2 ^ 53 ≤ 2 ^ (-((ex : Int) - 1075)).toNat := Nat.pow_le_pow_right (by decide) (by omega)
      rw [Nat.mod_eq_of_lt (by omega)]
      omega
    rw [if_neg (show ¬ (ex < 1023 ∨ 1086 < ex) by omega)]
    by_cases c6 : ex ≤ 1075
    · have hz : ((ex : Int) - 1075).toNat = 0 := by omega
      have hn : (-((ex : Int) - 1075)).toNat = 1075 - ex := by omega
      rw [if_pos c6, hz, hn, Nat.pow_zero, Nat.mul_one]
      rw [hn] at cb
      have c7 : (r + 4503599627370496) % 2 ^ (1075 - ex) = 0 := by
        by_cases c8 : ex = 1075
        · subst c8; simp [Nat.mod_one]
        · exact Classical.byContradiction fun h => cb ⟨by omega, h⟩
      rw [if_pos c7, if_pos rfl]
      obtain ⟨a, b, c⟩ := flt_down (m := r + 4503599627370496) (d := 1075 - ex) (by omega) (by omega) c7
      exact ⟨rfl, by rw [b]; omega⟩
    · have hz : ((ex : Int) - 1075).toNat = ex - 1075 := by omega
      have hn : (-((ex : Int) - 1075)).toNat = 0 := by omega
      rw [if_neg c6, if_pos rfl, hz, hn, Nat.pow_zero, Nat.div_one]
      exact ⟨rfl, by rw [flt_up (by omega) (by omega)]; omega⟩
theorem wholeN_big {v : Nat} (h : ¬ v / 4503599627370496 < 1087) : wholeN v = (0, false) := by
  have hz : v ≠ 0 := by
    intro e
    subst e
    simp at h
  unfold wholeN
  rw [if_neg hz, if_pos (by omega)]
end Go.Proofs.Ytfbjjbbhnmoolaa.P
namespace Go.Proofs.Ytfbjjbbhnmoolaa.P
open Go.RowKit Go.Proofs.YtfbjjbbhnmoolaaW.PrintWords Go.Proofs.YtfbjjbbhnmoolaaW.PrintLast Go.Proofs.YtfbjjbbhnmoolaaW.PrintMore
theorem fbits_run (v : Int) (w : World) : (callFunc 81 #[.int .u64 v]).run Try.prog w = .ok (.value (.float .f64 v.toNat)) w := by
  rw [run_callFunc_extern Try.func81 (by kernel_rfl) (by kernel_rfl) (by kernel_rfl) (e := Extern.MathFloatBits.float64frombits) (by kernel_rfl)]
  rfl
theorem tbits_run (v : Nat) (w : World) : (callFunc 84 #[.float .f64 v]).run Try.prog w = .ok (.value (.int .u64 v)) w := by
  rw [run_callFunc_extern Try.func84 (by kernel_rfl) (by kernel_rfl) (by kernel_rfl) (e := Extern.MathFloatBits.float64bits) (by kernel_rfl)]
  rfl
theorem fcv_run (n : Int) (w : World) : (convert 22 129 (.int .u64 n)).run Try.prog w = .ok (.float .f64 (FloatKind.f64.nearest n)) w := by
  kernel_rfl
def fhist_Float.f (v : Int) : Option Int := some (FloatKind.f64.nearest v : Nat)
theorem fhist_Float.calls (a0 : Int) (r : Int) (w : World) (h : fhist_Float.f a0 = some r) : Calls Try.prog 31 #[.int .u64 a0] w fun e w' => e = .returned (.int .u64 r) ∧ Drawn0 w w' := by
  unfold fhist_Float.f at h
  have hc := fcv_run a0
  generalize FloatKind.f64.nearest a0 = n at *
  cases h
  have hb := tbits_run n
  go_enter Try.func31, Try.ntmps31
  go_wp2
  go_ret
  exact ⟨rfl, Drawn0.refl _⟩
end Go.Proofs.Ytfbjjbbhnmoolaa.P
namespace Go.Proofs.Ytfbjjbbhnmoolaa.P
open Go.RowKit Go.Shelf Go.Proofs.YtfbjjbbhnmoolaaW.PrintWords Go.Proofs.YtfbjjbbhnmoolaaW.PrintLast Go.Proofs.YtfbjjbbhnmoolaaW.PrintMore
theorem decode_read (v : Nat) : FloatKind.f64.decode v = Ieee.double.read v := rfl
theorem trunc_run (v : Nat) (h : v / 4503599627370496 < 1087) (w : World) : (callFunc 112 #[.float .f64 v]).run Try.prog w = .ok (.value (.float .f64 (fltR (truncN v)))) w := by
  have hv : v < 9218868437227405312 := by have := Nat.div_add_mod v 4503599627370496; have := Nat.mod_lt v (show 0 < 4503599627370496 by decide); omega
  have hi := integral_pos hv
  have hrd := read_pos hv
  have he := encode_pos (truncN_lt h)
  have key : Extern.MathFloor.toIntegral "math.archTrunc" .zero #[.float .f64 v] = pure (.float .f64 (fltR (truncN v))) := by
    show Extern.MathFloor.toIntegral.match_1 (fun _ => Sem Value) (FloatKind.f64.decode v) _ _ = _
    rw [decode_read, hrd]
    show pure (Value.float .f64 (FloatKind.f64.encode (Ieee.Datum.integral .zero (.number false (magN v) (placeN v))))) = _
    rw [← hrd, hi, he]
  rw [run_callFunc_extern Try.func112 (by kernel_rfl) (by kernel_rfl) (by kernel_rfl) (e := Extern.MathFloor.toIntegral "math.archTrunc" .zero) (by kernel_rfl), key]
  rfl
theorem mtrunc_c (v : Nat) (h : v / 4503599627370496 < 1087) (w : World) : Calls Try.prog 83 #[.float .f64 v] w fun e w' => e = .returned (.float .f64 (fltR (truncN v))) ∧ Below w.heap.size w w' := by
  have ht := trunc_run v h
  generalize fltR (truncN v) = t at *
  clear h
  go_enter Try.func83, Try.ntmps83
  go_wp2
  go_ret
  exact ⟨rfl, Below.refl _ _⟩
theorem ge_lt {v : Nat} (h : v / 4503599627370496 < 1087) : (FloatKind.f64.format.order v 4895412794951729152 == some .gt) = false ∧ (FloatKind.f64.format.order v 4895412794951729152 == some .eq) = false := by
  have hv : v < 9218868437227405312 := by have := Nat.div_add_mod v 4503599627370496; have := Nat.mod_lt v (show 0 < 4503599627370496 by decide); omega
  have ho := order_64 hv
  rw [if_pos h] at ho
  have e : FloatKind.f64.format.order v 4895412794951729152 = some .lt := ho
  rw [e]
  exact ⟨rfl, rfl⟩
theorem ge_gt {v : Nat} (hv : v < 9218868437227405312) (h : ¬ v / 4503599627370496 < 1087) : (FloatKind.f64.format.order v 4895412794951729152 == some .gt || FloatKind.f64.format.order v 4895412794951729152 == some .eq) = true := by
  have ho := order_64 hv
  rw [if_neg h] at ho
  have e : FloatKind.f64.format.order v 4895412794951729152 = _ := ho
  rw [e]
  split <;> rfl
theorem ne_of (x v : Nat) (b : Bool) (hb : (Ieee.double.order x v != some .eq) = b) : (FloatKind.f64.format.order x v != some .eq) = b := hb
theorem cv_run (v : Nat) (h : v / 4503599627370496 < 1087) (w : World) : (convert 129 22 (.float .f64 v)).run Try.prog w = .ok (.int .u64 (truncN v : Nat)) w := by
  have hv : v < 9218868437227405312 := by have := Nat.div_add_mod v 4503599627370496; have := Nat.mod_lt v (show 0 < 4503599627370496 by decide); omega
  refine run_convert_float_int (P := Try.prog) w 129 22 .f64 .u64 v _ (by kernel_rfl) (by kernel_rfl) ?_
  have := truncN_lt h
  unfold floatToIntVal
  rw [decode_read, toInt_pos hv]
  simp only
  rw [if_pos]
  constructor
  · show (0 : Int) ≤ _; omega
  · show _ ≤ (18446744073709551615 : Int); omega
def wholeI (v : Int) : Int × Bool := (((wholeN v.toNat).1 : Nat), (wholeN v.toNat).2)
set_option maxRecDepth 100000 in
theorem whole_c (v : Int) (h0 : 0 ≤ v) (w : World) : Calls Try.prog 29 #[.int .u64 v] w fun e w' => e = .returned (.tuple #[.int .u64 (wholeI v).1, .bool (wholeI v).2]) ∧ Below w.heap.size w w' := by
  obtain ⟨n, rfl⟩ : ∃ n : Nat, v = n := ⟨v.toNat, by omega⟩
  have hf := fbits_run n
  rw [Int.toNat_natCast] at hf
  have rc := right_c n
  unfold wholeI
  rw [Int.toNat_natCast]
  by_cases hr : n < 9218868437227405312
  rotate_left
  · rw [show rightF n = false from decide_eq_false (by omega)] at rc
    have hbig : ¬ n / 4503599627370496 < 1087 := by
      intro h
      have := Nat.div_add_mod n 4503599627370496
      have := Nat.mod_lt n (show 0 < 4503599627370496 by decide)
      omega
    rw [wholeN_big hbig]
    have RC := Aside0.mk rc
    clear rc hr hbig h0
    go_enter Try.func29, Try.ntmps29
    go_wp2_with (go_at_call 82; (with_reducible refine (RC.out _).mono ?_); rintro e w1 ⟨rfl, hb⟩; have HB := Aside0.mk hb; clear hb)
    go_ret2
    exact ⟨rfl, HB.out⟩
  rw [show rightF n = true from decide_eq_true (by omega)] at rc
  have RC := Aside0.mk rc
  clear rc
  by_cases hb : n / 4503599627370496 < 1087
  rotate_left
  · have hg := ge_gt hr hb
    rw [wholeN_big hb]
    clear hr hb h0
    go_enter Try.func29, Try.ntmps29
    go_wp2_with (go_at_call 82; (with_reducible refine (RC.out _).mono ?_); rintro e w1 ⟨rfl, hb⟩; have HB := Aside0.mk hb; clear hb)
    go_ret2
    exact ⟨rfl, HB.out⟩
  obtain ⟨hg1, hg2⟩ := ge_lt hb
  have MT := Aside0.mk (mtrunc_c n hb)
  have tw := trunc_whole hb
  by_cases hw : (wholeN n).2 = true
  · rw [if_pos hw] at tw
    obtain ⟨t1, t2⟩ := tw
    have hn := ne_of (fltR (truncN n)) n false (by rw [t2, order_self hr]; rfl)
    have hc := cv_run n hb
    rw [← t1, hw]
    generalize fltR (truncN n) = fl at *
    generalize truncN n = tn at *
    clear hr hb h0 t1 t2 hw
    go_enter Try.func29, Try.ntmps29
    go_wp2_with (first | (go_at_call 82; (with_reducible refine (RC.out _).mono ?_); rintro e w1 ⟨rfl, hb⟩; have HB := Aside0.mk hb; clear hb) | (go_at_call 83; (with_reducible refine (MT.out _).mono ?_); rintro e w2 ⟨rfl, hb⟩; replace HB := Aside0.mk (below_then HB.out HB.out.size hb); clear hb))
    go_ret2
    exact ⟨rfl, HB.out⟩
  · rw [if_neg hw] at tw
    have hn := ne_of (fltR (truncN n)) n true (by simpa using tw)
    have e : wholeN n = (0, false) := by
      unfold wholeN at hw ⊢
      split at hw
      · exact absurd rfl hw
      · rename_i c0
        rw [if_neg c0]
        split at hw
        · rename_i c1; rw [if_pos c1]
        · rename_i c1
          rw [if_neg c1]
          split at hw
          · rename_i c2
            rw [if_pos c2]
            split at hw
            · exact absurd rfl hw
            · rename_i c3; rw [if_neg c3]
          · exact absurd rfl hw
    rw [e]
    generalize fltR (truncN n) = fl at *
    clear hr hb h0 tw hw e
    go_enter Try.func29, Try.ntmps29
    go_wp2_with (first | (go_at_call 82; (with_reducible refine (RC.out _).mono ?_); rintro e w1 ⟨rfl, hb⟩; have HB := Aside0.mk hb; clear hb) | (go_at_call 83; (with_reducible refine (MT.out _).mono ?_); rintro e w2 ⟨rfl, hb⟩; replace HB := Aside0.mk (below_then HB.out HB.out.size hb); clear hb))
    go_ret2
    exact ⟨rfl, HB.out⟩
end Go.Proofs.Ytfbjjbbhnmoolaa.P
namespace Go.Proofs.Ytfbjjbbhnmoolaa.P
open Go.RowKit Go.Shelf Go.Proofs.YtfbjjbbhnmoolaaW.PrintWords Go.Proofs.YtfbjjbbhnmoolaaW.PrintLast Go.Proofs.YtfbjjbbhnmoolaaW.PrintMore
theorem SI.V {w : World} {e : Nat} {A : Option Addr} {c : Nat} {l : List Int} (hc : l.length ≤ c) (hr : (Kd.int .i64).C w A l.length l) : Kd.V (Kd.int .i64) e w w.heap.size (fun k_ => (fun k => k < w.heap.size) k_) (.slice A l.length c) l := ⟨_, _, rfl, hc, Kd.C_F (Kd.heap_int .i64) hr⟩
def headE (h : Hi) : Int := if h.f0 < -4 ∨ h.f0 > 8 then 21 else if ¬ h.f1 < 9218868437227405312 then 11 else 0
theorem checkR_eq (h : Hi) : checkR h = if headE h ≠ 0 then headE h else if (sideRes h.f5 h.f7).2 ≠ 0 then (sideRes h.f5 h.f7).2 else if (sideRes h.f6 h.f8).2 ≠ 0 then (sideRes h.f6 h.f8).2 else if fits h.f2 h.f3 h.f4 (sideRes h.f5 h.f7).1 (sideRes h.f6 h.f8).1 = true then 0 else 22 := by
  unfold checkR openR openRes headE
  by_cases c1 : h.f0 < -4 ∨ h.f0 > 8
  · rw [if_pos c1, if_pos c1, if_pos (by omega)]
  rw [if_neg c1, if_neg c1]
  by_cases c2 : ¬ h.f1 < 9218868437227405312
  · rw [if_pos c2, if_pos c2, if_pos (by omega)]
  rw [if_neg c2, if_neg c2, if_neg (c := (0 : Int) ≠ 0) (by omega)]
  by_cases c3 : (sideRes h.f5 h.f7).2 ≠ 0
  · rw [if_pos c3, if_pos c3]
  rw [if_neg c3, if_neg c3]
  by_cases c4 : (sideRes h.f6 h.f8).2 ≠ 0
  · rw [if_pos c4, if_pos c4]
  rw [if_neg c4, if_neg c4]
  by_cases c5 : fits h.f2 h.f3 h.f4 (sideRes h.f5 h.f7).1 (sideRes h.f6 h.f8).1 = true
  · rw [if_pos c5, if_pos c5]
  · rw [if_neg c5, if_neg c5]
theorem openR_right {h : Hi} (hc : checkR h = 0) : openR h = ((sideRes h.f5 h.f7).1, (sideRes h.f6 h.f8).1, 0) := by
  unfold checkR openR openRes at *
  split at hc
  · cases hc
  split at hc
  · cases hc
  split at hc
  · rename_i h3; exact absurd hc h3
  split at hc
  · rename_i h3; exact absurd hc h3
  split at hc
  · rename_i h1 h2 h3 h4 h5; rw [if_neg h1, if_neg h2, if_neg h3, if_neg h4, if_pos h5]
  · cases hc
end Go.Proofs.Ytfbjjbbhnmoolaa.P
namespace Go.Proofs.Ytfbjjbbhnmoolaa.P
open Go.RowKit Go.Proofs.YtfbjjbbhnmoolaaW.PrintWords Go.Proofs.YtfbjjbbhnmoolaaW.PrintLast Go.Proofs.YtfbjjbbhnmoolaaW.PrintMore
theorem side_bounds {l : List Sp} {d : List Int} (h0 : (sideRes l d).2 = 0) : (∀ p ∈ (sideRes l d).1, -1048576 ≤ p.f0 ∧ p.f0 ≤ 1048576) ∧ (sideRes l d).1.length = d.length ∧ (sideRes l d).1.map (·.f0) = plN 0 l ∧ spCheck l = 0 := by
  unfold sideRes at h0 ⊢
  by_cases c1 : spCheck l = 0
  rotate_left
  · rw [if_neg c1] at h0; exact absurd h0 c1
  rw [if_pos c1] at h0 ⊢
  by_cases c2 : cntN l = d.length
  rotate_left
  · rw [if_neg c2] at h0; cases h0
  rw [if_pos c2] at h0 ⊢
  cases hs : sumsFrom 0 d with
  | none => rw [hs] at h0; cases h0
  | some c =>
    rw [hs] at h0
    simp only at h0 ⊢
    by_cases c3 : c.any (fun x => decide (x < 0)) = true
    · rw [if_pos c3] at h0; cases h0
    rw [if_neg c3]
    have hr := rises_of_right c1
    have hpl := plN_length l 0 (fun s hs => (spRight_pos l _ _ _ (spCheck_zero c1).2 s hs).1)
    have hc := sumsFrom_length d 0 c hs
    have hz := zipL (plN 0 l) c (by omega)
    refine ⟨fun y hy => ?_, by simp; omega, hz.1, c1⟩
    have : y.f0 ∈ plN 0 l := by
      obtain ⟨i, hi, rfl⟩ := List.mem_iff_getElem.1 hy
      simp only [List.getElem_zipWith]; exact List.getElem_mem _
    exact rises_i64 hr _ this
theorem checkR_zero {h : Hi} (hc : checkR h = 0) : headE h = 0 ∧ (sideRes h.f5 h.f7).2 = 0 ∧ (sideRes h.f6 h.f8).2 = 0 ∧ fits h.f2 h.f3 h.f4 (sideRes h.f5 h.f7).1 (sideRes h.f6 h.f8).1 = true := by
  rw [checkR_eq] at hc
  by_cases c1 : headE h = 0
  rotate_left
  · rw [if_pos c1] at hc; exact absurd hc c1
  rw [if_neg (by simp [c1])] at hc
  by_cases c2 : (sideRes h.f5 h.f7).2 = 0
  rotate_left
  · rw [if_pos c2] at hc; exact absurd hc c2
  rw [if_neg (by simp [c2])] at hc
  by_cases c3 : (sideRes h.f6 h.f8).2 = 0
  rotate_left
  · rw [if_pos c3] at hc; exact absurd hc c3
  rw [if_neg (by simp [c3])] at hc
  by_cases c4 : fits h.f2 h.f3 h.f4 (sideRes h.f5 h.f7).1 (sideRes h.f6 h.f8).1 = true
  · exact ⟨c1, c2, c3, c4⟩
  · rw [if_neg c4] at hc; cases hc
end Go.Proofs.Ytfbjjbbhnmoolaa.P
namespace Go.Proofs.Ytfbjjbbhnmoolaa.P
open Go.RowKit Go.Proofs.YtfbjjbbhnmoolaaW.PrintWords Go.Proofs.YtfbjjbbhnmoolaaW.PrintLast Go.Proofs.YtfbjjbbhnmoolaaW.PrintMore
def diffsW : Int → List Int → List Int
  | _, [] => []
  | a, n :: ns => (n - a) :: diffsW n ns
theorem sums_diffsW : ∀ (ns : List Int) (a : Int), (∀ x ∈ ns, i64 x) → sumsFrom a (diffsW a ns) = some ns
  | [], _, _ => rfl
  | n :: ns, a, h => by
    have e : a + (n - a) = n := by omega
    simp only [diffsW, sumsFrom]
    rw [e, if_pos (h n (List.mem_cons_self ..)), sums_diffsW ns n (fun x hx => h x (List.mem_cons_of_mem _ hx))]; rfl
end Go.Proofs.Ytfbjjbbhnmoolaa.P
namespace Go.Proofs.Ytfbjjbbhnmoolaa.P
open Go.RowKit Go.Shelf Go.Proofs.YtfbjjbbhnmoolaaW.PrintWords Go.Proofs.YtfbjjbbhnmoolaaW.PrintLast Go.Proofs.YtfbjjbbhnmoolaaW.PrintMore
attribute [local go_sem] Oper.semAt_some
def diffsU (l : List Int) : List Int × Bool := if l.all (fun v => decide (v ≤ 9223372036854775807)) = true then (diffsW 0 l, true) else ([], false)
theorem diffsW_snoc : ∀ (l : List Int) (a x : Int), diffsW a (l ++ [x]) = diffsW a l ++ [x - l.getLastD a]
  | [], a, x => by simp [diffsW]
  | y :: t, a, x => by
    rw [List.cons_append, diffsW, diffsW, diffsW_snoc t y x, List.getLastD_cons, List.cons_append]
theorem diffsW_len : ∀ (l : List Int) (a : Int), (diffsW a l).length = l.length
  | [], _ => rfl
  | y :: t, a => by simp [diffsW, diffsW_len t y]
set_option maxRecDepth 100000 in
set_option maxHeartbeats 4000000 in
theorem wholes_r (wh : Int → Int × Bool) (l : List Int) (hm : l.length ≤ 4096) (hwh : ∀ v ∈ l, ∀ w, Calls Try.prog 29 #[.int .u64 v] w fun e w' => e = .returned (.tuple #[.int .u64 (wh v).1, .bool (wh v).2]) ∧ Below w.heap.size w w')
    (w : World) (v : Value) (hv : SI (Kd.int .u64) w v l) : Calls Try.prog 91 #[v] w fun e w' => ∃ v0 : Value, e = .returned (.tuple #[v0, .bool (wholesR wh l).2]) ∧ Kd.R (Kd.int .u64) 22 w' w.heap.size (fun _ => True) v0 (wholesR wh l).1 ∧ Below w.heap.size w w' := by
  obtain ⟨A, c, rfl, hc, hr⟩ := hv
  refine (callsIn_wide (n := 4)).1 ?_
  have hf1 : Fence.wide.fn 29 := trivial
  have HW := Aside0.mk hwh
  have HR := Aside0.mk (And.intro hr hc)
  obtain ⟨i0, hi, hz0, hz1, hz2⟩ := info_parts info22
  have hmk : ∀ W : World, (Instr.makeSlice 29 (.int .i64 0) (.int .i64 l.length)).run Try.prog W = .ok (.slice (some ⟨W.heap.size, 0, none⟩) 0 l.length) (W.alloc (.cells (madeCells #[Value.int .u64 0] (l.length * i0.size)) 22)) := fun W => by
    have := run_make (P := Try.prog) W 29 22 i0 (.int .u64 0) Try.underlying29 hi hz0 .i64 .i64 0 l.length (by omega) (by omega) (by rw [hz2]; omega) (by omega)
    simpa [Value.cells] using this
  have HM := Aside0.mk hm
  clear hr hc hwh hm
  refine callsIn_of_wp Try.func91 rfl trivial ?_ rfl
  simp only [Try.ntmps91, List.size_toArray, List.length_cons, List.length_nil, Nat.reduceAdd, Nat.reduceSub, Array.replicate_succ, Array.replicate_zero, List.push_toArray, List.append_toArray, List.nil_append, List.cons_append]
  gi_wp2
  clear hmk
  gi_loopw [4, 14] (fun s4 s14 wx => ∃ i : Nat, i ≤ l.length ∧ s14 = .int .i64 i ∧ Aside0 (wx.ownsRow w.heap.size 22 1 s4 i (((l.take i).map (fun v => (wh v).1)).map (Value.int .u64))) ∧ Aside0 (Below w.heap.size w wx) ∧ Aside0 ((l.take i).all (fun v => (wh v).2) = true)) (fun _ s14 _ => l.length - (intOf s14).toNat)
  case atStart =>
    refine ⟨0, Nat.zero_le _, rfl, ⟨?_⟩, ⟨below_alloc (Below.refl _ _) _⟩, ⟨by simp⟩⟩
    have := World.ownsRow_made (base := w.heap.size) (e := 22) (size := 1) w (madeCells #[Value.int .u64 0] (l.length * i0.size)) l.length (Nat.le_refl _) (by have := HM.out; unfold maxLen; omega) (by rw [size_madeCells, hz1])
    simpa [hz1] using this
  case round =>
    obtain ⟨i, hil, rfl, HO, HB, HA⟩ := hrel
    by_cases hlt : i < l.length
    · have hlti : (i : Int) < (l.length : Int) := by omega
      have hi0 : (0 : Int) ≤ (i : Int) := by omega
      obtain ⟨ad, e1, hx0⟩ := Kd.at_int (Kd.C_below HR.out.1 HB.out) (i : Int) hi0 hlti
      rw [rd_at hlt, Int.toNat_natCast] at hx0
      subst e1
      have HC := Aside0.mk (HW.out l[i] (List.getElem_mem hlt))
      have HT := Aside0.mk (take_all (fun v => (wh v).2) l i hlt)
      have HS := Aside0.mk (List.take_succ_eq_append_getElem hlt)
      have HMN := Aside0.mk (List.getElem_mem hlt)
      have hi4 : i < 4096 := by have := HM.out; omega
      generalize l[i] = x at hx0 HC HT HS HMN
      generalize hwx : wh x = r at HC HT
      have HWX := Aside0.mk hwx
      clear hwx
      obtain ⟨nv, ok⟩ := r
      simp only at HC HT
      cases ok with
      | false =>
        clear hlt
        gi_wp2_with (gi_at_call 29; refine (callsIn_wide.2 (HC.out _)).mono ?_; rintro e w2 ⟨rfl, hb⟩; have HB2 := Aside0.mk (below_then HB.out HB.out.size hb); clear hb)
        refine bodyPost_ret (results_tmp2 rfl _ _ _) rfl ?_
        have hf : wholesR wh l = ([], false) := by
          unfold wholesR
          rw [if_neg]
          intro h
          have := List.all_eq_true.1 h x HMN.out
          rw [HWX.out] at this; cases this
        rw [hf]
        exact ⟨_, rfl, Kd.R_nil _ _ _ _ _, HB2.out⟩
      | true =>
        gi_wp2_with (first | (gi_at_call 29; refine (callsIn_wide.2 (HC.out _)).mono ?_; rintro e w2 ⟨rfl, hb⟩; have HO2 := Aside0.mk (HO.out.kept (grown_of_below hb none) (Classical.em _)); have HB2 := Aside0.mk (below_then HB.out HB.out.size hb); clear hb) | (gi_at_builtin; refine wpListIn_append_own _ rfl _ _ 29 rfl w.heap.size 22 i0 (.int .u64 0) 1 8 Try.underlying29 hi hz0 hz1 hz2 rfl (by decide) _ _ _ rfl (HO2.out.alloc _) ⟨w2.heap.size, 0, none⟩ 1 1 [.int .u64 nv] rfl rfl (cell_one_new _ _ _) (by simp [Value.oneCell']) (by unfold maxLen; omega) (by omega) (by have := HB2.out.size; simp; omega) ?_; intro v' w3 hown' hgrow _; have HO3 := Aside0.mk hown'; have HB3 := Aside0.mk (pw_below_grown (below_alloc HB2.out _) _ (by have := HB2.out.size; simp; omega) hgrow (own_base' HO2.out)); clear hown' hgrow))
        go_roundw
        case rel =>
          refine ⟨i + 1, by omega, by go_num, ⟨?_⟩, HB3, ⟨by rw [HT.out, HA.out]; rfl⟩⟩
          have := HO3.out
          rw [HS.out, List.map_append, List.map_append, List.map_cons, List.map_nil, HWX.out]
          exact this
        case measure => simp [intOf]; omega
    · obtain rfl : i = l.length := by omega
      have hlti : ¬ (l.length : Int) < (l.length : Int) := by omega
      have ht : l.take l.length = l := List.take_length
      have hf : wholesR wh l = (l.map (fun v => (wh v).1), true) := by unfold wholesR; rw [if_pos (by have := HA.out; rwa [ht] at this)]
      have HF := Aside0.mk hf
      clear hf hlt ht
      gi_wp2
      refine bodyPost_ret (results_tmp2 rfl _ _ _) rfl ?_
      rw [HF.out]
      have hl : l.length = (l.map (fun v => (wh v).1)).length := (List.length_map ..).symm
      have ho := HO.out
      rw [List.take_length] at ho
      refine ⟨_, rfl, Kd.R_of_own (enc := Value.int .u64) (h1 := fun _ => rfl) (hl ▸ ho) (fun _ _ => trivial), HB.out⟩
set_option maxRecDepth 100000 in
set_option maxHeartbeats 4000000 in
theorem diffs_r (l : List Int) (hm : l.length ≤ 4096) (hn : ∀ v ∈ l, 0 ≤ v)
    (w : World) (v : Value) (hv : SI (Kd.int .u64) w v l) : Calls Try.prog 92 #[v] w fun e w' => ∃ v0 : Value, e = .returned (.tuple #[v0, .bool (diffsU l).2]) ∧ Kd.R (Kd.int .i64) 2 w' w.heap.size (fun _ => True) v0 (diffsU l).1 ∧ Below w.heap.size w w' := by
  obtain ⟨A, c, rfl, hc, hr⟩ := hv
  refine (callsIn_wide (n := 4)).1 ?_
  have HNN := Aside0.mk hn
  have HR := Aside0.mk (And.intro hr hc)
  obtain ⟨i0, hi, hz0, hz1, hz2⟩ := info_parts info2
  have hmk : ∀ W : World, (Instr.makeSlice 24 (.int .i64 0) (.int .i64 l.length)).run Try.prog W = .ok (.slice (some ⟨W.heap.size, 0, none⟩) 0 l.length) (W.alloc (.cells (madeCells #[Value.int .i64 0] (l.length * i0.size)) 2)) := fun W => by
    have := run_make (P := Try.prog) W 24 2 i0 (.int .i64 0) Try.underlying24 hi hz0 .i64 .i64 0 l.length (by omega) (by omega) (by rw [hz2]; omega) (by omega)
    simpa [Value.cells] using this
  have HM := Aside0.mk hm
  clear hr hc hn hm
  refine callsIn_of_wp Try.func92 rfl trivial ?_ rfl
  simp only [Try.ntmps92, List.size_toArray, List.length_cons, List.length_nil, Nat.reduceAdd, Nat.reduceSub, Array.replicate_succ, Array.replicate_zero, List.push_toArray, List.append_toArray, List.nil_append, List.cons_append]
  gi_wp2
  clear hmk
  gi_loopw [4, 5, 13] (fun s4 s5 s13 wx => ∃ (i : Nat) (la : Int), i ≤ l.length ∧ s13 = .int .i64 i ∧ s5 = .int .i64 la ∧ Aside0 (la = (l.take i).getLastD 0 ∧ 0 ≤ la ∧ la ≤ 9223372036854775807) ∧ Aside0 (wx.ownsRow w.heap.size 2 1 s4 i ((diffsW 0 (l.take i)).map (Value.int .i64))) ∧ Aside0 (Below w.heap.size w wx) ∧ Aside0 ((l.take i).all (fun v => decide (v ≤ 9223372036854775807)) = true)) (fun _ _ s13 _ => l.length - (intOf s13).toNat)
  case atStart =>
    refine ⟨0, 0, Nat.zero_le _, rfl, rfl, ⟨⟨by simp, by decide, by decide⟩⟩, ⟨?_⟩, ⟨below_alloc (Below.refl _ _) _⟩, ⟨by simp⟩⟩
    have := World.ownsRow_made (base := w.heap.size) (e := 2) (size := 1) w (madeCells #[Value.int .i64 0] (l.length * i0.size)) l.length (Nat.le_refl _) (by have := HM.out; unfold maxLen; omega) (by rw [size_madeCells, hz1])
    simpa [hz1, diffsW] using this
  case round =>
    obtain ⟨i, la, hil, rfl, rfl, HL, HO, HB, HA⟩ := hrel
    by_cases hlt : i < l.length
    · have hlti : (i : Int) < (l.length : Int) := by omega
      have hi0 : (0 : Int) ≤ (i : Int) := by omega
      obtain ⟨ad, e1, hx0⟩ := Kd.at_int (Kd.C_below HR.out.1 HB.out) (i : Int) hi0 hlti
      rw [rd_at hlt, Int.toNat_natCast] at hx0
      subst e1
      have HT := Aside0.mk (take_all (fun v => decide (v ≤ 9223372036854775807)) l i hlt)
      have HS := Aside0.mk (List.take_succ_eq_append_getElem hlt)
      have HMN := Aside0.mk (List.getElem_mem hlt)
      have HP := Aside0.mk (HNN.out l[i] (List.getElem_mem hlt))
      have hi4 : i < 4096 := by have := HM.out; omega
      generalize l[i] = x at hx0 HT HS HMN HP
      by_cases hbig : x > 9223372036854775807
      · have d1 : decide (x > 9223372036854775807) = true := decide_eq_true hbig
        have d1' : decide (9223372036854775807 < x) = true := decide_eq_true hbig
        have HG := Aside0.mk hbig
        clear hlt hbig
        gi_wp2
        refine bodyPost_ret (results_tmp2 rfl _ _ _) rfl ?_
        have hf : diffsU l = ([], false) := by
          unfold diffsU
          rw [if_neg]
          intro h
          have := List.all_eq_true.1 h x HMN.out
          have h2 := HG.out
          simp only [decide_eq_true_eq] at this
          omega
        rw [hf]
        exact ⟨_, rfl, Kd.R_nil _ _ _ _ _, HB.out⟩
      · have d1 : decide (x > 9223372036854775807) = false := decide_eq_false hbig
        have d1' : decide (9223372036854775807 < x) = false := decide_eq_false hbig
        have hcv : IntKind.i64.wrap x = x := by rw [i64_w]; exact wrap_id (x := x) (by have := HP.out; omega) (by omega)
        obtain ⟨dv, hdv⟩ : ∃ dv, dv = x - la := ⟨_, rfl⟩
        have hcd : wrap64 (x - la) = dv := by rw [hdv]; exact wrap_id (x := x - la) (by have := HP.out; have := HL.out; omega) (by have := HP.out; have := HL.out; omega)
        have hcd' : IntKind.i64.wrap (x - la) = dv := by rw [i64_w]; exact hcd
        have HDV := Aside0.mk hdv
        have HXB := Aside0.mk (show x ≤ 9223372036854775807 by omega)
        clear hbig hlt hdv
        gi_wp2_with (gi_at_builtin; refine wpListIn_append_own _ rfl _ _ 24 rfl w.heap.size 2 i0 (.int .i64 0) 1 8 Try.underlying24 hi hz0 hz1 hz2 rfl (by decide) _ _ _ rfl (HO.out.alloc _) ⟨wr.heap.size, 0, none⟩ 1 1 [.int .i64 dv] rfl rfl (cell_one_new _ _ _) (by simp [Value.oneCell']) (by unfold maxLen; omega) (by omega) (by have := HB.out.size; simp; omega) ?_; intro v' w3 hown' hgrow _; have HO3 := Aside0.mk hown'; have HB3 := Aside0.mk (pw_below_grown (below_alloc HB.out _) _ (by have := HB.out.size; simp; omega) hgrow (own_base' HO.out)); clear hown' hgrow)
        go_roundw
        case rel =>
          refine ⟨i + 1, x, by omega, by go_num, (by first | rfl | rw [hcv]), ⟨⟨by rw [HS.out]; simp, HP.out, HXB.out⟩⟩, ⟨?_⟩, HB3, ⟨by rw [HT.out, HA.out]; simpa using HXB.out⟩⟩
          have := HO3.out
          rw [HS.out, diffsW_snoc, List.map_append, List.map_cons, List.map_nil, ← HL.out.1, ← HDV.out]
          exact this
        case measure => simp [intOf]; omega
    · obtain rfl : i = l.length := by omega
      have hlti : ¬ (l.length : Int) < (l.length : Int) := by omega
      have ht : l.take l.length = l := List.take_length
      have hf : diffsU l = (diffsW 0 l, true) := by unfold diffsU; rw [if_pos (by have := HA.out; rwa [ht] at this)]
      have HF := Aside0.mk hf
      clear hf hlt ht
      gi_wp2
      refine bodyPost_ret (results_tmp2 rfl _ _ _) rfl ?_
      rw [HF.out]
      have hl : l.length = (diffsW 0 l).length := (diffsW_len l 0).symm
      have ho := HO.out
      rw [List.take_length] at ho
      refine ⟨_, rfl, Kd.R_of_own (enc := Value.int .i64) (h1 := fun _ => rfl) (hl ▸ ho) (fun _ _ => trivial), HB.out⟩
def wfWh (l : List Int) : Prop := l.length ≤ 4096 ∧ ∀ v ∈ l, 0 ≤ v
instance (l : List Int) : Decidable (wfWh l) := by unfold wfWh; exact inferInstance
def fhist_wholes.f (l : List Int) : Option (List Int × Bool) := if wfWh l then some (wholesR wholeI l) else none
theorem fhist_wholes.calls (A0 : Option Addr) (c0 : Nat) (l0 : List Int) (r1 : List Int) (r2 : Bool) (w : World) (hr0 : Kd.C (Kd.int .u64) w A0 l0.length l0) (hc0 : l0.length ≤ c0) (h : fhist_wholes.f l0 = some (r1, r2)) :
    Calls Try.prog 91 #[.slice A0 l0.length c0] w fun e w' => ∃ v0_ : Value, e = .returned (.tuple #[v0_, .bool r2]) ∧ Kd.R (Kd.int .u64) 22 w' w.heap.size (fun _ => True) v0_ r1 ∧ Below w.heap.size w w' := by
  unfold fhist_wholes.f at h
  by_cases hwf : wfWh l0
  rotate_left
  · rw [if_neg hwf] at h; cases h
  rw [if_pos hwf] at h
  have e := Option.some.inj h
  have := wholes_r wholeI l0 hwf.1 (fun v hv w => whole_c v (hwf.2 v hv) w) w _ (.of hr0 hc0)
  rw [e] at this
  exact this
def fhist_differences.f (l : List Int) : Option (List Int × Bool) := if wfWh l then some (diffsU l) else none
theorem fhist_differences.calls (A0 : Option Addr) (c0 : Nat) (l0 : List Int) (r1 : List Int) (r2 : Bool) (w : World) (hr0 : Kd.C (Kd.int .u64) w A0 l0.length l0) (hc0 : l0.length ≤ c0) (h : fhist_differences.f l0 = some (r1, r2)) :
    Calls Try.prog 92 #[.slice A0 l0.length c0] w fun e w' => ∃ v0_ : Value, e = .returned (.tuple #[v0_, .bool r2]) ∧ Kd.R (Kd.int .i64) 2 w' w.heap.size (fun _ => True) v0_ r1 ∧ Below w.heap.size w w' := by
  unfold fhist_differences.f at h
  by_cases hwf : wfWh l0
  rotate_left
  · rw [if_neg hwf] at h; cases h
  rw [if_pos hwf] at h
  have e := Option.some.inj h
  have := diffs_r l0 hwf.1 hwf.2 w _ (.of hr0 hc0)
  rw [e] at this
  exact this
end Go.Proofs.Ytfbjjbbhnmoolaa.P
namespace Go.Proofs.Ytfbjjbbhnmoolaa.P
open Go.RowKit Go.Shelf Go.Proofs.YtfbjjbbhnmoolaaW.PrintWords Go.Proofs.YtfbjjbbhnmoolaaW.PrintLast Go.Proofs.YtfbjjbbhnmoolaaW.PrintMore
instance (h : Fh) : Decidable (wfF h) := by unfold wfF; exact inferInstance
def fhist_Check.f (a0 a1 a2 a3 a4 : Int) (a5 a6 : List Sp) (a7 a8 : List Int) : Option Int := if wfF ⟨a0, a1, a2, a3, a4, a5, a6, a7, a8⟩ then some (checkF ⟨a0, a1, a2, a3, a4, a5, a6, a7, a8⟩) else none
theorem fhist_Check.calls (a0 a1 a2 a3 a4 : Int) (A5 : Option Addr) (c5 : Nat) (a5 : List Sp) (A6 : Option Addr) (c6 : Nat) (a6 : List Sp) (A7 : Option Addr) (c7 : Nat) (a7 : List Int) (A8 : Option Addr) (c8 : Nat) (a8 : List Int) (r : Int) (w : World)
    (h5 : Kd.C kSp w A5 a5.length a5) (k5 : a5.length ≤ c5) (h6 : Kd.C kSp w A6 a6.length a6) (k6 : a6.length ≤ c6) (h7 : Kd.C (Kd.int .u64) w A7 a7.length a7) (k7 : a7.length ≤ c7) (h8 : Kd.C (Kd.int .u64) w A8 a8.length a8) (k8 : a8.length ≤ c8)
    (h : fhist_Check.f a0 a1 a2 a3 a4 a5 a6 a7 a8 = some r) :
    Calls Try.prog 87 #[.agg #[.int .i64 a0, .int .u64 a1, .int .u64 a2, .int .u64 a3, .int .u64 a4, .slice A5 a5.length c5, .slice A6 a6.length c6, .slice A7 a7.length c7, .slice A8 a8.length c8]] w fun e w' => e = .returned (.int .i64 r) ∧ Below w.heap.size w w' := by
  unfold fhist_Check.f at h
  by_cases hw : wfF ⟨a0, a1, a2, a3, a4, a5, a6, a7, a8⟩
  · rw [if_pos hw] at h
    have e := Option.some.inj h
    have := fcheck_c ⟨a0, a1, a2, a3, a4, a5, a6, a7, a8⟩ hw w _ (GI.mk (.of h5 k5) (.of h6 k6) (.of h7 k7) (.of h8 k8))
    rw [e] at this
    exact this
  · rw [if_neg hw] at h
    cases h
end Go.Proofs.Ytfbjjbbhnmoolaa.P
namespace Go.Proofs.Ytfbjjbbhnmoolaa.P
open Go.RowKit Go.Shelf Go.Proofs.YtfbjjbbhnmoolaaW.PrintWords Go.Proofs.YtfbjjbbhnmoolaaW.PrintLast Go.Proofs.YtfbjjbbhnmoolaaW.PrintMore
attribute [local go_sem] Oper.semAt_some
def nearI (v : Int) : Int := ((FloatKind.f64.nearest v : Nat) : Int)
theorem near_u (v : Int) (w : World) : Calls Try.prog 31 #[.int .u64 v] w fun e w' => e = .returned (.int .u64 (nearI v)) ∧ Below w.heap.size w w' := (fhist_Float.calls v _ w rfl).mono fun e w1 h => ⟨h.1, h.2.below⟩
def floatsCR (l : List Int) : List Int := ((sumsFrom 0 l).getD []).map nearI
def wfFloats (l : List Int) : Prop := (∀ x ∈ l, i64 x) ∧ l.length ≤ 65536 ∧ ∀ x ∈ (sumsFrom 0 l).getD [], 0 ≤ x ∧ x ≤ 9223372036854775807
instance (l : List Int) : Decidable (wfFloats l) := by unfold wfFloats; infer_instance
def fhist_floats.f (l : List Int) : Option (List Int) := if wfFloats l then some (floatsCR l) else none
theorem u64_id {x : Int} (h0 : 0 ≤ x) (h1 : x ≤ 9223372036854775807) : IntKind.u64.wrap x = x := by
  simp only [IntKind.wrap]
  simp [IntKind.signed, IntKind.bits]
  omega
theorem own_base_' {W : World} {base size n : Nat} {e : TypeId} {v : Value} {xs : List Value} (h : W.ownsRow base e size v n xs) : ∀ k, v.ownBlock = some k → base ≤ k := fun k hk => own_base h k hk
theorem sums_len (l : List Int) : ∀ (a : Int) (o : List Int), sumsFrom a l = some o → o.length = l.length := by
  induction l with
  | nil => intro a o h; simp [sumsFrom] at h; subst h; rfl
  | cons x t ih =>
    intro a o h
    simp only [sumsFrom] at h
    split at h
    · cases hs : sumsFrom (a + x) t with
      | none => rw [hs] at h; simp at h
      | some o' => rw [hs] at h; simp at h; subst h; simp [ih _ _ hs]
    · cases h
theorem abs_run (l : List Int) (hw : wfFloats l) : ∃ e : Int, pairs_Absolute.f (l.length + 1) l = some ((sumsFrom 0 l).getD [], e) := by
  rw [absolute_eq l hw.1 (by have := hw.2.1; omega) _ (by omega)]
  cases sumsFrom 0 l with
  | none => exact ⟨28, rfl⟩
  | some o => exact ⟨0, rfl⟩
set_option maxRecDepth 100000 in
set_option maxHeartbeats 4000000 in
theorem fhist_floats.calls (A0 : Option Addr) (c0 : Nat) (l0 : List Int) (r : List Int) (w : World) (hr0 : Kd.C (Kd.int .i64) w A0 l0.length l0) (hc0 : l0.length ≤ c0) (h : fhist_floats.f l0 = some r) :
    Calls Try.prog 52 #[.slice A0 l0.length c0] w fun e w' => ∃ v0_ : Value, e = .returned v0_ ∧ Kd.R (Kd.int .u64) 22 w' w.heap.size (fun _ => True) v0_ r ∧ Below w.heap.size w w' := by
  unfold fhist_floats.f at h
  by_cases hwf : wfFloats l0
  rotate_left
  · rw [if_neg hwf] at h; cases h
  rw [if_pos hwf] at h
  cases h
  obtain ⟨er, habs⟩ := abs_run l0 hwf
  have hlen : ((sumsFrom 0 l0).getD []).length ≤ 65536 := by
    cases hs : sumsFrom 0 l0 with
    | none => simp
    | some o => simp [sums_len _ _ _ hs]; exact hwf.2.1
  have hnum := hwf.2.2
  unfold floatsCR
  generalize (sumsFrom 0 l0).getD [] = l at *
  refine (callsIn_wide (n := 4)).1 ?_
  have hf1 : Fence.wide.fn 99 := trivial
  have hf2 : Fence.wide.fn 31 := trivial
  have HAb := Aside0.mk (fun w hr0 => pairs_Absolute.calls _ A0 c0 l0 _ _ w hr0 hc0 habs)
  have HR := Aside0.mk hr0
  obtain ⟨i0, hi, hz0, hz1, hz2⟩ := info_parts info22
  have hmk : ∀ W : World, (Instr.makeSlice 29 (.int .i64 0) (.int .i64 l.length)).run Try.prog W = .ok (.slice (some ⟨W.heap.size, 0, none⟩) 0 l.length) (W.alloc (.cells (madeCells #[Value.int .u64 0] (l.length * i0.size)) 22)) := fun W => by
    have := run_make (P := Try.prog) W 29 22 i0 (.int .u64 0) Try.underlying29 hi hz0 .i64 .i64 0 l.length (by omega) (by omega) (by rw [hz2]; omega) (by omega)
    simpa [Value.cells] using this
  have HM := Aside0.mk hlen
  have HN := Aside0.mk hnum
  clear hr0 hlen hnum habs hwf
  refine callsIn_of_wp Try.func52 rfl trivial ?_ rfl
  simp only [Try.ntmps52, List.size_toArray, List.length_cons, List.length_nil, Nat.reduceAdd, Nat.reduceSub, Array.replicate_succ, Array.replicate_zero, List.push_toArray, List.append_toArray, List.nil_append, List.cons_append]
  gi_wp2_with (gi_at_call 99; refine (callsIn_wide.2 (HAb.out _ HR.out)).mono ?_; rintro e w1 ⟨v1, rfl, hR1, hb⟩; obtain ⟨A1, c1, rfl, hc1, hC1⟩ := Kd.R_reads hR1; have HC := Aside0.mk hC1; have HB1 := Aside0.mk hb; clear hb hR1 hC1)
  clear hmk
  gi_loopw [5, 18] (fun s5 s18 wx => ∃ i : Nat, i ≤ l.length ∧ s18 = .int .i64 i ∧ Aside0 (wx.ownsRow w1.heap.size 22 1 s5 i (((l.take i).map nearI).map (Value.int .u64))) ∧ Aside0 (Below w1.heap.size w1 wx)) (fun _ s18 _ => l.length - (intOf s18).toNat)
  case atStart =>
    refine ⟨0, Nat.zero_le _, rfl, ⟨?_⟩, ⟨below_alloc (Below.refl _ _) _⟩⟩
    have := World.ownsRow_made (base := w1.heap.size) (e := 22) (size := 1) w1 (madeCells #[Value.int .u64 0] (l.length * i0.size)) l.length (Nat.le_refl _) (by have := HM.out; unfold maxLen; omega) (by rw [size_madeCells, hz1])
    simpa [hz1] using this
  case round =>
    obtain ⟨i, hil, rfl, HO, HB⟩ := hrel
    by_cases hlt : i < l.length
    · have hlti : (i : Int) < (l.length : Int) := by omega
      have hi0 : (0 : Int) ≤ (i : Int) := by omega
      obtain ⟨ad, e1, hx0⟩ := Kd.at_int (Kd.C_below HC.out HB.out) (i : Int) hi0 hlti
      rw [rd_at hlt, Int.toNat_natCast] at hx0
      subst e1
      have HS := Aside0.mk (List.take_succ_eq_append_getElem hlt)
      have hx := HN.out l[i] (List.getElem_mem hlt)
      have hcv := u64_id hx.1 hx.2
      have FL := Aside0.mk (near_u l[i])
      have hi4 : i < 65536 := by have := HM.out; omega
      clear hx
      generalize l[i] = x at hx0 HS hcv FL
      generalize hwx : nearI x = nv at FL
      have HWX := Aside0.mk hwx
      clear hwx
      gi_wp2_with (first | (gi_at_call 31; refine (callsIn_wide.2 (FL.out _)).mono ?_; rintro e w2 ⟨rfl, hb⟩; have HO2 := Aside0.mk (HO.out.kept (grown_of_below hb none) (Classical.em _)); have HB2 := Aside0.mk (below_then HB.out HB.out.size hb); clear hb) | (gi_at_builtin; refine wpListIn_append_own _ rfl _ _ 29 rfl w1.heap.size 22 i0 (.int .u64 0) 1 8 Try.underlying29 hi hz0 hz1 hz2 rfl (by decide) _ _ _ rfl (HO2.out.alloc _) ⟨w2.heap.size, 0, none⟩ 1 1 [.int .u64 nv] rfl rfl (cell_one_new _ _ _) (by simp [Value.oneCell']) (by unfold maxLen; omega) (by omega) (by have := HB2.out.size; simp; omega) ?_; intro v' w3 hown' hgrow _; have HO3 := Aside0.mk hown'; have HB3 := Aside0.mk (pw_below_grown (below_alloc HB2.out _) _ (by have := HB2.out.size; simp; omega) hgrow (own_base_' HO2.out)); clear hown' hgrow))
      go_roundw
      case rel =>
        refine ⟨i + 1, by omega, by go_num, ⟨?_⟩, HB3⟩
        have := HO3.out
        rw [HS.out, List.map_append, List.map_append, List.map_cons, List.map_nil, HWX.out]
        exact this
      case measure => simp [intOf]; omega
    · obtain rfl : i = l.length := by omega
      have hlti : ¬ (l.length : Int) < (l.length : Int) := by omega
      clear hlt
      gi_wp2
      refine bodyPost_ret (results_tmp rfl _ _ _) rfl ?_
      have hl : l.length = (l.map nearI).length := (List.length_map ..).symm
      have ho := HO.out
      rw [List.take_length] at ho
      exact ⟨_, rfl, Kd.R_lower (Kd.R_of_own (enc := Value.int .u64) (h1 := fun _ => rfl) (hl ▸ ho) (fun _ _ => trivial)) HB1.out.size, below_then HB1.out HB1.out.size HB.out⟩
end Go.Proofs.Ytfbjjbbhnmoolaa.P
namespace Go.Proofs.Ytfbjjbbhnmoolaa.P
open Go.RowKit Go.Shelf Go.Proofs.YtfbjjbbhnmoolaaW.PrintWords Go.Proofs.YtfbjjbbhnmoolaaW.PrintLast Go.Proofs.YtfbjjbbhnmoolaaW.PrintMore
theorem unzipU_c (l : List Pu) (hw : wfRowU l) (w : World) (v : Value) (hv : SI kPu w v l) : Calls Try.prog 115 #[v] w fun e w' =>
    ∃ v0 v1 : Value, e = .returned (.tuple #[v0, v1, .int .i64 (unzipResU l).2.2]) ∧ FI kSp w.heap.size w' v0 (unzipResU l).1 ∧ FI (Kd.int .u64) w.heap.size w' v1 (unzipResU l).2.1 ∧ Below w.heap.size w w' := by
  obtain ⟨A, c, rfl, hc, hr⟩ := hv
  refine (pairs_Unzip_uint64.calls (3 * l.length + 2) A c l (unzipResU l).1 (unzipResU l).2.1 (unzipResU l).2.2 w hr hc (unzipU_eq l hw.1 hw.2 _ (by omega))).mono ?_
  rintro e w1 ⟨v0, v1, rfl, h0, h1, hb⟩
  exact ⟨v0, v1, rfl, .of_R h0 (Nat.le_refl _), .of_R h1 (Nat.le_refl _), hb⟩
theorem unzipResU_wf {l : List Pu} (hw : wfRowU l) : wfSps (unzipResU l).1 ∧ u64s (unzipResU l).2.1 ∧ (unzipResU l).2.1.length < 4398046511104 := by
  unfold unzipResU
  by_cases h : (fromRes (l.map (·.f0))).2 = 0
  · rw [if_pos h]
    obtain ⟨hr, hl, hl2, he⟩ := fromRes_ok h
    refine ⟨by rw [he]; exact spansOf_wf hr hl, fun x hx => ?_, by simpa using hw.2⟩
    obtain ⟨p, hp, rfl⟩ := List.mem_map.1 hx
    exact (hw.1 p hp).2
  · rw [if_neg h]; exact ⟨fun s hs => by simp at hs, fun s hs => by simp at hs, by simp⟩
def madeF (h : Fh) (p n : List Pu) : Fh := ⟨h.f0, h.f1, h.f2, h.f3, h.f4, (unzipResU p).1, (unzipResU n).1, (unzipResU p).2.1, (unzipResU n).2.1⟩
def makeF (h : Fh) (p n : List Pu) : Fh × Int := if (unzipResU p).2.2 ≠ 0 then (emptyF, (unzipResU p).2.2) else if (unzipResU n).2.2 ≠ 0 then (emptyF, (unzipResU n).2.2) else if checkF (madeF h p n) ≠ 0 then (emptyF, checkF (madeF h p n)) else (madeF h p n, 0)
theorem madeF_wf {h : Fh} {p n : List Pu} (hw : wfF h) (hp : wfRowU p) (hn : wfRowU n) : wfF (madeF h p n) := by
  obtain ⟨a0, a1, a2, a3, a4, -⟩ := hw
  exact ⟨a0, a1, a2, a3, a4, (unzipResU_wf hp).1, (unzipResU_wf hn).1, (unzipResU_wf hp).2.1, (unzipResU_wf hn).2.1, (unzipResU_wf hp).2.2, (unzipResU_wf hn).2.2⟩
set_option maxHeartbeats 8000000 in
set_option maxRecDepth 100000 in
theorem fmake_n (h : Fh) (p n : List Pu) (hw : wfF (madeF h p n)) (hp : wfRowU p) (hn : wfRowU n) (w : World) (v vp vn : Value) (hv : GI w v h) (hvp : SI kPu w vp p) (hvn : SI kPu w vn n) : Calls Try.prog 88 #[v, vp, vn] w fun e w' =>
    ∃ v', e = .returned (.tuple #[v', .int .i64 (makeF h p n).2]) ∧ GF w.heap.size w' v' (makeF h p n).1 ∧ Below w.heap.size w w' := by
  have hu := Try.underlying31
  obtain ⟨A5, c5, A6, c6, A7, c7, A8, c8, e, -⟩ := hv.open_
  subst e
  have HP := Aside0.mk hvp
  have HN := Aside0.mk hvn
  have HW := Aside0.mk hw
  have HC1 := fun w hv => unzipU_c p hp w vp hv
  have HC2 := fun w hv => unzipU_c n hn w vn hv
  clear hv hvp hvn hw hp hn
  unfold makeF madeF at *
  generalize unzipResU p = lp at *
  generalize unzipResU n = ln at *
  obtain ⟨sp, dp, ep⟩ := lp
  obtain ⟨sn, dn, en⟩ := ln
  simp only at HW HC1 HC2 ⊢
  replace HC1 := Aside0.mk HC1
  replace HC2 := Aside0.mk HC2
  by_cases c1 : ep = 0
  rotate_left
  · rw [if_pos c1]
    have c1a : (ep != 0) = true := bne_iff_ne.2 c1
    clear c1
    go_enter Try.func88, Try.ntmps88
    go_wp2_with (first | (go_at_call 115; (with_reducible refine (HC1.out _ (HP.out.below (below_alloc (below_alloc (Below.refl _ _) _) _))).mono ?_); rintro e w1 ⟨v0, v1, rfl, h0, h1, hb⟩; obtain ⟨B0, d0, rfl⟩ := h0.slice; obtain ⟨B1, d1, rfl⟩ := h1.slice; have HF0 := Aside0.mk (show FI kSp (w.heap.size + 1 + 1) w1 (.slice B0 sp.length d0) sp by simpa using h0); have HF1 := Aside0.mk (show FI (Kd.int .u64) (w.heap.size + 1 + 1) w1 (.slice B1 dp.length d1) dp by simpa using h1); have HB1 := Aside0.mk (below_then (below_alloc (below_alloc (Below.refl w.heap.size w) (.cells #[.int .i64 h.f0, .int .u64 h.f1, .int .u64 h.f2, .int .u64 h.f3, .int .u64 h.f4, .slice A5 h.f5.length c5, .slice A6 h.f6.length c6, .slice A7 h.f7.length c7, .slice A8 h.f8.length c8] 31)) (.cells #[.int .i64 0, .int .u64 0, .int .u64 0, .int .u64 0, .int .u64 0, .slice none 0 0, .slice none 0 0, .slice none 0 0, .slice none 0 0] 31)) (by simp; omega) hb); have HX1 := Aside0.mk (blk_below (blk_alloc (blk_new w (.cells #[.int .i64 h.f0, .int .u64 h.f1, .int .u64 h.f2, .int .u64 h.f3, .int .u64 h.f4, .slice A5 h.f5.length c5, .slice A6 h.f6.length c6, .slice A7 h.f7.length c7, .slice A8 h.f8.length c8] 31)) (.cells #[.int .i64 0, .int .u64 0, .int .u64 0, .int .u64 0, .int .u64 0, .slice none 0 0, .slice none 0 0, .slice none 0 0, .slice none 0 0] 31)) hb); have HY1 := Aside0.mk (show w1.heap[w.heap.size + 1]? = some (.cells #[.int .i64 0, .int .u64 0, .int .u64 0, .int .u64 0, .int .u64 0, .slice none 0 0, .slice none 0 0, .slice none 0 0, .slice none 0 0] 31 (0, 0)) from (blk_below (show ((w.alloc (.cells #[.int .i64 h.f0, .int .u64 h.f1, .int .u64 h.f2, .int .u64 h.f3, .int .u64 h.f4, .slice A5 h.f5.length c5, .slice A6 h.f6.length c6, .slice A7 h.f7.length c7, .slice A8 h.f8.length c8] 31)).alloc (.cells #[.int .i64 0, .int .u64 0, .int .u64 0, .int .u64 0, .int .u64 0, .slice none 0 0, .slice none 0 0, .slice none 0 0, .slice none 0 0] 31)).heap[w.heap.size + 1]? = _ by simpa using blk_new (w.alloc (.cells #[.int .i64 h.f0, .int .u64 h.f1, .int .u64 h.f2, .int .u64 h.f3, .int .u64 h.f4, .slice A5 h.f5.length c5, .slice A6 h.f6.length c6, .slice A7 h.f7.length c7, .slice A8 h.f8.length c8] 31)) (.cells #[.int .i64 0, .int .u64 0, .int .u64 0, .int .u64 0, .int .u64 0, .slice none 0 0, .slice none 0 0, .slice none 0 0, .slice none 0 0] 31)) hb)); have hfx := fun i => blk_cell HX1.out i; have hzx := fun i => blk_frozen HX1.out i; have hfy := fun i => blk_cell HY1.out i; have hzy := fun i => blk_frozen HY1.out i; clear h0 h1 hb))
    refine bodyPost_ret (results_ct rfl _ _ (w.heap.size + 1) 31 #[.int .i64 0, .int .u64 0, .int .u64 0, .int .u64 0, .int .u64 0, .slice none 0 0, .slice none 0 0, .slice none 0 0, .slice none 0 0] (0, 0) _ rfl (nine (blk_far (blk_far HY1.out (by show w.heap.size + 1 ≠ w.heap.size; omega) _) (by show w.heap.size + 1 ≠ w.heap.size; omega) _) _ _ _ _ _ _ _ _ _) Try.underlying31 rfl (by kernel_rfl)) rfl ?_
    exact ⟨_, rfl, GF.empty _ _, nine_below (belowS HB1.out.size HB1.out) (by omega) _ _ _ _ _ _ _ _ _⟩
  subst c1
  rw [if_neg (by simp)]
  by_cases c2 : en = 0
  rotate_left
  · rw [if_pos c2]
    have c2a : (en != 0) = true := bne_iff_ne.2 c2
    clear c2
    go_enter Try.func88, Try.ntmps88
    go_wp2_with (first | (go_at_call 115; (with_reducible refine (HC1.out _ (HP.out.below (below_alloc (below_alloc (Below.refl _ _) _) _))).mono ?_); rintro e w1 ⟨v0, v1, rfl, h0, h1, hb⟩; obtain ⟨B0, d0, rfl⟩ := h0.slice; obtain ⟨B1, d1, rfl⟩ := h1.slice; have HF0 := Aside0.mk (show FI kSp (w.heap.size + 1 + 1) w1 (.slice B0 sp.length d0) sp by simpa using h0); have HF1 := Aside0.mk (show FI (Kd.int .u64) (w.heap.size + 1 + 1) w1 (.slice B1 dp.length d1) dp by simpa using h1); have HB1 := Aside0.mk (below_then (below_alloc (below_alloc (Below.refl w.heap.size w) (.cells #[.int .i64 h.f0, .int .u64 h.f1, .int .u64 h.f2, .int .u64 h.f3, .int .u64 h.f4, .slice A5 h.f5.length c5, .slice A6 h.f6.length c6, .slice A7 h.f7.length c7, .slice A8 h.f8.length c8] 31)) (.cells #[.int .i64 0, .int .u64 0, .int .u64 0, .int .u64 0, .int .u64 0, .slice none 0 0, .slice none 0 0, .slice none 0 0, .slice none 0 0] 31)) (by simp; omega) hb); have HX1 := Aside0.mk (blk_below (blk_alloc (blk_new w (.cells #[.int .i64 h.f0, .int .u64 h.f1, .int .u64 h.f2, .int .u64 h.f3, .int .u64 h.f4, .slice A5 h.f5.length c5, .slice A6 h.f6.length c6, .slice A7 h.f7.length c7, .slice A8 h.f8.length c8] 31)) (.cells #[.int .i64 0, .int .u64 0, .int .u64 0, .int .u64 0, .int .u64 0, .slice none 0 0, .slice none 0 0, .slice none 0 0, .slice none 0 0] 31)) hb); have HY1 := Aside0.mk (show w1.heap[w.heap.size + 1]? = some (.cells #[.int .i64 0, .int .u64 0, .int .u64 0, .int .u64 0, .int .u64 0, .slice none 0 0, .slice none 0 0, .slice none 0 0, .slice none 0 0] 31 (0, 0)) from (blk_below (show ((w.alloc (.cells #[.int .i64 h.f0, .int .u64 h.f1, .int .u64 h.f2, .int .u64 h.f3, .int .u64 h.f4, .slice A5 h.f5.length c5, .slice A6 h.f6.length c6, .slice A7 h.f7.length c7, .slice A8 h.f8.length c8] 31)).alloc (.cells #[.int .i64 0, .int .u64 0, .int .u64 0, .int .u64 0, .int .u64 0, .slice none 0 0, .slice none 0 0, .slice none 0 0, .slice none 0 0] 31)).heap[w.heap.size + 1]? = _ by simpa using blk_new (w.alloc (.cells #[.int .i64 h.f0, .int .u64 h.f1, .int .u64 h.f2, .int .u64 h.f3, .int .u64 h.f4, .slice A5 h.f5.length c5, .slice A6 h.f6.length c6, .slice A7 h.f7.length c7, .slice A8 h.f8.length c8] 31)) (.cells #[.int .i64 0, .int .u64 0, .int .u64 0, .int .u64 0, .int .u64 0, .slice none 0 0, .slice none 0 0, .slice none 0 0, .slice none 0 0] 31)) hb)); have hfx := fun i => blk_cell HX1.out i; have hzx := fun i => blk_frozen HX1.out i; have hfy := fun i => blk_cell HY1.out i; have hzy := fun i => blk_frozen HY1.out i; clear h0 h1 hb) | (go_at_call 115; (with_reducible refine (HC2.out _ (HN.out.below (belowS (HB1.out.size) HB1.out))).mono ?_); rintro e w3 ⟨v2, v3, rfl, h2, h3, hb⟩; obtain ⟨B2, d2, rfl⟩ := h2.slice; obtain ⟨B3, d3, rfl⟩ := h3.slice; have HS2 := Aside0.mk (show w.heap.size + 1 + 1 ≤ w1.heap.size from by have := blk_lt HY1.out; omega); have HF2 := Aside0.mk (show FI kSp (w.heap.size + 1 + 1) w3 (.slice B2 sn.length d2) sn from FI.lower h2 (by have := HS2.out; simpa [World.setCell] using this)); have HF3 := Aside0.mk (show FI (Kd.int .u64) (w.heap.size + 1 + 1) w3 (.slice B3 dn.length d3) dn from FI.lower h3 (by have := HS2.out; simpa [World.setCell] using this)); have HK3 := Aside0.mk (show KA (w.heap.size + 1 + 1) w1 w3 from ((KA.set _ (by omega) _).trans (KA.set _ (by omega) _)).trans (KA.below hb)); have HB3 := Aside0.mk (below_then (belowS (HB1.out.size) HB1.out) (by have := HB1.out.size; simpa [World.setCell] using this) hb); have HX3 := Aside0.mk (blk_below (show ((w1.setCell ⟨w.heap.size, 5, none⟩ (.slice B0 sp.length d0)).setCell ⟨w.heap.size, 7, none⟩ (.slice B1 dp.length d1)).heap[w.heap.size]? = some (.cells #[.int .i64 h.f0, .int .u64 h.f1, .int .u64 h.f2, .int .u64 h.f3, .int .u64 h.f4, .slice B0 sp.length d0, .slice A6 h.f6.length c6, .slice B1 dp.length d1, .slice A8 h.f8.length c8] 31 (0, 0)) from blk_put (blk_put HX1.out 5 _ rfl) 7 _ rfl) hb); have HY3 := Aside0.mk (blk_below (show ((w1.setCell ⟨w.heap.size, 5, none⟩ (.slice B0 sp.length d0)).setCell ⟨w.heap.size, 7, none⟩ (.slice B1 dp.length d1)).heap[w.heap.size + 1]? = some (.cells #[.int .i64 0, .int .u64 0, .int .u64 0, .int .u64 0, .int .u64 0, .slice none 0 0, .slice none 0 0, .slice none 0 0, .slice none 0 0] 31 (0, 0)) from blk_far (blk_far HY1.out (by show w.heap.size + 1 ≠ w.heap.size; omega) _) (by show w.heap.size + 1 ≠ w.heap.size; omega) _) hb); clear hfx hzx hfy hzy; have hfx := fun i => blk_cell HX3.out i; have hzx := fun i => blk_frozen HX3.out i; have hfy := fun i => blk_cell HY3.out i; have hzy := fun i => blk_frozen HY3.out i; clear h2 h3 hb))
    refine bodyPost_ret (results_ct rfl _ _ (w.heap.size + 1) 31 #[.int .i64 0, .int .u64 0, .int .u64 0, .int .u64 0, .int .u64 0, .slice none 0 0, .slice none 0 0, .slice none 0 0, .slice none 0 0] (0, 0) _ rfl (nine (blk_far (blk_far HY3.out (by show w.heap.size + 1 ≠ w.heap.size; omega) _) (by show w.heap.size + 1 ≠ w.heap.size; omega) _) _ _ _ _ _ _ _ _ _) Try.underlying31 rfl (by kernel_rfl)) rfl ?_
    exact ⟨_, rfl, GF.empty _ _, nine_below (belowS HB3.out.size HB3.out) (by omega) _ _ _ _ _ _ _ _ _⟩
  subst c2
  rw [if_neg (by simp)]
  have hck : ∀ w v5 v6 v7 v8, SI kSp w v5 sp → SI kSp w v6 sn → SI (Kd.int .u64) w v7 dp → SI (Kd.int .u64) w v8 dn → Calls Try.prog 87 #[.agg #[.int .i64 h.f0, .int .u64 h.f1, .int .u64 h.f2, .int .u64 h.f3, .int .u64 h.f4, v5, v6, v7, v8]] w fun e w' => e = .returned (.int .i64 (checkF ⟨h.f0, h.f1, h.f2, h.f3, h.f4, sp, sn, dp, dn⟩)) ∧ Below w.heap.size w w' :=
    fun w v5 v6 v7 v8 h5 h6 h7 h8 => fcheck_c _ HW.out w _ (GI.mk (h := ⟨h.f0, h.f1, h.f2, h.f3, h.f4, sp, sn, dp, dn⟩) h5 h6 h7 h8)
  generalize checkF ⟨h.f0, h.f1, h.f2, h.f3, h.f4, sp, sn, dp, dn⟩ = ec at hck ⊢
  have HCK := Aside0.mk hck
  clear hck
  by_cases c3 : ec = 0
  rotate_left
  · rw [if_pos c3]
    have c3a : (ec != 0) = true := bne_iff_ne.2 c3
    clear c3
    go_enter Try.func88, Try.ntmps88
    go_wp2_with (first | (go_at_call 115; (with_reducible refine (HC1.out _ (HP.out.below (below_alloc (below_alloc (Below.refl _ _) _) _))).mono ?_); rintro e w1 ⟨v0, v1, rfl, h0, h1, hb⟩; obtain ⟨B0, d0, rfl⟩ := h0.slice; obtain ⟨B1, d1, rfl⟩ := h1.slice; have HF0 := Aside0.mk (show FI kSp (w.heap.size + 1 + 1) w1 (.slice B0 sp.length d0) sp by simpa using h0); have HF1 := Aside0.mk (show FI (Kd.int .u64) (w.heap.size + 1 + 1) w1 (.slice B1 dp.length d1) dp by simpa using h1); have HB1 := Aside0.mk (below_then (below_alloc (below_alloc (Below.refl w.heap.size w) (.cells #[.int .i64 h.f0, .int .u64 h.f1, .int .u64 h.f2, .int .u64 h.f3, .int .u64 h.f4, .slice A5 h.f5.length c5, .slice A6 h.f6.length c6, .slice A7 h.f7.length c7, .slice A8 h.f8.length c8] 31)) (.cells #[.int .i64 0, .int .u64 0, .int .u64 0, .int .u64 0, .int .u64 0, .slice none 0 0, .slice none 0 0, .slice none 0 0, .slice none 0 0] 31)) (by simp; omega) hb); have HX1 := Aside0.mk (blk_below (blk_alloc (blk_new w (.cells #[.int .i64 h.f0, .int .u64 h.f1, .int .u64 h.f2, .int .u64 h.f3, .int .u64 h.f4, .slice A5 h.f5.length c5, .slice A6 h.f6.length c6, .slice A7 h.f7.length c7, .slice A8 h.f8.length c8] 31)) (.cells #[.int .i64 0, .int .u64 0, .int .u64 0, .int .u64 0, .int .u64 0, .slice none 0 0, .slice none 0 0, .slice none 0 0, .slice none 0 0] 31)) hb); have HY1 := Aside0.mk (show w1.heap[w.heap.size + 1]? = some (.cells #[.int .i64 0, .int .u64 0, .int .u64 0, .int .u64 0, .int .u64 0, .slice none 0 0, .slice none 0 0, .slice none 0 0, .slice none 0 0] 31 (0, 0)) from (blk_below (show ((w.alloc (.cells #[.int .i64 h.f0, .int .u64 h.f1, .int .u64 h.f2, .int .u64 h.f3, .int .u64 h.f4, .slice A5 h.f5.length c5, .slice A6 h.f6.length c6, .slice A7 h.f7.length c7, .slice A8 h.f8.length c8] 31)).alloc (.cells #[.int .i64 0, .int .u64 0, .int .u64 0, .int .u64 0, .int .u64 0, .slice none 0 0, .slice none 0 0, .slice none 0 0, .slice none 0 0] 31)).heap[w.heap.size + 1]? = _ by simpa using blk_new (w.alloc (.cells #[.int .i64 h.f0, .int .u64 h.f1, .int .u64 h.f2, .int .u64 h.f3, .int .u64 h.f4, .slice A5 h.f5.length c5, .slice A6 h.f6.length c6, .slice A7 h.f7.length c7, .slice A8 h.f8.length c8] 31)) (.cells #[.int .i64 0, .int .u64 0, .int .u64 0, .int .u64 0, .int .u64 0, .slice none 0 0, .slice none 0 0, .slice none 0 0, .slice none 0 0] 31)) hb)); have hfx := fun i => blk_cell HX1.out i; have hzx := fun i => blk_frozen HX1.out i; have hfy := fun i => blk_cell HY1.out i; have hzy := fun i => blk_frozen HY1.out i; clear h0 h1 hb) | (go_at_call 115; (with_reducible refine (HC2.out _ (HN.out.below (belowS (HB1.out.size) HB1.out))).mono ?_); rintro e w3 ⟨v2, v3, rfl, h2, h3, hb⟩; obtain ⟨B2, d2, rfl⟩ := h2.slice; obtain ⟨B3, d3, rfl⟩ := h3.slice; have HS2 := Aside0.mk (show w.heap.size + 1 + 1 ≤ w1.heap.size from by have := blk_lt HY1.out; omega); have HF2 := Aside0.mk (show FI kSp (w.heap.size + 1 + 1) w3 (.slice B2 sn.length d2) sn from FI.lower h2 (by have := HS2.out; simpa [World.setCell] using this)); have HF3 := Aside0.mk (show FI (Kd.int .u64) (w.heap.size + 1 + 1) w3 (.slice B3 dn.length d3) dn from FI.lower h3 (by have := HS2.out; simpa [World.setCell] using this)); have HK3 := Aside0.mk (show KA (w.heap.size + 1 + 1) w1 w3 from ((KA.set _ (by omega) _).trans (KA.set _ (by omega) _)).trans (KA.below hb)); have HB3 := Aside0.mk (below_then (belowS (HB1.out.size) HB1.out) (by have := HB1.out.size; simpa [World.setCell] using this) hb); have HX3 := Aside0.mk (blk_below (show ((w1.setCell ⟨w.heap.size, 5, none⟩ (.slice B0 sp.length d0)).setCell ⟨w.heap.size, 7, none⟩ (.slice B1 dp.length d1)).heap[w.heap.size]? = some (.cells #[.int .i64 h.f0, .int .u64 h.f1, .int .u64 h.f2, .int .u64 h.f3, .int .u64 h.f4, .slice B0 sp.length d0, .slice A6 h.f6.length c6, .slice B1 dp.length d1, .slice A8 h.f8.length c8] 31 (0, 0)) from blk_put (blk_put HX1.out 5 _ rfl) 7 _ rfl) hb); have HY3 := Aside0.mk (blk_below (show ((w1.setCell ⟨w.heap.size, 5, none⟩ (.slice B0 sp.length d0)).setCell ⟨w.heap.size, 7, none⟩ (.slice B1 dp.length d1)).heap[w.heap.size + 1]? = some (.cells #[.int .i64 0, .int .u64 0, .int .u64 0, .int .u64 0, .int .u64 0, .slice none 0 0, .slice none 0 0, .slice none 0 0, .slice none 0 0] 31 (0, 0)) from blk_far (blk_far HY1.out (by show w.heap.size + 1 ≠ w.heap.size; omega) _) (by show w.heap.size + 1 ≠ w.heap.size; omega) _) hb); clear hfx hzx hfy hzy; have hfx := fun i => blk_cell HX3.out i; have hzx := fun i => blk_frozen HX3.out i; have hfy := fun i => blk_cell HY3.out i; have hzy := fun i => blk_frozen HY3.out i; clear h2 h3 hb) | (go_at_call 87; (with_reducible refine (HCK.out _ _ _ _ _ (HF0.out.at_ (HK3.out.trans ((KA.set _ (by omega) _).trans (KA.set _ (by omega) _)))) (HF2.out.at_ ((KA.set _ (by omega) _).trans (KA.set _ (by omega) _))) (HF1.out.at_ (HK3.out.trans ((KA.set _ (by omega) _).trans (KA.set _ (by omega) _)))) (HF3.out.at_ ((KA.set _ (by omega) _).trans (KA.set _ (by omega) _)))).mono ?_); rintro e w5 ⟨rfl, hb⟩; have HK5 := Aside0.mk (show KA (w.heap.size + 1 + 1) w3 w5 from ((KA.set _ (by omega) _).trans (KA.set _ (by omega) _)).trans (KA.below hb)); have HB5 := Aside0.mk (below_then (belowS (HB3.out.size) HB3.out) (by have := HB3.out.size; simpa [World.setCell] using this) hb); have HX5 := Aside0.mk (blk_below (show ((w3.setCell ⟨w.heap.size, 6, none⟩ (.slice B2 sn.length d2)).setCell ⟨w.heap.size, 8, none⟩ (.slice B3 dn.length d3)).heap[w.heap.size]? = some (.cells #[.int .i64 h.f0, .int .u64 h.f1, .int .u64 h.f2, .int .u64 h.f3, .int .u64 h.f4, .slice B0 sp.length d0, .slice B2 sn.length d2, .slice B1 dp.length d1, .slice B3 dn.length d3] 31 (0, 0)) from blk_put (blk_put HX3.out 6 _ rfl) 8 _ rfl) hb); have HY5 := Aside0.mk (blk_below (show ((w3.setCell ⟨w.heap.size, 6, none⟩ (.slice B2 sn.length d2)).setCell ⟨w.heap.size, 8, none⟩ (.slice B3 dn.length d3)).heap[w.heap.size + 1]? = some (.cells #[.int .i64 0, .int .u64 0, .int .u64 0, .int .u64 0, .int .u64 0, .slice none 0 0, .slice none 0 0, .slice none 0 0, .slice none 0 0] 31 (0, 0)) from blk_far (blk_far HY3.out (by show w.heap.size + 1 ≠ w.heap.size; omega) _) (by show w.heap.size + 1 ≠ w.heap.size; omega) _) hb); clear hfx hzx hfy hzy; have hfx := fun i => blk_cell HX5.out i; have hzx := fun i => blk_frozen HX5.out i; have hfy := fun i => blk_cell HY5.out i; have hzy := fun i => blk_frozen HY5.out i; clear hb))
    refine bodyPost_ret (results_ct rfl _ _ (w.heap.size + 1) 31 #[.int .i64 0, .int .u64 0, .int .u64 0, .int .u64 0, .int .u64 0, .slice none 0 0, .slice none 0 0, .slice none 0 0, .slice none 0 0] (0, 0) _ rfl (nine (HY5.out) _ _ _ _ _ _ _ _ _) Try.underlying31 rfl (by kernel_rfl)) rfl ?_
    exact ⟨_, rfl, GF.empty _ _, nine_below HB5.out (by omega) _ _ _ _ _ _ _ _ _⟩
  subst c3
  rw [if_neg (by simp)]
  go_enter Try.func88, Try.ntmps88
  go_wp2_with (first | (go_at_call 115; (with_reducible refine (HC1.out _ (HP.out.below (below_alloc (below_alloc (Below.refl _ _) _) _))).mono ?_); rintro e w1 ⟨v0, v1, rfl, h0, h1, hb⟩; obtain ⟨B0, d0, rfl⟩ := h0.slice; obtain ⟨B1, d1, rfl⟩ := h1.slice; have HF0 := Aside0.mk (show FI kSp (w.heap.size + 1 + 1) w1 (.slice B0 sp.length d0) sp by simpa using h0); have HF1 := Aside0.mk (show FI (Kd.int .u64) (w.heap.size + 1 + 1) w1 (.slice B1 dp.length d1) dp by simpa using h1); have HB1 := Aside0.mk (below_then (below_alloc (below_alloc (Below.refl w.heap.size w) (.cells #[.int .i64 h.f0, .int .u64 h.f1, .int .u64 h.f2, .int .u64 h.f3, .int .u64 h.f4, .slice A5 h.f5.length c5, .slice A6 h.f6.length c6, .slice A7 h.f7.length c7, .slice A8 h.f8.length c8] 31)) (.cells #[.int .i64 0, .int .u64 0, .int .u64 0, .int .u64 0, .int .u64 0, .slice none 0 0, .slice none 0 0, .slice none 0 0, .slice none 0 0] 31)) (by simp; omega) hb); have HX1 := Aside0.mk (blk_below (blk_alloc (blk_new w (.cells #[.int .i64 h.f0, .int .u64 h.f1, .int .u64 h.f2, .int .u64 h.f3, .int .u64 h.f4, .slice A5 h.f5.length c5, .slice A6 h.f6.length c6, .slice A7 h.f7.length c7, .slice A8 h.f8.length c8] 31)) (.cells #[.int .i64 0, .int .u64 0, .int .u64 0, .int .u64 0, .int .u64 0, .slice none 0 0, .slice none 0 0, .slice none 0 0, .slice none 0 0] 31)) hb); have HY1 := Aside0.mk (show w1.heap[w.heap.size + 1]? = some (.cells #[.int .i64 0, .int .u64 0, .int .u64 0, .int .u64 0, .int .u64 0, .slice none 0 0, .slice none 0 0, .slice none 0 0, .slice none 0 0] 31 (0, 0)) from (blk_below (show ((w.alloc (.cells #[.int .i64 h.f0, .int .u64 h.f1, .int .u64 h.f2, .int .u64 h.f3, .int .u64 h.f4, .slice A5 h.f5.length c5, .slice A6 h.f6.length c6, .slice A7 h.f7.length c7, .slice A8 h.f8.length c8] 31)).alloc (.cells #[.int .i64 0, .int .u64 0, .int .u64 0, .int .u64 0, .int .u64 0, .slice none 0 0, .slice none 0 0, .slice none 0 0, .slice none 0 0] 31)).heap[w.heap.size + 1]? = _ by simpa using blk_new (w.alloc (.cells #[.int .i64 h.f0, .int .u64 h.f1, .int .u64 h.f2, .int .u64 h.f3, .int .u64 h.f4, .slice A5 h.f5.length c5, .slice A6 h.f6.length c6, .slice A7 h.f7.length c7, .slice A8 h.f8.length c8] 31)) (.cells #[.int .i64 0, .int .u64 0, .int .u64 0, .int .u64 0, .int .u64 0, .slice none 0 0, .slice none 0 0, .slice none 0 0, .slice none 0 0] 31)) hb)); have hfx := fun i => blk_cell HX1.out i; have hzx := fun i => blk_frozen HX1.out i; have hfy := fun i => blk_cell HY1.out i; have hzy := fun i => blk_frozen HY1.out i; clear h0 h1 hb) | (go_at_call 115; (with_reducible refine (HC2.out _ (HN.out.below (belowS (HB1.out.size) HB1.out))).mono ?_); rintro e w3 ⟨v2, v3, rfl, h2, h3, hb⟩; obtain ⟨B2, d2, rfl⟩ := h2.slice; obtain ⟨B3, d3, rfl⟩ := h3.slice; have HS2 := Aside0.mk (show w.heap.size + 1 + 1 ≤ w1.heap.size from by have := blk_lt HY1.out; omega); have HF2 := Aside0.mk (show FI kSp (w.heap.size + 1 + 1) w3 (.slice B2 sn.length d2) sn from FI.lower h2 (by have := HS2.out; simpa [World.setCell] using this)); have HF3 := Aside0.mk (show FI (Kd.int .u64) (w.heap.size + 1 + 1) w3 (.slice B3 dn.length d3) dn from FI.lower h3 (by have := HS2.out; simpa [World.setCell] using this)); have HK3 := Aside0.mk (show KA (w.heap.size + 1 + 1) w1 w3 from ((KA.set _ (by omega) _).trans (KA.set _ (by omega) _)).trans (KA.below hb)); have HB3 := Aside0.mk (below_then (belowS (HB1.out.size) HB1.out) (by have := HB1.out.size; simpa [World.setCell] using this) hb); have HX3 := Aside0.mk (blk_below (show ((w1.setCell ⟨w.heap.size, 5, none⟩ (.slice B0 sp.length d0)).setCell ⟨w.heap.size, 7, none⟩ (.slice B1 dp.length d1)).heap[w.heap.size]? = some (.cells #[.int .i64 h.f0, .int .u64 h.f1, .int .u64 h.f2, .int .u64 h.f3, .int .u64 h.f4, .slice B0 sp.length d0, .slice A6 h.f6.length c6, .slice B1 dp.length d1, .slice A8 h.f8.length c8] 31 (0, 0)) from blk_put (blk_put HX1.out 5 _ rfl) 7 _ rfl) hb); have HY3 := Aside0.mk (blk_below (show ((w1.setCell ⟨w.heap.size, 5, none⟩ (.slice B0 sp.length d0)).setCell ⟨w.heap.size, 7, none⟩ (.slice B1 dp.length d1)).heap[w.heap.size + 1]? = some (.cells #[.int .i64 0, .int .u64 0, .int .u64 0, .int .u64 0, .int .u64 0, .slice none 0 0, .slice none 0 0, .slice none 0 0, .slice none 0 0] 31 (0, 0)) from blk_far (blk_far HY1.out (by show w.heap.size + 1 ≠ w.heap.size; omega) _) (by show w.heap.size + 1 ≠ w.heap.size; omega) _) hb); clear hfx hzx hfy hzy; have hfx := fun i => blk_cell HX3.out i; have hzx := fun i => blk_frozen HX3.out i; have hfy := fun i => blk_cell HY3.out i; have hzy := fun i => blk_frozen HY3.out i; clear h2 h3 hb) | (go_at_call 87; (with_reducible refine (HCK.out _ _ _ _ _ (HF0.out.at_ (HK3.out.trans ((KA.set _ (by omega) _).trans (KA.set _ (by omega) _)))) (HF2.out.at_ ((KA.set _ (by omega) _).trans (KA.set _ (by omega) _))) (HF1.out.at_ (HK3.out.trans ((KA.set _ (by omega) _).trans (KA.set _ (by omega) _)))) (HF3.out.at_ ((KA.set _ (by omega) _).trans (KA.set _ (by omega) _)))).mono ?_); rintro e w5 ⟨rfl, hb⟩; have HK5 := Aside0.mk (show KA (w.heap.size + 1 + 1) w3 w5 from ((KA.set _ (by omega) _).trans (KA.set _ (by omega) _)).trans (KA.below hb)); have HB5 := Aside0.mk (below_then (belowS (HB3.out.size) HB3.out) (by have := HB3.out.size; simpa [World.setCell] using this) hb); have HX5 := Aside0.mk (blk_below (show ((w3.setCell ⟨w.heap.size, 6, none⟩ (.slice B2 sn.length d2)).setCell ⟨w.heap.size, 8, none⟩ (.slice B3 dn.length d3)).heap[w.heap.size]? = some (.cells #[.int .i64 h.f0, .int .u64 h.f1, .int .u64 h.f2, .int .u64 h.f3, .int .u64 h.f4, .slice B0 sp.length d0, .slice B2 sn.length d2, .slice B1 dp.length d1, .slice B3 dn.length d3] 31 (0, 0)) from blk_put (blk_put HX3.out 6 _ rfl) 8 _ rfl) hb); have HY5 := Aside0.mk (blk_below (show ((w3.setCell ⟨w.heap.size, 6, none⟩ (.slice B2 sn.length d2)).setCell ⟨w.heap.size, 8, none⟩ (.slice B3 dn.length d3)).heap[w.heap.size + 1]? = some (.cells #[.int .i64 0, .int .u64 0, .int .u64 0, .int .u64 0, .int .u64 0, .slice none 0 0, .slice none 0 0, .slice none 0 0, .slice none 0 0] 31 (0, 0)) from blk_far (blk_far HY3.out (by show w.heap.size + 1 ≠ w.heap.size; omega) _) (by show w.heap.size + 1 ≠ w.heap.size; omega) _) hb); clear hfx hzx hfy hzy; have hfx := fun i => blk_cell HX5.out i; have hzx := fun i => blk_frozen HX5.out i; have hfy := fun i => blk_cell HY5.out i; have hzy := fun i => blk_frozen HY5.out i; clear hb))
  refine bodyPost_ret (results_ct rfl _ _ (w.heap.size + 1) 31 #[.int .i64 h.f0, .int .u64 h.f1, .int .u64 h.f2, .int .u64 h.f3, .int .u64 h.f4, .slice B0 sp.length d0, .slice B2 sn.length d2, .slice B1 dp.length d1, .slice B3 dn.length d3] (0, 0) _ rfl (nine (HY5.out) _ _ _ _ _ _ _ _ _) Try.underlying31 rfl (by kernel_rfl)) rfl ?_
  exact ⟨_, rfl, GF.mk (h := ⟨h.f0, h.f1, h.f2, h.f3, h.f4, sp, sn, dp, dn⟩) ((HF0.out.step (HK3.out.trans (nine_ka HK5.out (by omega) _ _ _ _ _ _ _ _ _))).lower (by omega)) ((HF2.out.step (nine_ka HK5.out (by omega) _ _ _ _ _ _ _ _ _)).lower (by omega)) ((HF1.out.step (HK3.out.trans (nine_ka HK5.out (by omega) _ _ _ _ _ _ _ _ _))).lower (by omega)) ((HF3.out.step (nine_ka HK5.out (by omega) _ _ _ _ _ _ _ _ _)).lower (by omega)), nine_below HB5.out (by omega) _ _ _ _ _ _ _ _ _⟩
theorem fmake_c (h : Fh) (hw : wfF h) (p n : List Pu) (hp : wfRowU p) (hn : wfRowU n) (w : World) (v vp vn : Value) (hv : GI w v h) (hvp : SI kPu w vp p) (hvn : SI kPu w vn n) : Calls Try.prog 88 #[v, vp, vn] w fun e w' =>
    ∃ v', e = .returned (.tuple #[v', .int .i64 (makeF h p n).2]) ∧ GF w.heap.size w' v' (makeF h p n).1 ∧ Below w.heap.size w w' := fmake_n h p n (madeF_wf hw hp hn) hp hn w v vp vn hv hvp hvn
end Go.Proofs.Ytfbjjbbhnmoolaa.P
namespace Go.Proofs.Ytfbjjbbhnmoolaa.P
open Go.RowKit Go.Shelf Go.Proofs.YtfbjjbbhnmoolaaW.PrintWords Go.Proofs.YtfbjjbbhnmoolaaW.PrintLast Go.Proofs.YtfbjjbbhnmoolaaW.PrintMore
def canonF (h : Fh) : Fh × Int := if checkF h ≠ 0 then (emptyF, checkF h) else makeF h (some0U (openF h).1) (some0U (openF h).2.1)
set_option maxHeartbeats 8000000 in
set_option maxRecDepth 100000 in
theorem fcanon_c (h : Fh) (hw : wfF h) (w : World) (v : Value) (hv : GI w v h) : Calls Try.prog 86 #[v] w fun e w' =>
    ∃ v', e = .returned (.tuple #[v', .int .i64 (canonF h).2]) ∧ GF w.heap.size w' v' (canonF h).1 ∧ Below w.heap.size w w' := by
  have hu := Try.underlying31
  obtain ⟨A5, c5, A6, c6, A7, c7, A8, c8, e, -⟩ := hv.open_
  subst e
  have HV := Aside0.mk hv
  have ho := fopen_c h hw
  unfold canonF checkF
  have hwp : wfRowU (openF h).1 := (openF_row hw).1.wf
  have hwn : wfRowU (openF h).2.1 := (openF_row hw).2.wf
  have hm := fun w v vp vn => fmake_c h hw _ _ (some0U_wf hwp) (some0U_wf hwn) w v vp vn
  have h1 := withoutU_c (openF h).1 (by have := hwp.2; omega)
  have h2 := withoutU_c (openF h).2.1 (by have := hwn.2; omega)
  generalize makeF h (some0U (openF h).1) (some0U (openF h).2.1) = mr at *
  generalize openF h = o at *
  obtain ⟨p, n, ec⟩ := o
  obtain ⟨mh, me⟩ := mr
  simp only at hm h1 h2 ho ⊢
  have HO := Aside0.mk ho
  have HM := Aside0.mk hm
  have H1 := Aside0.mk h1
  have H2 := Aside0.mk h2
  clear ho hm h1 h2 hwp hwn hw hv
  by_cases c1 : ec = 0
  rotate_left
  · rw [if_pos c1]
    have c1a : (ec != 0) = true := bne_iff_ne.2 c1
    clear c1
    go_enter Try.func86, Try.ntmps86
    go_wp2_with (first | (go_at_call 101; (with_reducible refine (HO.out _ _ (HV.out.below (below_alloc (below_alloc (Below.refl _ _) _) _))).mono ?_); rintro e w1 ⟨v0, v1, rfl, h0, h1, hb⟩; have HO := Aside0.mk (And.intro h0 h1); have HB := Aside0.mk (below_then (below_alloc (below_alloc (Below.refl w.heap.size w) (.cells #[.int .i64 h.f0, .int .u64 h.f1, .int .u64 h.f2, .int .u64 h.f3, .int .u64 h.f4, .slice A5 h.f5.length c5, .slice A6 h.f6.length c6, .slice A7 h.f7.length c7, .slice A8 h.f8.length c8] 31)) (.cells #[.int .i64 0, .int .u64 0, .int .u64 0, .int .u64 0, .int .u64 0, .slice none 0 0, .slice none 0 0, .slice none 0 0, .slice none 0 0] 31)) (by simp; omega) hb); have HX1 := Aside0.mk (blk_below (blk_alloc (blk_new w (.cells #[.int .i64 h.f0, .int .u64 h.f1, .int .u64 h.f2, .int .u64 h.f3, .int .u64 h.f4, .slice A5 h.f5.length c5, .slice A6 h.f6.length c6, .slice A7 h.f7.length c7, .slice A8 h.f8.length c8] 31)) (.cells #[.int .i64 0, .int .u64 0, .int .u64 0, .int .u64 0, .int .u64 0, .slice none 0 0, .slice none 0 0, .slice none 0 0, .slice none 0 0] 31)) hb); have HY1 := Aside0.mk (show w1.heap[w.heap.size + 1]? = some (.cells #[.int .i64 0, .int .u64 0, .int .u64 0, .int .u64 0, .int .u64 0, .slice none 0 0, .slice none 0 0, .slice none 0 0, .slice none 0 0] 31 (0, 0)) from (blk_below (show ((w.alloc (.cells #[.int .i64 h.f0, .int .u64 h.f1, .int .u64 h.f2, .int .u64 h.f3, .int .u64 h.f4, .slice A5 h.f5.length c5, .slice A6 h.f6.length c6, .slice A7 h.f7.length c7, .slice A8 h.f8.length c8] 31)).alloc (.cells #[.int .i64 0, .int .u64 0, .int .u64 0, .int .u64 0, .int .u64 0, .slice none 0 0, .slice none 0 0, .slice none 0 0, .slice none 0 0] 31)).heap[w.heap.size + 1]? = _ by simpa using blk_new (w.alloc (.cells #[.int .i64 h.f0, .int .u64 h.f1, .int .u64 h.f2, .int .u64 h.f3, .int .u64 h.f4, .slice A5 h.f5.length c5, .slice A6 h.f6.length c6, .slice A7 h.f7.length c7, .slice A8 h.f8.length c8] 31)) (.cells #[.int .i64 0, .int .u64 0, .int .u64 0, .int .u64 0, .int .u64 0, .slice none 0 0, .slice none 0 0, .slice none 0 0, .slice none 0 0] 31)) hb)); have hfx := fun i => blk_cell HX1.out i; have hzx := fun i => blk_frozen HX1.out i; have hfy := fun i => blk_cell HY1.out i; have hzy := fun i => blk_frozen HY1.out i; clear h0 h1 hb))
    refine bodyPost_ret (results_ct rfl _ _ (w.heap.size + 1) 31 #[.int .i64 0, .int .u64 0, .int .u64 0, .int .u64 0, .int .u64 0, .slice none 0 0, .slice none 0 0, .slice none 0 0, .slice none 0 0] (0, 0) _ rfl (nine HY1.out _ _ _ _ _ _ _ _ _) Try.underlying31 rfl (by kernel_rfl)) rfl ?_
    exact ⟨_, rfl, GF.empty _ _, nine_below HB.out (by omega) _ _ _ _ _ _ _ _ _⟩
  subst c1
  rw [if_neg (by simp)]
  go_enter Try.func86, Try.ntmps86
  go_wp2_with (first | (go_at_call 101; (with_reducible refine (HO.out _ _ (HV.out.below (below_alloc (below_alloc (Below.refl _ _) _) _))).mono ?_); rintro e w1 ⟨v0, v1, rfl, h0, h1, hb⟩; have HO := Aside0.mk (And.intro h0 h1); have HB := Aside0.mk (below_then (below_alloc (below_alloc (Below.refl w.heap.size w) (.cells #[.int .i64 h.f0, .int .u64 h.f1, .int .u64 h.f2, .int .u64 h.f3, .int .u64 h.f4, .slice A5 h.f5.length c5, .slice A6 h.f6.length c6, .slice A7 h.f7.length c7, .slice A8 h.f8.length c8] 31)) (.cells #[.int .i64 0, .int .u64 0, .int .u64 0, .int .u64 0, .int .u64 0, .slice none 0 0, .slice none 0 0, .slice none 0 0, .slice none 0 0] 31)) (by simp; omega) hb); have HX1 := Aside0.mk (blk_below (blk_alloc (blk_new w (.cells #[.int .i64 h.f0, .int .u64 h.f1, .int .u64 h.f2, .int .u64 h.f3, .int .u64 h.f4, .slice A5 h.f5.length c5, .slice A6 h.f6.length c6, .slice A7 h.f7.length c7, .slice A8 h.f8.length c8] 31)) (.cells #[.int .i64 0, .int .u64 0, .int .u64 0, .int .u64 0, .int .u64 0, .slice none 0 0, .slice none 0 0, .slice none 0 0, .slice none 0 0] 31)) hb); have HY1 := Aside0.mk (show w1.heap[w.heap.size + 1]? = some (.cells #[.int .i64 0, .int .u64 0, .int .u64 0, .int .u64 0, .int .u64 0, .slice none 0 0, .slice none 0 0, .slice none 0 0, .slice none 0 0] 31 (0, 0)) from (blk_below (show ((w.alloc (.cells #[.int .i64 h.f0, .int .u64 h.f1, .int .u64 h.f2, .int .u64 h.f3, .int .u64 h.f4, .slice A5 h.f5.length c5, .slice A6 h.f6.length c6, .slice A7 h.f7.length c7, .slice A8 h.f8.length c8] 31)).alloc (.cells #[.int .i64 0, .int .u64 0, .int .u64 0, .int .u64 0, .int .u64 0, .slice none 0 0, .slice none 0 0, .slice none 0 0, .slice none 0 0] 31)).heap[w.heap.size + 1]? = _ by simpa using blk_new (w.alloc (.cells #[.int .i64 h.f0, .int .u64 h.f1, .int .u64 h.f2, .int .u64 h.f3, .int .u64 h.f4, .slice A5 h.f5.length c5, .slice A6 h.f6.length c6, .slice A7 h.f7.length c7, .slice A8 h.f8.length c8] 31)) (.cells #[.int .i64 0, .int .u64 0, .int .u64 0, .int .u64 0, .int .u64 0, .slice none 0 0, .slice none 0 0, .slice none 0 0, .slice none 0 0] 31)) hb)); have hfx := fun i => blk_cell HX1.out i; have hzx := fun i => blk_frozen HX1.out i; have hfy := fun i => blk_cell HY1.out i; have hzy := fun i => blk_frozen HY1.out i; clear h0 h1 hb))
  go_region_with (first | (go_at_call 114; (with_reducible refine (H1.out _ v0 (HO.out.1.below (below_drew (Below.refl _ _)))).mono ?_); rintro e w2 ⟨vp, rfl, hs, hb⟩; have HS2 := Aside0.mk hs; have HB2 := Aside0.mk (below_then (below_drew (Below.refl w1.heap.size w1)) (Nat.le_refl _) hb); have hX2 := fun i => blk_cell (blk_below HX1.out HB2.out) i; have hY2 := fun i => blk_cell (blk_below HY1.out HB2.out) i; have hZ2 := fun i => blk_frozen (blk_below HY1.out HB2.out) i; clear hs hb) | (go_at_call 114; (with_reducible refine (H2.out _ v1 (HO.out.2.below (below_drew (Below.refl _ _)))).mono ?_); rintro e w3 ⟨vn, rfl, hs, hb⟩; have HS3 := Aside0.mk hs; have HB3 := Aside0.mk (below_then (below_drew (Below.refl w1.heap.size w1)) (Nat.le_refl _) hb); have hX3 := fun i => blk_cell (blk_below HX1.out HB3.out) i; have hY3 := fun i => blk_cell (blk_below HY1.out HB3.out) i; have hZ3 := fun i => blk_frozen (blk_below HY1.out HB3.out) i; clear hs hb) | (go_at_call 114; (with_reducible refine (H2.out w2 v1 (HO.out.2.below HB2.out)).mono ?_); rintro e w4 ⟨vn, rfl, hs, hb⟩; have HS4 := Aside0.mk (And.intro (HS2.out.below hb) hs); have HB4 := Aside0.mk (below_then HB2.out HB2.out.size hb); have hX4 := fun i => blk_cell (blk_below HX1.out HB4.out) i; have hY4 := fun i => blk_cell (blk_below HY1.out HB4.out) i; have hZ4 := fun i => blk_frozen (blk_below HY1.out HB4.out) i; clear hs hb) | (go_at_call 114; (with_reducible refine (H1.out w3 v0 (HO.out.1.below HB3.out)).mono ?_); rintro e w4 ⟨vp, rfl, hs, hb⟩; have HS4 := Aside0.mk (And.intro hs (HS3.out.below hb)); have HB4 := Aside0.mk (below_then HB3.out HB3.out.size hb); have hX4 := fun i => blk_cell (blk_below HX1.out HB4.out) i; have hY4 := fun i => blk_cell (blk_below HY1.out HB4.out) i; have hZ4 := fun i => blk_frozen (blk_below HY1.out HB4.out) i; clear hs hb) | (go_at_call 88; (with_reducible refine (HM.out w4 _ vp vn (HV.out.below (below_then HB.out HB.out.size HB4.out)) HS4.out.1 HS4.out.2).mono ?_); rintro e w5 ⟨v5, rfl, hs, hb⟩; have HB5 := Aside0.mk (below_then (below_then HB.out HB.out.size HB4.out) (below_then HB.out HB.out.size HB4.out).size hb); have HI5 := Aside0.mk hs; obtain ⟨D5, g5, D6, g6, D7, g7, D8, g8, e5⟩ := hs.open_; subst e5; have hX5 := fun i => blk_cell (blk_below (blk_below HX1.out HB4.out) hb) i; have HY5 := Aside0.mk (blk_below (blk_below HY1.out HB4.out) hb); have hY5 := fun i => blk_cell HY5.out i; have hZ5 := fun i => blk_frozen HY5.out i; clear hs hb))
  all_goals (go_wp2; have hsz := blk_lt HY1.out; have hsz4 := HB4.out.size; refine bodyPost_ret (results_ct rfl _ _ (w.heap.size + 1) 31 #[.int .i64 mh.f0, .int .u64 mh.f1, .int .u64 mh.f2, .int .u64 mh.f3, .int .u64 mh.f4, .slice D5 mh.f5.length g5, .slice D6 mh.f6.length g6, .slice D7 mh.f7.length g7, .slice D8 mh.f8.length g8] (0, 0) _ rfl (nine HY5.out _ _ _ _ _ _ _ _ _) Try.underlying31 rfl (by kernel_rfl)) rfl ?_; exact ⟨_, rfl, (HI5.out.step (nine_ka (KA.refl _ _) (by omega) _ _ _ _ _ _ _ _ _)).lower (by omega), nine_below HB5.out (by omega) _ _ _ _ _ _ _ _ _⟩)
end Go.Proofs.Ytfbjjbbhnmoolaa.P
namespace Go.Proofs.Ytfbjjbbhnmoolaa.P
open Go.RowKit Go.Shelf Go.Proofs.YtfbjjbbhnmoolaaW.PrintWords Go.Proofs.YtfbjjbbhnmoolaaW.PrintLast Go.Proofs.YtfbjjbbhnmoolaaW.PrintMore
theorem zipLU : ∀ (ps v : List Int), ps.length = v.length → (List.zipWith (fun p x => (⟨p, x⟩ : Pu)) ps v).map (·.f0) = ps ∧ (List.zipWith (fun p x => (⟨p, x⟩ : Pu)) ps v).map (·.f1) = v
  | [], [], _ => ⟨rfl, rfl⟩
  | p :: ps, x :: v, h => by have := zipLU ps v (by simpa using h); exact ⟨by simp only [List.zipWith_cons_cons, List.map_cons, this.1], by simp only [List.zipWith_cons_cons, List.map_cons, this.2]⟩
  | [], _ :: _, h => by simp at h
  | _ :: _, [], h => by simp at h
theorem sideF_bounds {l : List Sp} {c : List Int} (h0 : (sideF l c).2 = 0) : (∀ p ∈ (sideF l c).1, -1048576 ≤ p.f0 ∧ p.f0 ≤ 1048576) ∧ (sideF l c).1.length = c.length ∧ (sideF l c).1.map (·.f0) = plN 0 l ∧ spCheck l = 0 ∧ (sideF l c).1.map (·.f1) = c ∧ c.any (fun v => !rightF v) = false := by
  unfold sideF at h0 ⊢
  by_cases c1 : spCheck l = 0
  rotate_left
  · rw [if_neg c1] at h0; exact absurd h0 c1
  rw [if_pos c1] at h0 ⊢
  by_cases c2 : cntN l = c.length
  rotate_left
  · rw [if_neg c2] at h0; cases h0
  rw [if_pos c2] at h0 ⊢
  by_cases c3 : c.any (fun v => !rightF v) = true
  · rw [if_pos c3] at h0; cases h0
  rw [if_neg c3]
  have hr := rises_of_right c1
  have hpl := plN_length l 0 (fun s hs => (spRight_pos l _ _ _ (spCheck_zero c1).2 s hs).1)
  have hz := zipLU (plN 0 l) c (by omega)
  refine ⟨fun y hy => ?_, by simp; omega, hz.1, c1, hz.2, by simpa using c3⟩
  have : y.f0 ∈ plN 0 l := by
    obtain ⟨i, hi, rfl⟩ := List.mem_iff_getElem.1 hy
    simp only [List.getElem_zipWith]; exact List.getElem_mem _
  exact rises_i64 hr _ this
def headF (h : Fh) : Int := if h.f0 < -4 ∨ h.f0 > 8 then 21 else if rightF h.f1 = false then 11 else if (!rightF h.f2 || !rightF h.f3) = true then 22 else 0
theorem checkF_eq (h : Fh) : checkF h = if headF h ≠ 0 then headF h else if (sideF h.f5 h.f7).2 ≠ 0 then (sideF h.f5 h.f7).2 else (sideF h.f6 h.f8).2 := by
  unfold checkF openF headF
  by_cases c1 : h.f0 < -4 ∨ h.f0 > 8
  · rw [if_pos c1, if_pos c1, if_pos (by omega)]
  rw [if_neg c1, if_neg c1]
  by_cases c2 : rightF h.f1 = false
  · rw [if_pos c2, if_pos c2, if_pos (by omega)]
  rw [if_neg c2, if_neg c2]
  by_cases c3 : (!rightF h.f2 || !rightF h.f3) = true
  · rw [if_pos c3, if_pos c3, if_pos (by omega)]
  rw [if_neg c3, if_neg c3, if_neg (c := (0 : Int) ≠ 0) (by omega)]
  by_cases c4 : (sideF h.f5 h.f7).2 ≠ 0
  · rw [if_pos c4, if_pos c4]
  rw [if_neg c4, if_neg c4]
  by_cases c5 : (sideF h.f6 h.f8).2 ≠ 0
  · rw [if_pos c5]
  · rw [if_neg c5]; exact (Decidable.not_not.1 c5).symm
theorem openF_right {h : Fh} (hc : checkF h = 0) : openF h = ((sideF h.f5 h.f7).1, (sideF h.f6 h.f8).1, 0) := by
  unfold checkF openF at *
  split at hc
  · cases hc
  split at hc
  · cases hc
  split at hc
  · cases hc
  split at hc
  · rename_i h3; exact absurd hc h3
  split at hc
  · rename_i h3; exact absurd hc h3
  rename_i h1 h2 h3 h4 h5
  rw [if_neg h1, if_neg h2, if_neg h3, if_neg h4, if_neg h5]
theorem checkF_zero {h : Fh} (hc : checkF h = 0) : headF h = 0 ∧ (sideF h.f5 h.f7).2 = 0 ∧ (sideF h.f6 h.f8).2 = 0 := by
  rw [checkF_eq] at hc
  by_cases c1 : headF h = 0
  rotate_left
  · rw [if_pos c1] at hc; exact absurd hc c1
  rw [if_neg (by simp [c1])] at hc
  by_cases c2 : (sideF h.f5 h.f7).2 = 0
  rotate_left
  · rw [if_pos c2] at hc; exact absurd hc c2
  rw [if_neg (by simp [c2])] at hc
  exact ⟨c1, c2, hc⟩
theorem checkF_right {h : Fh} (c1 : headF h = 0) (c2 : (sideF h.f5 h.f7).2 = 0) (c3 : (sideF h.f6 h.f8).2 = 0) : checkF h = 0 := by
  rw [checkF_eq, if_neg (by simp [c1]), if_neg (by simp [c2]), c3]
def sameNumsF (a b : Fh) : Prop := a.f0 = b.f0 ∧ a.f1 = b.f1 ∧ a.f2 = b.f2 ∧ a.f3 = b.f3 ∧ a.f4 = b.f4
instance (a b : Fh) : Decidable (sameNumsF a b) := by unfold sameNumsF; exact inferInstance
def equalF (a b : Fh) : Bool := decide (sameNumsF a b) && (decide (checkF a = 0) && decide (checkF b = 0) && (decide (some0U (openF a).1 = some0U (openF b).1) && decide (some0U (openF a).2.1 = some0U (openF b).2.1)))
end Go.Proofs.Ytfbjjbbhnmoolaa.P
namespace Go.Proofs.Ytfbjjbbhnmoolaa.P
open Go.RowKit Go.Shelf Go.Proofs.YtfbjjbbhnmoolaaW.PrintWords Go.Proofs.YtfbjjbbhnmoolaaW.PrintLast Go.Proofs.YtfbjjbbhnmoolaaW.PrintMore
theorem nearI_eq {x : Int} (h0 : 0 ≤ x) (h1 : x < 18446744073709551616) : nearI x = (fltR x.toNat : Int) := by
  unfold nearI
  have := nearest_eq (n := x.toNat) (by omega)
  rw [show ((x.toNat : Nat) : Int) = x by omega] at this
  rw [this]
theorem nearI_right {x : Int} (h0 : 0 ≤ x) (h1 : x < 18446744073709551616) : 0 ≤ nearI x ∧ rightF (nearI x) = true ∧ u64 (nearI x) := by
  rw [nearI_eq h0 h1]
  have := fltR_right (n := x.toNat) (by omega)
  refine ⟨by omega, ?_, by unfold u64; omega⟩
  unfold rightF
  exact decide_eq_true (by omega)
theorem sums_i64 : ∀ (l : List Int) (a : Int) (o : List Int), sumsFrom a l = some o → ∀ x ∈ o, x ≤ 9223372036854775807
  | [], a, o, h, x, hx => by
    simp only [sumsFrom, Option.some.injEq] at h
    subst h
    simp at hx
  | d :: r, a, o, h, x, hx => by
    simp only [sumsFrom] at h
    split at h
    · rename_i hi
      cases hs : sumsFrom (a + d) r with
      | none => rw [hs] at h; cases h
      | some o' =>
        rw [hs] at h
        simp only [Option.map_some, Option.some.injEq] at h
        subst h
        rcases List.mem_cons.1 hx with rfl | hx
        · unfold i64 at hi; omega
        · exact sums_i64 r _ o' hs x hx
    · cases h
def toF (p : Pr) : Pu := ⟨p.f0, nearI p.f1⟩
def fromF (a : Hi) : Fh := ⟨a.f0, a.f1, nearI a.f2, nearI a.f3, a.f4, a.f5, a.f6, floatsCR a.f7, floatsCR a.f8⟩
theorem side_from {l : List Sp} {d : List Int} (hd : i64s d) (h : (sideRes l d).2 = 0) : sideF l (floatsCR d) = ((sideRes l d).1.map toF, 0) ∧ (floatsCR d).length = d.length ∧ wfFloats d ∧ u64s (floatsCR d) := by
  have hb := side_bounds h
  have hpl := places_len hb.2.2.2
  unfold sideRes at h ⊢
  by_cases c1 : spCheck l = 0
  rotate_left
  · rw [if_neg c1] at h; exact absurd h c1
  rw [if_pos c1] at h ⊢
  by_cases c2 : cntN l = d.length
  rotate_left
  · rw [if_neg c2] at h; cases h
  rw [if_pos c2] at h ⊢
  cases c3 : sumsFrom 0 d with
  | none => rw [c3] at h; cases h
  | some c =>
    rw [c3] at h
    simp only at h ⊢
    by_cases c4 : c.any (fun x => decide (x < 0)) = true
    · rw [if_pos c4] at h; cases h
    rw [if_neg c4] at h ⊢
    have hl := sums_len d 0 c c3
    have hn : ∀ x ∈ c, 0 ≤ x := by
      intro x hx
      rcases Int.lt_or_le x 0 with k | k
      · exact absurd (List.any_eq_true.2 ⟨x, hx, decide_eq_true k⟩) c4
      · exact k
    have hm : ∀ x ∈ c, x ≤ 9223372036854775807 := sums_i64 d 0 c c3
    have hf : floatsCR d = c.map nearI := by unfold floatsCR; rw [c3]; rfl
    have hr : ∀ x ∈ c, rightF (nearI x) = true := fun x hx => (nearI_right (hn x hx) (by have := hm x hx; omega)).2.1
    refine ⟨?_, ?_, ⟨hd, ?_, ?_⟩, ?_⟩
    · unfold sideF
      rw [if_pos c1, if_pos (by rw [hf, List.length_map, hl]; exact c2), if_neg, hf]
      · congr 1
        rw [List.map_zipWith]
        exact (List.zipWith_map_right ..)
      · rw [hf]
        intro e
        obtain ⟨y, hy, h2⟩ := List.any_eq_true.1 e
        obtain ⟨x, hx, rfl⟩ := List.mem_map.1 hy
        rw [hr x hx] at h2
        cases h2
    · rw [hf, List.length_map, hl]
    · have h1 := hb.2.1
      have h2 := congrArg List.length hb.2.2.1
      rw [List.length_map] at h2
      omega
    · rw [c3]
      exact fun x hx => ⟨hn x hx, hm x hx⟩
    · rw [hf]
      intro y hy
      obtain ⟨x, hx, rfl⟩ := List.mem_map.1 hy
      exact (nearI_right (hn x hx) (by have := hm x hx; omega)).2.2
theorem from_open {a : Hi} (hw : wfH a) (hc : checkR a = 0) : checkF (fromF a) = 0 ∧ openF (fromF a) = ((openR a).1.map toF, (openR a).2.1.map toF, 0) ∧ wfF (fromF a) ∧ wfFloats a.f7 ∧ wfFloats a.f8 := by
  obtain ⟨z1, z2, z3, z4⟩ := checkR_zero hc
  obtain ⟨p1, p2, p3, p4⟩ := side_from hw.2.2.2.2.2.2.2.1 z2
  obtain ⟨n1, n2, n3, n4⟩ := side_from hw.2.2.2.2.2.2.2.2.1 z3
  obtain ⟨w0, w1, w2, w3, w4, w5, w6, w7, w8, w9, w10⟩ := hw
  have r2 := nearI_right w2.1 (by have := w2.2; omega)
  have r3 := nearI_right w3.1 (by have := w3.2; omega)
  have hh : headF (fromF a) = 0 := by
    unfold headE at z1
    unfold headF fromF
    simp only
    split at z1
    · cases z1
    rename_i k1
    rw [if_neg k1]
    split at z1
    · cases z1
    rename_i k2
    rw [if_neg, if_neg]
    · rw [r2.2.1, r3.2.1]; decide
    · unfold rightF
      simp only [Decidable.not_not] at k2
      rw [decide_eq_true k2]; decide
  have hcf : checkF (fromF a) = 0 := checkF_right hh (by show (sideF a.f5 (floatsCR a.f7)).2 = 0; rw [p1]) (by show (sideF a.f6 (floatsCR a.f8)).2 = 0; rw [n1])
  refine ⟨hcf, ?_, ⟨w0, w1, r2.2.2, r3.2.2, w4, w5, w6, p4, n4, by show (floatsCR a.f7).length < _; omega, by show (floatsCR a.f8).length < _; omega⟩, p3, n3⟩
  rw [openR_right hc, openF_right hcf]
  show ((sideF a.f5 (floatsCR a.f7)).1, (sideF a.f6 (floatsCR a.f8)).1, (0 : Int)) = _
  rw [p1, n1]
end Go.Proofs.Ytfbjjbbhnmoolaa.P
